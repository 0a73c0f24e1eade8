/- Packed by a program of mine (wip/tools/pack.py): the same texts with short names and few blanks. -/
import Derived.Below
import Derived.Calls
import Derived.Deep.MidRow
import Derived.Deep.Upon
import Derived.Laws.AppendOwn
import Derived.Laws.BitsLemmas
import Derived.Laws.OwnMore
import Derived.Shelf.Strconv.Itoa3
import Derived.Shelf.Strings.Fields
import Derived.Shelf.Unicode.DecodeSlow
import Derived.Still
import Derived.WalkKit
set_option linter.defProp false
set_option linter.unusedVariables false
set_option linter.unusedSimpArgs false
set_option linter.unusedSectionVars false
set_option maxRecDepth 100000
set_option maxHeartbeats 4000000
namespace Go.Proofs
abbrev pD:=List UInt8
abbrev pE:=List pD
def aVq:=@_root_.Option.bind_some
def aVr:=@_root_.Option.some.injEq
def aVs:=@_root_.if_pos
def aVt:=@_root_.Option.isSome_iff_exists
def aVu:=@_root_.List.length_append
def aVv:=@_root_.if_neg
def aVw:=@_root_.List.length_cons
def aVx:=@_root_.Option.some.inj
def aVy:=@_root_.List.append_assoc
def aVz:=@_root_.List.mem_cons_self
def aVA:=@_root_.Option.map_eq_some_iff
def aVB:=@_root_.List.mem_cons_of_mem
def aVC:=@_root_.Go.Result.andThen_ok
def aVD:=@_root_.List.length_nil
def aVE:=@_root_.decide_eq_true_eq
def aVF:=@_root_.List.getElem?_eq_getElem
def aVG:=@_root_.Bool.and_eq_true
def aVH:=@_root_.List.mem_cons
def aVI:=@_root_.List.getElem?_append_right
def aVJ:=@_root_.List.mem_singleton
def aVK:=@_root_.List.getElem?_eq_some_iff
def aVL:=@_root_.congrArg
def aVM:=@_root_.Go.Sem.run_bind
def aVN:=@_root_.List.getElem?_append_left
def aVO:=@_root_.List.length_drop
def aVP:=@_root_.Go.run_underlying
def aVQ:=@_root_.List.length_take
def aVR:=@_root_.Nat.le_refl
def aVS:=@_root_.decide_eq_true
def aVT:=@_root_.Go.World.cell?_of_block
def aVU:=@_root_.Go.Sem.run_pure
def aVV:=@_root_.Bool.not_eq_true'
def aVW:=@_root_.Array.getElem?_eq_some_iff
def aVX:=@_root_.List.length_pos_iff
def aVY:=@_root_.List.getD_eq_getElem?_getD
def aVZ:=@_root_.Array.getD_eq_getD_getElem?
def aV0:=@_root_.Prod.mk.injEq
def aV1:=@_root_.List.getElem?_cons_zero
def aV2:=@_root_.List.eq_nil_of_length_eq_zero
def aV3:=@_root_.Go.RowKit.Below.heap_alloc
def aV4:=@_root_.of_decide_eq_true
def aV5:=@_root_.Nat.zero_add
def aV6:=@_root_.Array.length_toList
def aV7:=@_root_.Nat.lt_of_lt_of_le
def aV8:=@_root_.List.drop_eq_getElem_cons
def aV9:=@_root_.List.any_eq_false
def aWa:=@_root_.List.all_eq_true
def aWb:=@_root_.decide_eq_false_iff_not
def aWc:=@_root_.Nat.add_assoc
def aWd:=@_root_.List.mem_append
def aWe:=@_root_.List.getElem?_cons_succ
def aWf:=@_root_.Bool.or_eq_false_iff
def aWg:=@_root_.List.reverse_cons
def aWh:=@_root_.Int.toNat_natCast
def aWi:=@_root_.List.findIdx?_eq_some_iff_getElem
def aWj:=@_root_.List.flatMap_cons
def aWk:=@_root_.List.take_append_of_le_length
def aWl:=@_root_.List.drop_length
def aWm:=@_root_.Go.World.frozen?_of_block
def aWn:=@_root_.List.size_toArray
def aWo:=@_root_.Nat.add_sub_cancel_left
def aWp:=@_root_.List.cons.injEq
def aWq:=@_root_.List.getElem_mem
def aWr:=@_root_.Nat.add_zero
def aWs:=@_root_.List.take_left
def aWt:=@_root_.List.flatten_cons
def aWu:=@_root_.Int.le_refl
def aWv:=@_root_.Bool.or_eq_true
def aWw:=@_root_.Go.run_program
def aWx:=@_root_.Nat.le_trans
def aWy:=@_root_.List.map_cons
def aWz:=@_root_.Nat.succ_mul
def aWA:=@_root_.Nat.lt_or_ge
def aWB:=@_root_.Array.getElem?_toList
def aWC:=@_root_.Nat.zero_le
def aWD:=@_root_.List.length_map
def aWE:=@_root_.Bool.not_eq_true
def aWF:=@_root_.Array.toList_inj
def aWG:=@_root_.List.pairwise_iff_getElem
def aWH:=@_root_.List.drop_zero
def aWI:=@_root_.List.getElem?_take_of_lt
def aWJ:=@_root_.Array.getElem?_modify
def aWK:=@_root_.Nat.mul_le_mul_right
def aWL:=@_root_.List.getElem?_take
def aWM:=@_root_.Bool.not_eq_false'
def aWN:=@_root_.List.mem_range
def aWO:=@_root_.List.findIdx?_eq_none_iff
def aWP:=@_root_.Go.IntKind.wrap_i64
def aWQ:=@_root_.Nat.le_of_ble_eq_true
def aWR:=@_root_.List.length_singleton
def aWS:=@_root_.Go.Addr.add_mid
def aWT:=@_root_.decide_eq_decide
def aWU:=@_root_.List.length_eq_one_iff
def aWV:=@_root_.Array.getElem?_setIfInBounds_ne
def aWW:=@_root_.List.drop_left
def aWX:=@_root_.List.take_append_drop
def aWY:=@_root_.List.getElem?_eq_none
def aWZ:=@_root_.Array.toArray_toList
def aW0:=@_root_.Go.World.cell?_setCells_in
def aW1:=@_root_.List.length_eq_zero_iff
def aW2:=@_root_.Go.setRow_other
def aW3:=@_root_.List.getElem_of_mem
def aW4:=@_root_.List.not_mem_nil
def aW5:=@_root_.Nat.lt_irrefl
def aW6:=@_root_.Nat.le_of_eq
def aW7:=@_root_.Classical.choose_spec
def aW8:=@_root_.if_true
def aW9:=@_root_.Bool.eq_iff_iff
def aXa:=@_root_.List.drop_drop
def aXb:=@_root_.dif_neg
def aXc:=@_root_.List.findIdx?_cons
def aXd:=@_root_.Bool.false_eq_true
def aXe:=@_root_.Array.getElem?_setIfInBounds
def aXf:=@_root_.Go.wpIn_mono
def aXg:=@_root_.Nat.mul_one
def aXh:=@_root_.Bool.and_eq_false_iff
def aXi:=@_root_.Go.Addr.add_lit
def aXj:=@_root_.Array.size_append
def aXk:=@_root_.Int.tmod_eq_emod_of_nonneg
def aXl:=@_root_.List.pairwise_append
def aXm:=@_root_.List.mem_take_iff_getElem
def aXn:=@_root_.Array.getElem?_eq_getElem
def aXo:=@_root_.List.mem_toArray
def aXp:=@_root_.Go.setRow_heap
def aXq:=@_root_.List.drop_succ_cons
def aXr:=@_root_.Array.getElem?_push_size
def aXs:=@_root_.List.pairwise_cons
def aXt:=@_root_.List.append_inj
def aXu:=@_root_.Array.foldl_toList
def aXv:=@_root_.Go.Value.slice.injEq
def aXw:=@_root_.Go.heap_alloc_new
def aXx:=@_root_.Go.World.cell?_alloc_new
def aXy:=@_root_.Nat.sub_self
def aXz:=@_root_.dif_pos
def aXA:=@_root_.Option.getD_some
def aXB:=@_root_.List.range'_succ
def aXC:=@_root_.Go.IntKind.wrap_u8
def aXD:=@_root_.if_false
theorem pG{p:Prop}(h:p:=by omega):p:=h
theorem pH{p:Prop}(h:p:=by decide):p:=h
theorem pI{p:Prop}(h:p:=by simp):p:=h
theorem pJ{p:Prop}(h:p:=by simp;omega):p:=h
theorem pT{p:Prop}(h:p:=by first|rfl|trivial):p:=h
theorem pU{p:Prop}(h:p:=by kernel_rfl):p:=h
theorem pV{p:Prop}(h:p:=by rfl):p:=h
theorem pF{a:Type}{p q r:a->Prop}(k:a)(h1:p k:=by rfl)(h2:q k:=by rfl)(h3:r k:=by rfl): ∃k,p k/\q k/\r k:=⟨k,h1,h2,h3⟩
abbrev pK:=List (pD×Bool)
abbrev pL:=List (Nat×Nat)
abbrev pM:=List Int
abbrev pN:=List Value
abbrev pO:=Option (Nat×Nat)
abbrev pP:=Option Nat
abbrev pQ:=List Nat
abbrev pR:=World
abbrev pS:=Value
end Go.Proofs
namespace Go.Proofs.YtkpflnijijccpaaGreatDoor.Vc
def NG:Nat:=6
def aBz:Nat:=73
def aBA:List (Nat×Array pS):=[(5,(Lib.pow10Tab.map fun z=>Value.int .u64 z).toArray),(0,(Lib.asciiSpaceTab.map fun z=>Value.int .u8 z).toArray)]
def aLr (w:pR):Prop:= ∀x∈aBA,x.1<NG/\∃e fz,w.heap[x.1]? =some (.cells x.2 e fz)
def DA (w:pR):Prop:=NG<=w.heap.size/\Lib.Utf8Tabs 3 4 w/\(∃m,w.cell? ⟨1,0,none⟩=some (.int .i64 m))/\aLr w
theorem KY {w w':pR}(h:DA w) (hs:w.heap.size<=w'.heap.size) (hb: ∀b,b<NG->w'.heap[b]? =w.heap[b]?):DA w':=by
 obtain⟨h0,⟨h1,h2⟩,⟨m,h3⟩,h4⟩:=h;have hc: ∀b o,b<NG->w'.cell? ⟨b,o,none⟩=w.cell? ⟨b,o,none⟩:=fun b o h=>aVT (a:=⟨b,o,none⟩) (hb b h);refine⟨aWx h0 hs,⟨fun c hc'=> ?_,fun i hi=>⟨?_,?_⟩⟩,⟨m,?_⟩,fun x hx=>⟨(h4 x hx).1,by obtain⟨h5,e,fz,h6⟩:=h4 x hx;exact⟨e,fz,(hb _ h5).trans h6⟩⟩⟩
 .rw[hc _ _ pH];exact h1 c hc'
 .rw[hc _ _ pH];exact(h2 i hi).1
 .rw[hc _ _ pH];exact(h2 i hi).2
 .rw[hc _ _ pH];exact h3
attribute [go_sem] aBz
inductive Ty where
 |bool|int (k:IntKind) |str|list (t:Ty) |unit|pair (a b:Ty) |ref|clo|mp|rl (e:Nat) (t:Ty) |mref|fn
 deriving DecidableEq
abbrev Ty.den:Ty->Type
 | .bool=>Bool
 | .int _=>Int
 | .str=>pD
 | .list t=>List t.den
 | .unit=>Unit
 | .pair a b=>a.den×b.den
 | .ref=>pO
 | .clo=>Option (Nat×pL)
 | .mp=>pP
 | .rl _ _=>pO
 | .fn=>pP
 | .mref=>pO
@[go_sem] def Ty.cells:Ty->Nat
 | .unit=>0
 | .pair a b=>a.cells+b.cells
 | .bool| .int _| .str| .list _| .ref| .clo| .mp| .rl _ _| .mref| .fn=>1
@[go_sem] def Ty.zero:(t:Ty)->t.den
 | .bool=>false
 | .int _=>(0:Int)
 | .str=>[]
 | .list _=>[]
 | .unit=>()
 | .pair a b=>(a.zero,b.zero)
 | .ref=>none
 | .clo=>none
 | .mp=>none
 | .rl _ _=>none
 | .fn=>none
 | .mref=>none
@[go_sem] def Ty.isRow:Ty->Bool
 | .unit| .pair _ _=>true
 | .bool| .int _| .str| .list _| .ref| .clo| .mp| .rl _ _| .mref| .fn=>false
@[go_sem] def Ty.pure:Ty->Bool
 | .ref| .clo| .mp| .rl _ _| .mref=>false
 | .list t=>t.pure
 | .pair a b=>a.pure&&b.pure
 | .bool| .int _| .str| .unit| .fn=>true
def qQ (t:Ty) (l:List t.den) (i:Int):t.den:=l.getD i.toNat t.zero
def sF (l:pD) (i:Int):Int:=((l.getD i.toNat 0).toNat:Int)
def v8 {t u:Ty}(h:t=u) (x:t.den):u.den:=h▸x
@[go_sem] theorem ND {t:Ty}(x:t.den):v8 (rfl:t=t) x=x:=rfl
@[go_sem] def rK (u:Ty):(t:Ty)->t.den->Nat->Option u.den
 |t,x,0=>if h:t=u then some (v8 h x) else match t,x with
  | .pair a b,x=>if 0<a.cells then rK u a x.1 0 else rK u b x.2 0
  |_,_=>none
 | .pair a b,x,o+1=>if o+1<a.cells then rK u a x.1 (o+1) else rK u b x.2 (o+1-a.cells)
 |_,_,_=>none
@[go_sem] def t6 (u:Ty) (y:u.den):(t:Ty)->t.den->Nat->Option t.den
 |t,x,0=>if h:u=t then some (v8 h y) else match t,x with
  | .pair a b,x=>if 0<a.cells then(t6 u y a x.1 0).map (fun z=>(z,x.2)) else(t6 u y b x.2 0).map (fun z=>(x.1,z))
  |_,_=>none
 | .pair a b,x,o+1=>if o+1<a.cells then(t6 u y a x.1 (o+1)).map (fun z=>(z,x.2)) else(t6 u y b x.2 (o+1-a.cells)).map (fun z=>(x.1,z))
 |_,_,_=>none
@[go_sem] def Ty.proj:(t:Ty)->t.den->Nat->Option (Σ u:Ty,u.den)
 | .pair a _,x,0=>some ⟨a,x.1⟩
 | .pair _ b,x,i+1=>b.proj x.2 i
 |_,_,_=>none
@[go_sem] def Ty.offs:Ty->Nat->pP
 | .pair _ _,0=>some 0
 | .pair a b,i+1=>(b.offs i).map fun o=>a.cells+o
 |_,_=>none
@[go_sem] def Ty.fld:Ty->Nat->Option Ty
 | .pair a _,0=>some a
 | .pair _ b,i+1=>b.fld i
 |_,_=>none
@[go_sem] def Ty.setPart (u:Ty) (y:u.den):(t:Ty)->t.den->Nat->Option t.den
 | .pair a b,x,0=>if h:u=a then some (v8 h y,x.2) else none
 | .pair a b,x,i+1=>(Ty.setPart u y b x.2 i).map fun z=>(x.1,z)
 |_,_,_=>none
inductive DV where
 |any
 |nilS
 |val (t:Ty) (x:t.den)
 |at (t:Ty) (x:t.den)
 |tup (l:List ((Σ t:Ty,t.den)×pP))
 |cond (p:Bool) (d:DV)
 |flag (p q:Prop)
 |own (k n:Nat)
 |elt (k n c:Nat) (i:Int) (o:Nat)
 |nxt (b:Bool) (p c:Int)
abbrev qC:=DV×pP
inductive qB where
 |cells (t:Ty) (x:t.den) (toks:pL)
 |grow (e:TypeId) (c:Nat) (n:Nat)
 |row (e:TypeId) (t:Ty) (l:List t.den) (n:Nat)
 |map (k v:Ty) (l:List (k.den×v.den))
 |iter (s:pD) (p:Nat)
 |dead
structure St where
 env:List (Nat×qC)
 H:List (Nat×qB)
 nb:Nat
 N:Nat
 np:Nat:=0
@[go_sem] def lk:List (Nat×qC)->Nat->qC
 |[],_=>(.any,none)
 |(k,s)::r,t=>if k=t then s else lk r t
@[go_sem] def qE:List (Nat×qB)->Nat->Option qB
 |[],_=>none
 |(k,s)::r,t=>if k=t then some s else qE r t
structure TI where
 ty:Ty
 elem:TypeId:=0
 bytes:Nat:=0
 arr:Bool:=false
 ls:List (Nat×TypeId×Nat):=[]
abbrev sV:=List (Nat×TI)
@[go_sem] def rZ:sV->TypeId->Option TI
 |[],_=>none
 |(k,s)::r,t=>if k=t then some s else rZ r t
inductive PK where
 |v|own|p (t:Ty) (os:pQ) |m|r|f (ks:List (Ty×pQ))
structure qI where
 side:List Prop
 ret:List qC
 H:List qB
structure qW where
 ps:List PK
 C:List qC->List qB->Option qI
 gs:List (Nat×Nat×PK):=[]
 same:pQ:=[]
 row:Option ((t:Ty)->List t.den->Option (List t.den)):=none
abbrev uH:=Nat->Option qW
structure qT where
 side:List Prop
 slot:qC
 upd:List (Nat×qB)
 rds:pQ
@[go_sem] def IX:pQ->Bool
 |[]=>false
 |i::_=>if i=1000000000 then true else false
@[go_sem] def orE:Option qT->Option qT->Option qT
 |some r,_=>some r
 |none,r=>r
@[go_sem] def B2:Option (List Prop×DV)->Option qT
 |some (p,d)=>some ⟨p,(d,none),[],[]⟩
 |none=>none
@[go_sem] def a0d:pS->DV
 | .bool b=> .val .bool b
 | .int k n=> .val (.int k) n
 | .string s=> .val .str s.data.toList
 | .slice none 0 0=> .nilS
 | .pointer none=> .val .ref none
 | .nilFunc=> .val .clo none
 | .map none=> .val .mp none
 |_=> .any
@[go_sem] def uO (env:List (Nat×qC)):Operand->qC
 | .tmp t=>lk env t
 | .const v=>(a0d v,none)
 | .func f=>(.val .clo (some (f,[])),none)
 | .global _=>(.any,none)
@[go_sem] def NE:Option TI->qC->qC
 |some ⟨.list t,_,_,_,_⟩,(.nilS,_)=>(.val (.list t) [],none)
 |_,s=>s
@[go_sem] def KZ:IntKind->Int->List Prop×DV
 | .i64,n=>([-9223372036854775808<=n/\n<=9223372036854775807],.val (.int .i64) n)
 |k,n=>([],.val (.int k) (k.wrap n))
@[go_sem] def qY {α:Type}:List α->List α->List α
 |[],m=>m
 |x::l,m=>x::qY l m
@[go_sem] def CC:(t:Ty)->t.den->t.den->Option Bool
 | .bool,a,b=>some (a==b)
 | .int _,a,b=>some (decide ((a:Int)=b))
 | .str,a,b=>some (decide ((a:pD)=b))
 | .unit,_,_=>some true
 | .pair s t,a,b=>eqAnd (CC s a.1 b.1) (CC t a.2 b.2)
 |_,_,_=>none
where
 eqAnd:Option Bool->Option Bool->Option Bool
  |some x,some y=>some (x&&y)
  |_,_=>none
attribute [go_sem] CC.eqAnd
@[go_sem] def a0e (k:IntKind) (a b:Int):BinOp->Option (List Prop×DV)
 | .add=>some (KZ k (a+b))
 | .sub=>some (KZ k (a-b))
 | .mul=>some (KZ k (a*b))
 | .eql=>some ([],.val .bool (decide (a=b)))
 | .neq=>some ([],.val .bool (!decide (a=b)))
 | .lss=>some ([],.val .bool (decide (a<b)))
 | .leq=>some ([],.val .bool (decide (a<=b)))
 | .gtr=>some ([],.val .bool (decide (b<a)))
 | .geq=>some ([],.val .bool (decide (b<=a)))
 | .quo=>some ([b≠0],.val (.int k) (k.wrap (Int.tdiv a b)))
 | .rem=>some ([b≠0],.val (.int k) (Int.tmod a b))
 | .and=>some ([],.val (.int k) (bits .and k a b))
 | .or=>some ([],.val (.int k) (bits .or k a b))
 | .xor=>some ([],.val (.int k) (bits .xor k a b))
 | .andNot=>some ([],.val (.int k) (bits .andNot k a b))
 |_=>none
def a0f (k:IntKind) (a b:Int):Int:=k.wrap (a*2^min b.toNat k.bits)
def yR (k:IntKind) (a b:Int):Int:=a.fdiv (2^min b.toNat k.bits)
@[go_sem] def aBC (k:IntKind) (a:Int) (k':IntKind) (b:Int):BinOp->Option (List Prop×DV)
 | .shl=>some ([0<=b],.val (.int k) (a0f k a b))
 | .shr=>some ([0<=b],.val (.int k) (yR k a b))
 |op=>if k=k' then a0e k a b op else none
@[go_sem] def a0g (a b:pD):BinOp->Option (List Prop×DV)
 | .add=>some ([((a++b).length:Int)<=9223372036854775807],.val .str (a++b))
 | .eql=>some ([],.val .bool (decide (a=b)))
 | .neq=>some ([],.val .bool (!decide (a=b)))
 | .lss=>some ([],.val .bool (Op.bytesLess a b))
 | .leq=>some ([],.val .bool (Op.bytesLess a b||decide (a=b)))
 | .gtr=>some ([],.val .bool (!(Op.bytesLess a b||decide (a=b))))
 | .geq=>some ([],.val .bool (!Op.bytesLess a b))
 |_=>none
@[go_sem] def aBD:BinOp->Option Bool->Option (List Prop×DV)
 | .eql,some r=>some ([],.val .bool r)
 | .neq,some r=>some ([],.val .bool (!r))
 |_,_=>none
@[go_sem] def UZ (op:BinOp):qC->qC->Option (List Prop×DV)
 |(.val (.int k) a,_),(.val (.int k') b,_)=>aBC k a k' b op
 |(.val .str a,_),(.val .str b,_)=>a0g a b op
 |_,_=>none
@[go_sem] def aBE (k:IntKind) (a b:Int):BinOp->Option (List Prop×DV)
 | .add=>some ([],.val (.int k) (k.wrap (a+b)))
 | .sub=>some ([],.val (.int k) (k.wrap (a-b)))
 | .mul=>some ([],.val (.int k) (k.wrap (a*b)))
 |_=>none
@[go_sem] def V0 (op:BinOp):Option TI->qC->qC->Option (List Prop×DV)
 |some ⟨.int _,_,_,true,_⟩,(.val (.int k) a,_),(.val (.int k') b,_)=>if k=k' then aBE k a b op else none
 |_,_,_=>none
@[go_sem] def aBF (u:Ty) (b:Nat) (op:BinOp) (t t':Ty) (x:t.den) (y:t'.den):Option (List Prop×DV):=
 if h:t'=t then(if t=u/\(t= .bool\/(t.isRow=true/\b=1)) then aBD op (CC t x (v8 h y)) else none) else none
@[go_sem] def V1 {α:Type}(l:List α):BinOp->Option (List Prop×DV)
 | .eql=>some ([],.flag (l=[]) True)
 | .neq=>some ([],.flag True (l=[]))
 |_=>none
@[go_sem] def a0h:Option TI->BinOp->qC->qC->Option (List Prop×DV)
 |some ⟨.list _,_,_,_,_⟩,op,(.val (.list _) l,_),(.nilS,_)=>V1 l op
 |some ⟨.list _,_,_,_,_⟩,op,(.nilS,_),(.val (.list _) l,_)=>V1 l op
 |some ⟨u,_,b,_,_⟩,op,(.val t x,_),(.val t' y,_)=>aBF u b op t t' x y
 |_,_,_,_=>none
@[go_sem] def a0i:Option (List Prop×DV)->Option (List Prop×DV)->Option (List Prop×DV)
 |some r,_=>some r
 |none,r=>r
@[go_sem] def a0j:UnOp->qC->Option (List Prop×DV)
 | .not,(.val .bool b,_)=>some ([],.val .bool (!b))
 | .neg,(.val (.int k) n,_)=>some (KZ k (-(n:Int)))
 |_,_=>none
def uA (l:pM):pD:=l.map fun n=>UInt8.ofNat n.toNat
def uY (s:pD):pM:=s.map fun b=>(b.toNat:Int)
@[go_sem] def V2:Option TI->Option TI->qC->Option (List Prop×DV)
 |some _,some ⟨.int k,_,_,_,_⟩,(.val (.int _) n,_)=>some ([],.val (.int k) (k.wrap n))
 |some _,some ⟨.str,_,_,_,_⟩,(.val .str s,_)=>some ([],.val .str s)
 |_,_,_=>none
@[go_sem] def aBG (l:pM):Option TI->Option (List Prop×DV)
 |some ⟨.int .u8,_,_,_,_⟩=>some ([],.val .str (uA l))
 |_=>none
@[go_sem] def a0k (T:sV):Option TI->Option TI->qC->Option (List Prop×DV)
 |some ⟨.list (.int .u8),e,_,_,_⟩,some ⟨.str,_,_,_,_⟩,(.val (.list (.int .u8)) l,_)=>aBG l (rZ T e)
 |_,_,_=>none
def sO {α:Type}(l:List α) (lo hi:Int):List α:=(l.drop lo.toNat).take (hi.toNat-lo.toNat)
@[go_sem] def EB:Option qC->Int->Option Int
 |none,d=>some d
 |some (.val (.int _) n,_),_=>some n
 |_,_=>none
@[go_sem] def V3 (t:Ty) (n:Nat) (f:Int->Int->t.den):Option Int->Option Int->Option (List Prop×DV)
 |some a,some b=>some ([0<=a/\a<=b/\b<=(n:Int)],.val t (f a b))
 |_,_=>none
@[go_sem] def a0l:Option TI->qC->Option qC->Option qC->Option (List Prop×DV)
 |some ⟨.str,_,_,_,_⟩,(.val .str l,_),lo,hi=>V3 .str (List.length l) (sO l) (EB lo 0) (EB hi (List.length l))
 |some ⟨.list u,_,_,_,_⟩,(.val (.list t) l,_),lo,hi=>if t=u then V3 (.list t) (List.length l) (sO l) (EB lo 0) (EB hi (List.length l)) else none
 |_,_,_,_=>none
@[go_sem] def V4 (t:Ty) (x:t.den) (i:Nat):Option Ty->Option t.den
 |some (.list u)=>Ty.setPart (.list u) [] t x i
 |_=>none
@[go_sem] def B3 (t:Ty):Option t.den->List (Nat×qC)->Option t.den
 |some x,[]=>some x
 |some x,(i,(.val u y,_))::r=>B3 t (Ty.setPart u y t x i) r
 |some x,(i,(.nilS,_))::r=>B3 t (V4 t x i (t.fld i)) r
 |_,_=>none
@[go_sem] def DB (t:Ty):Nat->List t.den
 |0=>[]
 |n+1=>t.zero::DB t n
@[go_sem] def aBH (t:Ty) (n:Nat) (l:List t.den) (i:Nat) (u:Ty) (y:u.den):Option (List t.den):=if h:u=t/\i<n then some (l.set i (v8 h.1 y)) else none
@[go_sem] def BN (t:Ty) (n:Nat):Option (List t.den)->List (Nat×qC)->Option (List t.den)
 |some l,[]=>some l
 |some l,(i,(.val u y,_))::r=>BN t n (aBH t n l i u y) r
 |_,_=>none
attribute [go_sem] List.set_cons_zero List.set_cons_succ
@[go_sem] def L1:List qC->Option pL
 |[]=>some []
 |(.val .ref (some p),_)::r=>(L1 r).map (p:: ·)
 |_=>none
@[go_sem] def xX:pL->Nat->pP
 |[],_=>none
 |(o,k)::r,a=>if o=a then some k else xX r a
@[go_sem] def yE:pP->Nat->pL
 |some k,o=>[(o,k)]
 |none,_=>[]
@[go_sem] def wC:pL->Nat->Nat->pL
 |[],_,_=>[]
 |(q,k)::r,o,n=>if o<=q/\q<o+n then wC r o n else(q,k)::wC r o n
@[go_sem] def FQ:Ty->pP->pP
 | .list _,k=>k
 |_,_=>none
@[go_sem] def zZ {α:Type}:List α->List α->List α
 |[],acc=>acc
 |x::l,acc=>zZ l (x::acc)
inductive rV where
 |box (id:Nat) (u:Ty) (x:u.den) (toks:pL) (o:Nat)
 |tok (id:Nat)
@[go_sem] def rV.id:rV->Nat
 | .box i _ _ _ _=>i
 | .tok k=>k
@[go_sem] def CD:Nat->pQ->Bool
 |_,[]=>false
 |i,j::r=>if i=j then true else CD i r
@[go_sem] def sK:List rV->pQ
 |[]=>[]
 |w::r=>w.id::sK r
structure tD where
 args:List qC
 H:List qB
 ws:List rV
 n:Nat
@[go_sem] def L2:pQ->Nat->pL
 |[],_=>[]
 |q::qs,n=>(q,n)::L2 qs (n+1)
@[go_sem] def CE (k:Nat):Option qB->Option tD->Option tD
 |some (.grow e c m),some a=>if CD k (sK a.ws)=true then none else some ⟨a.args,.grow e c m::a.H,.tok k::a.ws,a.n+1⟩
 |_,_=>none
@[go_sem] def A0 (H:List (Nat×qB)):pP->Option tD->Option tD
 |some k,a=>CE k (qE H k) a
 |none,_=>none
@[go_sem] def zE (H:List (Nat×qB)) (toks:pL) (o:Nat):pQ->Option tD->Option tD
 |[],a=>a
 |q::qs,a=>zE H toks o qs (A0 H (xX toks (o+q)) a)
@[go_sem] def NF (n:Nat):pQ->Bool
 |[]=>true
 |q::qs=>decide (q<n)&&NF n qs
@[go_sem] def FR (H:List (Nat×qB)) (t:Ty) (os:pQ) (i o:Nat) (u:Ty) (x:u.den) (toks:pL) (a:tD):Option t.den->Option tD
 |some y=>if (NF t.cells os&& !CD i (sK a.ws))=true then zE H toks o os (some ⟨(.val .ref (some (a.n,0)),none)::a.args,.cells t y (L2 os (a.n+1))::a.H,.box i u x toks o::a.ws,a.n+1⟩) else none
 |none=>none
@[go_sem] def wM (H:List (Nat×qB)) (t:Ty) (os:pQ) (i o:Nat) (a:tD):Option qB->Option tD
 |some (.cells u x toks)=>FR H t os i o u x toks a (rK t u x o)
 |_=>none
@[go_sem] def CF (t:Ty) (x:t.den) (k:Nat) (a:tD):Option qB->Option tD
 |some (.grow e c m)=>if (t.pure&& !CD k (sK a.ws))=true then some ⟨(.val t x,some a.n)::a.args,.grow e c m::a.H,.tok k::a.ws,a.n+1⟩ else none
 |_=>none
@[go_sem] def V5 (t:Ty) (x:t.den) (a:tD):Option tD:=
 if t.pure=true then some ⟨(.val t x,none)::a.args,a.H,a.ws,a.n⟩ else none
@[go_sem] def V6 (f:FuncId) (a:tD):Option tD:=some ⟨(.val .clo (some (f,[])),none)::a.args,a.H,a.ws,a.n⟩
@[go_sem] def V7 (a:tD):Option tD:=some ⟨(.nilS,none)::a.args,a.H,a.ws,a.n⟩
@[go_sem] def CG (i:Nat) (a:tD):Option qB->Option tD
 |some (.map k v l)=>if (k.pure&&v.pure&& !CD i (sK a.ws))=true then some ⟨(.val .mp (some a.n),none)::a.args,.map k v l::a.H,.tok i::a.ws,a.n+1⟩ else none
 |_=>none
@[go_sem] def CH (k n:Nat) (a:tD):Option qB->Option tD
 |some (.row e t l m)=>if (t.pure&& !CD k (sK a.ws))=true then some ⟨(.own a.n n,none)::a.args,.row e t l m::a.H,.tok k::a.ws,a.n+1⟩ else none
 |_=>none
@[go_sem] def yF (H:List (Nat×qB)) (f:FuncId) (args:List qC):List (Ty×pQ)->pL->pL->Option tD->Option tD
 |[],[],ids,some a=>some ⟨(.val .clo (some (f,zZ ids [])),none)::args,a.H,a.ws,a.n⟩
 |(t,os)::ks,(i,o)::cs,ids,some a=>yF H f args ks cs ((a.n,0)::ids) (wM H t os i o a (qE H i))
 |_,_,_,_=>none
@[go_sem] def yS (H:List (Nat×qB)) (a:tD):PK->qC->Option tD
 | .v,(.val .clo (some (f,[])),_)=>V6 f a
 | .v,(.val t x,_)=>V5 t x a
 | .v,(.nilS,_)=>V7 a
 | .own,(.val (.list t) x,some k)=>CF (.list t) x k a (qE H k)
 | .p t os,(.val .ref (some (i,o)),_)=>wM H t os i o a (qE H i)
 | .m,(.val .mp (some i),_)=>CG i a (qE H i)
 | .r,(.own k n,_)=>CH k n a (qE H k)
 | .f ks,(.val .clo (some (f,cs)),_)=>yF H f a.args ks cs [] (some a)
 |_,_=>none
@[go_sem] def yG (H:List (Nat×qB)):List PK->List qC->Option tD->Option tD
 |_,_,none=>none
 |[],[],some a=>some a
 |p::ps,s::ss,some a=>yG H ps ss (yS H a p s)
 |_,_,some _=>none
@[go_sem] def aLs:Option pO->qC
 |some (some p)=>(.val .ref (some p),none)
 |_=>(.any,none)
@[go_sem] def aLt:Option pP->qC
 |some (some i)=>(.val .mp (some i),none)
 |_=>(.any,none)
@[go_sem] def aLu:Option pO->qC
 |some (some (k,n))=>(.own k n,none)
 |_=>(.any,none)
@[go_sem] def H4:(t:Ty)->t.den->Nat->Option pO
 | .rl _ _,x,0=>some x
 | .pair a b,x,o=>if o<a.cells then H4 a x.1 o else H4 b x.2 (o-a.cells)
 |_,_,_=>none
@[go_sem] def L3 (q:Nat):PK->Option qB->qC
 | .r,some (.cells t y _)=>aLu (H4 t y q)
 | .p _ _,some (.cells t y _)=>aLs (rK .ref t y q)
 | .m,some (.cells t y _)=>aLt (rK .mp t y q)
 |_,_=>(.any,none)
@[go_sem] def IY:List qB->Nat->Option qB
 |[],_=>none
 |b::_,0=>some b
 |_::r,n+1=>IY r n
@[go_sem] def NH (l:List qC):Option tD->Option tD
 |some a=>some ⟨l,a.H,a.ws,a.n⟩
 |none=>none
@[go_sem] def BO (H:List (Nat×qB)):List (Nat×Nat×PK)->Option tD->Option tD
 |_,none=>none
 |[],some a=>some a
 |(c,q,pk)::r,some a=>BO H r (NH a.args (yS H a pk (L3 q pk (IY a.H (a.n-1-c)))))
@[go_sem] def H5 (i o:Nat):List rV->Nat->pO
 |[],_=>none
 | .box j _ _ _ oc::r,c=>if j=i/\oc<=o then some (c,o-oc) else H5 i o r (c+1)
 | .tok _::r,c=>H5 i o r (c+1)
@[go_sem] def x8 (i:Nat):List rV->Nat->pP
 |[],_=>none
 | .tok j::r,c=>if j=i then some c else x8 i r (c+1)
 | .box _ _ _ _ _::r,c=>x8 i r (c+1)
@[go_sem] def L4 {α β:Type}:Option α->Option β->Option (α×β)
 |some a,some b=>some (a,b)
 |_,_=>none
@[go_sem] def V8 (W:List rV):pO->Option pO
 |none=>some none
 |some (i,o)=>(H5 i o W 0).map some
@[go_sem] def aBI (W:List rV):pP->Option pP
 |none=>some none
 |some i=>(x8 i W 0).map some
@[go_sem] def aBJ (W:List rV):pO->Option pO
 |none=>some none
 |some (k,n)=>(x8 k W 0).map fun c=>some (c,n)
@[go_sem] def QJ:Option (Nat×pL)->Option (Option (Nat×pL))
 |none=>some none
 |some (f,[])=>some (some (f,[]))
 |_=>none
@[go_sem] def DC (W:List rV):(t:Ty)->t.den->Option t.den
 | .ref,x=>V8 W x
 | .clo,x=>QJ x
 | .mp,x=>aBI W x
 | .pair a b,x=>L4 (if a.pure=true then some x.1 else DC W a x.1) (if b.pure=true then some x.2 else DC W b x.2)
 | .list t,x=>if t.pure=true then some x else none
 | .bool,x=>some x
 | .int _,x=>some x
 | .str,x=>some x
 | .unit,x=>some x
 | .rl _ _,x=>aBJ W x
 | .fn,x=>some x
 | .mref,x=>V8 W x
@[go_sem] def a0m:Option qB->Option (List qB)->Option (List qB)
 |some b,some l=>some (b::l)
 |_,_=>none
@[go_sem] def aLv (t:Ty) (ts:pL):Option t.den->Option qB
 |some y=>some (.cells t y ts)
 |none=>none
@[go_sem] def V9 (W:List rV):qB->Option qB
 | .cells t y ts=>if t.pure=true then some (.cells t y ts) else aLv t ts (DC W t y)
 |b=>some b
@[go_sem] def IZ (W:List rV):List qB->Option (List qB)
 |[]=>some []
 |b::r=>a0m (V9 W b) (IZ W r)
@[go_sem] def B4:List rV->Nat->Option rV
 |[],_=>none
 |w::_,0=>some w
 |_::r,n+1=>B4 r n
@[go_sem] def NI (n:Nat) (c:Nat):Option rV->Bool
 |some _=>false
 |none=>decide (c<n)
@[go_sem] def B5 (base n c:Nat):Option rV->pP
 |some (.box _ _ _ _ _)=>none
 |some (.tok k)=>some k
 |none=>if c<n then some (base+c) else none
@[go_sem] def aBK (base n c o:Nat):Option rV->qC
 |some (.box i _ _ _ o')=>(.val .ref (some (i,o'+o)),none)
 |wh=>if NI n c wh=true then(.val .ref (some (base+c,o)),none) else(.any,none)
@[go_sem] def L5 (base n:Nat) (W:List rV):pP->pP
 |some c=>B5 base n c (B4 W c)
 |none=>none
@[go_sem] def aLw (m:Nat):pP->qC
 |some k=>(.own k m,none)
 |none=>(.any,none)
@[go_sem] def aLx:pP->qC
 |some k=>(.val .mp (some k),none)
 |none=>(.any,none)
@[go_sem] def a0n (base n c o:Nat):Option rV->pO
 |some (.box i _ _ _ o')=>some (i,o'+o)
 |wh=>if NI n c wh=true then some (base+c,o) else none
@[go_sem] def aLy:pO->Option pL->Option pL
 |some p,some l=>some (p::l)
 |_,_=>none
@[go_sem] def NJ (base n:Nat) (W:List rV):pL->Option pL
 |[]=>some []
 |(c,o)::r=>aLy (a0n base n c o (B4 W c)) (NJ base n W r)
@[go_sem] def aLz (f:Nat):Option pL->qC
 |some l=>(.val .clo (some (f,l)),none)
 |none=>(.any,none)
@[go_sem] def VA (base n:Nat) (W:List rV):qC->qC
 |(.own c m,_)=>aLw m (L5 base n W (some c))
 |(.val .ref (some (c,o)),_)=>aBK base n c o (B4 W c)
 |(.val .ref none,_)=>(.val .ref none,none)
 |(.val .mp (some c),_)=>aLx (L5 base n W (some c))
 |(.val .mp none,_)=>(.val .mp none,none)
 |(.val .clo (some (f,cs)),_)=>aLz f (NJ base n W cs)
 |(.val t x,k)=>if t.pure=true then(.val t x,L5 base n W (FQ t k)) else(.any,none)
 |_=>(.any,none)
@[go_sem] def aLA (q:Nat):pP->pL->pL
 |some k,r=>(q,k)::r
 |none,r=>r
@[go_sem] def EC (base n:Nat) (W:List rV) (o:Nat):pL->pL
 |[]=>[]
 |(q,c)::r=>aLA (o+q) (B5 base n c (B4 W c)) (EC base n W o r)
@[go_sem] def L6 (base n:Nat) (W:List rV):pO->Option pO
 |none=>some none
 |some (c,o)=>back2 c o (B4 W c)
where
 back2 (c o:Nat):Option rV->Option pO
  |some (.box i _ _ _ o')=>some (some (i,o'+o))
  |wh=>if NI n c wh=true then some (some (base+c,o)) else none
attribute [go_sem] L6.back2
@[go_sem] def aBL (base n:Nat) (W:List rV):pP->Option pP
 |none=>some none
 |some c=>(B5 base n c (B4 W c)).map some
@[go_sem] def aBM (base n:Nat) (W:List rV):pO->Option pO
 |none=>some none
 |some (c,q)=>(B5 base n c (B4 W c)).map fun k=>some (k,q)
@[go_sem] def CI (base n:Nat) (W:List rV):(t:Ty)->t.den->Option t.den
 | .ref,x=>L6 base n W x
 | .clo,x=>QJ x
 | .mp,x=>aBL base n W x
 | .pair a b,x=>L4 (if a.pure=true then some x.1 else CI base n W a x.1) (if b.pure=true then some x.2 else CI base n W b x.2)
 | .list t,x=>if t.pure=true then some x else none
 | .bool,x=>some x
 | .int _,x=>some x
 | .str,x=>some x
 | .unit,x=>some x
 | .rl _ _,x=>aBM base n W x
 | .fn,x=>some x
 | .mref,x=>L6 base n W x
@[go_sem] def VB (i o:Nat) (u t:Ty) (toks ts:pL):Option u.den->Option (Nat×qB)
 |some z=>some (i,.cells u z (qY ts (wC toks o t.cells)))
 |none=>none
@[go_sem] def aBN (i:Nat) (t:Ty) (ts:pL):Option t.den->Option (Nat×qB)
 |some y=>some (i,.cells t y ts)
 |none=>none
@[go_sem] def ED (base n c:Nat) (W:List rV):qB->Option (Nat×qB)
 | .cells t y ts=>if t.pure=true then some (base+c,.cells t y (EC base n W 0 ts)) else aBN (base+c) t (EC base n W 0 ts) (CI base n W t y)
 | .grow e m k=>some (base+c,.grow e m k)
 | .row e t l n=>if t.pure=true then some (base+c,.row e t l n) else none
 | .map k v l=>if (k.pure&&v.pure)=true then some (base+c,.map k v l) else none
 | .iter _ _=>none
 | .dead=>some (base+c,.dead)
@[go_sem] def AI (k:Nat):qB->Option (Nat×qB)
 | .cells _ _ _=>none
 | .grow e m n=>some (k,.grow e m n)
 | .row e t l n=>if t.pure=true then some (k,.row e t l n) else none
 | .map s v l=>if (s.pure&&v.pure)=true then some (k,.map s v l) else none
 | .iter _ _=>none
 | .dead=>some (k,.dead)
@[go_sem] def aBO (i o:Nat) (u t:Ty) (toks ts:pL) (x:u.den):Option t.den->Option (Nat×qB)
 |some y=>VB i o u t toks ts (t6 t y u x o)
 |none=>none
@[go_sem] def yH (base n i o:Nat) (W:List rV) (u:Ty) (x:u.den) (toks:pL):qB->Option (Nat×qB)
 | .cells t y ts=>if t.pure=true then VB i o u t toks (EC base n W o ts) (t6 t y u x o) else aBO i o u t toks (EC base n W o ts) x (CI base n W t y)
 | .dead=>some (i,.dead)
 | .grow _ _ _=>none
 | .row _ _ _ _=>none
 | .map _ _ _=>none
 | .iter _ _=>none
@[go_sem] def QK:Option (Nat×qB)->Option (List (Nat×qB))->Option (List (Nat×qB))
 |some q,some r=>some (q::r)
 |_,_=>none
@[go_sem] def BP (base n:Nat) (W:List rV):Nat->List rV->List qB->Option (List (Nat×qB))
 |_,[],[]=>some []
 |c,[],b::L=>QK (ED base n c W b) (BP base n W (c+1) [] L)
 |c,.box i u x toks o::ws,b::L=>QK (yH base n i o W u x toks b) (BP base n W (c+1) ws L)
 |c,.tok k::ws,b::L=>QK (AI k b) (BP base n W (c+1) ws L)
 |_,_::_,[]=>none
@[go_sem] def H6:List qC->Option (List ((Σ t:Ty,t.den)×pP))
 |[]=>some []
 |(.val t x,k)::r=>(H6 r).map ((⟨t,x⟩,k):: ·)
 |(.own k n,_)::r=>(H6 r).map ((⟨.rl 0 .unit,some (k,n)⟩,none):: ·)
 |_=>none
@[go_sem] def aLB:Option (List ((Σ t:Ty,t.den)×pP))->qC
 |some q=>(.tup q,none)
 |none=>(.any,none)
@[go_sem] def NK:List qC->Option qC
 |[]=>some (.tup [],none)
 |[s]=>some s
 |s::s'::l=>some (aLB (H6 (s::s'::l)))
@[go_sem] def a0o (W:List rV):pQ->pQ
 |[]=>[]
 |c::r=>sameId (B4 W c) (a0o W r)
where
 sameId:Option rV->pQ->pQ
  |some w,r=>w.id::r
  |none,r=>r
attribute [go_sem] a0o.sameId
@[go_sem] def QL (side:List Prop) (rds:pQ):Option (List (Nat×qB))->Option qC->Option qT
 |some H,some s=>some ⟨side,s,H,rds⟩
 |_,_=>none
@[go_sem] def QM (base n:Nat) (W:List rV):List qC->List qC
 |[]=>[]
 |s::r=>VA base n W s::QM base n W r
@[go_sem] def qZ:List qB->Nat
 |[]=>0
 |_::r=>qZ r+1
@[go_sem] def VC (base:Nat) (W:List rV) (sm:pQ):Option qI->Option qT
 |some r=>QL r.side (qY (sK W) (a0o W sm)) (BP base (qZ r.H) W 0 W r.H) (NK (QM base (qZ r.H) W r.ret))
 |none=>none
@[go_sem] def VD (C:List qC->List qB->Option qI) (sm:pQ) (base:Nat) (W:List rV) (args:List qC):Option (List qB)->Option qT
 |some L=>VC base W sm (C args L)
 |none=>none
@[go_sem] def QN (C:List qC->List qB->Option qI) (sm:pQ) (base:Nat):Option tD->Option qT
 |some a=>VD C sm base (zZ a.ws []) (zZ a.args []) (IZ (zZ a.ws []) (zZ a.H []))
 |none=>none
@[go_sem] def H7 (H:List (Nat×qB)) (base:Nat) (args:List qC):Option qW->Option qT
 |some g=>QN g.C g.same base (BO H g.gs (yG H g.ps args (some ⟨[],[],[],0⟩)))
 |none=>none
@[go_sem] def QO:List PK->List qC->pP
 | .r::ps,_::ss=>QO ps ss
 |_::_,(.own k _,_)::_=>some k
 |_::ps,_::ss=>QO ps ss
 |_,_=>none
@[go_sem] def aBP (k:Nat) (t:Ty) (l:List t.den):qC->qC
 |(.own j m,x)=>if j=k then(.val (.list t) l,none) else(.own j m,x)
 |s=>s
@[go_sem] def QP (k:Nat) (t:Ty) (l:List t.den):List qC->List qC
 |[]=>[]
 |s::r=>aBP k t l s::QP k t l r
@[go_sem] def L7 (k n:Nat):List qC->List Prop
 |[]=>[]
 |(.own j m,_)::r=>(j=k->m=n)::L7 k n r
 |_::r=>L7 k n r
@[go_sem] def J0:Ty->Bool
 | .list _=>false
 | .pair a b=>J0 a&&J0 b
 | .bool| .int _| .str| .unit| .fn=>true
 | .ref| .clo| .mp| .rl _ _| .mref=>false
@[go_sem] def qH:List (Nat×qB)->pQ
 |[]=>[]
 |(i,_)::r=>i::qH r
@[go_sem] def NL:List (Nat×qB)->Bool
 |[]=>true
 |(_,.cells t _ [])::r=>J0 t&&NL r
 |_=>false
@[go_sem] def a0p (sd:List Prop) (k:Nat):Option qT->Option qT
 |some ⟨side,(.val t x,_),U,rds⟩=>if (J0 t&&NL U&& !CD k (qH U))=true then some ⟨qY sd side,(.val t x,none),U,k::rds⟩ else none
 |_=>none
@[go_sem] def QQ (H:List (Nat×qB)) (base:Nat) (args:List qC) (g:qW) (k:Nat):Option qB->Option qT
 |some (.row _ t l m)=>a0p (L7 k m args) k (H7 ((k,.dead)::H) base (QP k t l args) (some g))
 |_=>none
@[go_sem] def aBQ (H:List (Nat×qB)) (base:Nat) (args:List qC) (g:qW):pP->Option qT
 |some k=>QQ H base args g k (qE H k)
 |none=>H7 H base args (some g)
@[go_sem] def aBR (k n m e:Nat) (t:Ty):Option (List t.den)->Option qT
 |some l=>some ⟨[n=m,m<4611686018427387904],(.tup [],none),[(k,.row e t l m)],[k]⟩
 |none=>none
@[go_sem] def a0q (F:(t:Ty)->List t.den->Option (List t.den)) (k n:Nat):Option qB->Option qT
 |some (.row e t l m)=>aBR k n m e t (F t l)
 |_=>none
@[go_sem] def VE (H:List (Nat×qB)) (F:(t:Ty)->List t.den->Option (List t.den)):List qC->Option qT
 |[(.own k n,_)]=>a0q F k n (qE H k)
 |_=>none
@[go_sem] def a0r (base:Nat):Option TI->qC->Option qT
 |some ⟨.list u,e,_,true,_⟩,(.nilS,_)=>some ⟨[],(.own base 0,none),[(base,.row e u [] 0)],[]⟩
 |some ⟨.list u,e,_,false,_⟩,(.nilS,_)=>some ⟨[],(.val (.list u) [],some base),[(base,.grow e u.cells 0)],[]⟩
 |_,(.nilS,_)=>none
 |_,s=>some ⟨[],s,[],[]⟩
@[go_sem] def FS:Ty->Nat->Bool
 | .list _,0=>true
 | .pair a b,o=>if o<a.cells then FS a o else FS b (o-a.cells)
 |_,_=>false
@[go_sem] def FT (t:Ty):List (Nat×TypeId×Nat)->Bool
 |[]=>true
 |(o,_,_)::r=>FS t o&&FT t r
@[go_sem] def CJ:List (Nat×TypeId×Nat)->Nat->pL
 |[],_=>[]
 |(o,_,_)::r,i=>(o,i)::CJ r (i+1)
@[go_sem] def EE:List (Nat×TypeId×Nat)->Nat->List (Nat×qB)
 |[],_=>[]
 |(_,e,c)::r,i=>qY (EE r (i+1)) [(i,.grow e c 0)]
@[go_sem] def a0s (e:Nat):Bool:=if e=73 then true else if e=aBz then true else false
@[go_sem] def a0t (e:Nat) (u:Ty) (o:Nat):pO->List (Nat×Nat×Ty)
 |none=>[(o,e,u)]
 |some _=>[]
@[go_sem] def FU:(t:Ty)->t.den->Nat->List (Nat×Nat×Ty)
 | .rl e u,x,o=>a0t e u o x
 | .pair a b,x,o=>qY (FU a x.1 o) (FU b x.2 (o+a.cells))
 |_,_,_=>[]
@[go_sem] def a0u (o:Nat):pO->pQ
 |none=>[o]
 |some _=>[]
@[go_sem] def H8:(t:Ty)->t.den->Nat->pQ
 | .mref,x,o=>a0u o x
 | .pair a b,x,o=>qY (H8 a x.1 o) (H8 b x.2 (o+a.cells))
 |_,_,_=>[]
@[go_sem] def aBS:Nat->pQ->pQ
 |2,[0]=>[0]
 |_,_=>[]
@[go_sem] def VF (el:Nat) (t:Ty) (y:t.den):pQ:=if a0s el=true then aBS t.cells (H8 t y 0) else[]
@[go_sem] def L8 (t:Ty):Nat->List (Nat×Nat×Ty)->Option t.den->Option t.den
 |_,[],x=>x
 |i,(o,e,u)::r,some x=>L8 t (i+1) r (t6 (.rl e u) (some (i,0)) t x o)
 |_,_::_,none=>none
@[go_sem] def J1 (t:Ty) (i:Nat):pQ->Option t.den->Option t.den
 |[],x=>x
 |q::r,some x=>J1 t i r (t6 .mref (some (i,q)) t x q)
 |_::_,none=>none
@[go_sem] def L9:List (Nat×Nat×Ty)->Nat->List (Nat×qB)
 |[],_=>[]
 |(_,e,u)::r,i=>qY (L9 r (i+1)) [(i,.row e u [] 0)]
@[go_sem] def QR {α:Type}:List α->Nat
 |[]=>0
 |_::r=>QR r+1
@[go_sem] def aBT (base:Nat) (t:Ty) (ls:List (Nat×TypeId×Nat)) (R:List (Nat×Nat×Ty)):Option t.den->Option qT
 |some z=>some ⟨[],(.val .ref (some (base,0)),none),(base,.cells t z (CJ ls (base+1)))::qY (L9 R (base+1+QR ls)) (EE ls (base+1)),[]⟩
 |none=>none
@[go_sem] def VG (base el:Nat) (t:Ty) (y:t.den) (ls:List (Nat×TypeId×Nat)):Bool->Option qT
 |true=>aBT base t ls (FU t y 0) (J1 t base (VF el t y) (L8 t (base+1+QR ls) (FU t y 0) (some y)))
 |false=>none
@[go_sem] def CK (k:Nat):List (Nat×TypeId×Nat)->List (Nat×TypeId×Nat)
 |[]=>[]
 |(o,e,c)::r=>if o+1=k then CK k r else(o,e,c)::CK k r
@[go_sem] def aBU (base el:Nat) (ls:List (Nat×TypeId×Nat)):(t:Ty)->t.den->pP->Option qT
 | .pair a b,y,some k=>VG base el (.pair a b) y (CK k ls) (FT (.pair a b) (CK k ls))
 | .list u,y,k=>some ⟨[],(.val .ref (some (base,0)),none),[(base,.cells (.list u) y (yE k 0))],[]⟩
 |t,y,_=>some ⟨[],(.val .ref (some (base,0)),none),[(base,.cells t y [])],[]⟩
@[go_sem] def QS (base el:Nat):Option TI->Option qT
 |some ⟨.list u,e,_,_,_⟩=>some ⟨[],(.val .ref (some (base,0)),none),[(base,.cells (.list u) [] [(0,base+1)]),(base+1,.grow e u.cells 0)],[]⟩
 |some ti=>VG base el ti.ty ti.ty.zero ti.ls (FT ti.ty ti.ls)
 |none=>none
@[go_sem] def a0v (base el:Nat):Option TI->qC->Option qT
 |some ti,(.val t y,k)=>if t=ti.ty then aBU base el ti.ls t y k else none
 |_,_=>none
@[go_sem] def a0w (base el:Nat):Option TI->qC->Option qT
 |some ⟨.list u,e,b,a,ls⟩,(.nilS,_)=>QS base el (some ⟨.list u,e,b,a,ls⟩)
 |ti,s=>a0v base el ti (NE ti s)
@[go_sem] def LA:Ty->Bool
 | .list _=>true
 | .pair a b=>LA a||LA b
 | .bool| .int _| .str| .unit| .ref| .clo| .mp| .rl _ _| .mref| .fn=>false
@[go_sem] def VH:pP->pP->pP
 |some o,some m=>if m=0 then some (o+1) else none
 |_,_=>none
@[go_sem] def a0x:Ty->Bool
 | .list _=>true
 | .pair _ _| .bool| .int _| .str| .unit| .ref| .clo| .mp| .rl _ _| .mref| .fn=>false
@[go_sem] def VI (u:Ty) (o m:pP):Bool->Bool->pP
 |false,_=>m
 |true,true=>VH o m
 |true,false=>none
@[go_sem] def B6 (t:Ty):List (Nat×qC)->pP
 |[]=>some 0
 |(_,(.nilS,_))::r=>B6 t r
 |(i,(.val u _,_))::r=>VI u (t.offs i) (B6 t r) (LA u) (a0x u)
 |_=>none
@[go_sem] def a0y:Ty->pP->pP
 | .pair _ _,m=>m
 |_,_=>none
@[go_sem] def aLC (t:Ty) (k:pP):Option t.den->Option qT
 |some x=>some ⟨[],(.val t x,k),[],[]⟩
 |none=>none
@[go_sem] def a0z (sl:List (Nat×qC)):Option TI->Option qT
 |some ti=>if ti.ty.isRow=true then aLC ti.ty (a0y ti.ty (B6 ti.ty sl)) (B3 ti.ty (some ti.ty.zero) sl) else none
 |none=>none
@[go_sem] def VJ (base e c n:Nat) (t:Ty):Option (List t.den)->Option qT
 |some l=>if n<=16777216/\n*c<=16777216 then some ⟨[],(.val (.list t) l,some base),[(base,.grow e c n)],[]⟩ else none
 |none=>none
@[go_sem] def aBV (base e n:Nat) (t:Ty):Option (List t.den)->Option qT
 |some l=>if t.pure=true/\n<=16777216/\n*t.cells<=16777216 then some ⟨[],(.own base n,none),[(base,.row e t l n)],[]⟩ else none
 |none=>none
@[go_sem] def a0A (base n:Nat) (sl:List (Nat×qC)):Option TI->Option qT
 |some ⟨.list u,e,_,true,_⟩=>if n=0 then aBV base e n u (BN u n (some (DB u n)) sl) else VJ base e u.cells n u (BN u n (some (DB u n)) sl)
 |some ⟨.list u,e,_,false,_⟩=>VJ base e u.cells n u (BN u n (some (DB u n)) sl)
 |_=>none
@[go_sem] def aBW (t:Ty) (k:pP) (i:Nat):Option t.den->Option qT
 |some y=>some ⟨[],(.val t y,k),[],[i]⟩
 |none=>none
@[go_sem] def QT (t:Ty) (i off:Nat):Option qB->Option qT
 |some (.cells u x toks)=>aBW t (FQ t (xX toks off)) i (rK t u x off)
 |_=>none
@[go_sem] def aBX (u:Ty) (k n m:Nat):Option u.den->Option qT
 |some y=>some ⟨[n=m],(.val u y,none),[],[k]⟩
 |none=>none
@[go_sem] def QU (u:Ty) (k n c:Nat) (i:Int) (o:Nat):Option qB->Option qT
 |some (.row _ t l m)=>if c=t.cells then aBX u k n m (rK u t (qQ t l i) o) else none
 |_=>none
@[go_sem] def a0B (i:Nat):Option pO->Option qT
 |some (some (k,n))=>some ⟨[],(.own k n,none),[],[i]⟩
 |_=>none
@[go_sem] def VK (i off:Nat):TI->Option qB->Option qT
 |⟨.list u,e,_,_,_⟩,some (.cells v x _)=>a0B i (rK (.rl e u) v x off)
 |_,_=>none
@[go_sem] def orP:pO->pO->pO
 |some p,_=>some p
 |none,q=>q
@[go_sem] def BQ:(t:Ty)->t.den->pO
 | .rl _ _,x=>x
 | .pair a b,x=>orP (BQ a x.1) (BQ b x.2)
 |_,_=>none
@[go_sem] def a0D (u0:Ty) (l:List u0.den) (u:Ty):pO->Option (Σ t:Ty,t.den)
 |some _=>if u=u0 then some ⟨.list u0,l⟩ else none
 |none=>none
@[go_sem] def LB (a b:Ty) (x:a.den) (y:b.den):pO->Option (Σ t:Ty,t.den)->Option (Σ t:Ty,t.den)->Option (Σ t:Ty,t.den)
 |some _,some ⟨a',x'⟩,_=>some ⟨.pair a' b,(x',y)⟩
 |some _,none,_=>none
 |none,_,some ⟨b',y'⟩=>some ⟨.pair a b',(x,y')⟩
 |none,_,none=>none
@[go_sem] def A1 (u0:Ty) (l:List u0.den):(t:Ty)->t.den->Option (Σ t:Ty,t.den)
 | .rl _ u,x=>a0D u0 l u x
 | .pair a b,x=>LB a b x.1 x.2 (BQ a x.1) (A1 u0 l a x.1) (A1 u0 l b x.2)
 |_,_=>none
@[go_sem] def a0E (t:Ty) (i k:Nat) (sd:Prop) (e:TypeId) (c n:Nat) (v:Ty) (x:v.den):Option t.den->Option qT
 |some y=>some ⟨[sd],(.val t y,none),[(i,.cells v x []),(k,.grow e c n)],[1000000000,i,k]⟩
 |none=>none
@[go_sem] def a0F (t:Ty) (i off k:Nat) (sd:Prop) (e:TypeId) (c n:Nat):Option (Σ t:Ty,t.den)->Option qT
 |some ⟨v,x⟩=>a0E t i k sd e c n v x (rK t v x off)
 |none=>none
@[go_sem] def VL (t:Ty) (i off k n0:Nat) (v:Ty) (x:v.den):Option qB->Option qT
 |some (.row e u0 l m)=>a0F t i off k (n0=m) e u0.cells (List.length l) (A1 u0 l v x)
 |_=>none
@[go_sem] def VM (H:List (Nat×qB)) (t:Ty) (i off:Nat) (v:Ty) (x:v.den):pO->Option qT
 |some (k,n0)=>VL t i off k n0 v x (qE H k)
 |none=>none
@[go_sem] def J2 (H:List (Nat×qB)) (t:Ty) (i off:Nat):Option qB->Option qT
 |some (.cells v x _)=>VM H t i off v x (BQ v x)
 |_=>none
@[go_sem] def orS (H:List (Nat×qB)) (t:Ty) (i off:Nat) (b:Option qB):Option qT->Option qT
 |some r=>some r
 |none=>J2 H t i off b
@[go_sem] def VN (H:List (Nat×qB)):Option TI->qC->Option qT
 |some ti,(.elt k n c i o,_)=>QU ti.ty k n c i o (qE H k)
 |some ti,(.at u x,_)=>if u=ti.ty then some ⟨[],(.val u x,none),[],[]⟩ else none
 |some ti,(.val .ref (some (i,off)),_)=>orS H ti.ty i off (qE H i) (orE (QT ti.ty i off (qE H i)) (VK i off ti (qE H i)))
 |_,_=>none
@[go_sem] def VO (u:Ty) (i:Nat) (toks:pL):Option u.den->Option qT
 |some z=>some ⟨[],(.any,none),[(i,.cells u z toks)],[i]⟩
 |none=>none
@[go_sem] def VP (t:Ty) (y:t.den) (k:pP) (i off:Nat):Option qB->Option qT
 |some (.cells u x toks)=>VO u i (qY (yE (FQ t k) off) (wC toks off t.cells)) (t6 t y u x off)
 |_=>none
@[go_sem] def NM (off:Nat):pL->pL
 |[]=>[]
 |(o,k)::r=>(off+o,k)::NM off r
@[go_sem] def aBZ (u:Ty) (i:Nat) (nt toks:pL) (bs:List (Nat×qB)):Option u.den->Option qT
 |some z=>some ⟨[],(.any,none),(i,.cells u z (qY nt toks))::qY bs [(i,.cells u z toks)],[i]⟩
 |none=>none
@[go_sem] def VQ (t:Ty) (y:t.den) (ls:List (Nat×TypeId×Nat)) (base i off:Nat):Option qB->Bool->Option qT
 |some (.cells u x toks),true=>aBZ u i (NM off (CJ ls base)) (wC toks off t.cells) (EE ls base) (t6 t y u x off)
 |_,_=>none
@[go_sem] def VR (base i off:Nat) (b:Option qB):List (Nat×TypeId×Nat)->(t:Ty)->t.den->pP->Option qT
 |q::r,.pair a c,y,some k=>VQ (.pair a c) y (CK k (q::r)) base i off b (FT (.pair a c) (CK k (q::r)))
 |_,t,y,k=>VP t y k i off b
@[go_sem] def aB0 (k n m:Nat) (e:TypeId) (t:Ty) (l:List t.den) (i:Int):Option t.den->Option qT
 |some z=>some ⟨[n=m],(.any,none),[(k,.row e t (l.set i.toNat z) m)],[k]⟩
 |none=>none
@[go_sem] def VS (u:Ty) (y:u.den) (k n c:Nat) (i:Int) (o:Nat):Option qB->Option qT
 |some (.row e t l m)=>if c=t.cells then aB0 k n m e t l i (t6 u y t (qQ t l i) o) else none
 |_=>none
@[go_sem] def a0G (b:Ty) (y:b.den):Option (Σ t:Ty,t.den)->Option (Σ t:Ty,t.den)
 |some ⟨a,x⟩=>some ⟨.pair a b,(x,y)⟩
 |none=>none
@[go_sem] def a0H (a:Ty) (x:a.den):Option (Σ t:Ty,t.den)->Option (Σ t:Ty,t.den)
 |some ⟨b,y⟩=>some ⟨.pair a b,(x,y)⟩
 |none=>none
@[go_sem] def yT (e:Nat) (u:Ty) (kn:pO):(t:Ty)->t.den->Nat->Option (Σ t:Ty,t.den)
 | .list v,_,0=>if v=u then some ⟨.rl e u,kn⟩ else none
 | .pair a b,x,o=>if o<a.cells then a0G b x.2 (yT e u kn a x.1 o) else a0H a x.1 (yT e u kn b x.2 (o-a.cells))
 |_,_,_=>none
@[go_sem] def a0I (i:Nat):Option (Σ t:Ty,t.den)->Option qT
 |some ⟨v,z⟩=>some ⟨[],(.any,none),[(i,.cells v z [])],[1000000000,i]⟩
 |none=>none
@[go_sem] def orO (i off k n e:Nat) (u v:Ty) (x:v.den):Option qT->Option qT
 |some r=>some r
 |none=>a0I i (yT e u (some (k,n)) v x off)
@[go_sem] def a0J (i off k n:Nat):TI->Option qB->Option qT
 |⟨.list u,e,_,_,_⟩,some (.cells v x toks)=>orO i off k n e u v x (VO v i (wC toks off 1) (t6 (.rl e u) (some (k,n)) v x off))
 |_,_=>none
@[go_sem] def VT (base:Nat) (H:List (Nat×qB)):Option TI->qC->qC->Option qT
 |some ti,(.val .ref (some (i,off)),_),(.own k n,_)=>a0J i off k n ti (qE H i)
 |some ti,(.elt k n c i o,_),(.val t y,_)=>if t=ti.ty then VS t y k n c i o (qE H k) else none
 |some ti,(.val .ref (some (i,off)),_),(.val t y,k)=>if t=ti.ty then VR base i off (qE H i) ti.ls t y k else none
 |_,_,_=>none
@[go_sem] def a0K:qC->Option qT
 |(.val .ref (some p),_)=>some ⟨[],(.val .ref (some p),none),[],[]⟩
 |(.at t x,_)=>some ⟨[],(.at t x,none),[],[]⟩
 |(.elt k n c i o,_)=>some ⟨[],(.elt k n c i o,none),[],[]⟩
 |_=>none
@[go_sem] def aB2 (f:FuncId):Option pL->Option qT
 |some l=>some ⟨[],(.val .clo (some (f,l)),none),[],[]⟩
 |none=>none
@[go_sem] def aLD (f:FuncId) (l:Option pL):List Operand->Option qT
 |[]=>aB2 f l
 |_=>none
@[go_sem] def VU (side:List Prop):Option (Σ t:Ty,t.den)->Option qT
 |some ⟨t,x⟩=>if 0<t.cells then some ⟨side,(.at t x,none),[],[]⟩ else none
 |none=>none
@[go_sem] def VV (side:List Prop) (i off:Nat):pP->Option Ty->Option qT
 |some o,some u=>if 0<u.cells then some ⟨side,(.val .ref (some (i,off+o)),none),[],[]⟩ else none
 |_,_=>none
@[go_sem] def aB3 (k n c:Nat) (i:Int) (o:Nat):pP->Option Ty->Option qT
 |some q,some u=>if 0<u.cells then some ⟨[],(.elt k n c i (o+q),none),[],[]⟩ else none
 |_,_=>none
@[go_sem] def a0L (f:Nat):Option TI->qC->Option qT
 |some ⟨t,_,_,false,_⟩,(.elt k n c i o,_)=>aB3 k n c i o (t.offs f) (t.fld f)
 |some ⟨t,_,_,false,_⟩,(.at u y,_)=>if u=t then VU [] (u.proj y f) else none
 |some ⟨t,_,_,false,_⟩,(.val .ref (some (i,off)),_)=>VV [] i off (t.offs f) (t.fld f)
 |_,_=>none
@[go_sem] def aLE:Option (Σ t:Ty,t.den)->Option qT
 |some ⟨t,x⟩=>some ⟨[],(.val t x,none),[],[]⟩
 |none=>none
@[go_sem] def a0M (f:Nat):Option TI->qC->Option qT
 |some ⟨t,_,_,false,_⟩,(.val u y,_)=>if u=t then aLE (u.proj y f) else none
 |_,_=>none
@[go_sem] def a0N:Option TI->qC->qC->Option qT
 |some ⟨.list t',_,_,_,_⟩,(.own k n,_),(.val (.int _) i,_)=>if 0<t'.cells then some ⟨[0<=i/\i<(n:Int)],(.elt k n t'.cells i 0,none),[],[]⟩ else none
 |some ⟨.list t',_,_,_,_⟩,(.val (.list t) l,_),(.val (.int _) i,_)=>if t=t' then some ⟨[0<=i/\i<(List.length l:Int)],(.at t (qQ t l i),none),[],[]⟩ else none
 |some ⟨.pair a b,_,_,true,_⟩,(.val .ref (some (i,off)),_),(.val (.int _) n,_)=>VV [(0:Int)<=n] i off ((Ty.pair a b).offs (Int.toNat n)) ((Ty.pair a b).fld (Int.toNat n))
 |some ⟨.pair a b,_,_,true,_⟩,(.at u x,_),(.val (.int _) n,_)=>if u= .pair a b then VU [(0:Int)<=n] (u.proj x (Int.toNat n)) else none
 |_,_,_=>none
@[go_sem] def a0O:Option TI->qC->qC->Option qT
 |some ⟨.str,_,_,_,_⟩,(.val .str l,_),(.val (.int _) i,_)=>some ⟨[0<=i/\i<(List.length l:Int)],(.val (.int .u8) (sF l i),none),[],[]⟩
 |_,_,_=>none
@[go_sem] def aLF (e:Nat) (u:Ty):pO->qC
 |some (k,n)=>(.own k n,none)
 |none=>(.val (.rl e u) none,none)
@[go_sem] def aLG:(t:Ty)->t.den->pP->qC
 | .rl e u,x,_=>aLF e u x
 | .bool,x,k=>(.val .bool x,k)
 | .int i,x,k=>(.val (.int i) x,k)
 | .str,x,k=>(.val .str x,k)
 | .list u,x,k=>(.val (.list u) x,k)
 | .unit,x,k=>(.val .unit x,k)
 | .pair a b,x,k=>(.val (.pair a b) x,k)
 | .ref,x,k=>(.val .ref x,k)
 | .clo,x,k=>(.val .clo x,k)
 | .mp,x,k=>(.val .mp x,k)
 | .mref,x,k=>(.val .mref x,k)
 | .fn,x,k=>(.val .fn x,k)
@[go_sem] def VW:List ((Σ t:Ty,t.den)×pP)->Nat->Option qT
 |[],_=>none
 |(⟨t,x⟩,k)::_,0=>some ⟨[],aLG t x k,[],[]⟩
 |_::r,n+1=>VW r n
@[go_sem] def aB4 (b:Bool) (p c:Int):Nat->Option qT
 |0=>some ⟨[],(.val .bool b,none),[],[]⟩
 |1=>some ⟨[b=true],(.val (.int .i64) p,none),[],[]⟩
 |2=>some ⟨[b=true],(.val (.int .i32) c,none),[],[]⟩
 |_=>none
@[go_sem] def a0P (i:Nat):qC->Option qT
 |(.tup l,_)=>VW l i
 |(.nxt b p c,_)=>aB4 b p c i
 |_=>none
@[go_sem] def VX (i:Nat):Option qB->Option qT
 |some (.map _ _ l)=>some ⟨[],(.val (.int .i64) (List.length l:Int),none),[],[i]⟩
 |_=>none
@[go_sem] def a0Q (H:List (Nat×qB)):Option TI->List qC->Option qT
 |some ⟨.mp,_,_,_,_⟩,[(.val .mp (some i),_)]=>VX i (qE H i)
 |some ⟨.str,_,_,_,_⟩,[(.val .str l,_)]=>some ⟨[],(.val (.int .i64) (List.length l:Int),none),[],[]⟩
 |some ⟨.list _,_,_,_,_⟩,[(.val (.list _) l,_)]=>some ⟨[],(.val (.int .i64) (List.length l:Int),none),[],[]⟩
 |some ⟨.list _,_,_,_,_⟩,[(.own _ n,_)]=>some ⟨[],(.val (.int .i64) (n:Int),none),[],[]⟩
 |_,_=>none
@[go_sem] def VY (a:Ty) (l r:List a.den) (k e' by':Nat):Option qB->Option qT
 |some (.grow e c n)=>if e=e'/\c=a.cells/\0<c/\0<by' then some ⟨[List.length l=n,(List.length l+List.length r)*by'<=140737488355328],(.val (.list a) (l++r),some k),[(k,.grow e c (List.length (l++r)))],[k]⟩ else none
 |_=>none
@[go_sem] def VZ (b:Ty) (r:List b.den) (k n e' by':Nat):Option qB->Option qT
 |some (.row e t l m)=>if h:b=t then(if e=e'/\0<t.cells/\0<by' then some ⟨[n=m,(n+List.length r)*by'<=140737488355328],(.own k (List.length (l++v8 (t:= .list b) (u:= .list t) (by rw[h]) r)),none),[(k,.row e t (l++v8 (t:= .list b) (u:= .list t) (by rw[h]) r) (List.length (l++v8 (t:= .list b) (u:= .list t) (by rw[h]) r)))],[k]⟩ else none) else none
 |_=>none
@[go_sem] def W3 (H:List (Nat×qB)):Option TI->List qC->Option qT
 |some ⟨.list u,e,by',_,_⟩,[(.own k n,_),(.val (.list b) r,_)]=>if b=u then VZ b r k n e by' (qE H k) else none
 |some ⟨.list u,e,by',_,_⟩,[(.val (.list a) l,some k),(.val (.list b) r,_)]=>if h:b=a/\a=u then VY a l (v8 (t:= .list b) (u:= .list a) (by rw[h.1]) r) k e by' (qE H k) else none
 |_,_=>none
@[go_sem] def W4 (mx:Bool):List qC->Option (List Prop×DV)
 |[(.val (.int k) a,_),(.val (.int k') b,_)]=>if k=k' then some ([],.val (.int k) (if mx then max (a:Int) b else min (a:Int) b)) else none
 |_=>none
@[go_sem] def a0R:pL->List qC
 |[]=>[]
 |c::r=>(.val .ref (some c),none)::a0R r
@[go_sem] def W5 (H:List (Nat×qB)) (base:Nat) (args:List qC) (g:qW):Option ((t:Ty)->List t.den->Option (List t.den))->Option qT
 |some F=>VE H F args
 |none=>aBQ H base args g (QO g.ps args)
@[go_sem] def LC (H:List (Nat×qB)) (base:Nat) (args:List qC):Option qW->Option qT
 |some g=>W5 H base args g g.row
 |none=>none
@[go_sem] def QV (Γ:uH) (f:Nat):Option qW:=if f<1000000000 then Γ f else none
@[go_sem] def NN (Γ:uH) (H:List (Nat×qB)) (base:Nat) (args:List qC):qC->Option qT
 |(.val .clo (some (f,caps)),_)=>LC H base (args++a0R caps) (QV Γ f)
 |(.val .fn (some f),_)=>LC H base args (QV Γ f)
 |_=>none
@[go_sem] def H9 (T:sV) (ρ:Operand->qC):List Operand->List TypeId->List qC
 |x::xs,t::ts=>NE (rZ T t) (ρ x)::H9 T ρ xs ts
 |_,_=>[]
@[go_sem] def wD (ρ:Operand->qC):List Operand->List qC
 |[]=>[]
 |x::xs=>ρ x::wD ρ xs
@[go_sem] def vA (ρ:Operand->qC):List (Nat×Operand)->List (Nat×qC)
 |[]=>[]
 |(i,x)::xs=>(i,ρ x)::vA ρ xs
@[go_sem] def A2 (ρ:Operand->qC):Option Operand->Option qC
 |some x=>some (ρ x)
 |none=>none
@[go_sem] def W6 (T:sV) (H:List (Nat×qB)) (ss:List qC):List TypeId->Option qT
 |t::_=>a0Q H (rZ T t) ss
 |[]=>none
@[go_sem] def W7 (l:pM) (s:pD) (k e':Nat):Option qB->Option qT
 |some (.grow e c n)=>if e=e'/\c=1 then some ⟨[List.length l=n,List.length l+List.length s<=140737488355328],(.val (.list (.int .u8)) (l++uY s),some k),[(k,.grow e c (List.length (l++uY s)))],[k]⟩ else none
 |_=>none
@[go_sem] def a0S (H:List (Nat×qB)):Option TI->Option TI->List qC->Option qT
 |some ⟨.list (.int .u8),e,1,_,_⟩,some ⟨.str,_,_,_,_⟩,[(.val (.list (.int .u8)) l,some k),(.val .str s,_)]=>W7 l s k e (qE H k)
 |_,_,_=>none
@[go_sem] def W8 (T:sV) (H:List (Nat×qB)) (ss:List qC):List TypeId->Option qT
 |[t,u]=>if t=u then W3 H (rZ T t) ss else a0S H (rZ T t) (rZ T u) ss
 |_=>none
@[go_sem] def LD:List Operand->List TypeId->Bool
 |[],[]=>true
 |_::xs,_::ts=>LD xs ts
 |_,_=>false
@[go_sem] def a0T (T:sV) (Γ:uH) (ρ:Operand->qC) (base:Nat) (H:List (Nat×qB)) (args:List Operand) (tys:List TypeId) (f:qC):Bool->Option qT
 |true=>NN Γ H base (H9 T ρ args tys) f
 |false=>none
@[go_sem] def LE (T:sV) (Γ:uH) (ρ:Operand->qC) (base:Nat) (H:List (Nat×qB)) (args:Array Operand) (tys:Array TypeId):Callee->Option qT
 | .builtin .len=>W6 T H (wD ρ args.toList) tys.toList
 | .builtin .append=>W8 T H (wD ρ args.toList) tys.toList
 | .builtin .max=>B2 (W4 true (wD ρ args.toList))
 | .builtin .min=>B2 (W4 false (wD ρ args.toList))
 | .value f=>a0T T Γ ρ base H args.toList tys.toList (ρ f) (LD args.toList tys.toList)
 |_=>none
@[go_sem] def EF:Ty->Bool
 | .int _| .str| .bool=>true
 |_=>false
def HA:(k:Ty)->k.den->k.den->Bool
 | .int _,a,b=>decide ((a:Int)=b)
 | .str,a,b=>decide ((a:pD)=b)
 | .bool,a,b=>a==b
 |_,_,_=>false
def s8 (k v:Ty):List (k.den×v.den)->k.den->v.den
 |[],_=>v.zero
 |(x,y)::r,a=>if HA k a x=true then y else s8 k v r a
def vX (k v:Ty):List (k.den×v.den)->k.den->Bool
 |[],_=>false
 |(x,_)::r,a=>if HA k a x=true then true else vX k v r a
def tW (k v:Ty) (a:k.den) (b:v.den):List (k.den×v.den)->List (k.den×v.den)
 |[]=>[(a,b)]
 |(x,y)::r=>if HA k a x=true then(a,b)::r else(x,y)::tW k v a b r
@[go_sem] def aB5 (base:Nat):Option TI->Option TI->Option qT
 |some k,some v=>if EF k.ty=true then some ⟨[],(.val .mp (some base),none),[(base,.map k.ty v.ty [])],[]⟩ else none
 |_,_=>none
@[go_sem] def a0U (T:sV) (base:Nat):Option TI->Option Operand->Option qT
 |some ⟨.mp,e,f,_,_⟩,none=>aB5 base (rZ T e) (rZ T f)
 |_,_=>none
@[go_sem] def W9 (k:Ty) (a:k.den) (u:Ty) (i:Nat) (ok:Bool):Option qB->Option qT
 |some (.map k' v l)=>if h:k=k'/\v=u then(if EF k=true then(match ok with
   |true=>some ⟨[],(.tup [(⟨v,s8 k' v l (v8 h.1 a)⟩,none),(⟨.bool,vX k' v l (v8 h.1 a)⟩,none)],none),[],[i]⟩
   |false=>some ⟨[],(.val v (s8 k' v l (v8 h.1 a)),none),[],[i]⟩) else none) else none
 |_=>none
@[go_sem] def a0V (H:List (Nat×qB)) (ok:Bool) (i:Nat):Option TI->Option TI->qC->Option qT
 |some kt,some vt,(.val k a,_)=>if k=kt.ty then W9 k a vt.ty i ok (qE H i) else none
 |_,_,_=>none
@[go_sem] def aB6 (ok:Bool):Option TI->Option TI->qC->Option qT
 |some kt,some vt,(.val k _,_)=>if k=kt.ty then(if EF k=true then(match ok with
   |true=>some ⟨[],(.tup [(⟨vt.ty,vt.ty.zero⟩,none),(⟨.bool,false⟩,none)],none),[],[]⟩
   |false=>some ⟨[],(.val vt.ty vt.ty.zero,none),[],[]⟩) else none) else none
 |_,_,_=>none
@[go_sem] def WA (T:sV) (H:List (Nat×qB)) (ok:Bool):Option TI->qC->qC->Option qT
 |some ⟨.mp,e,f,_,_⟩,(.val .mp (some i),_),s=>a0V H ok i (rZ T e) (rZ T f) s
 |some ⟨.mp,e,f,_,_⟩,(.val .mp none,_),s=>aB6 ok (rZ T e) (rZ T f) s
 |_,_,_=>none
@[go_sem] def NO (k:Ty) (a:k.den) (u:Ty) (b:u.den) (i:Nat):Option qB->Option qT
 |some (.map k' v l)=>if h:k=k'/\u=v then(if EF k=true then some ⟨[],(.any,none),[(i,.map k' v (tW k' v (v8 h.1 a) (v8 h.2 b) l))],[i]⟩ else none) else none
 |_=>none
@[go_sem] def WB (H:List (Nat×qB)) (i:Nat):Option TI->qC->qC->Option qT
 |some kt,(.val k a,_),(.val u b,_)=>if k=kt.ty then NO k a u b i (qE H i) else none
 |_,_,_=>none
@[go_sem] def aB7:Option TI->qC->qC
 |some ⟨.fn,_,_,_,_⟩,(.val .clo (some (f,[])),_)=>(.val .fn (some f),none)
 |_,s=>s
@[go_sem] def WC (T:sV):Option TI->qC->qC
 |some ⟨.mp,_,f,_,_⟩,s=>aB7 (rZ T f) s
 |_,s=>s
@[go_sem] def NP (T:sV) (H:List (Nat×qB)):Option TI->qC->qC->qC->Option qT
 |some ⟨.mp,e,_,_,_⟩,(.val .mp (some i),_),s,x=>WB H i (rZ T e) s x
 |_,_,_,_=>none
def xY (s:pD) (p:Nat):Int:=((Utf8.decode ⟨s.toArray⟩ p).1:Int)
def a0W (s:pD) (p:Nat):Nat:=(Utf8.decode ⟨s.toArray⟩ p).2
def B7 (s:pD) (p:Nat):Nat:=if p<s.length then p+a0W s p else p
@[go_sem] def a0X (base:Nat):Option TI->qC->Option qT
 |some ⟨.str,_,_,_,_⟩,(.val .str s,_)=>some ⟨[],(.val .ref (some (base,0)),none),[(base,.iter s 0)],[]⟩
 |_,_=>none
@[go_sem] def a0Y (i:Nat):Option qB->Option qT
 |some (.iter s p)=>some ⟨[],(.nxt (decide (p<List.length s)) ((p:Nat):Int) (xY s p),none),[(i,.iter s (B7 s p))],[i]⟩
 |_=>none
@[go_sem] def WD (H:List (Nat×qB)):Bool->qC->Option qT
 |true,(.val .ref (some (i,0)),_)=>a0Y i (qE H i)
 |_,_=>none
@[go_sem] def vB (T:sV) (Γ:uH) (ty:TypeId) (ρ:Operand->qC) (base:Nat) (H:List (Nat×qB)):Op->Option qT
 | .move x| .assign x=>a0r base (rZ T ty) (ρ x)
 | .alloc e=>QS base e (rZ T e)
 | .box e x=>a0w base e (rZ T e) (ρ x)
 | .build t ps=>a0z (vA ρ ps.toList) (rZ T t)
 | .buildSlice t n ps=>a0A base n (vA ρ ps.toList) (rZ T t)
 | .load t a=>VN H (rZ T t) (ρ a)
 | .store t a x=>VT base H (rZ T t) (ρ a) (NE (rZ T t) (ρ x))
 | .nilCheck x=>a0K (ρ x)
 | .binOp op t x y _=>B2 (a0i (V0 op (rZ T t) (ρ x) (ρ y)) (a0i (UZ op (ρ x) (ρ y)) (a0h (rZ T t) op (ρ x) (ρ y))))
 | .unOp op _ x=>B2 (a0j op (ρ x))
 | .convert src dst x=>B2 (a0i (V2 (rZ T src) (rZ T dst) (ρ x)) (a0k T (rZ T src) (rZ T dst) (ρ x)))
 | .makeFunc (.func f) first caps=>aLD f (L1 (wD ρ caps.toList)) first.toList
 | .slice t x lo hi none=>B2 (a0l (rZ T t) (ρ x) (A2 ρ lo) (A2 ρ hi))
 | .fieldAddr t x f=>a0L f (rZ T t) (ρ x)
 | .field t x f=>a0M f (rZ T t) (ρ x)
 | .indexAddr t x ix=>a0N (rZ T t) (ρ x) (ρ ix)
 | .index t x ix=>a0O (rZ T t) (ρ x) (ρ ix)
 | .extract x i=>a0P i (ρ x)
 | .makeMap t r=>a0U T base (rZ T t) r
 | .range t x=>a0X base (rZ T t) (ρ x)
 | .next x b=>WD H b (ρ x)
 | .lookup t x i ok=>WA T H ok (rZ T t) (ρ x) (ρ i)
 | .mapUpdate t m k x=>NP T H (rZ T t) (ρ m) (ρ k) (WC T (rZ T t) (ρ x))
 | .insert t m k x=>NP T H (rZ T t) (ρ m) (ρ k) (WC T (rZ T t) (ρ x))
 | .call c=>LE T Γ ρ base H c.args c.argTypes c.callee
 |_=>none
@[go_sem] def yI:qC->qC
 |(.cond _ d,_)=>(d,none)
 |s=>s
@[go_sem] def zN (G:Bool):List qC->List Prop
 |[]=>[]
 |(.cond p _,_)::r=>(G=true->p=true)::zN G r
 |_::r=>zN G r
@[go_sem] def aB8 (b:Bool):qC->Option Bool
 |(.val .bool c,_)=>some (c==b)
 |(.cond p (.val .bool c),_)=>some (p&&(c==b))
 |_=>none
@[go_sem] def AJ:List Oper->Nat->Option Tmp
 |[],_=>none
 |o::_,0=>o.dst
 |_::r,n+1=>AJ r n
@[go_sem] def HB (env:List (Nat×qC)) (b:Bool):Option Tmp->Option Bool
 |some t=>aB8 b (lk env t)
 |none=>none
@[go_sem] def aB9 (b:Bool):qC->Bool
 |(.val .bool c,_)=>c==b
 |(.cond p (.val .bool c),_)=>p&&(c==b)
 |(.cond p .any,_)=>p
 |_=>true
@[go_sem] def LF (env:List (Nat×qC)) (b:Bool):Option Tmp->Bool
 |some t=>aB9 b (lk env t)
 |none=>true
@[go_sem] def WE (j:Nat) (b:Bool):Nat:=1000000000+(2*j+if b=true then 1 else 0)
@[go_sem] theorem aTp (x y:Bool):cond x y false=(x&&y):=by cases x<;>rfl
@[go_sem] theorem aTq (x y:Bool):cond x true y=(x||y):=by cases x<;>rfl
@[go_sem] def aCa (x:Bool):qC->qC->Option qT
 |(.val .bool y,_),(.val .bool z,_)=>some ⟨[],(.val .bool (cond x y z),none),[],[]⟩
 |(.cond p (.val .bool y),_),(.val .bool z,_)=>some ⟨[x=true->p=true],(.val .bool (cond x y z),none),[],[]⟩
 |(.val .bool y,_),(.cond p (.val .bool z),_)=>some ⟨[x=false->p=true],(.val .bool (cond x y z),none),[],[]⟩
 |(.cond q (.val .bool y),_),(.cond p (.val .bool z),_)=>some ⟨[x=true->q=true,x=false->p=true],(.val .bool (cond x y z),none),[],[]⟩
 |(.val .bool y,_),(.cond _ .any,_)=>some ⟨[x=true],(.val .bool y,none),[],[]⟩
 |(.cond q (.val .bool y),_),(.cond _ .any,_)=>some ⟨[x=true,q=true],(.val .bool y,none),[],[]⟩
 |(.cond _ .any,_),(.val .bool z,_)=>some ⟨[x=false],(.val .bool z,none),[],[]⟩
 |(.cond _ .any,_),(.cond p (.val .bool z),_)=>some ⟨[x=false,p=true],(.val .bool z,none),[],[]⟩
 |_,_=>none
@[go_sem] def QW:qC->qC->qC->Option qT
 |(.val .bool x,_),a,b=>aCa x a b
 |_,_,_=>none
@[go_sem] def sR:Op->List Operand
 | .move x| .assign x| .box _ x| .load _ x| .nilCheck x| .unOp _ _ x| .convert _ _ x| .fieldAddr _ x _| .field _ x _| .extract x _=>[x]
 | .build _ ps| .buildSlice _ _ ps=>parts ps.toList
 | .store _ a v| .binOp _ _ a v _| .indexAddr _ a v| .index _ a v=>[a,v]
 | .lookup _ a v _=>[a,v]
 | .range _ x| .next x _=>[x]
 | .mapUpdate _ m k x=>[m,k,x]
 | .insert _ m k x=>[m,k,x]
 | .makeFunc _ _ caps=>caps.toList
 | .slice _ x l h _=>x::qY (opt l) (opt h)
 | .call ⟨.value f,args,_⟩=>f::args.toList
 | .call ⟨_,args,_⟩=>args.toList
 |_=>[]
where
 parts:List (Nat×Operand)->List Operand
  |[]=>[]
  |(_,x)::r=>x::parts r
 opt:Option Operand->List Operand
  |some x=>[x]
  |none=>[]
attribute [go_sem] sR.parts sR.opt
@[go_sem] def NQ (l:List Prop):Option qT->Option qT
 |some e=>some ⟨qY l e.side,e.slot,e.upd,e.rds⟩
 |none=>none
@[go_sem] def QX (G:Bool):List Prop->List Prop
 |[]=>[]
 |p::r=>(G=true->p)::QX G r
@[go_sem] def J3 (G:Bool) (l:List Prop):Option qT->Option qT
 |some ⟨side,(d,_),[],rds⟩=>some ⟨qY l (QX G side),(.cond G d,none),[],rds⟩
 |some ⟨side,s,u::us,rds⟩=>some ⟨(G=true)::qY l (QX G side),s,u::us,rds⟩
 |none=>none
@[go_sem] def CL (env:List (Nat×qC)):List Operand->List qC
 |[]=>[]
 |x::r=>uO env x::CL env r
@[go_sem] def NR (T:sV) (Γ:uH) (o:Oper) (s:St):Option Bool->Op->Option qT
 |some G,.pick c a b=>J3 G (zN G [uO s.env c]) (QW (yI (uO s.env c)) (uO s.env a) (uO s.env b))
 |some G,op=>J3 G (zN G (CL s.env (sR op))) (vB T Γ o.type (fun x=>yI (uO s.env x)) s.nb s.H op)
 |none,_=>none
@[go_sem] def aCb:Op->Bool
 | .defer _=>true
 |_=>false
@[go_sem] def aCc (up:Bool):Bool->Option qT
 |true=>none
 |false=>some ⟨[up=false],(.cond false .any,none),[],[]⟩
@[go_sem] def QY (T:sV) (Γ:uH) (o:Oper) (s:St) (up:Bool) (g:Option Bool) (op:Op):Option qW->Option qT
 |some _=>aCc up (aCb op)
 |none=>NR T Γ o s g op
@[go_sem] def NS (T:sV) (Γ:uH) (o:Oper) (s:St):Op->Option qT
 | .pick c a b=>QW (uO s.env c) (uO s.env a) (uO s.env b)
 |op=>NQ (zN true (CL s.env (sR op))) (vB T Γ o.type (fun x=>yI (uO s.env x)) s.nb s.H op)
@[go_sem] def J4 (np:Nat):List (Nat×qB)->Bool
 |[]=>true
 |(i,.cells _ _ _)::r=>if np<=i then J4 np r else false
 |_::r=>J4 np r
@[go_sem] def aCd (np:Nat) (e:qT):Bool->Option qT
 |true=>if J4 np e.upd=true then some e else none
 |false=>some e
@[go_sem] def a0Z (np:Nat):Option qT->Option qT
 |some e=>aCd np e (IX e.rds)
 |none=>none
@[go_sem] def NT (T:sV) (Γ:uH) (ops:List Oper) (o:Oper) (s:St):Option qT:=
 match o.guard with
 |none=>NS T Γ o s o.op
 |some (j,b)=>QY T Γ o s (LF s.env b (AJ ops j)) (HB s.env b (AJ ops j)) o.op (Γ (WE j b))
@[go_sem] def zF (T:sV) (Γ:uH) (ops:List Oper) (o:Oper) (s:St):Option qT:=a0Z s.np (NT T Γ ops o s)
@[go_sem] def uI:Option Tmp->qC->List (Nat×qC)->List (Nat×qC)
 |some d,s,env=>(d,s)::env
 |none,_,env=>env
structure w9 where
 s:St
 side:List Prop
 es:List qT
@[go_sem] def J5 (N:Nat):Option Tmp->Bool
 |some d=>decide (d<N)
 |none=>true
@[go_sem] def J6 (n:Nat):List (Nat×qB)->Bool
 |[]=>true
 |(i,_)::r=>decide (i<n)&&J6 n r
@[go_sem] def CM (i:Nat):pQ->Bool
 |[]=>false
 |j::r=>if j=i then CD i r else CM i r
@[go_sem] def LG (H U:List (Nat×qB)) (rds:pQ):List (Nat×qB)->List Prop
 |[]=>[]
 |(i,_)::r=>if CM i rds=true then(qE U i=qE H i)::LG H U rds r else LG H U rds r
@[go_sem] def J7 (rds:pQ):List (Nat×qB)->List (Nat×qB)
 |[]=>[]
 |(i,b)::r=>if CM i rds=true then J7 rds r else(i,b)::J7 rds r
@[go_sem] def xO (e:qT):List (Nat×qB):=J7 e.rds e.upd
@[go_sem] def WF (o:Oper) (a:w9):Option qT->Option w9
 |some e=>if (J5 a.s.N o.dst&&J6 (a.s.nb+32) e.upd)=true then some ⟨⟨uI o.dst e.slot a.s.env,qY e.upd a.s.H,a.s.nb+32,a.s.N,a.s.np⟩,qY a.side (qY (LG a.s.H e.upd e.rds e.upd) e.side),e::a.es⟩ else none
 |none=>none
@[go_sem] def vC (T:sV) (Γ:uH) (ops:List Oper):List Oper->Option w9->Option w9
 |[],a=>a
 |o::r,some a=>vC T Γ ops r (WF o a (zF T Γ ops o a.s))
 |_::_,none=>none
@[go_sem] def QZ:List (Nat×qB)->pQ->Bool
 |[],_=>false
 |(i,_)::r,l=>l.contains i||QZ r l
@[go_sem] def HC (a b:qT):Bool:= !QZ (xO a) (qY b.rds (qH b.upd))&& !QZ (xO b) a.rds
def LH (lo:Nat):List (Nat×qB)->Bool
 |[]=>true
 |(i,_)::r=>(decide (i<lo)||decide (lo+32<=i))&&LH lo r
def WG (i0 j0:Nat) (ops:Array Oper) (bs:pQ) (nb i:Nat) (o:Oper) (e:qT):List Oper->List qT->Nat->Bool
 |p::ps,f::fs,j=>((bs.getD j 0).testBit i||(o.apart ops p&&(HC e f||(decide (i=i0)&&decide (j=j0)))&&LH (nb+32*i) f.upd))&&WG i0 j0 ops bs nb i o e ps fs (j+1)
 |_,_,_=>true
def WH (i0 j0:Nat) (ops:Array Oper) (bs:pQ) (nb:Nat):List Oper->List qT->Nat->Bool
 |o::os,e::es,i=>WG i0 j0 ops bs nb i o e os es (i+1)&&WH i0 j0 ops bs nb os es (i+1)
 |_,_,_=>true
def WI:List Oper->Nat->Bool
 |[],_=>true
 |o::r,i=>o.after.toList.all (fun e=> !Region.binds .any e||decide (e.on<i))&&WI r (i+1)
def NU (i0 j0:Nat) (ops:Array Oper) (nb:Nat) (es:List qT):Bool:=WI ops.toList 0&&WH i0 j0 ops (Region.before ops).toList nb ops.toList es 0
def LI (ops:Array Oper) (nb:Nat) (es:List qT):Bool:=NU ops.size 0 ops nb es
@[go_sem] def aCe (ops:Array Oper) (nb:Nat):Option w9->Option w9
 |some a=>if LI ops nb a.es.reverse then some a else none
 |none=>none
@[go_sem] def R0 (T:sV) (Γ:uH) (ops:Array Oper) (s:St):Bool->Option w9
 |true=>aCe ops s.nb (vC T Γ ops.toList ops.toList (some ⟨s,[],[]⟩))
 |false=>vC T Γ ops.toList ops.toList (some ⟨s,[],[]⟩)
inductive Ex where
 |normal|exit (id:Nat) |ret
structure wV where
 slots:pQ
 ids:pL:=[]
@[go_sem] def xP:pL->Nat->pP
 |[],_=>none
 |(n,o)::r,k=>if o=k then some n else xP r k
@[go_sem] def aCf (m:pL):pO->pO
 |some (i,o)=>(xP m i).map fun j=>(j,o)
 |none=>none
@[go_sem] def CN (m:pL):pL->Option pL
 |[]=>some []
 |(i,o)::r=>renCons (xP m i) o (CN m r)
where
 renCons:pP->Nat->Option pL->Option pL
  |some j,o,some r=>some ((j,o)::r)
  |_,_,_=>none
attribute [go_sem] CN.renCons
@[go_sem] def aCg (m:pL):pP->pP
 |some k=>xP m k
 |none=>none
@[go_sem] def aLH (n:Nat):pP->qC
 |some k=>(.own k n,none)
 |none=>(.any,none)
@[go_sem] def aCh (m:pL):Option (Nat×pL)->Option (Option (Nat×pL))
 |none=>some none
 |some (f,l)=>(CN m l).map fun l'=>some (f,l')
@[go_sem] def WJ (m:pL):pO->Option pO
 |none=>some none
 |some (i,o)=>(xP m i).map fun j=>some (j,o)
@[go_sem] def aCi (m:pL):pP->Option pP
 |none=>some none
 |some i=>(xP m i).map some
@[go_sem] def aCj (m:pL):pO->Option pO
 |none=>some none
 |some (k,n)=>(xP m k).map fun j=>some (j,n)
@[go_sem] def A3 (m:pL):(t:Ty)->t.den->Option t.den
 | .ref,x=>WJ m x
 | .clo,x=>aCh m x
 | .mp,x=>aCi m x
 | .pair a b,x=>L4 (if a.pure=true then some x.1 else A3 m a x.1) (if b.pure=true then some x.2 else A3 m b x.2)
 | .list t,x=>if t.pure=true then some x else none
 | .bool,x=>some x
 | .int _,x=>some x
 | .str,x=>some x
 | .unit,x=>some x
 | .rl _ _,x=>aCj m x
 | .fn,x=>some x
 | .mref,x=>WJ m x
@[go_sem] def AK (m:pL):qC->qC
 |(.own k n,_)=>aLH n (xP m k)
 |(.val .ref none,_)=>(.val .ref none,none)
 |(.val .ref (some p),_)=>refSlot (aCf m (some p))
 |(.val .clo (some (f,l)),_)=>cloSlot f (CN m l)
 |(.val .mp (some i),_)=>mpSlot (xP m i)
 |(.val t x,k)=>if t.pure then(.val t x,aCg m (FQ t k)) else valSlot t (A3 m t x)
 |(.at t x,_)=>if t.pure then(.at t x,none) else(.any,none)
 |(.nilS,_)=>(.nilS,none)
 |_=>(.any,none)
where
 refSlot:pO->qC
  |some p=>(.val .ref (some p),none)
  |none=>(.any,none)
 cloSlot (f:Nat):Option pL->qC
  |some l=>(.val .clo (some (f,l)),none)
  |none=>(.any,none)
 valSlot (t:Ty):Option t.den->qC
  |some y=>(.val t y,none)
  |none=>(.any,none)
 mpSlot:pP->qC
  |some j=>(.val .mp (some j),none)
  |none=>(.any,none)
attribute [go_sem] AK.refSlot AK.cloSlot AK.mpSlot AK.valSlot
@[go_sem] def WK (q j:Nat):pL->pL
 |[]=>[(q,j)]
 |(a,b)::r=>if q<=a then(q,j)::(a,b)::r else(a,b)::WK q j r
@[go_sem] def LJ (m:pL):pL->pL
 |[]=>[]
 |(q,k)::r=>renTok1 q (xP m k) (LJ m r)
where
 renTok1 (q:Nat):pP->pL->pL
  |some j,r=>WK q j r
  |none,r=>r
attribute [go_sem] LJ.renTok1
@[go_sem] def a00 (t:Ty) (toks:pL):Option t.den->qB
 |some y=> .cells t y toks
 |none=> .dead
@[go_sem] def J8 (m:pL):Option qB->qB
 |some (.cells t x toks)=>if t.pure then .cells t x (LJ m toks) else a00 t (LJ m toks) (A3 m t x)
 |some (.grow e c n)=> .grow e c n
 |some (.row e t l n)=>if t.pure then .row e t l n else .dead
 |some (.map k v l)=>if k.pure&&v.pure then .map k v l else .dead
 |some (.iter s p)=> .iter s p
 |_=> .dead
@[go_sem] def R1 (m:pL) (env:List (Nat×qC)):pQ->List (Nat×qC)
 |[]=>[]
 |t::r=>(t,AK m (lk env t))::R1 m env r
@[go_sem] def WL (m:pL) (H:List (Nat×qB)):pL->List (Nat×qB)
 |[]=>[]
 |(n,o)::r=>(n,J8 m (qE H o))::WL m H r
@[go_sem] def WM:pL->Nat
 |[]=>0
 |(n,_)::r=>max (n+1) (WM r)
@[go_sem] def NV (n o:Nat):pL->Bool
 |[]=>false
 |(n',o')::r=>decide (n'=n)||decide (o'=o)||NV n o r
@[go_sem] def xQ (np:Nat):pL->Bool
 |[]=>true
 |(n,o)::r=>(decide (np<=n)||decide (n=o))&& !NV n o r&&xQ np r
@[go_sem] def R2 (s:St) (k:wV):Bool->St
 |true=>⟨R1 k.ids s.env k.slots,WL k.ids s.H k.ids,max s.np (WM k.ids),s.N,s.np⟩
 |false=>⟨[],[],s.nb,s.N,s.np⟩
@[go_sem] def St.keep (s:St) (k:wV):St:=R2 s k (xQ s.np k.ids)
@[go_sem] def r8:List Prop->Prop
 |[]=>True
 |[p]=>p
 |p::q::r=>p/\r8 (q::r)
@[go_sem] def aCk (Q:Ex->St->Prop):Option w9->Prop
 |some a=>r8 a.side/\Q .normal a.s
 |none=>False
@[go_sem] def aCl (A B:Prop):qC->Prop
 |(.val .bool x,_)=>(x=true->A)/\(x=false->B)
 |(.flag p q,_)=>(p->A)/\(q->B)
 |_=>False
@[go_sem] def R3 (f:St->Prop) (Q:Ex->St->Prop):Ex->St->Prop
 | .normal,s=>f s
 | .exit j,s=>Q (.exit j) s
 | .ret,s=>Q .ret s
@[go_sem] def J9 (id:Nat) (Q:Ex->St->Prop):Ex->St->Prop
 | .normal,s=>Q .normal s
 | .exit j,s=>if j=id then Q .normal s else Q (.exit j) s
 | .ret,s=>Q .ret s
@[go_sem] def aLI (I:St->Prop) (μ:St->Nat) (m:Nat) (Q:Ex->St->Prop):Ex->St->Prop
 | .normal,s=> ∃k:wV,I (s.keep k)/\μ (s.keep k)<m
 | .exit j,s=>Q (.exit j) s
 | .ret,s=>Q .ret s
def x9 (T:sV) (Γ:uH):Code->St->(Ex->St->Prop)->Prop
 | .skip,s,Q=>Q .normal s
 | .label _,s,Q=>Q .normal s
 | .region _ ops draw,s,Q=>aCk Q (R0 T Γ ops s draw)
 | .seq a b,s,Q=>x9 T Γ a s (R3 (fun s'=>x9 T Γ b s' Q) Q)
 | .cond c a b,s,Q=>aCl (x9 T Γ a s Q) (x9 T Γ b s Q) (uO s.env c)
 | .block id c,s,Q=>x9 T Γ c s (J9 id Q)
 | .loop c,s,Q=> ∃(k:wV) (I:St->Prop) (μ:St->Nat),I (s.keep k)/\∀s,I s->x9 T Γ c s (aLI I μ (μ s) Q)
 | .exit id,s,Q=>Q (.exit id) s
 | .ret,s,Q=>Q .ret s
 |_,_,_=>False
attribute [go_sem] Ty.list.injEq Ty.pair.injEq Ty.int.injEq
section
variable {T:sV}{Γ:uH}{s:St}{Q:Ex->St->Prop}
theorem aLJ {id:Nat}{ops:Array Oper}{a:w9}(h:vC T Γ ops.toList ops.toList (some ⟨s,[],[]⟩)=some a) (hp:r8 a.side) (hq:Q .normal a.s):x9 T Γ (.region id ops false) s Q:=by
 unfold x9 R0;rw[h];exact⟨hp,hq⟩
theorem aLK {id:Nat}{ops:Array Oper}{a:w9}(h:vC T Γ ops.toList ops.toList (some ⟨s,[],[]⟩)=some a) (hf:LI ops s.nb a.es.reverse=true) (hp:r8 a.side) (hq:Q .normal a.s):x9 T Γ (.region id ops true) s Q:=by
 unfold x9 R0;rw[h];show aCk Q (if LI ops s.nb a.es.reverse=true then some a else none);rw[aVs hf];exact⟨hp,hq⟩
end
end Go.Proofs.YtkpflnijijccpaaGreatDoor.Vc
namespace Go.Proofs.YtkpflnijijccpaaGreatDoor.Vc
open Go.RowKit
abbrev sE:=List (Nat×qB)
structure Pl where
 b:Nat
 o:Nat
 k:Option (TypeId×Nat):=none
structure Gh where
 S:Nat->Nat->Prop
 J:Nat->Option Pl
 cur:Nat->Nat->Option pS
def zG {α:Type}(R:α->pN->Prop) (w:pR) (S:Nat->Nat->Prop) (c b:Nat):Nat->List α->Prop
 |_,[]=>True
 |o,x::xs=>(∃cs,cs.length=c/\w.rangeAt b o cs/\(∀j,j<c->S b (o+j))/\R x cs)/\zG R w S c b (o+c) xs
def yU (g:Gh):pL->pN->Prop
 |[],vs=>vs=[]
 |(i,o)::l,vs=> ∃p vs',g.J i=some p/\vs= .pointer (some ⟨p.1,p.2+o,none⟩)::vs'/\yU g l vs'
def R4 (g:Gh):pO->pN->Prop
 |none,cs=>cs=[.pointer none]
 |some (i,o),cs=> ∃p,g.J i=some p/\cs=[.pointer (some ⟨p.1,p.2+o,none⟩)]
def R5 (g:Gh):Option (Nat×pL)->pN->Prop
 |none,cs=>cs=[.nilFunc]
 |some (f,l),cs=> ∃vs,yU g l vs/\cs=[.func (.func f) #[] vs.toArray]
def LK (g:Gh):pP->pN->Prop
 |none,cs=>cs=[.map none]
 |some i,cs=> ∃p,g.J i=some p/\cs=[.map (some p.1)]
def a01 (k:Option (TypeId×Nat)) (o:Nat):Prop:=o=0/\∃e,a0s e=true/\k=some (e,2)
def FV (g:Gh):pO->pN->Prop
 |none,cs=>cs=[.slice none 0 0]
 |some (k,n),cs=> ∃v,g.cur k n=some v/\cs=[v]/\((v= .slice none 0 0/\n=0)\/∃b cap,v= .slice (some ⟨b,0,none⟩) n cap/\n<=cap)
def R6 (g:Gh):pO->pN->Prop
 |none,cs=>cs=[.pointer none]
 |some (i,o),cs=> ∃p,g.J i=some p/\a01 p.3 (p.2+o)/\(cs=[.pointer none]\/cs=[.pointer (some ⟨p.1,p.2+o,none⟩)])
def aCm:pP->pN->Prop
 |none,cs=>cs=[.nilFunc]
 |some f,cs=>cs=[.func (.func f) #[] #[]]
def Rd (g:Gh) (w:pR):(t:Ty)->t.den->pN->Prop
 | .bool,x,cs=>cs=[.bool x]
 | .int k,n,cs=>cs=[.int k n]
 | .str,l,cs=>cs=[.string ⟨List.toArray l⟩]
 | .list t,l,cs=> ∃a cap,cs=[.slice a (List.length l) cap]/\List.length l<=cap/\(l=[]\/∃b o,a=some ⟨b,o,none⟩/\zG (Rd g w t) w g.S t.cells b o l)
 | .unit,_,cs=>cs=[]
 | .pair s t,x,cs=> ∃c1 c2,cs=c1++c2/\Rd g w s x.1 c1/\Rd g w t x.2 c2
 | .ref,x,cs=>R4 g x cs
 | .clo,x,cs=>R5 g x cs
 | .mp,x,cs=>LK g x cs
 | .rl _ _,x,cs=>FV g x cs
 | .fn,x,cs=>aCm x cs
 | .mref,x,cs=>R6 g x cs
def tX (g:Gh) (w:pR) (t:Ty) (x:t.den) (v:pS):Prop:=
 (t.isRow=true/\∃cs:pN,v= .agg cs.toArray/\Rd g w t x cs)\/(t.isRow=false/\Rd g w t x [v])
def yJ (k:Nat):Ty->Nat->pN->Prop
 | .list _,o,cs=>o+1=k\/cs=[.slice none 0 0]
 | .pair a b,o,cs=> ∃c1 c2,cs=c1++c2/\c1.length=a.cells/\yJ k a o c1/\yJ k b (o+a.cells) c2
 |_,_,_=>True
def DD (g:Gh) (t:Ty) (x:t.den) (v:pS):pP->Prop
 |none=>True
 |some k=>match t,x with
  | .list _,l=>g.cur k (List.length l)=some v
  | .pair a b,_=>yJ k (.pair a b) 0 v.cells.toList
  |_,_=>False
def NW (g:Gh) (w:pR):List ((Σ t:Ty,t.den)×pP)->pN->Prop
 |[],vs=>vs=[]
 |(⟨t,x⟩,k)::l,vs=> ∃v vs',vs=v::vs'/\tX g w t x v/\DD g t x v k/\NW g w l vs'
def AL (g:Gh) (w:pR):DV->pS->Prop
 | .any,_=>True
 | .nilS,v=>v= .slice none 0 0
 | .val t x,v=>tX g w t x v
 | .at t x,v=> ∃b o cs,v= .pointer (some ⟨b,o,none⟩)/\w.rangeAt b o cs/\(∀j,j<t.cells->g.S b (o+j))/\Rd g w t x cs
 | .tup l,v=> ∃vs:pN,v= .tuple vs.toArray/\NW g w l vs
 | .cond p d,v=>(p=true->AL g w d v)/\(p=false->v=undef)
 | .flag p q,v=> ∃b,v= .bool b/\(b=true->p)/\(b=false->q)
 | .own k n,v=>g.cur k n=some v/\((v= .slice none 0 0/\n=0)\/∃b cap,v= .slice (some ⟨b,0,none⟩) n cap/\n<=cap)
 | .nxt b p c,v=>(b=true->v= .tuple #[.bool true,.int .i64 p,.int .i32 c])/\(b=false->v= .tuple #[.bool false])
 | .elt k n c i o,v=> ∃b cap,g.cur k n=some (.slice (some ⟨b,0,none⟩) n cap)/\0<=i/\i<(n:Int)/\v= .pointer (some ⟨b,i.toNat*c+o,none⟩)
def rX (g:Gh) (w:pR) (s:qC) (v:pS):Prop:=
 AL g w s.1 v/\match s with
  |(_,none)=>True
  |(.val t x,some k)=>DD g t x v (some k)
  |(_,some _)=>False
structure Le (g:Gh) (w:pR) (g':Gh) (w':pR):Prop where
 S: ∀b o,g.S b o->g'.S b o
 cell: ∀b o,g.S b o->w'.cell? ⟨b,o,none⟩=w.cell? ⟨b,o,none⟩
 J: ∀i p,g.J i=some p->g'.J i=some p
 cur: ∀k n v,g.cur k n=some v->g'.cur k n=some v
theorem Le.refl (g:Gh) (w:pR):Le g w g w:=⟨fun _ _ h=>h,fun _ _ _=>rfl,fun _ _ h=>h,fun _ _ _ h=>h⟩
theorem Le.trans {g g' g'':Gh}{w w' w'':pR}(h:Le g w g' w') (k:Le g' w' g'' w''):Le g w g'' w'':=
 ⟨fun b o x=>k.S b o (h.S b o x),fun b o x=>(k.cell b o (h.S b o x)).trans (h.cell b o x),fun i p x=>k.J i p (h.J i p x),fun i n v x=>k.cur i n v (h.cur i n v x)⟩
theorem a02 {g g':Gh}(hJ: ∀i p,g.J i=some p->g'.J i=some p): ∀{l:pL}{vs:pN},yU g l vs->yU g' l vs
 |[],_,h=>h
 |(_,_)::_,_,⟨p,vs',h1,h2,h3⟩=>⟨p,vs',hJ _ _ h1,h2,a02 hJ h3⟩
theorem aLL {g g':Gh}(hJ: ∀i p,g.J i=some p->g'.J i=some p): ∀{x:pO}{cs:pN},R4 g x cs->R4 g' x cs
 |none,_,h=>h
 |some (_,_),_,⟨p,h1,h2⟩=>⟨p,hJ _ _ h1,h2⟩
theorem aLM {g g':Gh}(hJ: ∀i p,g.J i=some p->g'.J i=some p): ∀{x:Option (Nat×pL)}{cs:pN},R5 g x cs->R5 g' x cs
 |none,_,h=>h
 |some (_,_),_,⟨vs,h1,h2⟩=>⟨vs,a02 hJ h1,h2⟩
theorem aLN {g g':Gh}(hJ: ∀i p,g.J i=some p->g'.J i=some p): ∀{x:pP}{cs:pN},LK g x cs->LK g' x cs
 |none,_,h=>h
 |some _,_,⟨p,h1,h2⟩=>⟨p,hJ _ _ h1,h2⟩
theorem aLO {g g':Gh}(hc: ∀k n v,g.cur k n=some v->g'.cur k n=some v): ∀{x:pO}{cs:pN},FV g x cs->FV g' x cs
 |none,_,h=>h
 |some (_,_),_,⟨v,h1,h2⟩=>⟨v,hc _ _ _ h1,h2⟩
theorem aLP {g g':Gh}(hJ: ∀i p,g.J i=some p->g'.J i=some p): ∀{x:pO}{cs:pN},R6 g x cs->R6 g' x cs
 |none,_,h=>h
 |some (_,_),_,⟨p,h1,h2⟩=>⟨p,hJ _ _ h1,h2⟩
theorem a03 {α:Type}{R R':α->pN->Prop}{w w':pR}{S S':Nat->Nat->Prop}{c b:Nat}(hR: ∀x cs,R x cs->R' x cs) (hS: ∀o,S b o->S' b o)
  (hc: ∀o,S b o->w'.cell? ⟨b,o,none⟩=w.cell? ⟨b,o,none⟩): ∀{l:List α}{o:Nat},zG R w S c b o l->zG R' w' S' c b o l
 |[],_,_=>trivial
 |_::_,o,⟨⟨cs,h1,h2,h3,h4⟩,h5⟩=>⟨⟨cs,h1,fun j v hv=>by
   have hj:j<c:=h1▸(aVK.1 hv).1;rw[hc _ (h3 j hj)];exact h2 j v hv,fun j hj=>hS _ (h3 j hj),hR _ _ h4⟩,a03 hR hS hc h5⟩
theorem xZ {g g':Gh}{w w':pR}(h:Le g w g' w'): ∀{t:Ty}{x:t.den}{cs:pN},Rd g w t x cs->Rd g' w' t x cs
 | .bool,_,_,r=>r
 | .int _,_,_,r=>r
 | .str,_,_,r=>r
 | .unit,_,_,r=>r
 | .ref,_,_,r=>aLL h.J r
 | .clo,_,_,r=>aLM h.J r
 | .mp,_,_,r=>aLN h.J r
 | .rl _ _,_,_,r=>aLO h.cur r
 | .fn,_,_,r=>r
 | .mref,_,_,r=>aLP h.J r
 | .pair _ _,_,_,⟨c1,c2,e,r1,r2⟩=>⟨c1,c2,e,xZ h r1,xZ h r2⟩
 | .list _,_,_,⟨a,cap,e,hle,hl⟩=>⟨a,cap,e,hle,hl.imp id fun⟨b,o,ea,hr⟩=>⟨b,o,ea,a03 (fun _ _=>xZ h) (fun _=>h.S _ _) (fun _=>h.cell _ _) hr⟩⟩
theorem t7 {g:Gh}{w:pR}: ∀{t:Ty}{x:t.den}{cs:pN},Rd g w t x cs->cs.length=t.cells
 | .bool,_,_,r=>by cases r;rfl
 | .int _,_,_,r=>by cases r;rfl
 | .str,_,_,r=>by cases r;rfl
 | .unit,_,_,r=>by cases r;rfl
 | .ref,none,_,r=>by cases r;rfl
 | .ref,some (_,_),_,⟨_,_,e⟩=>by cases e;rfl
 | .clo,none,_,r=>by cases r;rfl
 | .clo,some (_,_),_,⟨_,_,e⟩=>by cases e;rfl
 | .mp,none,_,r=>by cases r;rfl
 | .mp,some _,_,⟨_,_,e⟩=>by cases e;rfl
 | .fn,none,_,r=>by cases r;rfl
 | .fn,some _,_,r=>by cases r;rfl
 | .rl _ _,none,_,r=>by cases r;rfl
 | .rl _ _,some (_,_),_,⟨_,_,e,_⟩=>by cases e;rfl
 | .mref,none,_,r=>by cases r;rfl
 | .mref,some (_,_),_,⟨_,_,_,e⟩=>by rcases e with e|e<;>(cases e;rfl)
 | .pair _ _,_,_,⟨c1,c2,e,r1,r2⟩=>by rw[e,aVu,t7 r1,t7 r2];rfl
 | .list _,_,_,⟨_,_,e,_,_⟩=>by cases e;rfl
theorem WN {g g':Gh}{w w':pR}(h:Le g w g' w') {t:Ty}{x:t.den}{v:pS}(r:tX g w t x v):tX g' w' t x v:=
 r.imp (fun⟨a,cs,e,q⟩=>⟨a,cs,e,xZ h q⟩) (fun⟨a,q⟩=>⟨a,xZ h q⟩)
theorem aCn {g g':Gh}{w w':pR}(h:Le g w g' w') {t:Ty}{x:t.den}{v:pS}{k:pP}(r:DD g t x v k):DD g' t x v k:=by
 cases k with
 |none=>trivial
 |some k=>
  cases t with
  |list u=>exact h.cur _ _ _ r
  |pair a b=>exact r
  |_=>exact r.elim
theorem aCo {g g':Gh}{w w':pR}(h:Le g w g' w'): ∀{l:List ((Σ t:Ty,t.den)×pP)}{vs:pN},NW g w l vs->NW g' w' l vs
 |[],_,r=>r
 |(⟨_,_⟩,_)::_,_,⟨v,vs',e,r1,r2,r3⟩=>⟨v,vs',e,WN h r1,aCn h r2,aCo h r3⟩
theorem aCp {g g':Gh}{w w':pR}(h:Le g w g' w'): ∀{d:DV}{v:pS},AL g w d v->AL g' w' d v
 | .any,_,r=>r
 | .nilS,_,r=>r
 | .val _ _,_,r=>WN h r
 | .at t _,_,⟨b,o,cs,e,h1,h2,h3⟩=>⟨b,o,cs,e,fun j v hv=>by
   by_cases hj:j<t.cells
   .rw[h.cell _ _ (h2 j hj)];exact h1 j v hv
   .exact absurd (aVK.1 hv).1 (by rw[t7 h3];exact hj),fun j hj=>h.S _ _ (h2 j hj),xZ h h3⟩
 | .tup _,_,⟨vs,e,r⟩=>⟨vs,e,aCo h r⟩
 | .cond _ _,_,⟨r1,r2⟩=>⟨fun p=>aCp h (r1 p),r2⟩
 | .flag _ _,_,r=>r
 | .own _ _,_,⟨h1,h2⟩=>⟨h.cur _ _ _ h1,h2⟩
 | .nxt _ _ _,_,r=>r
 | .elt _ _ _ _ _,_,⟨b,cap,h1,h2⟩=>⟨b,cap,h.cur _ _ _ h1,h2⟩
theorem DE {g g':Gh}{w w':pR}(h:Le g w g' w') {s:qC}{v:pS}(r:rX g w s v):rX g' w' s v:=by
 obtain⟨d,k⟩:=s;refine⟨aCp h r.1,?_⟩;have r2:=r.2;cases k with
 |none=>trivial
 |some k=>
  cases d with
  |val t x=>exact aCn h r2
  |_=>exact r2.elim
theorem B8 {g:Gh}{w:pR}: ∀{t:Ty}{x:t.den}{cs:pN},Rd g w t x cs->∀v∈cs,v.oneCell'=true
 | .bool,_,_,r=>by cases r;intro v hv;simp at hv;subst hv;rfl
 | .int _,_,_,r=>by cases r;intro v hv;simp at hv;subst hv;rfl
 | .str,_,_,r=>by cases r;intro v hv;simp at hv;subst hv;rfl
 | .unit,_,_,r=>by cases r;intro v hv;simp at hv
 | .ref,none,_,r=>by cases r;intro v hv;simp at hv;subst hv;rfl
 | .ref,some (_,_),_,⟨_,_,e⟩=>by cases e;intro v hv;simp at hv;subst hv;rfl
 | .clo,none,_,r=>by cases r;intro v hv;simp at hv;subst hv;rfl
 | .clo,some (_,_),_,⟨_,_,e⟩=>by cases e;intro v hv;simp at hv;subst hv;rfl
 | .mp,none,_,r=>by cases r;intro v hv;simp at hv;subst hv;rfl
 | .mp,some _,_,⟨_,_,e⟩=>by cases e;intro v hv;simp at hv;subst hv;rfl
 | .fn,none,_,r=>by cases r;intro v hv;simp at hv;subst hv;rfl
 | .fn,some _,_,r=>by cases r;intro v hv;simp at hv;subst hv;rfl
 | .rl _ _,none,_,r=>by cases r;intro v hv;simp at hv;subst hv;rfl
 | .rl _ _,some (_,_),_,⟨_,_,e,hs⟩=>by
  cases e;intro v hv;simp at hv;subst hv;rcases hs with⟨rfl,_⟩ |⟨_,_,rfl,_⟩<;>rfl
 | .mref,none,_,r=>by cases r;intro v hv;simp at hv;subst hv;rfl
 | .mref,some (_,_),_,⟨_,_,_,e⟩=>by rcases e with e|e<;>(cases e;intro v hv;simp at hv;subst hv;rfl)
 | .pair _ _,_,_,⟨c1,c2,e,r1,r2⟩=>by
  subst e;intro v hv;rcases aWd.1 hv with h|h
  .exact B8 r1 v h
  .exact B8 r2 v h
 | .list _,_,_,⟨_,_,e,_,_⟩=>by cases e;intro v hv;simp at hv;subst hv;rfl
theorem wN {g g':Gh}{w:pR}(hS:g'.S=g.S): ∀{t:Ty}{x:t.den}{cs:pN},t.pure=true->Rd g w t x cs->Rd g' w t x cs
 | .bool,_,_,_,r=>r
 | .int _,_,_,_,r=>r
 | .str,_,_,_,r=>r
 | .unit,_,_,_,r=>r
 | .ref,_,_,h,_=>by simp [Ty.pure] at h
 | .clo,_,_,h,_=>by simp [Ty.pure] at h
 | .mp,_,_,h,_=>by simp [Ty.pure] at h
 | .rl _ _,_,_,h,_=>by simp [Ty.pure] at h
 | .fn,_,_,_,r=>r
 | .mref,_,_,h,_=>by simp [Ty.pure] at h
 | .pair _ _,_,_,h,⟨c1,c2,e,r1,r2⟩=>by
  simp only[Ty.pure,aVG] at h;exact⟨c1,c2,e,wN hS h.1 r1,wN hS h.2 r2⟩
 | .list _,_,_,h,⟨a,cap,e,hle,hl⟩=>by
  simp only[Ty.pure] at h;exact⟨a,cap,e,hle,hl.imp id fun⟨b,o,ea,hr⟩=>⟨b,o,ea,a03 (fun _ _ r=>wN hS h r) (fun _ q=>by rw[hS];exact q) (fun _ _=>rfl) hr⟩⟩
def EG (g:Gh) (w:pR) (k v:Ty):List (k.den×v.den)->List MapEntry->Prop
 |[],es=>es=[]
 |(a,b)::l,es=> ∃e es',es=e::es'/\tX g w k a e.key/\tX g w v b e.val/\EG g w k v l es'
theorem a04 {g g':Gh}{w w':pR}(h:Le g w g' w') {k v:Ty}: ∀{l:List (k.den×v.den)}{es:List MapEntry},EG g w k v l es->EG g' w' k v l es
 |[],_,r=>r
 |_::_,_,⟨e,es',h1,h2,h3,h4⟩=>⟨e,es',h1,WN h h2,WN h h3,a04 h h4⟩
theorem aCq {g g':Gh}{w:pR}(hS:g'.S=g.S) {t:Ty}{x:t.den}{v:pS}(hp:t.pure=true) (r:tX g w t x v):tX g' w t x v:=
 r.imp (fun⟨a,cs,e,q⟩=>⟨a,cs,e,wN hS hp q⟩) (fun⟨a,q⟩=>⟨a,wN hS hp q⟩)
theorem R7 {g g':Gh}{w:pR}(hS:g'.S=g.S) {k v:Ty}(hk:k.pure=true) (hv:v.pure=true): ∀{l:List (k.den×v.den)}{es:List MapEntry},EG g w k v l es->EG g' w k v l es
 |[],_,r=>r
 |_::_,_,⟨e,es',h1,h2,h3,h4⟩=>⟨e,es',h1,aCq hS hk h2,aCq hS hv h3,R7 hS hk hv h4⟩
def uE {α:Type}(R:α->pN->Prop) (c:Nat):List α->pN->Prop
 |[],cs=>cs=[]
 |x::xs,cs=> ∃c1 c2,cs=c1++c2/\c1.length=c/\R x c1/\uE R c xs c2
theorem JA {α:Type}{R:α->pN->Prop}{c:Nat}: ∀{l:List α}{cs:pN},uE R c l cs->cs.length=l.length*c
 |[],_,h=>by rw[h];simp
 |_::l,_,⟨c1,c2,e,h1,_,h3⟩=>by rw[e,aVu,h1,JA h3,aVw,aWz];omega
theorem R9 {α:Type}{R:α->pN->Prop}{c:Nat}: ∀{l m:List α}{cs ds:pN},uE R c l cs->uE R c m ds->uE R c (l++m) (cs++ds)
 |[],_,_,_,h,k=>by rw[h];exact k
 |_::_,_,_,_,⟨c1,c2,e,h1,h2,h3⟩,k=>⟨c1,c2++_,by rw[e,aVy],h1,h2,R9 h3 k⟩
theorem DF {α:Type}{R R':α->pN->Prop}{c:Nat}(hR: ∀x cs,R x cs->R' x cs): ∀{l:List α}{cs:pN},uE R c l cs->uE R' c l cs
 |[],_,h=>h
 |_::_,_,⟨c1,c2,e,h1,h2,h3⟩=>⟨c1,c2,e,h1,hR _ _ h2,DF hR h3⟩
theorem EH {g:Gh}{w:pR}{u:Ty}: ∀{t:Ty}{x:t.den}{cs:pN}{o:Nat}{y:u.den},Rd g w t x cs->rK u t x o=some y->
  ∃c1 c2 c3,cs=c1++c2++c3/\c1.length=o/\Rd g w u y c2:=by
 intro t
 induction t with
 |pair a b iha ihb=>
  intro x cs o y r h;obtain⟨c1,c2,e,r1,r2⟩:=r;have key: ∀o,(if o<a.cells then rK u a x.1 o else rK u b x.2 (o-a.cells))=some y->∃d1 d2 d3,cs=d1++d2++d3/\d1.length=o/\Rd g w u y d2:=by
   intro o h;by_cases ho:o<a.cells
   .rw[aVs ho] at h;obtain⟨d1,d2,d3,e',hl,hr⟩:=iha r1 h;exact⟨d1,d2,d3++c2,by rw[e,e'];simp,hl,hr⟩
   .rw[aVv ho] at h;obtain⟨d1,d2,d3,e',hl,hr⟩:=ihb r2 h;refine⟨c1++d1,d2,d3,by rw[e,e'];simp,?_,hr⟩;rw[aVu,hl,t7 r1];omega
  cases o with
  |zero=>
   unfold rK at h;by_cases hu:Ty.pair a b=u
   .rw[aXz hu] at h;subst hu;simp only[v8,aVr] at h;subst h;exact⟨[],cs,[],by simp,rfl,⟨c1,c2,e,r1,r2⟩⟩
   .rw[aXb hu] at h;refine key 0 ?_;simpa using h
  |succ o=>exact key (o+1) (by simpa[rK] using h)
 |_=>
  intro x cs o y r h;cases o with
  |zero=>
   unfold rK at h;split at h
   .rename_i hu;subst hu;simp only[v8,aVr] at h
    try subst h
    exact⟨[],cs,[],by simp,rfl,r⟩
   .simp at h
  |succ o=>simp [rK] at h
theorem WO {g:Gh}{w:pR}{u:Ty}{y:u.den}{cy:pN}(hy:Rd g w u y cy): ∀{t:Ty}{x z:t.den}{cs:pN}{o:Nat},Rd g w t x cs->t6 u y t x o=some z->
  ∃c1 c2 c3,cs=c1++c2++c3/\c1.length=o/\c2.length=u.cells/\Rd g w t z (c1++cy++c3):=by
 intro t
 induction t with
 |pair a b iha ihb=>
  intro x z cs o r h;obtain⟨c1,c2,e,r1,r2⟩:=r;have key: ∀o,(if o<a.cells then(t6 u y a x.1 o).map (fun q=>(q,x.2)) else(t6 u y b x.2 (o-a.cells)).map (fun q=>(x.1,q)))=some z->
    ∃d1 d2 d3,cs=d1++d2++d3/\d1.length=o/\d2.length=u.cells/\Rd g w (.pair a b) z (d1++cy++d3):=by
   intro o h;by_cases ho:o<a.cells
   .rw[aVs ho] at h;obtain⟨q,hq,rfl⟩:=aVA.1 h;obtain⟨d1,d2,d3,e',hl,hl2,hr⟩:=iha r1 hq;exact⟨d1,d2,d3++c2,by rw[e,e'];simp,hl,hl2,⟨d1++cy++d3,c2,by simp,hr,r2⟩⟩
   .rw[aVv ho] at h;obtain⟨q,hq,rfl⟩:=aVA.1 h;obtain⟨d1,d2,d3,e',hl,hl2,hr⟩:=ihb r2 hq;refine⟨c1++d1,d2,d3,by rw[e,e'];simp,?_,hl2,⟨c1,d1++cy++d3,by simp,r1,hr⟩⟩;rw[aVu,hl,t7 r1];omega
  cases o with
  |zero=>
   unfold t6 at h;by_cases hu:u=Ty.pair a b
   .rw[aXz hu] at h;subst hu;simp only[v8,aVr] at h;subst h;exact⟨[],cs,[],by simp,rfl,t7 (t:= .pair a b) (x:=x) ⟨c1,c2,e,r1,r2⟩,by simpa using hy⟩
   .rw[aXb hu] at h;refine key 0 ?_;simpa using h
  |succ o=>exact key (o+1) (by simpa[t6] using h)
 |_=>
  intro x z cs o r h;cases o with
  |zero=>
   unfold t6 at h;split at h
   .rename_i hu;subst hu;simp only[v8,aVr] at h
    try subst h
    exact⟨[],cs,[],by simp,rfl,t7 r,by simpa using hy⟩
   .simp at h
  |succ o=>simp [t6] at h
theorem aLQ {e:Nat}{u:Ty}{kn:pO}: ∀{t:Ty}{x:t.den}{o:Nat}{q: Σ t:Ty,t.den},yT e u kn t x o=some q->q.1.cells=t.cells:=by
 intro t
 induction t with
 |pair a b iha ihb=>
  intro x o q h;unfold yT at h;split at h
  .cases hq:yT e u kn a x.1 o with
   |none=>rw[hq] at h;cases h
   |some r=>
    obtain⟨a',x'⟩:=r;rw[hq] at h;simp only[a0G,aVr] at h;subst h;have:=iha hq;simp only[Ty.cells] at this|-;omega
  .cases hq:yT e u kn b x.2 (o-a.cells) with
   |none=>rw[hq] at h;cases h
   |some r=>
    obtain⟨b',y'⟩:=r;rw[hq] at h;simp only[a0H,aVr] at h;subst h;have:=ihb hq;simp only[Ty.cells] at this|-;omega
 |list v=>
  intro x o q h;cases o with
  |zero=>
   simp only[yT] at h;split at h
   .simp only[aVr] at h;subst h;rfl
   .cases h
  |succ o=>simp [yT] at h
 |_=>intro x o q h;cases o<;>simp [yT] at h
theorem aLR {g:Gh}{w:pR}{e:Nat}{u:Ty}{kn:pO}{cy:pN}(hy:FV g kn cy): ∀{t:Ty}{x:t.den}{cs:pN}{o:Nat}{q: Σ t:Ty,t.den},Rd g w t x cs->yT e u kn t x o=some q->
  ∃c1 c2 c3,cs=c1++c2++c3/\c1.length=o/\c2.length=1/\Rd g w q.1 q.2 (c1++cy++c3):=by
 intro t
 induction t with
 |pair a b iha ihb=>
  intro x cs o q r h;obtain⟨c1,c2,e1,r1,r2⟩:=r;unfold yT at h;split at h
  .cases hq:yT e u kn a x.1 o with
   |none=>rw[hq] at h;cases h
   |some z=>
    obtain⟨a',x'⟩:=z;rw[hq] at h;simp only[a0G,aVr] at h;subst h;obtain⟨d1,d2,d3,e',hl,hl2,hr⟩:=iha r1 hq;exact⟨d1,d2,d3++c2,by rw[e1,e'];simp,hl,hl2,⟨d1++cy++d3,c2,by simp,hr,r2⟩⟩
  .cases hq:yT e u kn b x.2 (o-a.cells) with
   |none=>rw[hq] at h;cases h
   |some z=>
    obtain⟨b',y'⟩:=z;rw[hq] at h;simp only[a0H,aVr] at h;subst h;obtain⟨d1,d2,d3,e',hl,hl2,hr⟩:=ihb r2 hq;refine⟨c1++d1,d2,d3,by rw[e1,e'];simp,?_,hl2,⟨c1,d1++cy++d3,by simp,r1,hr⟩⟩;rw[aVu,hl,t7 r1];omega
 |list v=>
  intro x cs o q r h;cases o with
  |zero=>
   simp only[yT] at h;split at h
   .simp only[aVr] at h;subst h;exact⟨[],cs,[],by simp,rfl,t7 r,by rw[List.nil_append,List.append_nil];exact hy⟩
   .cases h
  |succ o=>simp [yT] at h
 |_=>intro x cs o q r h;cases o<;>simp [yT] at h
def HD (g:Gh) (t:Ty) (x:t.den) (cs:pN) (toks:pL):Prop:=
 ∀o k,(o,k)∈toks->∃(u:Ty) (l:List u.den) (v:pS),rK (.list u) t x o=some l/\cs[o]? =some v/\g.cur k l.length=some v
def aLS (w:pR) (p:Pl) (n:Nat):Prop:=w.there p.1 p.2 n/\(0<n->∀s,p.3=some s->w.shape? p.1=some s)
theorem CO {w:pR}{b:Nat}{s:TypeId×Nat}(h:w.shape? b=some s):b<w.heap.size:=by
 unfold World.shape? at h;cases hb:w.heap[b]? with
 |none=>rw[hb] at h;cases h
 |some x=>exact(aVW.1 hb).1
theorem CP {w w':pR}{b:Nat}(h:w'.heap[b]? =w.heap[b]?):w'.shape? b=w.shape? b:=by
 unfold World.shape?;rw[h]
def AM (g:Gh) (w:pR) (i:Nat):qB->Prop
 | .cells t x toks=> ∃p cs,g.J i=some p/\Rd g w t x cs/\w.rangeAt p.1 p.2 cs/\aLS w p t.cells/\(∀j,j<t.cells->¬g.S p.1 (p.2+j))/\HD g t x cs toks
 | .grow e c n=> ∃v xs,g.cur i n=some v/\w.ownsRow 0 e c v n xs/\(∀m,n<m->g.cur i m=none)/\∀b,v.ownBlock=some b->∀o,g.S b o->o<n*c
 | .row e t l n=>l.length=n/\∃v xs,g.cur i n=some v/\w.ownsRow 0 e t.cells v n xs/\uE (Rd g w t) t.cells l xs/\(∀m,n<m->g.cur i m=none)/\∀b,v.ownBlock=some b->∀o,¬g.S b o
 | .map k v l=> ∃p es clock,g.J i=some p/\p.2=0/\w.heap[p.1]? =some (.map es clock)/\EG g w k v l es.toList/\∀o,¬g.S p.1 o
 | .iter s n=> ∃p,g.J i=some p/\p.2=0/\w.heap[p.1]? =some (.stringIter ⟨s.toArray⟩ n)/\∀o,¬g.S p.1 o
 | .dead=>True
def sG (g:Gh) (i:Nat):qB->Nat->Nat->Prop
 | .cells t _ _,b,o=> ∃p,g.J i=some p/\b=p.1/\p.2<=o/\o<p.2+t.cells
 | .grow _ _ n,b,_=> ∃v,g.cur i n=some v/\v.ownBlock=some b
 | .row _ _ _ n,b,_=> ∃v,g.cur i n=some v/\v.ownBlock=some b
 | .map _ _ _,b,_=> ∃p,g.J i=some p/\b=p.1
 | .iter _ _,b,_=> ∃p,g.J i=some p/\b=p.1
 | .dead,_,_=>False
structure sL (g:Gh) (w:pR) (H:sE):Prop where
 blk: ∀i b,qE H i=some b->AM g w i b
 dis: ∀i j bi bj b o,i≠j->qE H i=some bi->qE H j=some bj->sG g i bi b o->sG g j bj b o->False
 sl: ∀b o,g.S b o->b<w.heap.size
 tab:DA w/\∀i blk b o,qE H i=some blk->sG g i blk b o->NG<=b
def t8 (g:Gh) (H:sE) (ids:pQ) (b o:Nat):Prop:= ∃i blk,i∈ids/\qE H i=some blk/\sG g i blk b o
structure Fr (A:Nat->Nat->Prop) (w w':pR) (S S':Nat->Nat->Prop):Prop where
 os:w'.os=w.os
 tape:w'.tape=w.tape
 output:w'.output=w.output
 size:w.heap.size<=w'.heap.size
 blk: ∀b,b<w.heap.size->(∀o,¬A b o)->w'.heap[b]? =w.heap[b]?
 cell: ∀b o,b<w.heap.size->¬A b o->w'.cell? ⟨b,o,none⟩=w.cell? ⟨b,o,none⟩/\w'.frozen? ⟨b,o,none⟩=w.frozen? ⟨b,o,none⟩
 new: ∀b o,S' b o->S b o\/w.heap.size<=b\/A b o
 shape: ∀b s,w.shape? b=some s->w'.shape? b=some s\/∀o,A b o
theorem Fr.refl (A:Nat->Nat->Prop) (w:pR) (S:Nat->Nat->Prop):Fr A w w S S:=
 ⟨rfl,rfl,rfl,aVR _,fun _ _ _=>rfl,fun _ _ _ _=>⟨rfl,rfl⟩,fun _ _ h=> .inl h,fun _ _ h=> .inl h⟩
theorem Fr.trans {A B:Nat->Nat->Prop}{w w' w'':pR}{S S' S'':Nat->Nat->Prop}(h:Fr A w w' S S') (k:Fr B w' w'' S' S'') (hB: ∀b o,B b o->w.heap.size<=b\/A b o):Fr A w w'' S S'':=by
 refine⟨k.os.trans h.os,k.tape.trans h.tape,k.output.trans h.output,aWx h.size k.size,fun b hb hA=> ?_,fun b o hb hA=> ?_,fun b o hs=> ?_,fun b s hs=> ?_⟩
 .refine(k.blk b (aV7 hb h.size) fun o ho=> ?_).trans (h.blk b hb hA);rcases hB b o ho with h1|h1
  .omega
  .exact hA o h1
 .have h1:=h.cell b o hb hA;have h2:=k.cell b o (aV7 hb h.size) (fun ho=>by
   rcases hB b o ho with h1|h1
   .omega
   .exact hA h1)
  exact⟨h2.1.trans h1.1,h2.2.trans h1.2⟩
 .rcases k.new b o hs with h1|h1|h1
  .exact h.new b o h1
  .exact .inr (.inl (aWx h.size h1))
  .exact .inr (hB b o h1)
 .rcases h.shape b s hs with h1|h1
  .rcases k.shape b s h1 with h2|h2
   .exact .inl h2
   .refine .inr fun o=>(hB b o (h2 o)).resolve_left ?_;have:=CO hs;omega
  .exact .inr h1
structure sI (g:Gh) (w:pR) (H:sE) (e:qT) (g':Gh) (w':pR) (v:pS):Prop where
 le:Le g w g' w'
 slot:rX g' w' e.slot v
 heap:sL g' w' (qY e.upd H)
 fr:Fr (t8 g H (qH e.upd)) w w' g.S g'.S
 perm: ∀i blk b o,i∈qH e.upd->qE (qY e.upd H) i=some blk->sG g' i blk b o->w.heap.size<=b\/t8 g H (qH e.upd) b o
 gho: ∀i,i∉qH e.upd->g'.J i=g.J i/\g'.cur i=g.cur i
 ty: ∀i u y us,qE (qY e.upd H) i=some (.cells u y us)->(∃x ts,qE H i=some (.cells u x ts))\/(g.J i=none/\∀n,g.cur i n=none)
structure A4 (g:Gh) (w:pR) (H:sE) (e:qT) (g':Gh) (w':pR) (v:pS):Prop where
 le:Le g w g' w'
 slot:rX g' w' e.slot v
 heap:sL g' w' (qY e.upd H)
 fr:Fr (t8 g H (qH e.upd)) w w' g.S g'.S
 perm: ∀i blk b o,i∈qH e.upd->qE (qY e.upd H) i=some blk->sG g' i blk b o->w.heap.size<=b\/t8 g H (qH e.upd) b o
 gho: ∀i,i∉qH e.upd->g'.J i=g.J i/\g'.cur i=g.cur i
 ty:IX e.rds=false->∀i u y us,qE (qY e.upd H) i=some (.cells u y us)->(∃x ts,qE H i=some (.cells u x ts))\/(g.J i=none/\∀n,g.cur i n=none)
theorem sI.w {g:Gh}{w:pR}{H:sE}{e:qT}{g':Gh}{w':pR}{v:pS}(h:sI g w H e g' w' v):A4 g w H e g' w' v:=⟨h.le,h.slot,h.heap,h.fr,h.perm,h.gho,fun _=>h.ty⟩
theorem RA {w:pR}{B:Nat}{e:TypeId}{c n:Nat}{v:pS}{xs:pN}(h:w.ownsRow B e c v n xs) {b:Nat}(hb:v.ownBlock=some b):b<w.heap.size:=(h.lt b hb).2
theorem WP {w:pR}{b o:Nat}{v:pS}(h:w.cell? ⟨b,o,none⟩=some v):b<w.heap.size:=by
 have:=World.block_lt_of_cell? w ⟨b,o,none⟩ h;exact this
theorem NX {g:Gh}{w:pR}{i:Nat}{blk:qB}(h:AM g w i blk) {b o:Nat}(ho:sG g i blk b o):b<w.heap.size:=by
 cases blk with
 |cells t x toks=>
  obtain⟨p,cs,hp,_,_,ht,_⟩:=h;obtain⟨q,hq,rfl,h1,h2⟩:=ho;rw[hp] at hq;obtain rfl:=aVx hq;have:=(ht.1 (o-p.2) pG).1;obtain⟨v,hv⟩:=aVt.1 this;exact WP hv
 |grow e c n=>
  obtain⟨v,xs,hv,hr,_⟩:=h;obtain⟨v',hv',hb⟩:=ho;rw[hv] at hv';obtain rfl:=aVx hv';exact RA hr hb
 |row e t l n=>
  obtain⟨_,v,xs,hv,hr,_⟩:=h;obtain⟨v',hv',hb⟩:=ho;rw[hv] at hv';obtain rfl:=aVx hv';exact RA hr hb
 |map k v l=>
  obtain⟨p,es,cl,hp,_,hh,_,_⟩:=h;obtain⟨q,hq,rfl⟩:=ho;rw[hp] at hq;obtain rfl:=aVx hq;exact(aVW.1 hh).1
 |iter s n=>
  obtain⟨p,hp,_,hh,_⟩:=h;obtain⟨q,hq,rfl⟩:=ho;rw[hp] at hq;obtain rfl:=aVx hq;exact(aVW.1 hh).1
 |dead=>exact ho.elim
theorem aCr {g g':Gh}(hc: ∀k n v,g.cur k n=some v->g'.cur k n=some v) {t:Ty}{x:t.den}{cs:pN}{toks:pL}(h:HD g t x cs toks):HD g' t x cs toks:=
 fun o k hm=>let ⟨u,l,v,h1,h2,h3⟩:=h o k hm;⟨u,l,v,h1,h2,hc _ _ _ h3⟩
theorem NY {g g':Gh}{w w':pR}{i:Nat}{blk:qB}(h:AM g w i blk) (le:Le g w g' w') (hJ:g'.J i=g.J i) (hcur:g'.cur i=g.cur i)
  (hc: ∀b o,sG g i blk b o->w'.cell? ⟨b,o,none⟩=w.cell? ⟨b,o,none⟩/\w'.frozen? ⟨b,o,none⟩=w.frozen? ⟨b,o,none⟩)
  (hb: ∀b,(∀o,sG g i blk b o)->w'.heap[b]? =w.heap[b]?) (hS: ∀b o,sG g i blk b o->g'.S b o->g.S b o) (hsh: ∀b o s,sG g i blk b o->w.shape? b=some s->w'.shape? b=some s):AM g' w' i blk:=by
 cases blk with
 |cells t x toks=>
  obtain⟨p,cs,hp,hr,hra,ht,hs,htk⟩:=h;have ho: ∀j,j<t.cells->sG g i (.cells t x toks) p.1 (p.2+j):=fun j hj=>⟨p,hp,rfl,pG,pG⟩;refine⟨p,cs,hJ.trans hp,xZ le hr,fun j v hv=> ?_,⟨fun j hj=> ?_,fun h0 s hs3=>hsh _ _ _ (ho 0 h0) (ht.2 h0 s hs3)⟩,fun j hj hs'=>hs j hj (hS _ _ (ho j hj) hs'),aCr le.cur htk⟩
  .have hj:j<t.cells:=t7 hr▸(aVK.1 hv).1;rw[(hc _ _ (ho j hj)).1];exact hra j v hv
  .rw[(hc _ _ (ho j hj)).1,(hc _ _ (ho j hj)).2];exact ht.1 j hj
 |grow e c n=>
  obtain⟨v,xs,hv,hr,hn,hs⟩:=h;have hbl: ∀b,v.ownBlock=some b->∀o,sG g i (.grow e c n) b o:=fun b hb o=>⟨v,hv,hb⟩;refine⟨v,xs,by rw[hcur];exact hv,⟨hr.1,?_⟩,fun m hm=>by rw[hcur];exact hn m hm,fun b hvb o hs'=>hs b hvb o (hS _ _ (hbl b hvb o) hs')⟩;rcases hr.2 with h0|⟨q,cap,cur,e1,e2,e3,e4⟩
  .exact .inl h0
  .subst e1;exact .inr ⟨q,cap,cur,rfl,e2,by rw[hb q (hbl q rfl)];exact e3,e4⟩
 |row e t l n=>
  obtain⟨hl,v,xs,hv,hr,hF,hn,hs⟩:=h;have hbl: ∀b,v.ownBlock=some b->∀o,sG g i (.row e t l n) b o:=fun b hb o=>⟨v,hv,hb⟩;refine⟨hl,v,xs,by rw[hcur];exact hv,⟨hr.1,?_⟩,DF (fun _ _ h=>xZ le h) hF,fun m hm=>by rw[hcur];exact hn m hm,fun b hvb o hs'=>hs b hvb o (hS _ _ (hbl b hvb o) hs')⟩;rcases hr.2 with h0|⟨q,cap,cur,e1,e2,e3,e4⟩
  .exact .inl h0
  .subst e1;exact .inr ⟨q,cap,cur,rfl,e2,by rw[hb q (hbl q rfl)];exact e3,e4⟩
 |map k v l=>
  obtain⟨p,es,cl,hp,h0,hh,hM,hs⟩:=h;have hbl: ∀o,sG g i (.map k v l) p.1 o:=fun o=>⟨p,hp,rfl⟩;exact⟨p,es,cl,hJ.trans hp,h0,(hb _ hbl).trans hh,a04 le hM,fun o hs'=>hs o (hS _ _ (hbl o) hs')⟩
 |iter s n=>
  obtain⟨p,hp,h0,hh,hs⟩:=h;have hbl: ∀o,sG g i (.iter s n) p.1 o:=fun o=>⟨p,hp,rfl⟩;exact⟨p,hJ.trans hp,h0,(hb _ hbl).trans hh,fun o hs'=>hs o (hS _ _ (hbl o) hs')⟩
 |dead=>trivial
theorem A5 {g g':Gh}{i:Nat}{blk:qB}(hJ:g'.J i=g.J i) (hcur:g'.cur i=g.cur i) {b o:Nat}:sG g' i blk b o↔sG g i blk b o:=by
 cases blk<;>simp [sG,hJ,hcur]
theorem CQ {i:Nat}: ∀{u:List (Nat×qB)}{H:sE},i∉qH u->qE (qY u H) i=qE H i
 |[],_,_=>rfl
 |(k,b)::r,H,h=>by
  simp only[qH,aVH,not_or] at h;simp only[qY,qE];rw[aVv (Ne.symm h.1)];exact CQ h.2
theorem sL.upd {g g':Gh}{w w':pR}{H:sE}{u:List (Nat×qB)}(h:sL g w H) (le:Le g w g' w') (fr:Fr (t8 g H (qH u)) w w' g.S g'.S)
  (perm: ∀i blk b o,i∈qH u->qE (qY u H) i=some blk->sG g' i blk b o->w.heap.size<=b\/t8 g H (qH u) b o)
  (gho: ∀i,i∉qH u->g'.J i=g.J i/\g'.cur i=g.cur i)
  (hb: ∀i blk,i∈qH u->qE (qY u H) i=some blk->AM g' w' i blk)
  (hd: ∀i j bi bj b o,i∈qH u->j∈qH u->i≠j->qE (qY u H) i=some bi->qE (qY u H) j=some bj->sG g' i bi b o->sG g' j bj b o->False)
  (sl: ∀b o,g'.S b o->b<w'.heap.size):sL g' w' (qY u H):=by
 have out: ∀i blk,i∉qH u->qE H i=some blk->∀b o,sG g i blk b o->b<w.heap.size/\¬t8 g H (qH u) b o:=fun i blk hi hg b o ho=>
  ⟨NX (h.blk i blk hg) ho,fun⟨j,bj,hj,hgj,hoj⟩=>h.dis i j blk bj b o (fun e=>hi (e▸hj)) hg hgj ho hoj⟩
 refine⟨fun i blk hg=> ?_,fun i j bi bj b o hij hgi hgj hoi hoj=> ?_,sl,KY h.tab.1 fr.size (fun b hb=>fr.blk b (aV7 hb h.tab.1.1) (fun o ⟨j,bj,_,k1,k2⟩=>Nat.not_lt.2 (h.tab.2 j bj b o k1 k2) hb)),fun i blk b o hg ho=> ?_⟩
 rotate_right
 .by_cases hi:i∈qH u
  .rcases perm i blk b o hi hg ho with h1|⟨j,bj,_,k1,k2⟩
   .exact aWx h.tab.1.1 h1
   .exact h.tab.2 j bj b o k1 k2
  .exact h.tab.2 i blk b o ((CQ hi).symm.trans hg) ((A5 (gho i hi).1 (gho i hi).2).1 ho)
 .by_cases hi:i∈qH u
  .exact hb i blk hi hg
  .have hg0:=(CQ hi).symm.trans hg;have hk:=gho i hi;refine NY (h.blk i blk hg0) le hk.1 hk.2 (fun b o ho=> ?_) (fun b ho=> ?_) (fun b o ho hs=> ?_) (fun b o s ho hs=>(fr.shape b s hs).resolve_right fun h1=>(out i blk hi hg0 b o ho).2 (h1 o))
   .exact fr.cell b o (out i blk hi hg0 b o ho).1 (out i blk hi hg0 b o ho).2
   .exact fr.blk b (out i blk hi hg0 b 0 (ho 0)).1 (fun o=>(out i blk hi hg0 b o (ho o)).2)
   .rcases fr.new b o hs with h1|h1|h1
    .exact h1
    .have:=(out i blk hi hg0 b o ho).1;omega
    .exact absurd h1 (out i blk hi hg0 b o ho).2
 .by_cases hi:i∈qH u<;>by_cases hj:j∈qH u
  .exact hd i j bi bj b o hi hj hij hgi hgj hoi hoj
  .have hg0:=(CQ hj).symm.trans hgj;have ho0:=(A5 (gho j hj).1 (gho j hj).2).1 hoj;rcases perm i bi b o hi hgi hoi with h1|h1
   .have:=(out j bj hj hg0 b o ho0).1;omega
   .exact(out j bj hj hg0 b o ho0).2 h1
  .have hg0:=(CQ hi).symm.trans hgi;have ho0:=(A5 (gho i hi).1 (gho i hi).2).1 hoi;rcases perm j bj b o hj hgj hoj with h1|h1
   .have:=(out i bi hi hg0 b o ho0).1;omega
   .exact(out i bi hi hg0 b o ho0).2 h1
  .exact h.dis i j bi bj b o hij ((CQ hi).symm.trans hgi) ((CQ hj).symm.trans hgj) ((A5 (gho i hi).1 (gho i hi).2).1 hoi) ((A5 (gho j hj).1 (gho j hj).2).1 hoj)
theorem sI.pure {g:Gh}{w:pR}{H:sE}{side:List Prop}{s:qC}{rds:pQ}{v:pS}(h:sL g w H) (hs:rX g w s v):sI g w H ⟨side,s,[],rds⟩ g w v:=
 ⟨.refl _ _,hs,h,.refl _ _ _,fun _ _ _ _ hi=>(by cases hi),fun _ _=>⟨rfl,rfl⟩,fun _ _ y us h=> .inl ⟨y,us,h⟩⟩
theorem A4.pure {g:Gh}{w:pR}{H:sE}{side:List Prop}{s:qC}{rds:pQ}{v:pS}(h:sL g w H) (hs:rX g w s v):A4 g w H ⟨side,s,[],rds⟩ g w v:=(sI.pure h hs).w
def uP:Ty->pN
 | .bool=>[.bool false]
 | .int k=>[.int k 0]
 | .str=>[.string ⟨#[]⟩]
 | .list _=>[.slice none 0 0]
 | .unit=>[]
 | .pair a b=>uP a++uP b
 | .ref=>[.pointer none]
 | .clo=>[.nilFunc]
 | .mp=>[.map none]
 | .rl _ _=>[.slice none 0 0]
 | .fn=>[.nilFunc]
 | .mref=>[.pointer none]
def wW (t:Ty):pS:=if t.isRow then .agg (uP t).toArray else(uP t).headD undef
def NZ (P:Program):Ty->Nat->List Field->Prop
 | .unit,_,[]=>True
 | .pair a b,o,f::r=>f.offset=o/\(P.info? f.type).map (·.size)=some a.cells/\(P.underlying f.type).map (·.isRow)=some a.isRow/\NZ P b (o+a.cells) r
 |_,_,_=>False
def RB (P:Program) (e:TypeId):Ty->Nat->Prop
 | .unit,0=>True
 | .pair a b,n+1=>(P.info? e).map (·.size)=some a.cells/\(P.underlying e).map (·.isRow)=some a.isRow/\RB P e b n
 |_,_=>False
inductive a05 where
 |ty (t:TypeId) |fs (o:Nat) (l:List Field) |el (e:TypeId) (i m:Nat)
inductive zH (P:Program):Nat->a05->Ty->Prop
 |bool {h t}:P.underlying t=some .bool->zH P h (.ty t) .bool
 |int {h t k}:P.underlying t=some (.int k)->zH P h (.ty t) (.int k)
 |str {h t}:P.underlying t=some .string->zH P h (.ty t) .str
 |struct {h t fs ty}:ty.isRow=true->P.underlying t=some (.struct fs)->P.stoodInHeld t=false->zH P h (.fs 0 fs.toList) ty->zH P (h+1) (.ty t) ty
 |arr {h t e n ty}:ty.isRow=true->P.underlying t=some (.array n e)->(P.info? e).isSome=true->zH P h (.el e 0 n) ty->zH P (h+1) (.ty t) ty
 |nil {h o}:zH P h (.fs o []) .unit
 |cons {h o}{f:Field}{r a b}:f.name≠ "_" ->f.offset=o->(P.info? f.type).map (·.size)=some a.cells->(P.underlying f.type).map (·.isRow)=some a.isRow->zH P h (.ty f.type) a->zH P h (.fs (o+a.cells) r) b->zH P h (.fs o (f::r)) (.pair a b)
 |anil {h e i}:zH P h (.el e i 0) .unit
 |acons {h e i m a b}:(P.info? e).map (·.size)=some a.cells->(P.underlying e).map (·.isRow)=some a.isRow->zH P h (.ty e) a->zH P h (.el e (i+1) m) b->zH P h (.el e i (m+1)) (.pair a b)
def yV (P:Program) (t:TypeId) (ti:TI):Prop:=
 match ti.ty with
 | .bool=>P.underlying t=some .bool
 | .int k=>P.underlying t=some (.int k)
 | .str=>P.underlying t=some .string
 | .ref=> ∃e,P.underlying t=some (.pointer e)
 | .clo=> ∃a b c,P.underlying t=some (.func a b c)
 | .mp=>P.underlying t=some (.map ti.elem ti.bytes)
 | .rl _ _=> ∃e,P.underlying t=some (.slice e)
 | .fn=> ∃a b c,P.underlying t=some (.func a b c)
 | .mref=> ∃e,P.underlying t=some (.pointer e)
 | .list u=>P.underlying t=some (.slice ti.elem)/\(P.info? ti.elem).map (fun i=>(i.size,i.bytes,i.zero))=some (u.cells,ti.bytes,some (wW u))/\(P.underlying ti.elem).map (·.isRow)=some u.isRow
 |ty=>((ti.arr=false/\∃fs,P.underlying t=some (.struct fs)/\NZ P ty 0 fs.toList)\/(ti.arr=true/\∃n e,P.underlying t=some (.array n e)/\RB P e ty n/\(P.info? e).isSome=true))/\(ti.bytes=1->P.eqGuardType P.depth t=false/\∃h,h<9000/\zH P h (.ty t) ty)
def uF (P:Program) (t:TypeId) (ti:TI):Prop:=(P.info? t).map (fun i=>(i.size,i.zero))=some (ti.ty.cells,some (wW ti.ty))/\yV P t ti
def y3 (P:Program):sV->Prop
 |[]=>True
 |(t,ti)::r=>uF P t ti/\y3 P r
theorem tI {P:Program}: ∀{T:sV},y3 P T->∀{t:TypeId}{ti:TI},rZ T t=some ti->uF P t ti
 |[],_,_,_,h=>by simp [rZ] at h
 |(k,ti)::r,hT,t,ti',h=>by
  simp only[rZ] at h;by_cases hk:k=t
  .rw[aVs hk] at h;subst hk;rw[<-aVx h];exact hT.1
  .rw[aVv hk] at h;exact tI hT.2 h
theorem EI (g:Gh) (w:pR): ∀t:Ty,Rd g w t t.zero (uP t)
 | .bool=>rfl
 | .int _=>rfl
 | .str=>rfl
 | .list _=>⟨none,0,rfl,aVR _,.inl rfl⟩
 | .unit=>rfl
 | .pair a b=>⟨_,_,rfl,EI g w a,EI g w b⟩
 | .ref=>rfl
 | .clo=>rfl
 | .mp=>rfl
 | .rl _ _=>rfl
 | .fn=>rfl
 | .mref=>rfl
theorem LL (g:Gh) (w:pR) (t:Ty):tX g w t t.zero (wW t):=by
 unfold tX wW;by_cases h:t.isRow=true
 .left;rw[aVs h];exact⟨h,_,rfl,EI g w t⟩
 .right;rw[aVv h];refine⟨by simpa using h,?_⟩;cases t<;>first|exact EI g w _|(simp [Ty.isRow] at h)
theorem FW {g:Gh}{w:pR}{t:Ty}{x:t.den}{v:pS}(h:tX g w t x v):Rd g w t x v.cells.toList:=by
 rcases h with⟨_,cs,rfl,r⟩ |⟨hr,r⟩
 .simpa[Value.cells] using r
 .have h1:=B8 r v pI;have:v.cells= #[v]:=by cases v<;>first|rfl|(simp [Value.oneCell'] at h1)
  rw[this];exact r
theorem B9 {g:Gh}{w:pR}{t:Ty}{x:t.den}{v:pS}(hr:t.isRow=false) (h:tX g w t x v):Rd g w t x [v]:=by
 rcases h with⟨h1,_⟩ |⟨_,r⟩
 .rw[hr] at h1;cases h1
 .exact r
theorem wX {g:Gh}{w:pR}{k:IntKind}{n:Int}{v:pS}(h:tX g w (.int k) n v):v= .int k n:=by
 have:=B9 rfl h;simp only[Rd,aWp,and_true] at this;exact this
theorem wE {g:Gh}{w:pR}{n:Bool}{v:pS}(h:tX g w .bool n v):v= .bool n:=by
 have:=B9 rfl h;simp only[Rd,aWp,and_true] at this;exact this
theorem xA {g:Gh}{w:pR}{l:pD}{v:pS}(h:tX g w .str l v):v= .string ⟨l.toArray⟩:=by
 have:=B9 rfl h;simp only[Rd,aWp,and_true] at this;exact this
theorem DG {g:Gh}{w:pR}{t:Ty}{l:List t.den}{v:pS}(h:tX g w (.list t) l v): ∃a cap,v= .slice a l.length cap/\l.length<=cap/\(l=[]\/∃b o,a=some ⟨b,o,none⟩/\zG (Rd g w t) w g.S t.cells b o l):=by
 have:=B9 rfl h;obtain⟨a,cap,e,h1,h2⟩:=this;simp only[aWp,and_true] at e;exact⟨a,cap,e,h1,h2⟩
theorem A6 {g:Gh}{w:pR}{i o:Nat}{v:pS}(h:tX g w .ref (some (i,o)) v): ∃p,g.J i=some p/\v= .pointer (some ⟨p.1,p.2+o,none⟩):=by
 have:=B9 rfl h;obtain⟨p,h1,e⟩:=this;simp only[aWp,and_true] at e;exact⟨p,h1,e⟩
theorem LM {g:Gh}{w:pR}{t:Ty}{x:t.den}{v:pS}(hr:t.isRow=true) (h:tX g w t x v): ∃cs:pN,v= .agg cs.toArray/\Rd g w t x cs:=by
 rcases h with⟨_,r⟩ |⟨h1,_⟩
 .exact r
 .rw[hr] at h1;cases h1
theorem wY (g:Gh) (w:pR) (k:IntKind) (n:Int):tX g w (.int k) n (.int k n):= .inr ⟨rfl,rfl⟩
theorem xB (g:Gh) (w:pR) (b:Bool):tX g w .bool b (.bool b):= .inr ⟨rfl,rfl⟩
theorem BR (g:Gh) (w:pR) (l:pD):tX g w .str l (.string ⟨l.toArray⟩):= .inr ⟨rfl,rfl⟩
def rN (P:Program) (o:Oper) (a:Act) (g:Gh) (w:pR) (H:sE) (e:qT):Prop:=
 ∀(K:Act->pR->Prop) (Q:Exit->Act->pR->Prop),(∀g' w' v,A4 g w H e g' w' v->K (a.put o.dst v) w')->o.wp P a w K Q
theorem rN.valueW {P:Program}{o:Oper}{a:Act}{g g':Gh}{w w':pR}{H:sE}{e:qT}{v:pS}(hr:(execOp a.eval o).run P w= .ok (.value v) w') (h:A4 g w H e g' w' v):rN P o a g w H e:=by
 intro K Q hK;unfold Oper.wp;rw[hr];exact hK g' w' v h
theorem rN.skipW {P:Program}{o:Oper}{a:Act}{g g':Gh}{w w':pR}{H:sE}{e:qT}(hr:(execOp a.eval o).run P w= .ok .skip w') (h:A4 g w H e g' w' undef):rN P o a g w H e:=by
 intro K Q hK;unfold Oper.wp;rw[hr];exact hK g' w' undef h
theorem rN.value {P:Program}{o:Oper}{a:Act}{g g':Gh}{w w':pR}{H:sE}{e:qT}{v:pS}(hr:(execOp a.eval o).run P w= .ok (.value v) w') (h:sI g w H e g' w' v):rN P o a g w H e:= .valueW hr h.w
theorem rN.skip {P:Program}{o:Oper}{a:Act}{g g':Gh}{w w':pR}{H:sE}{e:qT}(hr:(execOp a.eval o).run P w= .ok .skip w') (h:sI g w H e g' w' undef):rN P o a g w H e:= .skipW hr h.w
theorem rN.pure {P:Program}{o:Oper}{a:Act}{g:Gh}{w:pR}{H:sE}{side:List Prop}{d:DV}{rds:pQ}{v:pS}(hH:sL g w H) (hr:(execOp a.eval o).run P w= .ok (.value v) w) (h:AL g w d v):
  rN P o a g w H ⟨side,(d,none),[],rds⟩:= .value hr (.pure hH ⟨h,trivial⟩)
section
variable {P:Program}{o:Oper}{a:Act}{g:Gh}{w:pR}{H:sE}
theorem WQ {g:Gh}{w:pR}{k:IntKind}(q:Int) (hq: ∀p∈(KZ k q).1,p):AL g w (KZ k q).2 (.int k (k.wrap q)):=by
 cases k<;>simp only[KZ] at hq|- <;>first|exact wY _ _ _ _|skip
 have h0:=hq _ (aVJ.2 rfl);rw[show IntKind.i64.wrap q=q from IntWalk.i64_in q pG];exact wY _ _ _ _
theorem aLT (g:Gh) {op:BinOp}{xt:TypeId}{x y:Operand}{k:IntKind}{m n:Int}{r:List Prop×DV}(hr:a0e k m n op=some r) (hs: ∀p∈r.1,p):
  ∃v,(do eqGuard op xt x y (.int k m) (.int k n);Go.binOp op xt (.int k m) (.int k n):Sem pS).run P w= .ok v w/\AL g w r.2 v:=by
 cases op<;>simp only[a0e,aVr,reduceCtorEq] at hr
 all_goals subst hr
 case add=>exact⟨.int k (k.wrap _),by simp [eqGuard,Go.binOp,Op.intArith],WQ _ hs⟩
 case sub=>exact⟨.int k (k.wrap _),by simp [eqGuard,Go.binOp,Op.intArith],WQ _ hs⟩
 case mul=>exact⟨.int k (k.wrap _),by simp [eqGuard,Go.binOp,Op.intArith],WQ _ hs⟩
 case eql=>exact⟨.bool (decide (m=n)),by simp [eqGuard,Go.binOp,Op.intCmp];rfl,xB _ _ _⟩
 case neq=>exact⟨.bool (!decide (m=n)),by simp [eqGuard,Go.binOp,Op.intCmp,bne];rfl,xB _ _ _⟩
 case lss=>exact⟨.bool (decide _),by simp [eqGuard,Go.binOp,Op.intCmp],xB _ _ _⟩
 case leq=>exact⟨.bool (decide _),by simp [eqGuard,Go.binOp,Op.intCmp],xB _ _ _⟩
 case gtr=>exact⟨.bool (decide (n<m)),by simp [eqGuard,Go.binOp,Op.intCmp],xB _ _ _⟩
 case geq=>exact⟨.bool (decide (n<=m)),by simp [eqGuard,Go.binOp,Op.intCmp],xB _ _ _⟩
 case quo=>
  have h0:=hs _ (aVJ.2 rfl);exact⟨.int k (k.wrap (Int.tdiv m n)),by simp [eqGuard,Go.binOp,Op.intDiv,h0],wY _ _ _ _⟩
 case rem=>
  have h0:=hs _ (aVJ.2 rfl);exact⟨.int k (Int.tmod m n),by simp [eqGuard,Go.binOp,Op.intDiv,h0],wY _ _ _ _⟩
 case and=>exact⟨.int k (bits .and k m n),by simp [eqGuard,Go.binOp,intBits_and],wY _ _ _ _⟩
 case or=>exact⟨.int k (bits .or k m n),by simp [eqGuard,Go.binOp,intBits_or],wY _ _ _ _⟩
 case xor=>exact⟨.int k (bits .xor k m n),by simp [eqGuard,Go.binOp,intBits_xor],wY _ _ _ _⟩
 case andNot=>exact⟨.int k (bits .andNot k m n),by simp [eqGuard,Go.binOp,intBits_andNot],wY _ _ _ _⟩
theorem RC (m n:pD):(m==n)=decide (m=n):=by rw[aW9];simp
theorem aLU (g:Gh) {op:BinOp}{xt:TypeId}{x y:Operand}{m n:pD}{r:List Prop×DV}(hr:a0g m n op=some r) (hs: ∀p∈r.1,p):
  ∃v,(do eqGuard op xt x y (.string ⟨m.toArray⟩) (.string ⟨n.toArray⟩);Go.binOp op xt (.string ⟨m.toArray⟩) (.string ⟨n.toArray⟩):Sem pS).run P w= .ok v w/\AL g w r.2 v:=by
 have hl: ∀l:pD,(⟨l.toArray⟩:ByteArray).size=l.length:=fun l=>by simp [ByteArray.size]
 cases op<;>simp only[a0g,aVr,reduceCtorEq] at hr
 all_goals subst hr
 case add=>
  have h0:=hs _ (aVJ.2 rfl);refine⟨.string ⟨(m++n).toArray⟩,?_,BR _ _ _⟩;rw[aVu] at h0;have h1: ¬(((⟨m.toArray⟩:ByteArray).size+(⟨n.toArray⟩:ByteArray).size:Nat):Int) >IntKind.i64.max:=by rw[hl,hl,show IntKind.i64.max=9223372036854775807 from by decide];omega
  simp only[eqGuard,Go.binOp,Op.stringOp,aVM,aVv h1];simp;rfl
 case eql=>exact⟨.bool (decide (m=n)),by simp [eqGuard,Go.binOp,Op.stringOp,RC],xB _ _ _⟩
 case neq=>exact⟨.bool (!decide (m=n)),by simp [eqGuard,Go.binOp,Op.stringOp,RC],xB _ _ _⟩
 case lss=>exact⟨.bool (Op.bytesLess m n),by simp [eqGuard,Go.binOp,Op.stringOp],xB _ _ _⟩
 case leq=>exact⟨.bool (Op.bytesLess m n||decide (m=n)),by simp [eqGuard,Go.binOp,Op.stringOp,RC],xB _ _ _⟩
 case gtr=>exact⟨.bool (!(Op.bytesLess m n||decide (m=n))),by simp [eqGuard,Go.binOp,Op.stringOp,RC],xB _ _ _⟩
 case geq=>exact⟨.bool (!Op.bytesLess m n),by simp [eqGuard,Go.binOp,Op.stringOp],xB _ _ _⟩
theorem JB {r:Option (List Prop×DV)}{e:qT}(h:B2 r=some e): ∃q,r=some q/\e=⟨q.1,(q.2,none),[],[]⟩:=by
 cases r with
 |none=>cases h
 |some q=>obtain⟨p,d⟩:=q;exact⟨(p,d),rfl,(aVx h).symm⟩
theorem aLV (hH:sL g w H) {op:BinOp}{xt yt:TypeId}{x y:Operand}(ho:o.op= .binOp op xt x y yt) {sx sy:qC}(hx:rX g w sx (a.eval x)) (hy:rX g w sy (a.eval y)) {e:qT}
  (hr:B2 (UZ op sx sy)=some e) (hs: ∀p∈e.side,p):rN P o a g w H e:=by
 obtain⟨q,hq,rfl⟩:=JB hr;have go: ∀{u v:pS},a.eval x=u->a.eval y=v->(∃z,(do eqGuard op xt x y u v;Go.binOp op xt u v:Sem pS).run P w= .ok z w/\AL g w q.2 z)->rN P o a g w H ⟨q.1,(q.2,none),[],[]⟩:=by
  rintro u v rfl rfl ⟨z,hz,hd⟩;refine rN.pure hH (v:=z) ?_ hd;unfold execOp;rw[ho];simp only[aVM,aVU] at hz|-;rw[hz];rfl
 obtain⟨dx,kx⟩:=sx;obtain⟨dy,ky⟩:=sy;replace hx:=hx.1;replace hy:=hy.1;unfold UZ at hq;split at hq
 .rename_i k m k1 k' n k2 e1 e2;simp only[aV0] at e1 e2;obtain⟨rfl,-⟩:=e1;obtain⟨rfl,-⟩:=e2;unfold aBC at hq;split at hq
  .cases hq;have h0:=hs _ (aVJ.2 rfl);exact go (wX hx) (wX hy) ⟨.int k (a0f k m n),by simp [eqGuard,Go.binOp,Op.shift,a0f,Int.not_lt.2 h0],wY _ _ _ _⟩
  .cases hq;have h0:=hs _ (aVJ.2 rfl);exact go (wX hx) (wX hy) ⟨.int k (yR k m n),by simp [eqGuard,Go.binOp,Op.shift,yR,Int.not_lt.2 h0],wY _ _ _ _⟩
  .by_cases hk:k=k'
   .subst hk;rw[aVs rfl] at hq;exact go (wX hx) (wX hy) (aLT g hq hs)
   .rw[aVv hk] at hq;cases hq
 .rename_i m k1 n k2 e1 e2;simp only[aV0] at e1 e2;obtain⟨rfl,-⟩:=e1;obtain⟨rfl,-⟩:=e2;exact go (xA hx) (xA hy) (aLU g hq hs)
 .cases hq
theorem aLW (hH:sL g w H) {op:BinOp}{xt yt:TypeId}{x y:Operand}(ho:o.op= .binOp op xt x y yt) {ti:Option TI}{sx sy:qC}(hx:rX g w sx (a.eval x)) (hy:rX g w sy (a.eval y)) {e:qT}
  (hr:B2 (V0 op ti sx sy)=some e):rN P o a g w H e:=by
 obtain⟨q,hq,rfl⟩:=JB hr;unfold V0 at hq;split at hq
 .rename_i k m _ k' n _;by_cases hk:k=k'
  .subst hk;rw[aVs rfl] at hq;have hx1:=wX hx.1;have hy1:=wX hy.1;cases op<;>simp only[aBE,aVr,reduceCtorEq] at hq
   all_goals subst hq
   all_goals refine rN.pure hH (v:= .int k (k.wrap _)) ?_ (wY _ _ _ _)
   all_goals
    unfold execOp;rw[ho];simp [hx1,hy1,eqGuard,Go.binOp,Op.intArith]
  .rw[aVv hk] at hq;cases hq
 .cases hq
theorem aLX (hH:sL g w H) {op:UnOp}{xt:TypeId}{x:Operand}(ho:o.op= .unOp op xt x) {sx:qC}(hx:rX g w sx (a.eval x)) {e:qT}
  (hr:B2 (a0j op sx)=some e) (hs: ∀p∈e.side,p):rN P o a g w H e:=by
 obtain⟨q,hq,rfl⟩:=JB hr;replace hx:=hx.1;unfold a0j at hq;split at hq
 .have:=wE hx;cases hq;refine rN.pure hH (v:= .bool _) ?_ (xB _ _ _);simp [execOp,ho,this,Op.unary]
 .rename_i k n _;have:=wX hx;cases hq;refine rN.pure hH (v:= .int k (k.wrap (-n))) ?_ (WQ _ hs);simp [execOp,ho,this,Op.unary,Op.intArith]
 .cases hq
theorem WR {t:TypeId}{ti:TI}(h:uF P t ti): ∃d,P.underlying t=some d/\d.isRow=ti.ty.isRow:=by
 have h2:=h.2;unfold yV at h2;obtain⟨ty,el,by',ar,ls⟩:=ti;cases ty<;>simp only at h2
 case bool=>exact⟨_,h2,rfl⟩
 case int=>exact⟨_,h2,rfl⟩
 case str=>exact⟨_,h2,rfl⟩
 case list=>exact⟨_,h2.1,rfl⟩
 case ref=>obtain⟨e,h⟩:=h2;exact⟨_,h,rfl⟩
 case clo=>obtain⟨a,b,c,h⟩:=h2;exact⟨_,h,rfl⟩
 case mp=>exact⟨_,h2,rfl⟩
 case rl=>obtain⟨e,h⟩:=h2;exact⟨_,h,rfl⟩
 case fn=>obtain⟨a,b,c,h⟩:=h2;exact⟨_,h,rfl⟩
 case mref=>obtain⟨e,h⟩:=h2;exact⟨_,h,rfl⟩
 all_goals
  rcases h2.1 with⟨_,fs,h,_⟩ |⟨_,n,e,h,_⟩
  .exact⟨_,h,rfl⟩
  .exact⟨_,h,rfl⟩
theorem EJ {t:TypeId}{ti:TI}(h:uF P t ti): ∃i,P.info? t=some i/\i.size=ti.ty.cells/\i.zero=some (wW ti.ty):=by
 obtain⟨i,hi,he⟩:=aVA.1 h.1;simp only[aV0] at he;exact⟨i,hi,he.1,he.2⟩
theorem aLY {T:sV}(hT:y3 P T) (hH:sL g w H) {st dt:TypeId}{x:Operand}(ho:o.op= .convert st dt x) {sx:qC}(hx:rX g w sx (a.eval x)) {e:qT}
  (hr:B2 (V2 (rZ T st) (rZ T dt) sx)=some e):rN P o a g w H e:=by
 obtain⟨q,hq,rfl⟩:=JB hr;replace hx:=hx.1;generalize hs:rZ T st=os at hq;generalize hd:rZ T dt=od at hq;unfold V2 at hq;split at hq
 .rename_i k' k _ _ _ _ k0 n _;obtain⟨d,hd1,_⟩:=WR (tI hT hs);have hd2:=(tI hT hd).2;simp only[yV] at hd2;have:=wX hx;cases hq;refine rN.pure hH (v:= .int k (k.wrap n)) ?_ (wY _ _ _ _);simp [execOp,ho,this,Go.convert,aVP hd1,aVP hd2,Conv.intToInt]
 .rename_i k' _ _ _ _ s _;obtain⟨d,hd1,_⟩:=WR (tI hT hs);have hd2:=(tI hT hd).2;simp only[yV] at hd2;have:=xA hx;cases hq;refine rN.pure hH (v:= .string ⟨List.toArray s⟩) ?_ (BR _ _ _);simp [execOp,ho,this,Go.convert,aVP hd1,aVP hd2]
 .cases hq
theorem O0 {α:Type}{R:α->pN->Prop}{w:pR}{S:Nat->Nat->Prop}{c b:Nat}: ∀{l:List α}{o i:Nat}{x:α},zG R w S c b o l->l[i]? =some x->
  ∃cs,cs.length=c/\w.rangeAt b (o+i*c) cs/\(∀j,j<c->S b (o+i*c+j))/\R x cs
 |y::l,o,0,x,⟨⟨cs,h1,h2,h3,h4⟩,_⟩,h=>by
  simp only[aV1,aVr] at h;subst h;exact⟨cs,h1,by simpa using h2,by simpa using h3,h4⟩
 |y::l,o,i+1,x,⟨_,h5⟩,h=>by
  simp only[aWe] at h;obtain⟨cs,h1,h2,h3,h4⟩:=O0 h5 h;have e:o+c+i*c=o+(i+1)*c:=by rw[aWz];omega
  exact⟨cs,h1,by rw[<-e];exact h2,by rw[<-e];exact h3,h4⟩
theorem aCs {α:Type}{R:α->pN->Prop}{w:pR}{S:Nat->Nat->Prop}{c b:Nat}: ∀{l:List α}{o:Nat}(i:Nat),zG R w S c b o l->i<=l.length->zG R w S c b (o+i*c) (l.drop i)
 |_,o,0,h,_=>by simpa using h
 |[],o,i+1,_,h=>by simp at h
 |y::l,o,i+1,⟨_,h5⟩,h=>by
  have:=aCs i h5 (by simpa using h);have e:o+c+i*c=o+(i+1)*c:=by rw[aWz];omega
  rw[<-e];simpa using this
theorem aCt {α:Type}{R:α->pN->Prop}{w:pR}{S:Nat->Nat->Prop}{c b:Nat}: ∀{l:List α}{o:Nat}(i:Nat),zG R w S c b o l->zG R w S c b o (l.take i)
 |_,_,0,_=>by simp [zG]
 |[],_,_+1,_=>by simp [zG]
 |_::_,_,i+1,⟨h,h5⟩=>by simpa[zG] using⟨h,aCt i h5⟩
theorem a06 {g:Gh}{w:pR}: ∀{t:Ty}{x:t.den}{cs:pN}{f:Nat}{u:Ty}{y:u.den},Rd g w t x cs->t.proj x f=some ⟨u,y⟩->
  ∃o c1 c2 c3,t.offs f=some o/\t.fld f=some u/\cs=c1++c2++c3/\c1.length=o/\Rd g w u y c2:=by
 intro t
 induction t with
 |pair a b _ ihb=>
  intro x cs f u y r h;obtain⟨c1,c2,e,r1,r2⟩:=r;cases f with
  |zero=>
   simp only[Ty.proj,aVr,Sigma.mk.injEq] at h;obtain⟨rfl,h2⟩:=h;obtain rfl:=eq_of_heq h2;exact⟨0,[],c1,c2,rfl,rfl,by simpa using e,rfl,r1⟩
  |succ f=>
   simp only[Ty.proj] at h;obtain⟨o,d1,d2,d3,h1,h2,h3,h4,h5⟩:=ihb r2 h;refine⟨a.cells+o,c1++d1,d2,d3,by simp [Ty.offs,h1],by simpa[Ty.fld] using h2,by rw[e,h3];simp,?_,h5⟩;rw[aVu,h4,t7 r1]
 |_=>intro x cs f u y r h;cases f<;>simp [Ty.proj] at h
theorem a07 {P:Program}: ∀{ty:Ty}{off:Nat}{fs:List Field}{f o:Nat}{u:Ty},NZ P ty off fs->ty.offs f=some o->ty.fld f=some u->
  ∃fd,fs[f]? =some fd/\fd.offset=off+o/\(P.info? fd.type).map (·.size)=some u.cells/\(P.underlying fd.type).map (·.isRow)=some u.isRow:=by
 intro ty
 induction ty with
 |pair a b _ ihb=>
  intro off fs f o u h ho hu;cases fs with
  |nil=>exact h.elim
  |cons fd fs=>
   obtain⟨h1,h2,h3,h4⟩:=h;cases f with
   |zero=>
    simp only[Ty.offs,aVr] at ho;simp only[Ty.fld,aVr] at hu;subst ho;subst hu;exact⟨fd,rfl,pG,h2,h3⟩
   |succ f=>
    simp only[Ty.offs,aVA] at ho;obtain⟨o',ho',rfl⟩:=ho;obtain⟨fd',k1,k2,k3,k4⟩:=ihb h4 ho' hu;exact⟨fd',by simpa using k1,pG,k3,k4⟩
 |_=>intro off fs f o u h ho hu;cases f<;>simp [Ty.offs] at ho
theorem a08 {P:Program}{e:TypeId}: ∀{ty:Ty}{n f o:Nat}{u:Ty},RB P e ty n->ty.offs f=some o->ty.fld f=some u->
  f<n/\(P.info? e).map (·.size)=some u.cells/\(P.underlying e).map (·.isRow)=some u.isRow/\o=f*u.cells:=by
 intro ty
 induction ty with
 |pair a b _ ihb=>
  intro n f o u h ho hu;cases n with
  |zero=>exact h.elim
  |succ n=>
   obtain⟨h2,h3,h4⟩:=h;cases f with
   |zero=>
    simp only[Ty.offs,aVr] at ho;simp only[Ty.fld,aVr] at hu;subst ho;subst hu;exact⟨pG,h2,h3,by simp⟩
   |succ f=>
    simp only[Ty.offs,aVA] at ho;obtain⟨o',ho',rfl⟩:=ho;obtain⟨k1,k2,k3,k4⟩:=ihb h4 ho' hu;rw[h2] at k2;have hc:a.cells=u.cells:=aVx k2;exact⟨pG,by rw[h2,hc],k3,by rw[k4,hc,aWz];omega⟩
 |_=>intro n f o u h ho hu;cases f<;>simp [Ty.offs] at ho
theorem RD {t:TypeId}{u:Ty}(hi:(P.info? t).map (·.size)=some u.cells) (hr:(P.underlying t).map (·.isRow)=some u.isRow) {y:u.den}{c1 c2 c3:pN}(h:Rd g w u y c2):
  ∃v,(part t (c1++c2++c3).toArray c1.length).run P w= .ok v w/\tX g w u y v:=by
 obtain⟨i,hi,hsz⟩:=aVA.1 hi;obtain⟨d,hd,hrow⟩:=aVA.1 hr;have hl:=t7 h;by_cases hu:u.isRow=true
 .refine⟨.agg c2.toArray,?_,.inl ⟨hu,c2,rfl,h⟩⟩;have hagg:(isAgg t).run P w= .ok true w:=by
   unfold isAgg;rw[aVM,aVP hd w];rw[hu] at hrow;cases d<;>simp_all [TypeDesc.isRow]
  simp only[part,aVM,hagg,aVC,aW8,sizeOf,typeInfo,aWw,hi,hsz,aVU];congr 2;apply aWF.1;simp [<-hl]
 .have hu':u.isRow=false:=by simpa using hu
  have h1:u.cells=1:=by cases u<;>first|rfl|(simp [Ty.isRow] at hu')
  obtain⟨v,rfl⟩: ∃v,c2=[v]:=by
   rw[h1] at hl;exact aWU.1 hl
  refine⟨v,?_,.inr ⟨hu',h⟩⟩;have hagg:(isAgg t).run P w= .ok false w:=by
   unfold isAgg;rw[aVM,aVP hd w];rw[hu'] at hrow;cases d<;>simp_all [TypeDesc.isRow]
  simp only[part,aVM,hagg,aVC];simp
theorem a09 {t:TypeId}{ti:TI}(h:uF P t ti) (hr:ti.ty.isRow=true):
  (ti.arr=false/\∃fs,P.underlying t=some (.struct fs)/\NZ P ti.ty 0 fs.toList)\/(ti.arr=true/\∃n e,P.underlying t=some (.array n e)/\RB P e ti.ty n/\(P.info? e).isSome=true):=by
 have h2:=h.2;unfold yV at h2;obtain⟨ty,el,by',ar,ls⟩:=ti;cases ty<;>simp only[Ty.isRow,aXd] at hr<;>exact h2.1
theorem aCu {t:TypeId}{ti:TI}(h:uF P t ti) (hr:ti.ty.isRow=true) (ha:ti.arr=false): ∃fs,P.underlying t=some (.struct fs)/\NZ P ti.ty 0 fs.toList:=by
 rcases a09 h hr with⟨_,h⟩ |⟨h,_⟩
 .exact h
 .rw[ha] at h;cases h
theorem aCv {t:TypeId}{ti:TI}(h:uF P t ti) (hr:ti.ty.isRow=true) (ha:ti.arr=true): ∃n e,P.underlying t=some (.array n e)/\RB P e ti.ty n/\(P.info? e).isSome=true:=by
 rcases a09 h hr with⟨h,_⟩ |⟨_,h⟩
 .rw[ha] at h;cases h
 .exact h
theorem aLZ {t:Ty}{x:t.den}{f:Nat}{q: Σ u:Ty,u.den}(h:t.proj x f=some q):t.isRow=true:=by
 cases t<;>first|rfl|(cases f<;>simp [Ty.proj] at h)
theorem aL0 {t:Ty}{f o:Nat}(h:t.offs f=some o):t.isRow=true:=by
 cases t<;>first|rfl|(cases f<;>simp [Ty.offs] at h)
end
theorem aL1 (l:pD) (n:Nat) (h:n<l.length):(⟨l.toArray⟩:ByteArray)[n]? =some l[n]:=by
 have:n<(⟨l.toArray⟩:ByteArray).size:=by simpa[ByteArray.size] using h
 rw[getElem?_pos (⟨l.toArray⟩:ByteArray) n this];rfl
theorem yW {i:Int}{n:Nat}(h0:0<=i) (h1:i<n):i.toNat<n:=by omega
theorem aCw {i:Int}{n:Nat}(h0:0<=i) (h1:i.toNat<n):i<n:=by omega
section
variable {P:Program}{o:Oper}{a:Act}{g:Gh}{w:pR}{H:sE}{T:sV}(hT:y3 P T) (hH:sL g w H)
include hT hH
theorem aL2 {t:TypeId}{x:Operand}{f:Nat}(ho:o.op= .field t x f) {sx:qC}(hx:rX g w sx (a.eval x)) {e:qT}(hr:a0M f (rZ T t) sx=some e):rN P o a g w H e:=by
 generalize hs:rZ T t=ot at hr;replace hx:=hx.1;unfold a0M at hr;split at hr
 .rename_i ty el by' ls_ u y _;split at hr
  .rename_i hu;subst hu;have hty:=tI hT hs;generalize hp:u.proj y f=q at hr;cases q with
   |none=>cases hr
   |some q=>
    obtain⟨u,z⟩:=q;cases hr;have hrow:=aLZ hp;obtain⟨cs,hv,hR⟩:=LM hrow hx;obtain⟨oo,c1,c2,c3,h1,h2,rfl,rfl,h5⟩:=a06 hR hp;obtain⟨fs,hfs,hfe⟩:=aCu hty hrow rfl;obtain⟨fd,k1,k2,k3,k4⟩:=a07 hfe h1 h2;obtain⟨v,hv1,hv2⟩:=RD k3 k4 (P:=P) (c1:=c1) (c3:=c3) h5;refine rN.pure hH (v:=v) ?_ hv2;have k1':fs[f]? =some fd:=by simpa using k1
    simp only[execOp,ho,hv,Instr.field,aVM,aVP hfs,aVC,k1',asAgg,aVU,k2,aV5,hv1]
  .cases hr
 .cases hr
theorem a1a {t:TypeId}{ti:TI}(hty:uF P t ti) (har:ti.arr=false) {f oo:Nat}{u:Ty}(h1:ti.ty.offs f=some oo) (h2:ti.ty.fld f=some u) (hpos:0<u.cells) (b off:Nat):
  (Instr.fieldAt t (.pointer (some ⟨b,off,none⟩)) f).run P w= .ok (.pointer (some ⟨b,off+oo,none⟩)) w:=by
 obtain⟨fs,hfs,hfe⟩:=aCu hty (aL0 h1) har;obtain⟨fd,k1,k2,k3,k4⟩:=a07 hfe h1 h2;obtain⟨i,hi,hsz⟩:=aVA.1 k3;have k1':fs[f]? =some fd:=by simpa using k1
 have hne: ¬(u.cells=0):=by omega
 simp only[Instr.fieldAt,aVM,aVP hfs,aVC,k1',Instr.sureAddr,aVU,fieldPlace,sizeOf,typeInfo,aWw,hi,hsz,aVv hne,k2,aV5,aWS]
theorem aL3 {t:TypeId}{x:Operand}{f:Nat}(ho:o.op= .fieldAddr t x f) {sx:qC}(hx:rX g w sx (a.eval x)) {e:qT}(hr:a0L f (rZ T t) sx=some e):rN P o a g w H e:=by
 generalize hs:rZ T t=ot at hr;replace hx:=hx.1;unfold a0L at hr;split at hr
 .rename_i ty el by' ls_ k n c i o' _;have hty:=tI hT hs;generalize h1:ty.offs f=o1 at hr;generalize h2:ty.fld f=o2 at hr;unfold aB3 at hr;split at hr
  .split at hr
   .rename_i oo u hpos;cases hr;obtain⟨b,cap,hc,hi0,hi1,hv⟩:=hx;refine rN.pure hH (v:= .pointer (some ⟨b,i.toNat*c+o'+oo,none⟩)) ?_ ⟨b,cap,hc,hi0,hi1,by rw[aWc]⟩;simp only[execOp,ho,hv,aVM,a1a hT hH hty rfl h1 h2 hpos,aVC,aVU]
   .cases hr
  .cases hr
 .rename_i ty el by' ls_ u y _;split at hr
  .rename_i hu;subst hu;have hty:=tI hT hs;generalize hp:u.proj y f=q at hr;cases q with
   |none=>cases hr
   |some q=>
    obtain⟨u,z⟩:=q;simp only[VU] at hr;split at hr
    .rename_i hpos;cases hr;obtain⟨b,off,cs,hv,hra,hS,hR⟩:=hx;obtain⟨oo,c1,c2,c3,h1,h2,rfl,rfl,h5⟩:=a06 hR hp;refine rN.pure hH (v:= .pointer (some ⟨b,off+c1.length,none⟩)) ?_ ⟨b,off+c1.length,c2,rfl,fun j v hj=> ?_,fun j hj=> ?_,h5⟩
     .simp only[execOp,ho,hv,aVM,a1a hT hH hty rfl h1 h2 hpos,aVC,aVU]
     .have:=hra (c1.length+j) v (by
       have hj':=(aVK.1 hj).1;rw[aVy,aVI pG,aWo,aVN hj'];exact hj)
      rw[aWc];exact this
     .have:=hS (c1.length+j) (by
       have:=t7 hR;have h6:=t7 h5;simp only[aVu] at this;omega)
      rw[aWc];exact this
    .cases hr
  .cases hr
 .rename_i ty el by' ls_ i off _;have hty:=tI hT hs;generalize h1:ty.offs f=o1 at hr;generalize h2:ty.fld f=o2 at hr;unfold VV at hr;split at hr
  .split at hr
   .rename_i oo u hpos;cases hr;obtain⟨p,hp,hv⟩:=A6 hx;refine rN.pure hH (v:= .pointer (some ⟨p.1,p.2+off+oo,none⟩)) ?_ (.inr ⟨rfl,p,hp,by rw[aWc]⟩);simp only[execOp,ho,hv,aVM,a1a hT hH hty rfl h1 h2 hpos,aVC,aVU]
   .cases hr
  .cases hr
 .cases hr
theorem aL4 {x:Operand}{i:Nat}(ho:o.op= .extract x i) {sx:qC}(hx:rX g w sx (a.eval x)) {e:qT}(hr:a0P i sx=some e) (hs: ∀p∈e.side,p):rN P o a g w H e:=by
 replace hx:=hx.1;unfold a0P at hr;split at hr
 rotate_left
 .rename_i b p c _;have run: ∀(v:pS) (vs:Array pS),a.eval x= .tuple vs->vs[i]? =some v->(execOp a.eval o).run P w= .ok (.value v) w:=by
   intro v vs h1 h2;simp [execOp,ho,h1,Instr.extract,h2]
  obtain⟨h1,h2⟩:=hx;unfold aB4 at hr;split at hr
  .cases hr;cases b with
   |true=>exact rN.pure hH (run (.bool true) _ (h1 rfl) rfl) (xB _ _ _)
   |false=>exact rN.pure hH (run (.bool false) _ (h2 rfl) rfl) (xB _ _ _)
  .cases hr;have hb:=hs (b=true) pI;exact rN.pure hH (run (.int .i64 p) _ (h1 hb) rfl) (wY _ _ _ _)
  .cases hr;have hb:=hs (b=true) pI;exact rN.pure hH (run (.int .i32 c) _ (h1 hb) rfl) (wY _ _ _ _)
  .cases hr
 rotate_left
 .rename_i l _;obtain⟨vs,hv,hl⟩:=hx;have key: ∀(l:List ((Σ t:Ty,t.den)×pP)) (vs:pN) (i:Nat),NW g w l vs->VW l i=some e->∃v,vs[i]? =some v/\rX g w e.slot v/\e.upd=[]/\e.rds=[]:=by
   intro l
   induction l with
   |nil=>intro vs i _ h;cases i<;>cases h
   |cons q l ih=>
    obtain⟨⟨t,x⟩,k⟩:=q;rintro vs i ⟨v,vs',rfl,r1,r2,r3⟩ h;cases i with
    |zero=>
     simp only[VW,aVr] at h;subst h;refine⟨v,rfl,?_,rfl,rfl⟩;have gen:rX g w (.val t x,k) v:=⟨r1,by
      cases k with
      |none=>trivial
      |some k=>exact r2⟩
     cases t with
     |rl e u=>
      cases x with
      |none=>exact⟨r1,trivial⟩
      |some q=>
       obtain⟨k',n⟩:=q;obtain⟨v',h1,h2,h3⟩:=B9 rfl r1;simp only[aWp,and_true] at h2;subst h2;exact⟨⟨h1,h3⟩,trivial⟩
     |_=>exact gen
    |succ i=>
     obtain⟨v',h1,h2,h3,h4⟩:=ih vs' i r3 h;exact⟨v',by simpa using h1,h2,h3,h4⟩
  obtain⟨v,h1,h2,h3,h4⟩:=key l vs i hl hr;obtain⟨side,slot,upd,rds⟩:=e;simp only at h2 h3 h4;subst h3;refine rN.value (v:=v) (g':=g) (w':=w) ?_ (.pure hH h2);have:vs.toArray[i]? =some v:=by simpa using h1
  simp [execOp,ho,hv,Instr.extract,this]
 .cases hr
theorem aL5 {x:Operand}(ho:o.op= .nilCheck x) {sx:qC}(hx:rX g w sx (a.eval x)) {e:qT}(hr:a0K sx=some e):rN P o a g w H e:=by
 replace hx:=hx.1;unfold a0K at hr;split at hr
 .rename_i p _;obtain⟨i,off⟩:=p;cases hr;obtain⟨p,hp,hv⟩:=A6 hx;refine rN.pure hH (v:=a.eval x) ?_ hx;simp [execOp,ho,hv]
 .cases hr;obtain⟨b,off,cs,hv,h⟩:=hx;refine rN.pure hH (v:=a.eval x) ?_ ⟨b,off,cs,hv,h⟩;simp [execOp,ho,hv]
 .cases hr;obtain⟨b,cap,h1,h2,h3,hv⟩:=hx;refine rN.pure hH (v:=a.eval x) ?_ ⟨b,cap,h1,h2,h3,hv⟩;simp [execOp,ho,hv]
 .cases hr
theorem aL6 {t:TypeId}{x ix:Operand}(ho:o.op= .index t x ix) {sx si:qC}(hx:rX g w sx (a.eval x)) (hi:rX g w si (a.eval ix)) {e:qT}(hr:a0O (rZ T t) sx si=some e) (hs: ∀p∈e.side,p):rN P o a g w H e:=by
 generalize hst:rZ T t=ot at hr;replace hx:=hx.1;replace hi:=hi.1;unfold a0O at hr;split at hr
 .rename_i _ _ _ _ l _ k i _;cases hr;have hb:=hs _ (aVJ.2 rfl);have h2:=(tI hT hst).2;simp only[yV] at h2;have hv:=xA hx;have hvi:=wX hi;have hlt:(Int.toNat i)<List.length l:=yW hb.1 hb.2;refine rN.pure hH (v:= .int .u8 (sF l i)) ?_ (wY _ _ _ _);have hget:(if (0:Int)<=i then(⟨List.toArray l⟩:ByteArray)[Int.toNat i]? else none)=some (l[Int.toNat i]):=by
   rw[aVs hb.1];exact aL1 l _ hlt
  have hbyte:sF l i=((l[Int.toNat i]).toNat:Int):=by
   unfold sF;rw[aVY,aVF hlt];rfl
  simp only[execOp,ho,hv,hvi,Instr.index,asIntOf,aVM,aVU,aVC,aVP h2,hget,hbyte]
 .cases hr
theorem aL7 {t:TypeId}{x ix:Operand}(ho:o.op= .indexAddr t x ix) {sx si:qC}(hx:rX g w sx (a.eval x)) (hi:rX g w si (a.eval ix)) {e:qT}(hr:a0N (rZ T t) sx si=some e) (hs: ∀p∈e.side,p):rN P o a g w H e:=by
 generalize hst:rZ T t=ot at hr;replace hx:=hx.1;replace hi:=hi.1;unfold a0N at hr;split at hr
 .rename_i t' el by' ar ls_ k n _ k' i _;split at hr
  .rename_i hpos;cases hr;have hb:=hs _ (aVJ.2 rfl);obtain⟨h2,h3,_⟩:=(tI hT hst).2;obtain⟨ei,hei,hz⟩:=aVA.1 h3;simp only[aV0] at hz;have hvi:=wX hi;obtain⟨hc,hv⟩:=hx;rcases hv with⟨_,rfl⟩ |⟨b,cap,hv,hcap⟩
   .exact absurd (Int.lt_of_le_of_lt hb.1 hb.2) (Int.lt_irrefl 0)
   refine rN.pure hH (v:= .pointer (some ⟨b,0+Int.toNat i*t'.cells,none⟩)) ?_ ⟨b,cap,by rw[<-hv];exact hc,hb.1,hb.2,by rw[aV5,aWr]⟩;simp only[execOp,ho,hv,hvi,Instr.indexAt,asIntOf,aVM,aVU,aVC,aVP h2,sizeOf,typeInfo,aWw,hei,hz.1,aVs hb,aWS]
  .cases hr
 .rename_i t' el by' ar ls_ t1 l _ k i _;split at hr
  .rename_i htt;subst htt;cases hr;have hb:=hs _ (aVJ.2 rfl);obtain⟨h2,h3,_⟩:=(tI hT hst).2;obtain⟨ei,hei,hz⟩:=aVA.1 h3;simp only[aV0] at hz;have hvi:=wX hi;obtain⟨ad,cap,hv,hle,hl⟩:=DG hx;have hlt:(Int.toNat i)<List.length l:=yW hb.1 hb.2;rcases hl with rfl|⟨b,off,rfl,hL⟩
   .simp at hlt
   have hnth:l[Int.toNat i]? =some (qQ t1 l i):=by
    unfold qQ;rw[aVY,aVF hlt];rfl
   obtain⟨cs,hc1,hc2,hc3,hc4⟩:=O0 hL hnth;refine rN.pure hH (v:= .pointer (some ⟨b,off+Int.toNat i*t1.cells,none⟩)) ?_ ⟨b,_,cs,rfl,hc2,hc3,hc4⟩;simp only[execOp,ho,hv,hvi,Instr.indexAt,asIntOf,aVM,aVU,aVC,aVP h2,sizeOf,typeInfo,aWw,hei,hz.1,aVs hb,aWS]
  .cases hr
 .rename_i s u el by' ls_ i off _ k n _;have hty:=tI hT hst;generalize h1:(Ty.pair s u).offs (Int.toNat n)=o1 at hr;generalize h2:(Ty.pair s u).fld (Int.toNat n)=o2 at hr;unfold VV at hr;split at hr
  .split at hr
   .rename_i oo v hpos;cases hr;have hn0:=hs _ (aVJ.2 rfl);obtain⟨p,hp,hv⟩:=A6 hx;have hvi:=wX hi;obtain⟨len,el',hu,hel,_⟩:=aCv hty rfl rfl;obtain⟨k1,k2,k3,k4⟩:=a08 hel h1 h2;obtain⟨ei,hei,hz⟩:=aVA.1 k2;have hb:(0:Int)<=n/\(n:Int)<(len:Int):=⟨hn0,aCw hn0 k1⟩;refine rN.pure hH (v:= .pointer (some ⟨p.1,p.2+off+oo,none⟩)) ?_ (.inr ⟨rfl,p,hp,by rw[aWc]⟩);simp only[execOp,ho,hv,hvi,Instr.indexAt,Instr.sureAddr,asIntOf,aVM,aVU,aVC,aVP hu,sizeOf,typeInfo,aWw,hei,hz,aVs hb,aWS,k4]
   .cases hr
  .cases hr
 .rename_i s u el by' ls_ u' y _ k n _;split at hr
  .rename_i hu';subst hu';have hty:=tI hT hst;generalize hp:(Ty.pair s u).proj y (Int.toNat n)=q at hr;cases q with
   |none=>cases hr
   |some q=>
    obtain⟨v,z⟩:=q;simp only[VU] at hr;split at hr
    .rename_i hpos;cases hr;have hn0:=hs _ (aVJ.2 rfl);obtain⟨b,off,cs,hv,hra,hS,hR⟩:=hx;have hvi:=wX hi;obtain⟨oo,c1,c2,c3,h1,h2,rfl,rfl,h5⟩:=a06 hR hp;obtain⟨len,el',hu,hel,_⟩:=aCv hty rfl rfl;obtain⟨k1,k2,k3,k4⟩:=a08 hel h1 h2;obtain⟨ei,hei,hz⟩:=aVA.1 k2;have hb:(0:Int)<=n/\(n:Int)<(len:Int):=⟨hn0,aCw hn0 k1⟩;refine rN.pure hH (v:= .pointer (some ⟨b,off+c1.length,none⟩)) ?_ ⟨b,off+c1.length,c2,rfl,fun j v hj=> ?_,fun j hj=> ?_,h5⟩
     .simp only[execOp,ho,hv,hvi,Instr.indexAt,Instr.sureAddr,asIntOf,aVM,aVU,aVC,aVP hu,sizeOf,typeInfo,aWw,hei,hz,aVs hb,aWS,<-k4]
     .have:=hra (c1.length+j) v (by
       have hj':=(aVK.1 hj).1;rw[aVy,aVI pG,aWo,aVN hj'];exact hj)
      rw[aWc];exact this
     .have:=hS (c1.length+j) (by
       have:=t7 hR;have h6:=t7 h5;simp only[aVu] at this;omega)
      rw[aWc];exact this
    .cases hr
  .cases hr
 .cases hr
end
theorem aCx (off:Nat): ∀(vl:pN) (k:Nat) (cs:Array pS) (c1 c2 c3:pN),cs.toList=c1++c2++c3->c1.length=off+k->c2.length=vl.length->
  ((vl.zipIdx k).foldl (fun(cs:Array pS) (p:pS×Nat)=>cs.setIfInBounds (off+p.2) p.1) cs).toList=c1++vl++c3
 |[],_,cs,c1,c2,c3,h,_,h2=>by
  have:c2=[]:=aV2 (by simpa using h2);subst this;simpa using h
 |v::vl,k,cs,c1,c2,c3,h,h1,h2=>by
  cases c2 with
  |nil=>simp at h2
  |cons u c2=>
   simp only[List.zipIdx_cons,List.foldl_cons];have:=aCx off vl (k+1) (cs.setIfInBounds (off+k) v) (c1++[v]) c2 c3 (by
    rw[Array.toList_setIfInBounds,h,<-h1];simp) pJ (by simpa using h2)
   rw[this];simp
theorem aL8 (off:Nat) (vs cs:Array pS) (c1 c2 c3:pN) (h:cs.toList=c1++c2++c3) (h1:c1.length=off) (h2:c2.length=vs.size):
  (vs.zipIdx.foldl (fun(cs:Array pS) (x:pS×Nat)=>match x with|(c,j)=>cs.setIfInBounds (off+j) c) cs).toList=c1++vs.toList++c3:=by
 rw[<-aXu,Array.toList_zipIdx];exact aCx off vs.toList 0 cs c1 c2 c3 h pG (by simpa using h2)
theorem aCy {place:Nat->pO}{cells:Array pS}{i:Nat}{v:pS}{rest:List (Nat×pS)}{off size:Nat}{c1 c2 c3:pN}(hp:place i=some (off,size)) (hs:v.cells.size=size)
  (h:cells.toList=c1++c2++c3) (h1:c1.length=off) (h2:c2.length=size):
  Instr.fill place cells ((i,v)::rest)=Instr.fill place (c1++v.cells.toList++c3).toArray rest:=by
 have hsz:cells.size=c1.length+c2.length+c3.length:=by rw[<-aV6,h];simp;omega
 simp only[Instr.fill,hp];rw[aVv (by simp [hs];omega)];congr 1;apply aWF.1;rw[aL8 off v.cells cells c1 c2 c3 h h1 pG]
theorem a1b {k:Nat}: ∀{t:Ty}{o:Nat}{cs:pN},LA t=false->cs.length=t.cells->yJ k t o cs
 | .bool,_,_,_,_=>trivial
 | .int _,_,_,_,_=>trivial
 | .str,_,_,_,_=>trivial
 | .unit,_,_,_,_=>trivial
 | .ref,_,_,_,_=>trivial
 | .clo,_,_,_,_=>trivial
 | .mp,_,_,_,_=>trivial
 | .rl _ _,_,_,_,_=>trivial
 | .fn,_,_,_,_=>trivial
 | .mref,_,_,_,_=>trivial
 | .list _,_,_,h,_=>by simp [LA] at h
 | .pair a b,_,cs,h,hl=>by
  simp only[LA,aWf] at h;simp only[Ty.cells] at hl;exact⟨cs.take a.cells,cs.drop a.cells,by simp,by rw[aVQ];omega,a1b h.1 (by rw[aVQ];omega),a1b h.2 (by rw[aVO];omega)⟩
theorem a1c: ∀t:Ty,(uP t).length=t.cells
 | .bool=>rfl
 | .int _=>rfl
 | .str=>rfl
 | .unit=>rfl
 | .ref=>rfl
 | .clo=>rfl
 | .mp=>rfl
 | .rl _ _=>rfl
 | .fn=>rfl
 | .mref=>rfl
 | .list _=>rfl
 | .pair a b=>by simp only[uP,aVu,a1c a,a1c b,Ty.cells]
theorem WS {k:Nat}: ∀(t:Ty) (o:Nat),yJ k t o (uP t)
 | .bool,_=>trivial
 | .int _,_=>trivial
 | .str,_=>trivial
 | .unit,_=>trivial
 | .ref,_=>trivial
 | .clo,_=>trivial
 | .mp,_=>trivial
 | .rl _ _,_=>trivial
 | .fn,_=>trivial
 | .mref,_=>trivial
 | .list _,_=> .inr rfl
 | .pair a b,_=>⟨uP a,uP b,rfl,a1c a,WS a _,WS b _⟩
theorem aCz {g:Gh}{w:pR}{k:Nat}: ∀{t:Ty}{x:t.den}{cs:pN}{off o:Nat},yJ k t off cs->Rd g w t x cs->FS t o=true->off+o+1≠k->∃(u:Ty),rK (.list u) t x o=some []/\cs[o]? =some (.slice none 0 0):=by
 intro t
 induction t with
 |pair a b iha ihb=>
  intro x cs off o hn hr hl hk;obtain⟨c1,c2,e,h1,h2,h3⟩:=hn;obtain⟨d1,d2,e',r1,r2⟩:=hr;have hd:c1=d1/\c2=d2:=aXt (e.symm.trans e') (by rw[h1,t7 r1]);obtain⟨rfl,rfl⟩:=hd;have key: ∀(u:Ty) q,rK (.list u) (.pair a b) x q=if q<a.cells then rK (.list u) a x.1 q else rK (.list u) b x.2 (q-a.cells):=by
   intro u q;cases q with
   |zero=>
    conv=>lhs;unfold rK
    rw[aXb (by intro e;cases e),Nat.zero_sub]
   |succ q=>simp [rK]
  have hl':(if o<a.cells then FS a o else FS b (o-a.cells))=true:=by
   cases o<;>simpa[FS] using hl
  by_cases ho:o<a.cells
  .rw[aVs ho] at hl';obtain⟨u,k1,k2⟩:=iha h2 r1 hl' hk;exact⟨u,by rw[key,aVs ho];exact k1,by rw[e,aVN pG];exact k2⟩
  .rw[aVv ho] at hl';obtain⟨u,k1,k2⟩:=ihb h3 r2 hl' pG;exact⟨u,by rw[key,aVv ho];exact k1,by rw[e,aVI pG,h1];exact k2⟩
 |list u=>
  intro x cs off o hn hr hl hk;cases o with
  |succ o=>simp [FS] at hl
  |zero=>
   obtain⟨a,cap,e,_,_⟩:=hr;have hn':cs=[.slice none 0 0]:=hn.resolve_left (by simpa using hk);rw[hn'] at e;simp only[aWp,aXv,and_true] at e;have:(x:List u.den)=[]:=aV2 e.2.1.symm;subst this;exact⟨u,by unfold rK;simp [v8],by rw[hn'];rfl⟩
 |_=>intro x cs off o hn hr hl;cases o<;>simp [FS] at hl
theorem aL9 {g:Gh}{w:pR}{u:Ty}{y:u.den}{cy:pN}(hy:Rd g w u y cy): ∀{t:Ty}{x z:t.den}{cs:pN}{f:Nat},Rd g w t x cs->Ty.setPart u y t x f=some z->
  ∃o c1 c2 c3,t.offs f=some o/\t.fld f=some u/\cs=c1++c2++c3/\c1.length=o/\c2.length=u.cells/\Rd g w t z (c1++cy++c3)/\(∀k off,yJ k t off cs->yJ k u (off+o) cy->yJ k t off (c1++cy++c3)):=by
 intro t
 induction t with
 |pair a b _ ihb=>
  intro x z cs f r h;obtain⟨c1,c2,e,r1,r2⟩:=r;cases f with
  |zero=>
   simp only[Ty.setPart] at h;split at h
   .rename_i hu;subst hu;simp only[v8,aVr] at h;subst h;refine⟨0,[],c1,c2,rfl,rfl,by simpa using e,rfl,t7 r1,⟨cy,c2,by simp,hy,r2⟩,fun k off ⟨d1,d2,e',k1,_,k3⟩ hcy=> ?_⟩;obtain⟨rfl,rfl⟩:=aXt (e'.symm.trans e) (by rw[k1,t7 r1]);exact⟨cy,d2,by simp,t7 hy,hcy,k3⟩
   .cases h
  |succ f=>
   simp only[Ty.setPart,aVA] at h;obtain⟨q,hq,rfl⟩:=h;obtain⟨o,d1,d2,d3,h1,h2,h3,h4,h5,h6,h7⟩:=ihb r2 hq;refine⟨a.cells+o,c1++d1,d2,d3,by simp [Ty.offs,h1],by simpa[Ty.fld] using h2,by rw[e,h3];simp,?_,h5,⟨c1,d1++cy++d3,by simp,r1,h6⟩,fun k off ⟨k1,k2,e',k3,k4,k5⟩ hcy=>by
    obtain⟨rfl,rfl⟩:=aXt (e'.symm.trans e) (by rw[k3,t7 r1]);exact⟨k1,d1++cy++d3,by simp,k3,k4,h7 k _ k5 (by rw[aWc];exact hcy)⟩⟩
   rw[aVu,h4,t7 r1]
 |_=>intro x z cs f r h;cases f<;>simp [Ty.setPart] at h
theorem a1d {g:Gh}{w:pR}{t:Ty}{ev:Operand->pS}{ρ:Operand->qC}{place:Nat->pO}(hp: ∀f o u,t.offs f=some o->t.fld f=some u->place f=some (o,u.cells)):
  ∀(ps:List (Nat×Operand)) (x z:t.den) (cs:pN),Rd g w t x cs->(∀q∈ps,rX g w (ρ q.2) (ev q.2))->B3 t (some x) (vA ρ ps)=some z->
  ∃cs',Instr.fill place cs.toArray (ps.map fun q=>(q.1,ev q.2))=some cs'.toArray/\Rd g w t z cs'/\(∀m k,B6 t (vA ρ ps)=some m->m=0\/m=k->yJ k t 0 cs->yJ k t 0 cs')
 |[],x,z,cs,r,_,h=>by
  simp only[vA,B3,aVr] at h;subst h;exact⟨cs,rfl,r,fun _ _ _ _ h=>h⟩
 |(i,q)::ps,x,z,cs,r,hq,h=>by
  have h0:=hq (i,q) pI;have step: ∀{u:Ty}{y:u.den}{z1:t.den},tX g w u y (ev q)->Ty.setPart u y t x i=some z1->B3 t (some z1) (vA ρ ps)=some z->(∀m k,B6 t (vA ρ ((i,q)::ps))=some m->m=0\/m=k->(∀o,t.offs i=some o->yJ k u o (ev q).cells.toList)/\∃m',B6 t (vA ρ ps)=some m'/\(m'=0\/m'=k))->
    ∃cs',Instr.fill place cs.toArray (((i,q)::ps).map fun q=>(q.1,ev q.2))=some cs'.toArray/\Rd g w t z cs'/\(∀m k,B6 t (vA ρ ((i,q)::ps))=some m->m=0\/m=k->yJ k t 0 cs->yJ k t 0 cs'):=by
   intro u y z1 hv hset h hpl;obtain⟨o,c1,c2,c3,h1,h2,rfl,h4,h5,h6,h7⟩:=aL9 (FW hv) r hset;obtain⟨cs',hf,hr,hn⟩:=a1d hp ps z1 z _ h6 (fun q hq'=>hq q (by simp [hq'])) h;refine⟨cs',?_,hr,fun m k hpp hm hcs=> ?_⟩
   rotate_left
   .obtain⟨q1,m',q2,q3⟩:=hpl m k hpp hm;exact hn m' k q2 q3 (h7 k 0 hcs (by rw[aV5];exact q1 o h1))
   simp only[aWy];rw[aCy (hp i o u h1 h2) (by have:=t7 (FW hv);simpa using this) (c1:=c1) (c2:=c2) (c3:=c3) pI h4 h5];exact hf
  generalize hs:ρ q=s at h0;simp only[vA,hs] at h;obtain⟨d,k⟩:=s;cases d with
  |val u y=>
   simp only[B3] at h;generalize hset:Ty.setPart u y t x i=o1 at h;cases o1 with
   |none=>cases ps with
    |nil=>simp [vA,B3] at h
    |cons p ps=>simp [vA,B3] at h
   |some z1=>
    have hpl: ∀m k,B6 t (vA ρ ((i,q)::ps))=some m->m=0\/m=k->(∀o,t.offs i=some o->yJ k u o (ev q).cells.toList)/\∃m',B6 t (vA ρ ps)=some m'/\(m'=0\/m'=k):=by
     intro m k hpp hm;simp only[vA,hs,B6] at hpp;cases hu:LA u with
     |false=>
      rw[hu] at hpp;simp only[VI] at hpp;exact⟨fun o _=>a1b hu (t7 (FW h0.1)),m,hpp,hm⟩
     |true=>
      rw[hu] at hpp;cases hu2:a0x u with
      |false=>rw[hu2] at hpp;simp [VI] at hpp
      |true=>
       rw[hu2] at hpp;simp only[VI] at hpp;cases ho:t.offs i with
       |none=>rw[ho] at hpp;simp [VH] at hpp
       |some o=>
        rw[ho] at hpp;cases hm2:B6 t (vA ρ ps) with
        |none=>rw[hm2] at hpp;simp [VH] at hpp
        |some m'=>
         rw[hm2] at hpp;simp only[VH] at hpp;split at hpp
         .rename_i hm0;subst hm0;simp only[aVr] at hpp;refine⟨fun o' ho'=> ?_,0,rfl,.inl rfl⟩;obtain rfl:=aVx ho';cases u with
          |list u=>exact .inl pG
          |_=>simp [a0x] at hu2
         .cases hpp
    obtain⟨cs',k1,k2,k3⟩:=step h0.1 hset h hpl;exact⟨cs',k1,k2,k3⟩
  |nilS=>
   simp only[B3] at h;generalize hfl:t.fld i=fl at h;cases fl with
   |none=>cases ps<;>simp [V4,vA,B3] at h
   |some u=>
    cases u with
    |list u=>
     simp only[V4] at h;generalize hset:Ty.setPart (.list u) [] t x i=o1 at h;cases o1 with
     |none=>cases ps<;>simp [vA,B3] at h
     |some z1=>
      have hev:ev q= .slice none 0 0:=h0.1;refine step (u:= .list u) (y:=[]) ?_ hset h (fun m k hpp hm=> ?_)
      .rw[hev];exact .inr ⟨rfl,none,0,rfl,aVR _,.inl rfl⟩
      .simp only[vA,hs,B6] at hpp;exact⟨fun o _=>by rw[hev];exact .inr rfl,m,hpp,hm⟩
    |_=>cases ps<;>simp [V4,vA,B3] at h
  |_=>simp [B3] at h
section
variable {P:Program}{o:Oper}{a:Act}{g:Gh}{w:pR}{H:sE}{T:sV}(hT:y3 P T) (hH:sL g w H)
include hT hH
theorem aCA {P:Program}(w:pR): ∀(fs:List Field),(∀f∈fs,∃n,(P.info? f.type).map (·.size)=some n)->
  (fs.mapM (fun f=>do pure (f.offset,<-sizeOf f.type):Field->Sem (Nat×Nat))).run P w= .ok (fs.map fun f=>(f.offset,((P.info? f.type).map (·.size)).getD 0)) w
 |[],_=>rfl
 |f::fs,h=>by
  obtain⟨n,hn⟩:=h f pI;obtain⟨i,hi,hsz⟩:=aVA.1 hn;rw[List.mapM_cons];simp only[aVM,sizeOf,typeInfo,aWw,hi,aVC,aVU];have:=aCA w fs (fun f hf=>h f (by simp [hf]));simp only[sizeOf,typeInfo,aVM,aWw] at this;rw[this];simp [hi]
theorem aMa {P:Program}: ∀{ty:Ty}{off:Nat}{fs:List Field},NZ P ty off fs->∀f∈fs,∃n,(P.info? f.type).map (·.size)=some n:=by
 intro ty
 induction ty with
 |pair a b _ ihb=>
  intro off fs h f hf;cases fs with
  |nil=>cases hf
  |cons fd fs=>
   obtain⟨_,h2,_,h4⟩:=h;rcases aVH.1 hf with rfl|hf
   .exact⟨_,h2⟩
   .exact ihb h4 f hf
 |unit=>intro off fs h f hf;cases fs with|nil=>cases hf|cons=>exact h.elim
 |_=>intro off fs h f hf;cases fs<;>exact h.elim
omit hT hH in
theorem aCB {t:Ty}{x:t.den}{cs:pN}{ps:List (Nat×qC)}(h: ∀m k,B6 t ps=some m->m=0\/m=k->yJ k t 0 (uP t)->yJ k t 0 cs):match ((DV.val t x,a0y t (B6 t ps)):qC) with
  |(_,none)=>True
  |(.val t x,some k)=>DD g t x (.agg cs.toArray) (some k)
  |(_,some _)=>False:=by
 cases hp:B6 t ps with
 |none=>cases t<;>trivial
 |some m=>
  cases t with
  |pair a b=>
   have:=h m m hp (.inr rfl) (WS _ _);simpa[a0y,DD,Value.cells] using this
  |_=>trivial
omit hT in
theorem rN.pureS {s:qC}{v:pS}(hr:(execOp a.eval o).run P w= .ok (.value v) w) (hs:rX g w s v):rN P o a g w H ⟨[],s,[],[]⟩:=
 rN.value hr (.pure hH hs)
theorem aMb {t:TypeId}{ps:Array (Nat×Operand)}(ho:o.op= .build t ps) {ρ:Operand->qC}(hρ: ∀q∈ps.toList,rX g w (ρ q.2) (a.eval q.2)) {e:qT}(hr:a0z (vA ρ ps.toList) (rZ T t)=some e):rN P o a g w H e:=by
 generalize hs:rZ T t=ot at hr;cases ot with
 |none=>cases hr
 |some ti=>
  have hty:=tI hT hs;simp only[a0z] at hr;by_cases hrow:ti.ty.isRow=true
  case neg=>rw[aVv hrow] at hr;cases hr
  rw[aVs hrow] at hr;generalize hb:B3 ti.ty (some ti.ty.zero) (vA ρ ps.toList)=ox at hr;cases ox with
  |none=>cases hr
  |some x=>
   cases hr;obtain⟨i,hi,hsz,hz⟩:=EJ hty;have hzv:wW ti.ty= .agg (uP ti.ty).toArray:=by unfold wW;rw[aVs hrow]
   have hzr: ∀w,(zeroValue t).run P w= .ok (.agg (uP ti.ty).toArray) w:=by
    intro w;simp [zeroValue,typeInfo,hi,hz,hzv]
   have hmap:(ps.map fun(q:Nat×Operand)=>(q.1,a.eval q.2)).toList=ps.toList.map fun q=>(q.1,a.eval q.2):=by simp
   rcases a09 hty hrow with⟨har,fs,hfs,hfe⟩ |⟨har,n,el,hu,hel,hsome⟩
   .have hpl:=aCA (P:=P) hT hH w fs.toList (aMa hT hH hfe);obtain⟨cs',hf,hR,hN⟩:=a1d (g:=g) (w:=w) (ev:=a.eval) (ρ:=ρ) (t:=ti.ty) (place:=fun j=>((fs.map fun f=>(f.offset,((P.info? f.type).map (·.size)).getD 0))[j]?)) (fun f oo u h1 h2=>by
     obtain⟨fd,k1,k2,k3,_⟩:=a07 hfe h1 h2;have k1':fs[f]? =some fd:=by simpa using k1
     simp [k1',k2,k3]) ps.toList ti.ty.zero x (uP ti.ty) (EI g w ti.ty) hρ hb
    refine rN.pureS hH (v:= .agg cs'.toArray) ?_ ⟨.inl ⟨hrow,cs',rfl,hR⟩,aCB hN⟩;have hmp:(fs.mapM (fun f=>do pure (f.offset,<-sizeOf f.type):Field->Sem (Nat×Nat))).run P w= .ok (fs.map fun f=>(f.offset,((P.info? f.type).map (·.size)).getD 0)) w:=by
     rw[Array.mapM_eq_mapM_toList,Sem.run_map,hpl];simp only[aVC];congr 1;apply aWF.1;simp
    simp only[execOp,ho,Instr.build,aVM,hzr,aVC,aVP hfs,hmp,Value.cells];rw[hmap,hf];rfl
   .obtain⟨cs',hf,hR,hN⟩:=a1d (g:=g) (w:=w) (ev:=a.eval) (ρ:=ρ) (t:=ti.ty) (place:=fun j=>some (j*((P.info? el).map (·.size)).getD 0,((P.info? el).map (·.size)).getD 0)) (fun f oo u h1 h2=>by
     obtain⟨k1,k2,k3,k4⟩:=a08 hel h1 h2;simp [k2,k4]) ps.toList ti.ty.zero x (uP ti.ty) (EI g w ti.ty) hρ hb
    refine rN.pureS hH (v:= .agg cs'.toArray) ?_ ⟨.inl ⟨hrow,cs',rfl,hR⟩,aCB hN⟩;obtain⟨ei,hei⟩:=aVt.1 hsome;simp only[hei,Option.map_some,aXA] at hf;simp only[execOp,ho,Instr.build,aVM,hzr,aVC,aVP hu,sizeOf,typeInfo,aWw,hei,aVU,Value.cells];rw[hmap,hf];rfl
theorem a1e {ρ:Operand->qC}{ev:Operand->pS}: ∀{xs:List Operand}{ss:List qC},(∀x∈xs,rX g w (ρ x) (ev x))->wD ρ xs=ss->∃vs,xs.map ev=vs/\vs.length=ss.length/\∀(i:Nat) (s:qC) (v:pS),ss[i]? =some s->vs[i]? =some v->rX g w s v
 |[],_,_,h=>⟨[],rfl,by rw[<-h];rfl,fun i s v _ hv=>by simp at hv⟩
 |x::xs,ss,hx,h=>by
  subst h;obtain⟨vs,h1,h2,h3⟩:=a1e (fun y hy=>hx y (by simp [hy])) rfl (xs:=xs);refine⟨ev x::vs,by simp [h1],by simp [wD,h2],fun i s v hs hv=> ?_⟩;cases i with
  |zero=>
   simp only[wD,aV1,aVr] at hs hv;subst hs;subst hv;exact hx x pI
  |succ i=>
   simp only[wD,aWe] at hs hv;exact h3 i s v hs hv
theorem WT {ρ:Operand->qC}{ev:Operand->pS}{args:Array Operand}{s:qC}(hρ: ∀x∈args.toList,rX g w (ρ x) (ev x)) (h:wD ρ args.toList=[s]): ∃v,args.map ev= #[v]/\rX g w s v:=by
 obtain⟨vs,h1,h2,h3⟩:=a1e hT hH hρ h;obtain⟨v,rfl⟩:=aWU.1 h2;exact⟨v,by apply aWF.1;simpa using h1,h3 0 s v rfl rfl⟩
theorem WU {ρ:Operand->qC}{ev:Operand->pS}{args:Array Operand}{s t:qC}(hρ: ∀x∈args.toList,rX g w (ρ x) (ev x)) (h:wD ρ args.toList=[s,t]): ∃v u,args.map ev= #[v,u]/\rX g w s v/\rX g w t u:=by
 obtain⟨vs,h1,h2,h3⟩:=a1e hT hH hρ h
 match vs,h2 with
 |[v,u],_=>exact⟨v,u,by apply aWF.1;simpa using h1,h3 0 s v rfl rfl,h3 1 t u rfl rfl⟩
theorem HE {b:Builtin}{args:Array Operand}{tys:Array TypeId}(ho:o.op= .call ⟨.builtin b,args,tys⟩):
  ∃cs,execOp a.eval o=builtin b tys o.type cs (args.map a.eval):=by
 refine⟨args.map fun| .const _=>true|_=>false,?_⟩
 unfold execOp;rw[ho];rfl
theorem aMc (x y:Int):(if y<x then y else x)=min x y:=by rw[Int.min_def];split<;>split<;>omega
theorem aMd (x y:Int):(if y>x then y else x)=max x y:=by rw[Int.max_def];split<;>split<;>omega
theorem aMe {args:Array Operand}{tys:Array TypeId}(ho:o.op= .call ⟨.builtin .len,args,tys⟩) {ρ:Operand->qC}(hρ: ∀x∈args.toList,rX g w (ρ x) (a.eval x)) {e:qT}
  (hr:W6 T H (wD ρ args.toList) tys.toList=some e):rN P o a g w H e:=by
 obtain⟨t0,tr,htl⟩: ∃t0 tr,tys.toList=t0::tr:=by cases h:tys.toList with|nil=>(rw[h] at hr;cases hr) |cons t r=>exact⟨t,r,rfl⟩
 have ht0:tys[0]? =some t0:=by rw[<-aWB,htl];rfl
 rw[htl] at hr;simp only[W6] at hr;generalize hst:rZ T t0=ot at hr;generalize hss:wD ρ args.toList=ss at hr;unfold a0Q at hr;split at hr
 .rename_i el fl ar ls_ i k;generalize hb:qE H i=ob at hr;unfold VX at hr;split at hr
  .rename_i kt vt l;cases hr;obtain⟨v,hv,hs⟩:=WT hT hH hρ hss;have h2:=(tI hT hst).2;simp only[yV] at h2;obtain⟨p,es,cl,hp,hp0,hh,hM,hS⟩:=hH.blk i _ hb;obtain⟨p',hp',hxv⟩: ∃p,g.J i=some p/\v= .map (some p.1):=by
    rcases hs.1 with⟨h1,_⟩ |⟨_,p,h3,h4⟩
    .cases h1
    .simp only[aWp,and_true] at h4;exact⟨p,h3,h4⟩
   rw[hp] at hp';obtain rfl:=aVx hp';have hlen: ∀{l:List (kt.den×vt.den)}{es:List MapEntry},EG g w kt vt l es->es.length=l.length:=by
    intro l
    induction l with
    |nil=>intro es h;rw[show es=[] from h];rfl
    |cons q l ih=>intro es h;obtain⟨e,es',rfl,_,_,h5⟩:=h;simp [ih h5]
   refine rN.pure hH (v:= .int .i64 (List.length l:Int)) ?_ (wY _ _ _ _);obtain⟨cs,hx⟩:=HE (a:=a) hT hH ho;rw[hx,hv,hxv];have harg:(#[Value.map (some p.1)]:Array pS)[0]? =some (.map (some p.1)):=rfl;have hobj:(getObj p.1).run P w= .ok (.map es cl) w:=by simp [getObj,Sem.run,hh]
   simp only[builtin,Builtin.len_,ht0,harg,aVM,aVP h2,aVC,aVU,goInt,hobj];rw[<-hlen hM,aV6]
  .cases hr
 .rename_i el by' ar ls_ l k;cases hr;obtain⟨v,hv,hs⟩:=WT hT hH hρ hss;have h2:=(tI hT hst).2;simp only[yV] at h2;have hv':=xA hs.1;refine rN.pure hH (v:= .int .i64 (List.length l:Int)) ?_ (wY _ _ _ _);subst hv';obtain⟨cs,hx⟩:=HE (a:=a) hT hH ho;rw[hx,hv];have harg:(#[Value.string ⟨List.toArray l⟩]:Array pS)[0]? =some (.string ⟨List.toArray l⟩):=rfl;simp only[builtin,Builtin.len_,ht0,harg,aVM,aVP h2,aVC,aVU,goInt];rfl
 .rename_i u el by' ar ls_ t l k;cases hr;obtain⟨v,hv,hs⟩:=WT hT hH hρ hss;have h2:=(tI hT hst).2.1;obtain⟨ad,cap,rfl,_⟩:=DG hs.1;refine rN.pure hH (v:= .int .i64 (List.length l:Int)) ?_ (wY _ _ _ _);obtain⟨cs,hx⟩:=HE (a:=a) hT hH ho;rw[hx,hv];have harg:(#[Value.slice ad (List.length l) cap]:Array pS)[0]? =some (.slice ad (List.length l) cap):=rfl;simp only[builtin,Builtin.len_,ht0,harg,aVM,aVP h2,aVC,aVU,goInt]
 .rename_i u el by' ar ls_ ko n k;cases hr;obtain⟨v,hv,hs⟩:=WT hT hH hρ hss;have h2:=(tI hT hst).2.1;obtain⟨ad,cap,rfl⟩: ∃ad cap,v= .slice ad n cap:=by
   rcases hs.1.2 with⟨h,rfl⟩ |⟨b,cap,h,_⟩
   .exact⟨_,_,h⟩
   .exact⟨_,_,h⟩
  refine rN.pure hH (v:= .int .i64 (n:Int)) ?_ (wY _ _ _ _);obtain⟨cs,hx⟩:=HE (a:=a) hT hH ho;rw[hx,hv];have harg:(#[Value.slice ad n cap]:Array pS)[0]? =some (.slice ad n cap):=rfl;simp only[builtin,Builtin.len_,ht0,harg,aVM,aVP h2,aVC,aVU,goInt]
 .cases hr
theorem aCC {args:Array Operand}{tys:Array TypeId}{mx:Bool}(ho:o.op= .call ⟨.builtin (if mx then .max else .min),args,tys⟩) {ρ:Operand->qC}(hρ: ∀x∈args.toList,rX g w (ρ x) (a.eval x)) {e:qT}
  (hr:B2 (W4 mx (wD ρ args.toList))=some e):rN P o a g w H e:=by
 obtain⟨q,hq,rfl⟩:=JB hr;generalize hss:wD ρ args.toList=ss at hq;unfold W4 at hq;split at hq
 .rename_i k x k1 k' y k2;split at hq
  .rename_i hk;subst hk;cases hq;obtain⟨v,u,hv,hs1,hs2⟩:=WU hT hH hρ hss;have e1:=wX hs1.1;have e2:=wX hs2.1;subst e1;subst e2;cases mx
   .refine rN.pure hH (v:= .int k (min (x:Int) y)) ?_ (wY _ _ _ _);obtain⟨cs,hx⟩:=HE (a:=a) hT hH ho;rw[hx,hv];have:=aMc hT hH x y;simp [builtin,Builtin.min_,Builtin.min2,this]
   .refine rN.pure hH (v:= .int k (max (x:Int) y)) ?_ (wY _ _ _ _);obtain⟨cs,hx⟩:=HE (a:=a) hT hH ho;rw[hx,hv];have:=aMd hT hH x y;simp [builtin,Builtin.max_,Builtin.max2,this]
  .cases hq
 .cases hq
theorem aMf {f:FuncId}{caps:Array Operand}(ho:o.op= .makeFunc (.func f) #[] caps) {ρ:Operand->qC}(hρ: ∀x∈caps.toList,rX g w (ρ x) (a.eval x)) {e:qT}
  (hr:aB2 f (L1 (wD ρ caps.toList))=some e):rN P o a g w H e:=by
 generalize hc:L1 (wD ρ caps.toList)=oc at hr;cases oc with
 |none=>cases hr
 |some l=>
  cases hr;have key: ∀(xs:List Operand) (l:pL),(∀x∈xs,rX g w (ρ x) (a.eval x))->L1 (wD ρ xs)=some l->yU g l (xs.map a.eval):=by
   intro xs
   induction xs with
   |nil=>intro l _ h;simp only[wD,L1,aVr] at h;subst h;rfl
   |cons x xs ih=>
    intro l hx h;have h0:=hx x pI;generalize hs:ρ x=s at h0;simp only[wD,hs] at h;obtain⟨d,k⟩:=s;unfold L1 at h;split at h
    .cases ‹_=[]›
    .rename_i p k r heq;simp only[aWp,aV0] at heq;obtain⟨⟨rfl,rfl⟩,rfl⟩:=heq;obtain⟨l',hl',rfl⟩:=aVA.1 h;obtain⟨i,off⟩:=p;obtain⟨p,hp,hv⟩:=A6 h0.1;exact⟨p,_,hp,by rw[aWy,hv],ih l' (fun y hy=>hx y (by simp [hy])) hl'⟩
    .cases h
  refine rN.pure hH (v:= .func (.func f) #[] (caps.map a.eval)) ?_ (.inr ⟨rfl,caps.toList.map a.eval,key _ _ hρ hc,by congr 2;apply aWF.1;simp⟩);simp [execOp,ho,Instr.makeFunc]
end
theorem a1f {α:Type}{l:List α}{m n:Int}(h0:0≤m) (h1:m≤n) (h2:n≤(l.length:Int)):(sO l m n).length=n.toNat-m.toNat:=by
  unfold sO;rw[aVQ,aVO];omega
theorem aCD {α:Type}{R:α→pN→Prop}{c:Nat}: ∀{l:List α}{cs:pN}{i:Nat}{x:α},uE R c l cs→l[i]? =some x→∃c1 c2 c3,cs=c1++c2++c3∧c1.length=i*c∧c2.length=c∧R x c2
  | y::l,_,0,x,⟨c1,c2,e,h1,h2,h3⟩,h=>by
    simp only[aV1,aVr] at h;subst h;exact⟨[],c1,c2,by simpa using e,by simp,h1,h2⟩
  | y::l,_,i+1,x,⟨c1,c2,e,h1,h2,h3⟩,h=>by
    simp only[aWe] at h;obtain⟨d1,d2,d3,e1,e2,e3,e4⟩:=aCD h3 h;exact⟨c1++d1,d2,d3,by rw[e,e1];simp,by rw[aVu,h1,e2,aWz];omega,e3,e4⟩
theorem aMg {t:Ty}{l:List t.den}{i:Int}(h0:0≤i) (h:i.toNat<l.length):l[i.toNat]? =some (qQ t l i):=by
  unfold qQ;rw[aVY,aVF h];rfl
theorem O1 {α:Type}{R:α→pN→Prop}{w:pR}{S:Nat→Nat→Prop}{c b:Nat}: ∀{l:List α}{o:Nat}{cs:pN},uE R c l cs→w.rangeAt b o cs→(∀j,j<l.length*c→S b (o+j))→zG R w S c b o l
  |[],_,_,_,_,_=>trivial
  | x::l,o,cs,⟨c1,c2,e,h1,h2,h3⟩,hr,hS=>by
    subst e;refine⟨⟨c1,h1,fun j v hv=>hr j v (by rw[aVN (aVK.1 hv).1];exact hv),fun j hj=>hS j (by rw[aVw,aWz];omega),h2⟩,O1 h3 (fun j v hv=> ?_) (fun j hj=> ?_)⟩
    · have:=hr (c+j) v (by rw[aVI pG,h1,aWo];exact hv)
      rwa [←aWc] at this
    · have:=hS (c+j) (by rw[aVw,aWz];omega)
      rwa [←aWc] at this
theorem a1g {u0:Ty}{l:List u0.den}: ∀{t:Ty}{x:t.den}{q: Σ t:Ty,t.den},A1 u0 l t x=some q→q.1.cells=t.cells:=by
  intro t
  induction t with
  | rl e u=>
    intro x q h;cases x with
    |none=>cases h
    | some p=>
      simp only[A1,a0D] at h;split at h
      .cases h;rfl
      .cases h
  | pair a b iha ihb=>
    intro x q h;simp only[A1] at h;cases hf:BQ a x.1 with
    | some p=>
      rw[hf] at h;cases hq:A1 u0 l a x.1 with
      |none=>rw[hq] at h;cases h
      | some r=>
        obtain⟨a',x'⟩:=r;rw[hq] at h;simp only[LB,aVr] at h;subst h;have:=iha hq;simp only[Ty.cells] at this|-;omega
    | none=>
      rw[hf] at h;cases hq:A1 u0 l b x.2 with
      |none=>rw[hq] at h;simp [LB] at h
      | some r=>
        obtain⟨b',y'⟩:=r;rw[hq] at h;simp only[LB,aVr] at h;subst h;have:=ihb hq;simp only[Ty.cells] at this|-;omega
  |_=>intro x q h;simp [A1] at h
theorem aMh {g:Gh}{w:pR}{k n:Nat}{u0:Ty}{l:List u0.den}(hk: ∀cs,FV g (some (k,n)) cs→Rd g w (.list u0) l cs): ∀{t:Ty}{x:t.den}{cs:pN}{q: Σ t:Ty,t.den},BQ t x=some (k,n)→A1 u0 l t x=some q→Rd g w t x cs→Rd g w q.1 q.2 cs:=by
  intro t
  induction t with
  | rl e u=>
    intro x cs q hf h r;simp only[BQ] at hf;subst hf;simp only[A1,a0D] at h;split at h
    · cases h
      exact hk _ r
    .cases h
  | pair a b iha ihb=>
    intro x cs q hf h r;obtain⟨c1,c2,e,r1,r2⟩:=r;simp only[BQ] at hf;simp only[A1] at h;cases hfa:BQ a x.1 with
    | some p=>
      rw[hfa] at h hf;simp only[orP,aVr] at hf;subst hf;cases hq:A1 u0 l a x.1 with
      |none=>rw[hq] at h;cases h
      | some z=>
        obtain⟨a',x'⟩:=z;rw[hq] at h;simp only[LB,aVr] at h;subst h;exact⟨c1,c2,e,iha hfa hq r1,r2⟩
    | none=>
      rw[hfa] at h hf;simp only[orP] at hf;cases hq:A1 u0 l b x.2 with
      |none=>rw[hq] at h;simp [LB] at h
      | some z=>
        obtain⟨b',y'⟩:=z;rw[hq] at h;simp only[LB,aVr] at h;subst h;exact⟨c1,c2,e,r1,ihb hf hq r2⟩
  |_=>intro x cs q hf;simp [BQ] at hf
theorem aMi {g:Gh}{w:pR}{H:sE}(hH:sL g w H) {k i:Nat}{e:TypeId}{t:Ty}{l:List t.den}{n:Nat}(hk:qE H k=some (.row e t l n)) {u:Ty}{x:u.den}{toks:pL}(hi:qE H i=some (.cells u x toks)) (hfr:BQ u x=some (k,n)) {q: Σ t:Ty,t.den}(hq:A1 t l u x=some q):
    ∃ g',sL g' w (qY [(i,qB.cells q.1 q.2 []),(k,qB.grow e t.cells (List.length l))] H)∧g'.J=g.J∧
      ∀side s rds v,IX rds=true→rX g' w s v→A4 g w H ⟨side,s,[(i,qB.cells q.1 q.2 []),(k,qB.grow e t.cells (List.length l))],rds⟩ g' w v:=by
  obtain⟨hl,v,xs,hv,hown,hF,hnone,hseal⟩:=hH.blk k _ hk
  let g':Gh:={g with S:=fun b o=>g.S b o∨(v.ownBlock=some b∧o<n*t.cells)}
  have le:Le g w g' w:=⟨fun _ _ h=> .inl h,fun _ _ _=>rfl,fun _ _ h=>h,fun _ _ _ h=>h⟩;have hown2: ∀b,v.ownBlock=some b→∀o,sG g k (.row e t l n) b o:=fun b hb o=>⟨v,hv,hb⟩
  have hlist: ∀u,g.cur k n=some u→((u= .slice none 0 0∧n=0)∨∃b cap,u= .slice (some ⟨b,0,none⟩) n cap∧n≤cap)→tX g' w (.list t) l u:=by
    intro u hu hshape;rw[hv] at hu;obtain rfl:=aVx hu;rcases hshape with⟨rfl,h0⟩ |⟨b,cap,rfl,hcap⟩
    · have:l=[]:=aV2 (by rw[hl,h0])
      subst this;exact .inr ⟨rfl,none,0,rfl,aVR _,.inl rfl⟩
    · refine .inr ⟨rfl,some ⟨b,0,none⟩,cap,by rw[hl],by rw[hl];exact hcap,.inr ⟨b,0,rfl,O1 (DF (fun _ _ h=>xZ le h) hF) (fun j u hu=> ?_) (fun j hj=> ?_)⟩⟩
      · have:=hown.cells (g:=b) rfl j u hu
        rwa [aWS] at this
      · right
        exact⟨rfl,by rw[hl] at hj;omega⟩
  have hik:i≠k:=fun e1=>by rw[e1,hk] at hi;cases hi
  obtain⟨p0,cs0,hp0,hR0,hra0,hth0,hns0,_⟩:=hH.blk i _ hi
  let b':qB:= .cells q.1 q.2 []
  let H':sE:=(i,b')::(k,qB.grow e t.cells (List.length l))::H
  have hget: ∀i' b,qE H' i'=some b→(i'=i∧b=b')∨(i'=k∧b= .grow e t.cells (List.length l))∨(i'≠k∧i'≠i∧qE H i'=some b):=by
    intro i' b hb;simp only[H',qE] at hb;split at hb
    .rename_i e1;exact .inl ⟨e1.symm,(aVx hb).symm⟩
    · rename_i e1
      split at hb
      .rename_i e2;exact .inr (.inl ⟨e2.symm,(aVx hb).symm⟩)
      .rename_i e2;exact .inr (.inr ⟨Ne.symm e2,Ne.symm e1,hb⟩)
  have howns: ∀i' b bb o,qE H' i'=some b→sG g' i' b bb o→∃b0,qE H i'=some b0∧sG g i' b0 bb o:=by
    intro i' b bb o hb ho;rcases hget i' b hb with⟨rfl,rfl⟩ |⟨rfl,rfl⟩ |⟨_,_,h1⟩
    · obtain⟨p,hp,e1,e2,e3⟩:=ho
      rw[a1g hq] at e3;exact⟨_,hi,p,hp,e1,e2,e3⟩
    · obtain⟨u,hu,hub⟩:=ho
      have hu':g.cur i' (List.length l)=some u:=hu;rw[hl] at hu';exact⟨_,hk,u,hu',hub⟩
    .exact⟨b,h1,(A5 (g':=g') (g:=g) rfl rfl).1 ho⟩
  have hheap:sL g' w H':=by
    refine⟨fun i' b hb=> ?_,fun i' j bi bj b o hij h1 h2 o1 o2=> ?_,fun b o hS=> ?_,hH.tab.1,fun i' b bb oo hb ho=>by
      obtain⟨c1,k1,k2⟩:=howns i' b bb oo hb ho;exact hH.tab.2 i' c1 bb oo k1 k2⟩
    · rcases hget i' b hb with⟨rfl,rfl⟩ |⟨rfl,rfl⟩ |⟨hne,_,h1⟩
      · have hk2: ∀cs,FV g' (some (k,n)) cs→Rd g' w (.list t) l cs:=by
          rintro cs ⟨v1,z1,z2,z3⟩;rw[z2];exact B9 rfl (hlist v1 z1 z3)
        refine⟨p0,cs0,hp0,aMh (n:=n) hk2 hfr hq (xZ le hR0),hra0,?_,?_,fun _ _ hm=>by cases hm⟩
        .rw[a1g hq];exact⟨hth0.1,hth0.2⟩
        · rw[a1g hq]
          intro j hj hS;rcases hS with hS|hS
          .exact hns0 j hj hS
          .exact hH.dis i' k _ _ p0.1 (p0.2+j) hik hi hk ⟨p0,hp0,rfl,pG,pG⟩ (hown2 _ hS.1 _)
      · refine⟨v,xs,by rw[hl];exact hv,by rw[hl];exact hown,fun m hm=>hnone m (by rw[hl] at hm;exact hm),fun b hb o hS=> ?_⟩
        rw[hl];rcases hS with hS|hS
        .exact absurd hS (hseal b hb o)
        .exact hS.2
      .exact NY (hH.blk i' b h1) le rfl rfl (fun _ _ _=>⟨rfl,rfl⟩) (fun _ _=>rfl) (fun bb o ho hS=>by
          rcases hS with hS|hS
          .exact hS
          .exact absurd (hown2 bb hS.1 o) (fun h5=>hH.dis i' k b _ bb o hne h1 hk ho h5)) (fun _ _ _ _ h=>h)
    · obtain⟨c1,k1,k2⟩:=howns i' bi b o h1 o1
      obtain⟨c2,k3,k4⟩:=howns j bj b o h2 o2;exact hH.dis i' j c1 c2 b o hij k1 k3 k2 k4
    · rcases hS with hS|hS
      .exact hH.sl b o hS
      .exact RA hown hS.1
  refine⟨g',hheap,rfl,fun side s rds vv hre hs=>⟨le,hs,hheap,⟨rfl,rfl,rfl,aVR _,fun _ _ _=>rfl,fun _ _ _ _=>⟨rfl,rfl⟩,fun b o hS=> ?_,fun _ _ h=> .inl h⟩,fun i' blk b o hm hg ho=> ?_,fun _ _=>⟨rfl,rfl⟩,fun h=>by rw[hre] at h;cases h⟩⟩
  · rcases hS with hS|hS
    .exact .inl hS
    .exact .inr (.inr ⟨k,_,by simp [qH],hk,hown2 b hS.1 o⟩)
  · obtain⟨b0,k1,k2⟩:=howns i' blk b o hg ho
    exact .inr ⟨i',b0,hm,k1,k2⟩
section
variable {P:Program}{o:Oper}{a:Act}{g:Gh}{w:pR}{H:sE}{T:sV}(hT:y3 P T) (hH:sL g w H)
include hT hH
theorem RE {t:TypeId}{ti:TI}(hty:uF P t ti) {x:ti.ty.den}{b off:Nat}{cs:pN}(hra:w.rangeAt b off cs) (hR:Rd g w ti.ty x cs):
    ∃v,(Instr.loadAt t (.pointer (some ⟨b,off,none⟩))).run P w= .ok v w∧tX g w ti.ty x v∧v.cells.toList=cs:=by
  obtain⟨d,hd,hrow⟩:=WR hty;obtain⟨i,hi,hsz,_⟩:=EJ hty;have hl:=t7 hR;by_cases hr:ti.ty.isRow=true
  .refine⟨.agg cs.toArray,run_loadAt_mid w b off t cs d hra hd (by rw[hrow,hr]) (by rw[hi,Option.map_some,hsz,hl]),.inl ⟨hr,cs,rfl,hR⟩,by simp [Value.cells]⟩
  · have hr':ti.ty.isRow=false:=by simpa using hr
    have h1:ti.ty.cells=1:=by
      obtain⟨ty,el,by',ar,ls⟩:=ti;cases ty<;>first|rfl|(simp [Ty.isRow] at hr')
    obtain⟨v,rfl⟩: ∃v,cs=[v]:=by rw[h1] at hl;exact aWU.1 hl
    have hv1:=B8 hR v pI;refine⟨v,?_,.inr ⟨hr',hR⟩,by cases v<;>first|rfl|(simp [Value.oneCell'] at hv1)⟩
    have hc:w.cell? ⟨b,off,none⟩=some v:=by simpa using hra 0 v rfl
    have hagg:(isAgg t).run P w= .ok false w:=by
      unfold isAgg;rw[aVM,aVP hd w];rw[hr'] at hrow;cases d<;>simp_all [TypeDesc.isRow]
    simp [Instr.loadAt,Instr.sureAddr,loadVar,aVM,hagg,hc]
theorem O2 {b off:Nat}{c1 c2 c3:pN}(h:w.rangeAt b off (c1++c2++c3)):w.rangeAt b (off+c1.length) c2:=fun j v hj=>by
  have:=h (c1.length+j) v (by
    have hj':=(aVK.1 hj).1;rw[aVy,aVI pG,aWo,aVN hj'];exact hj)
  rw[aWc];exact this
theorem aCE {k n c:Nat}{i:Int}{o':Nat}{v:pS}(hx:AL g w (.elt k n c i o') v) {e:TypeId}{t:Ty}{l:List t.den}{m:Nat}(hk:qE H k=some (.row e t l m)) (hnm:n=m) (hc:c=t.cells):
    ∃ b cap xs c1 c2 c3,v= .pointer (some ⟨b,i.toNat*c+o',none⟩)∧g.cur k m=some (.slice (some ⟨b,0,none⟩) m cap)∧w.ownsRow 0 e t.cells (.slice (some ⟨b,0,none⟩) m cap) m xs∧uE (Rd g w t) t.cells l xs∧l.length=m∧i.toNat<l.length∧0≤i∧
      xs=c1++c2++c3∧c1.length=i.toNat*c∧c2.length=c∧Rd g w t (qQ t l i) c2:=by
  subst hnm;subst hc;obtain⟨b,cap,h1,h2,h3,hv⟩:=hx;obtain⟨hl,v0,xs,hv0,hown,hF,hnone,hseal⟩:=hH.blk k _ hk;rw[h1] at hv0;obtain rfl:=aVx hv0;have hi:i.toNat<l.length:=by rw[hl];omega
  obtain⟨c1,c2,c3,e1,e2,e3,e4⟩:=aCD hF (aMg h2 hi);exact⟨b,cap,xs,c1,c2,c3,hv,h1,hown,hF,hl,hi,h2,e1,e2,e3,e4⟩
theorem aMj {e:TypeId}{c n:Nat}{q cap:Nat}{xs:pN}(h:w.ownsRow 0 e c (.slice (some ⟨q,0,none⟩) n cap) n xs):w.rangeAt q 0 xs:=fun j u hu=>by
  have:=h.cells (g:=q) rfl j u hu;rwa [aWS] at this
theorem aMk {t:TypeId}{ti:TI}(hst:rZ T t=some ti) {k n c:Nat}{i:Int}{o':Nat}{vx:pS}(hx:AL g w (.elt k n c i o') vx) {e:qT}(hr:QU ti.ty k n c i o' (qE H k)=some e) (hs: ∀p∈e.side,p):
    ∃v,(Instr.loadAt t vx).run P w= .ok v w∧rX g w e.slot v∧e.upd=[]:=by
  generalize hk:qE H k=ob at hr;unfold QU at hr;split at hr
  · rename_i e' t' l m
    split at hr
    · rename_i hc
      generalize hga:rK ti.ty t' (qQ t' l i) o'=oy at hr;cases oy with
      |none=>cases hr
      | some y=>
        cases hr;have hnm:=hs _ (aVJ.2 rfl);obtain⟨b,cap,xs,c1,c2,c3,hv,hcur,hown,hF,hl,hi,h0,e1,e2,e3,e4⟩:=aCE hT hH hx hk hnm hc;obtain⟨d1,d2,d3,f1,f2,f3⟩:=EH e4 hga;have hra:=aMj hT hH hown;rw[e1] at hra;have hra2:=O2 hT hH hra;rw[f1] at hra2;have hra3:=O2 hT hH hra2;rw[aV5,e2,f2] at hra3;obtain⟨v,h1,h2,_⟩:=RE hT hH (tI hT hst) hra3 f3;exact⟨v,by rw[hv];exact h1,⟨h2,trivial⟩,rfl⟩
    .cases hr
  .cases hr
theorem a1h: ∀{toks:pL}{q k:Nat},xX toks q=some k→(q,k)∈toks
  |[],_,_,h=>by simp [xX] at h
  | (q',k')::r,q,k,h=>by
    simp only[xX] at h;split at h
    · rename_i e
      subst e;simp only[aVr] at h;subst h;simp
    .exact aVB _ (a1h h)
theorem aCF {u v:Ty}: ∀{t:Ty}{x:t.den}{q:Nat}{l:List u.den}{y:v.den},rK (.list u) t x q=some l→rK v t x q=some y→v.isRow=false→∃h:v= .list u,v8 h y=l:=by
  intro t
  induction t with
  | pair s t ihs iht=>
    intro x q l y h1 h2 hv
    have key: ∀q,(if q<s.cells then rK (.list u) s x.1 q else rK (.list u) t x.2 (q-s.cells))=some l→(if q<s.cells then rK v s x.1 q else rK v t x.2 (q-s.cells))=some y→∃h:v= .list u,v8 h y=l:=by
      intro q h1 h2;by_cases hq:q<s.cells
      .rw[aVs hq] at h1 h2;exact ihs h1 h2 hv
      .rw[aVv hq] at h1 h2;exact iht h1 h2 hv
    cases q with
    | zero=>
      have e1:Ty.pair s t≠.list u:=by intro h;cases h
      have e2:Ty.pair s t≠v:=by intro h;subst h;simp [Ty.isRow] at hv
      unfold rK at h1 h2;rw[aXb e1] at h1;rw[aXb e2] at h2;exact key 0 (by simpa using h1) (by simpa using h2)
    |succ q=>exact key (q+1) (by simpa[rK] using h1) (by simpa[rK] using h2)
  | _=>
    intro x q l y h1 h2 hv;cases q with
    | zero=>
      unfold rK at h1 h2;split at h1
      · rename_i e1
        split at h2
        · rename_i e2
          first
          |(cases e1;done)
          | (subst e2
             injection e1 with e1'
             subst e1';simp only[v8,aVr] at h1 h2;subst h1;subst h2;exact⟨rfl,rfl⟩)
        .simp at h2
      .simp at h1
    |succ q=>simp [rK] at h1
theorem aMl {t:TypeId}{ti:TI}(hty:uF P t ti) (hr:ti.ty.isRow=false) {b off:Nat}{v:pS}(hc:w.cell? ⟨b,off,none⟩=some v):
    (Instr.loadAt t (.pointer (some ⟨b,off,none⟩))).run P w= .ok v w:=by
  obtain⟨d,hd,hrow⟩:=WR hty
  have hagg:(isAgg t).run P w= .ok false w:=by
    unfold isAgg;rw[aVM,aVP hd w];rw[hr] at hrow;cases d<;>simp_all [TypeDesc.isRow]
  simp [Instr.loadAt,Instr.sureAddr,loadVar,aVM,hagg,hc]
omit hT hH in
theorem aCG {a b:Option qT}{e:qT}(h:orE a b=some e):a=some e∨b=some e:=by
  cases a with
  |some r=>exact .inl h
  |none=>exact .inr h
omit hT hH in
theorem aCH {H:List (Nat×qB)}{t:Ty}{i off:Nat}{b:Option qB}{x:Option qT}{e:qT}(h:orS H t i off b x=some e):x=some e∨(x=none∧J2 H t i off b=some e):=by
  cases x with
  |some r=>exact .inl h
  |none=>exact .inr ⟨rfl,h⟩
theorem aMm {t:TypeId}{ti:TI}{x:Operand}(ho:o.op= .load t x) (hs:rZ T t=some ti) {i off:Nat}(hx:tX g w .ref (some (i,off)) (a.eval x)) {e:qT}(hr:VK i off ti (qE H i)=some e):rN P o a g w H e:=by
  have hty:=tI hT hs;generalize hb:qE H i=ob at hr;unfold VK at hr;split at hr
  · rename_i u el _ _ _ v x' toks
    generalize hga:rK (.rl el u) v x' off=oy at hr;unfold a0B at hr;split at hr
    · rename_i k n
      cases hr;obtain⟨p,hp,hv⟩:=A6 hx;obtain⟨p',cs,hp',hR,hra,_⟩:=hH.blk i _ hb;rw[hp] at hp';obtain rfl:=aVx hp';obtain⟨c1,c2,c3,rfl,rfl,hR2⟩:=EH hR hga;obtain⟨v0,hcur,rfl,hsh⟩:=hR2;have hc:w.cell? ⟨p.1,p.2+c1.length,none⟩=some v0:=by simpa using O2 hT hH hra 0 _ rfl
      have h1:=aMl (P:=P) hT hH hty rfl hc;exact rN.value (v:=v0) (g':=g) (w':=w) (by simp only[execOp,ho,hv,aVM,h1,aVC,aVU]) (.pure hH ⟨⟨hcur,hsh⟩,trivial⟩)
    .cases hr
  .cases hr
theorem aMn {t:TypeId}{ti:TI}{x:Operand}(ho:o.op= .load t x) (hs:rZ T t=some ti) {i off:Nat}(hx:tX g w .ref (some (i,off)) (a.eval x)) {e:qT}(hr:J2 H ti.ty i off (qE H i)=some e) (hside: ∀p∈e.side,p):rN P o a g w H e:=by
  have hty:=tI hT hs;generalize hb:qE H i=ob at hr;unfold J2 at hr;split at hr
  case h_2=>cases hr
  rename_i v z toks;generalize hf:BQ v z=of at hr;cases of with
  |none=>cases hr
  | some kn=>
    obtain⟨k,n0⟩:=kn;simp only[VM] at hr;generalize hk:qE H k=ok at hr;unfold VL at hr;split at hr
    case h_2=>cases hr
    rename_i el u0 l m;generalize hz:A1 u0 l v z=oq at hr;cases oq with
    |none=>cases hr
    |some q=>
    obtain⟨v',x'⟩:=q;simp only[a0F] at hr;generalize hga:rK ti.ty v' x' off=oy at hr;cases oy with
    |none=>cases hr
    | some y=>
      simp only[a0E,aVr] at hr;subst hr;have hnm:n0=m:=hside _ (aVJ.2 rfl);subst hnm;obtain⟨g',hH',hJ,heff⟩:=aMi hH hk hb hf hz;obtain⟨p,hp,hv⟩:=A6 hx;obtain⟨p',cs,hp',hR,hra,_,_,_⟩:=hH'.blk i (.cells v' x' []) (by simp [qY,qE]);rw[hJ,hp] at hp';obtain rfl:=aVx hp';obtain⟨c1,c2,c3,rfl,rfl,hR2⟩:=EH hR hga;obtain⟨v0,h1,h2,_⟩:=RE hT hH' hty (O2 hT hH' hra) hR2;exact rN.valueW (v:=v0) (g':=g') (w':=w) (by simp only[execOp,ho,hv,aVM,h1,aVC,aVU]) (heff _ _ _ _ rfl ⟨h2,trivial⟩)
theorem aMo {t:TypeId}{x:Operand}(ho:o.op= .load t x) {sx:qC}(hx:rX g w sx (a.eval x)) {e:qT}(hr:VN H (rZ T t) sx=some e) (hside: ∀p∈e.side,p):rN P o a g w H e:=by
  generalize hs:rZ T t=ot at hr;replace hx:=hx.1;unfold VN at hr;split at hr
  · rename_i ti k n c i o' _
    obtain⟨v,h1,h2,h3⟩:=aMk hT hH hs hx hr hside;obtain⟨side,slot,upd,rds⟩:=e;simp only at h2 h3;subst h3;exact rN.value (v:=v) (g':=g) (w':=w) (by simp only[execOp,ho,aVM,h1,aVC,aVU]) (.pure hH h2)
  · rename_i ti u y k
    split at hr
    · rename_i hu
      subst hu;cases hr;have hty:=tI hT hs;obtain⟨b,off,cs,hv,hra,hS,hR⟩:=hx;obtain⟨v,h1,h2,_⟩:=RE hT hH hty hra hR;exact rN.pure hH (v:=v) (by simp only[execOp,ho,hv,aVM,h1,aVC,aVU]) h2
    .cases hr
  · rename_i ti i off k
    rcases aCH hr with hr|⟨_,hr⟩
    case inr=>exact aMn hT hH ho hs hx hr hside
    rcases aCG hr with hr|hr
    case inr=>exact aMm hT hH ho hs hx hr
    have hty:=tI hT hs;generalize hb:qE H i=ob at hr;unfold QT at hr;split at hr
    · rename_i u z toks
      generalize hga:rK ti.ty u z off=oy at hr;cases oy with
      |none=>cases hr
      | some y=>
        cases hr;obtain⟨p,hp,hv⟩:=A6 hx;obtain⟨p',cs,hp',hR,hra,_,_,htk⟩:=hH.blk i _ hb;rw[hp] at hp';obtain rfl:=aVx hp';obtain⟨c1,c2,c3,rfl,rfl,hR2⟩:=EH hR hga;obtain⟨v,h1,h2,h3⟩:=RE hT hH hty (O2 hT hH hra) hR2;refine rN.value (v:=v) (g':=g) (w':=w) (by simp only[execOp,ho,hv,aVM,h1,aVC,aVU]) (.pure hH ⟨h2,?_⟩);obtain⟨ty,el,by',ar,ls⟩:=ti;cases ty with
        | list u'=>
          simp only[FQ];generalize htt:xX toks c1.length=ok;cases ok with
          |none=>trivial
          | some k=>
            obtain⟨u2,l,v',g1,g2,g3⟩:=htk _ _ (a1h hT hH htt);obtain⟨heq,hl⟩:=aCF hT hH g1 hga rfl;injection heq with heq'
            subst heq';have hlen:=t7 hR2;obtain⟨v2,rfl⟩:=aWU.1 hlen
            have e2:v'=v2:=by
              have e:(c1++[v2]++c3)[c1.length]? =some v2:=by simp
              rw[e] at g2;exact(aVx g2).symm
            have e3:v=v2:=by
              have h4:=B9 rfl h2;have hone:=B8 h4 v pI;have:v.cells= #[v]:=by cases v<;>first|rfl|(simp [Value.oneCell'] at hone)
              rw[this] at h3;simpa using h3
            subst e2;subst e3;have e4:(y:List u'.den)=l:=hl;subst e4;exact g3
        |_=>trivial
    .cases hr
  .cases hr
theorem WV {ρ:Operand→qC}{x:Option Operand}{n m:Int}(hρ: ∀y∈x.toList,rX g w (ρ y) (a.eval y)) (h:EB (A2 ρ x) n=some m):(x=none∧m=n)∨∃y k,x=some y∧a.eval y= .int k m:=by
  cases x with
  |none=>simp only[A2,EB,aVr] at h;exact .inl ⟨rfl,h.symm⟩
  | some y=>
    have h0:=hρ y pI;simp only[A2] at h;unfold EB at h;split at h
    .cases ‹some _=none›
    · rename_i k q kk heq
      simp only[aVr] at heq h;rw[heq] at h0;subst h;exact .inr ⟨y,k,rfl,wX h0.1⟩
    .cases h
theorem aCI {isSlice:Bool}{len cap:Nat}{lo hi:Option Operand}{m n:Int}(hlo:(lo=none∧m=0)∨∃y k,lo=some y∧a.eval y= .int k m) (hhi:(hi=none∧n=(len:Int))∨∃y k,hi=some y∧a.eval y= .int k n)
    (h0:0≤m) (h1:m≤n) (h2:n≤(len:Int)) (h3:len≤cap):(Instr.sliceBounds isSlice len cap (lo.map a.eval) (hi.map a.eval) none).run P w= .ok (m.toNat,n.toNat,cap) w:=by
  have e1:(n.toNat:Int)=n:=Int.toNat_of_nonneg pG;rcases hlo with⟨rfl,rfl⟩ |⟨y,k,rfl,hy⟩<;>rcases hhi with⟨rfl,rfl⟩ |⟨z,k',rfl,hz⟩
  .simp [Instr.sliceBounds]
  .simp [Instr.sliceBounds,hz,run_sliceBound,(by omega:0≤n),(by omega:n≤(cap:Int))]
  .simp [Instr.sliceBounds,hy,run_sliceBound,h0,h1]
  .simp [Instr.sliceBounds,hy,hz,run_sliceBound,(by omega:0≤n),(by omega:n≤(cap:Int)),e1,h0,h1]
theorem aMp {t:TypeId}{x:Operand}{lo hi:Option Operand}(ho:o.op= .slice t x lo hi none) {ρ:Operand→qC}(hx:rX g w (ρ x) (a.eval x)) (hlo: ∀y∈lo.toList,rX g w (ρ y) (a.eval y)) (hhi: ∀y∈hi.toList,rX g w (ρ y) (a.eval y)) {e:qT}
    (hr:B2 (a0l (rZ T t) (ρ x) (A2 ρ lo) (A2 ρ hi))=some e) (hs: ∀p∈e.side,p):rN P o a g w H e:=by
  obtain⟨q,hq,rfl⟩:=JB hr;replace hx:=hx.1;generalize hst:rZ T t=ot at hq;generalize hsx:ρ x=sx at hq hx;unfold a0l at hq;split at hq
  · rename_i el by' ar ls_ l k
    generalize hb1:EB (A2 ρ lo) 0=o1 at hq;generalize hb2:EB (A2 ρ hi) (List.length l)=o2 at hq;unfold V3 at hq;split at hq
    · rename_i m n
      cases hq;obtain⟨k1,k2,k3⟩:=hs _ (aVJ.2 rfl);have h2:=(tI hT hst).2;simp only[yV] at h2;have hv:=xA hx;have hbd:=aCI (P:=P) (isSlice:=false) (cap:=List.length l) hT hH (WV hT hH hlo hb1) (WV hT hH hhi hb2) k1 k2 k3 (aVR _);refine rN.pure hH (v:= .string ⟨(sO l m n).toArray⟩) ?_ (BR _ _ _);have hsz:(⟨List.toArray l⟩:ByteArray).size=List.length l:=by simp [ByteArray.size]
      have hext:(⟨List.toArray l⟩:ByteArray).extract m.toNat n.toNat=⟨(sO l m n).toArray⟩:=by
        apply ByteArray.ext;apply aWF.1;simp [sO]
      simp only[execOp,ho,hv,Option.map_none,Instr.sliceAt,Instr.slice,aVM,aVP h2,aVC,Option.isSome_none,aXd,aXD,hsz,hbd,hext,aVU]
    .cases hq
  · rename_i u el by' ar ls_ t1 l k
    split at hq
    · rename_i htu
      subst htu;generalize hb1:EB (A2 ρ lo) 0=o1 at hq;generalize hb2:EB (A2 ρ hi) (List.length l)=o2 at hq;unfold V3 at hq;split at hq
      · rename_i m n
        cases hq;obtain⟨k1,k2,k3⟩:=hs _ (aVJ.2 rfl);obtain⟨h2,h3,_⟩:=(tI hT hst).2;obtain⟨ei,hei,hz⟩:=aVA.1 h3;simp only[aV0] at hz;obtain⟨ad,cap,hv,hle,hl⟩:=DG hx;have hbd:=aCI (P:=P) (isSlice:=true) (cap:=cap) hT hH (WV hT hH hlo hb1) (WV hT hH hhi hb2) k1 k2 k3 hle;refine rN.pure hH (v:= .slice (if cap=m.toNat then ad else ad.map (·.add (m.toNat*t1.cells))) (n.toNat-m.toNat) (cap-m.toNat)) ?_ (.inr ⟨rfl,(if cap=m.toNat then ad else ad.map (·.add (m.toNat*t1.cells))),cap-m.toNat,?_,?_,?_⟩)
        .simp only[execOp,ho,hv,Option.map_none,Instr.sliceAt,Instr.slice,aVM,aVP h2,aVC,hbd,sizeOf,typeInfo,aWw,hei,hz.1,aVU]
        .rw[a1f k1 k2 k3]
        .rw[a1f k1 k2 k3];omega
        · rcases hl with rfl|⟨b,off,rfl,hL⟩
          .exact .inl (by simp [sO])
          · by_cases hc:cap=m.toNat
            · left
              apply aV2;rw[a1f k1 k2 k3];omega
            · right
              rw[aVv hc];refine⟨b,off+m.toNat*t1.cells,by simp [aWS],?_⟩;exact aCt _ (aCs _ hL pG)
      .cases hq
    .cases hq
  .cases hq
end
theorem RF {α:Type}{R:α->pN->Prop}{c:Nat}(hR: ∀x cs,R x cs->∀v∈cs,v.oneCell'=true): ∀{l:List α}{cs:pN},uE R c l cs->∀v∈cs,v.oneCell'=true
 |[],_,h=>by rw[h];simp
 |_::_,_,⟨c1,c2,e,_,h2,h3⟩=>by
  subst e;intro v hv;rcases aWd.1 hv with h|h
  .exact hR _ _ h2 v h
  .exact RF hR h3 v h
theorem a1i {α:Type}{R:α->pN->Prop}{c:Nat}: ∀{l:List α}{cs cy:pN}{i:Nat}{y:α},uE R c l cs->R y cy->cy.length=c->i<l.length->
  ∃c1 c2 c3,cs=c1++c2++c3/\c1.length=i*c/\c2.length=c/\uE R c (l.set i y) (c1++cy++c3)
 |[],_,_,_,_,_,_,_,h=>by simp at h
 |_::l,_,cy,0,y,⟨c1,c2,e,h1,_,h3⟩,hy,hc,_=>⟨[],c1,c2,by simpa using e,by simp,h1,⟨cy,c2,by simp,hc,hy,h3⟩⟩
 |x::l,_,cy,i+1,y,⟨c1,c2,e,h1,h2,h3⟩,hy,hc,hi=>by
  obtain⟨d1,d2,d3,e1,e2,e3,e4⟩:=a1i h3 hy hc (by simpa using hi);refine⟨c1++d1,d2,d3,by rw[e,e1];simp,by rw[aVu,h1,e2,aWz];omega,e3,⟨c1,d1++cy++d3,by simp,h1,h2,e4⟩⟩
theorem O3 {α:Type}{R:α->pN->Prop}{w:pR}{S:Nat->Nat->Prop}{c b:Nat}: ∀{l:List α}{o:Nat},zG R w S c b o l->∃cs,uE R c l cs/\w.rangeAt b o cs/\∀j,j<l.length*c->S b (o+j)
 |[],o,_=>⟨[],rfl,fun j v h=>by simp at h,fun j h=>by simp at h⟩
 |x::l,o,⟨⟨c1,h1,h2,h3,h4⟩,h5⟩=>by
  obtain⟨c2,k1,k2,k3⟩:=O3 h5;refine⟨c1++c2,⟨c1,c2,rfl,h1,h4,k1⟩,fun j v hv=> ?_,fun j hj=> ?_⟩
  .by_cases hj:j<c
   .exact h2 j v (by rwa [aVN pG] at hv)
   .have:=k2 (j-c) v (by rw[aVI pG,h1] at hv;exact hv);rwa [show o+c+(j-c)=o+j from by omega] at this
  .by_cases hj':j<c
   .exact h3 j hj'
   .have:=k3 (j-c) (by rw[aVw,aWz] at hj;omega);rwa [show o+c+(j-c)=o+j from by omega] at this
theorem aCJ {g:Gh}{w:pR}{t:Ty}: ∀n,uE (Rd g w t) t.cells (DB t n) (List.flatten (List.replicate n (uP t)))
 |0=>rfl
 |n+1=>⟨uP t,_,rfl,t7 (EI g w t),EI g w t,aCJ n⟩
theorem aCK (t:Ty): ∀n,(DB t n).length=n
 |0=>rfl
 |n+1=>by simp [DB,aCK t n]
def Gh.tok (g:Gh) (k n:Nat) (v:pS):Gh:={g with cur:=fun k' n'=>if k'=k/\n'=n then some v else g.cur k' n'}
def Gh.var (g:Gh) (i b:Nat) (k:Option (TypeId×Nat)):Gh:={g with J:=fun i'=>if i'=i then some ⟨b,0,k⟩ else g.J i'}
def Gh.shut (g:Gh) (b m:Nat):Gh:={g with S:=fun b' o=>g.S b' o\/(b'=b/\o<m)}
section
variable {g:Gh}{w:pR}{H:sE}(hH:sL g w H)
include hH
theorem sI.nilTok {side:List Prop}{d:DV}{rds:pQ}{base e c:Nat}{u:Ty}(hd:d= .val (.list u) []) (hf: ∀n,g.cur base n=none):
  sI g w H ⟨side,(d,some base),[(base,.grow e c 0)],rds⟩ (g.tok base 0 (.slice none 0 0)) w (.slice none 0 0):=by
 have le:Le g w (g.tok base 0 (.slice none 0 0)) w:=⟨fun _ _ h=>h,fun _ _ _=>rfl,fun _ _ h=>h,fun k n v h=>by
  show (if k=base/\n=0 then _ else _)=_;rw[aVv (fun⟨e1,_⟩=>by rw[e1,hf] at h;cases h)];exact h⟩
 have fr:Fr (t8 g H (qH [(base,qB.grow e c 0)])) w w g.S (g.tok base 0 (.slice none 0 0)).S:= .refl _ _ _;have gho: ∀i,i∉qH [(base,qB.grow e c 0)]->(g.tok base 0 (.slice none 0 0)).J i=g.J i/\(g.tok base 0 (.slice none 0 0)).cur i=g.cur i:=fun i hi=>⟨rfl,by
  funext n;show (if i=base/\n=0 then _ else _)=_;rw[aVv (fun⟨e1,_⟩=>hi (by simp [qH,e1]))]⟩
 have cur0:(g.tok base 0 (.slice none 0 0)).cur base 0=some (.slice none 0 0):=by simp [Gh.tok]
 have own: ∀i blk b o,i∈qH [(base,qB.grow e c 0)]->qE (qY [(base,qB.grow e c 0)] H) i=some blk->¬sG (g.tok base 0 (.slice none 0 0)) i blk b o:=by
  intro i blk b o hi hg ho;simp only[qH,aVJ] at hi;subst hi;simp only[qY,qE,aW8,aVr] at hg;subst hg;obtain⟨v,hv,hb⟩:=ho;rw[cur0] at hv;obtain rfl:=aVx hv;cases hb
 subst hd;refine⟨le,⟨.inr ⟨rfl,none,0,rfl,aVR _,.inl rfl⟩,cur0⟩,hH.upd le fr (fun i blk b o h1 h2 h3=>absurd h3 (own i blk b o h1 h2)) gho (fun i blk hi hg=> ?_) (fun i j bi bj b o hi hj hij hgi hgj hoi hoj=>own i bi b o hi hgi hoi) hH.sl,fr,fun i blk b o h1 h2 h3=>absurd h3 (own i blk b o h1 h2),gho,fun i u' y us h=>by
  simp only[qY,qE] at h;split at h
  .cases h
  .exact .inl ⟨y,us,h⟩⟩
 simp only[qH,aVJ] at hi;subst hi;simp only[qY,qE,aW8,aVr] at hg;subst hg;refine⟨.slice none 0 0,[],cur0,World.ownsRow_nil w 0 e c,fun m hm=> ?_,fun b hb=>by cases hb⟩;show (if i=i/\m=0 then _ else _)=_;rw[aVv pG];exact hf m
theorem sI.row {side:List Prop}{rds:pQ}{s:qC}{val:pS}{k:Nat}{e:TypeId}{t:Ty}{l:List t.den}{n:Nat}{v:pS}{xs:pN}{w':pR}
  (hl:l.length=n) (hown:w'.ownsRow 0 e t.cells v n xs) (hF:uE (Rd g w t) t.cells l xs) (hnone: ∀m,n<m->g.cur k m=none) (hcur: ∀u,g.cur k n=some u->u=v)
  (hg:w.grownBy w' (v.ownBlock)\/∃q,w.grownBy w' q/\∀b,q=some b->∀o,t8 g H [k] b o)
  (hcell: ∀b o,g.S b o->w'.cell? ⟨b,o,none⟩=w.cell? ⟨b,o,none⟩)
  (hseal: ∀b,v.ownBlock=some b->∀o,¬g.S b o)
  (hperm: ∀b,v.ownBlock=some b->w.heap.size<=b\/∀o,t8 g H [k] b o)
  (hslot:rX (g.tok k n v) w' s val):sI g w H ⟨side,s,[(k,.row e t l n)],rds⟩ (g.tok k n v) w' val:=by
 have le:Le g w (g.tok k n v) w':=⟨fun _ _ h=>h,fun b o h=>hcell b o h,fun _ _ h=>h,fun k' n' v' h=>by
  show (if k'=k/\n'=n then _ else _)=_;by_cases hk:k'=k/\n'=n
  .obtain⟨rfl,rfl⟩:=hk;rw[aVs ⟨rfl,rfl⟩,hcur _ h]
  .rw[aVv hk];exact h⟩
 have cur1:(g.tok k n v).cur k n=some v:=by simp [Gh.tok]
 have hblk: ∀b,b<w.heap.size->(∀o,¬t8 g H (qH [(k,qB.row e t l n)]) b o)->w'.heap[b]? =w.heap[b]? :=by
  intro b hb hno;rcases hg with hg|⟨q,hg,hq⟩
  .refine hg.block b hb (fun e1=> ?_);rcases hperm b e1.symm with h|h
   .omega
   .exact hno 0 (h 0)
  .exact hg.block b hb (fun e1=>hno 0 (hq b e1.symm 0))
 have hgo:w'.os=w.os/\w'.tape=w.tape/\w'.output=w.output/\w.heap.size<=w'.heap.size:=by
  rcases hg with hg|⟨q,hg,_⟩
  .exact⟨hg.os,hg.tape,hg.output,hg.size⟩
  .exact⟨hg.os,hg.tape,hg.output,hg.size⟩
 have hall: ∀b o,t8 g H (qH [(k,qB.row e t l n)]) b o->True:=fun _ _ _=>trivial;have hcell2: ∀b o,b<w.heap.size->¬t8 g H (qH [(k,qB.row e t l n)]) b o->(w'.cell? ⟨b,o,none⟩=w.cell? ⟨b,o,none⟩/\w'.frozen? ⟨b,o,none⟩=w.frozen? ⟨b,o,none⟩):=by
  intro b o hb hno;have:w'.heap[b]? =w.heap[b]? :=by
   rcases hg with hg|⟨q,hg,hq⟩
   .refine hg.block b hb (fun e1=> ?_);rcases hperm b e1.symm with h|h
    .omega
    .exact hno (h o)
   .exact hg.block b hb (fun e1=>hno (hq b e1.symm o))
  exact⟨aVT (a:=⟨b,o,none⟩) this,aWm (a:=⟨b,o,none⟩) this⟩
 have hshape: ∀b s,w.shape? b=some s->w'.shape? b=some s\/∀o,t8 g H (qH [(k,qB.row e t l n)]) b o:=by
  intro b s hs;rcases hg with hg|⟨q,hg,hq⟩
  .by_cases e1:v.ownBlock=some b
   .rcases hperm b e1 with h|h
    .have:=CO hs;omega
    .exact .inr h
   .exact .inl ((CP (hg.block b (CO hs) (fun h=>e1 h.symm))).trans hs)
  .by_cases e1:q=some b
   .exact .inr (hq b e1)
   .exact .inl ((CP (hg.block b (CO hs) (fun h=>e1 h.symm))).trans hs)
 have fr:Fr (t8 g H (qH [(k,qB.row e t l n)])) w w' g.S (g.tok k n v).S:=⟨hgo.1,hgo.2.1,hgo.2.2.1,hgo.2.2.2,hblk,hcell2,fun b o h=> .inl h,hshape⟩;have gho: ∀i,i∉qH [(k,qB.row e t l n)]->(g.tok k n v).J i=g.J i/\(g.tok k n v).cur i=g.cur i:=fun i hi=>⟨rfl,by
  funext n';show (if i=k/\n'=n then _ else _)=_;rw[aVv (fun⟨e1,_⟩=>hi (by simp [qH,e1]))]⟩
 have get: ∀i blk,i∈qH [(k,qB.row e t l n)]->qE (qY [(k,qB.row e t l n)] H) i=some blk->i=k/\blk= .row e t l n:=by
  intro i blk hi hg;simp only[qH,aVJ] at hi;subst hi;simp only[qY,qE,aW8,aVr] at hg;exact⟨rfl,hg.symm⟩
 have perm: ∀i blk b o,i∈qH [(k,qB.row e t l n)]->qE (qY [(k,qB.row e t l n)] H) i=some blk->sG (g.tok k n v) i blk b o->w.heap.size<=b\/t8 g H (qH [(k,qB.row e t l n)]) b o:=by
  intro i blk b o hi hgt ho;obtain⟨rfl,rfl⟩:=get i blk hi hgt;obtain⟨v',hv',hb⟩:=ho;rw[cur1] at hv';obtain rfl:=aVx hv';exact(hperm b hb).imp id (fun h=>h o)
 refine⟨le,hslot,hH.upd le fr perm gho (fun i blk hi hgt=> ?_) (fun i j bi bj b o hi hj hij hgi hgj _ _=>hij ((get i bi hi hgi).1.trans (get j bj hj hgj).1.symm)) (fun b o h=>aV7 (hH.sl b o h) hgo.2.2.2),fr,perm,gho,fun i u' y us h=>by
  simp only[qY,qE] at h;split at h
  .cases h
  .exact .inl ⟨y,us,h⟩⟩
 obtain⟨rfl,rfl⟩:=get i blk hi hgt;refine⟨hl,v,xs,cur1,hown,DF (fun _ _ h=>xZ le h) hF,fun m hm=> ?_,hseal⟩;show (if i=i/\m=n then _ else _)=_;rw[aVv pG];exact hnone m hm
theorem sI.newVarJ {side:List Prop}{rds:pQ}{base:Nat}{t:Ty}{x:t.den}{toks:pL}{cs:pN}{e:TypeId}(hR:Rd (g.var base w.heap.size (some (e,cs.length))) w t x cs) (htk:HD g t x cs toks) (hf:g.J base=none) (hc:g.cur base=fun _=>none):
  sI g w H ⟨side,(.val .ref (some (base,0)),none),[(base,.cells t x toks)],rds⟩ (g.var base w.heap.size (some (e,cs.length))) (w.alloc (.cells cs.toArray e)) (.pointer (some ⟨w.heap.size,0,none⟩)):=by
 have hJ:(g.var base w.heap.size (some (e,cs.length))).J base=some ⟨w.heap.size,0,some (e,cs.length)⟩:=by simp [Gh.var]
 have le:Le g w (g.var base w.heap.size (some (e,cs.length))) (w.alloc (.cells cs.toArray e)):=⟨fun _ _ h=>h,fun b o h=>aVT (a:=⟨b,o,none⟩) (aV3 _ _ _ (hH.sl b o h)),fun i p h=>by
  show (if i=base then _ else _)=_;rw[aVv (fun e1=>by rw[e1,hf] at h;cases h)];exact h,fun _ _ _ h=>h⟩
 have le2:Le (g.var base w.heap.size (some (e,cs.length))) w (g.var base w.heap.size (some (e,cs.length))) (w.alloc (.cells cs.toArray e)):=⟨fun _ _ h=>h,fun b o h=>aVT (a:=⟨b,o,none⟩) (aV3 _ _ _ (hH.sl b o h)),fun _ _ h=>h,fun _ _ _ h=>h⟩;have fr:Fr (t8 g H (qH [(base,qB.cells t x toks)])) w (w.alloc (.cells cs.toArray e)) g.S (g.var base w.heap.size (some (e,cs.length))).S:=
  ⟨rfl,rfl,rfl,by simp,fun b hb _=>aV3 _ _ _ hb,fun b o hb _=>⟨aVT (a:=⟨b,o,none⟩) (aV3 _ _ _ hb),aWm (a:=⟨b,o,none⟩) (aV3 _ _ _ hb)⟩,fun b o h=> .inl h,fun b s h=> .inl ((CP (aV3 _ _ _ (CO h))).trans h)⟩
 have gho: ∀i,i∉qH [(base,qB.cells t x toks)]->(g.var base w.heap.size (some (e,cs.length))).J i=g.J i/\(g.var base w.heap.size (some (e,cs.length))).cur i=g.cur i:=fun i hi=>⟨by
  show (if i=base then _ else _)=_;rw[aVv (fun e1=>hi (by simp [qH,e1]))],rfl⟩
 have get: ∀i blk,i∈qH [(base,qB.cells t x toks)]->qE (qY [(base,qB.cells t x toks)] H) i=some blk->i=base/\blk= .cells t x toks:=by
  intro i blk hi hg;simp only[qH,aVJ] at hi;subst hi;simp only[qY,qE,aW8,aVr] at hg;exact⟨rfl,hg.symm⟩
 have perm: ∀i blk b o,i∈qH [(base,qB.cells t x toks)]->qE (qY [(base,qB.cells t x toks)] H) i=some blk->sG (g.var base w.heap.size (some (e,cs.length))) i blk b o->w.heap.size<=b\/t8 g H (qH [(base,qB.cells t x toks)]) b o:=by
  intro i blk b o hi hg ho;obtain⟨rfl,rfl⟩:=get i blk hi hg;obtain⟨p,hp,h1,_⟩:=ho;rw[hJ] at hp;obtain rfl:=aVx hp;exact .inl (aW6 h1.symm)
 have hl:=t7 hR;refine⟨le,⟨.inr ⟨rfl,_,hJ,rfl⟩,trivial⟩,hH.upd le fr perm gho (fun i blk hi hg=> ?_) (fun i j bi bj b o hi hj hij hgi hgj _ _=>hij ((get i bi hi hgi).1.trans (get j bj hj hgj).1.symm)) (fun b o h=>aV7 (hH.sl b o h) pI),fr,perm,gho,fun i u' y us h=>by
  simp only[qY,qE] at h;split at h
  .rename_i e1;subst e1;exact .inr ⟨hf,fun n=>by rw[hc]⟩
  .exact .inl ⟨y,us,h⟩⟩
 obtain⟨rfl,rfl⟩:=get i blk hi hg;refine⟨_,cs,hJ,xZ le2 hR,fun j v hv=> ?_,⟨fun j hj=> ?_,fun _ s hs=> ?_⟩,fun j _ hs=>aW5 _ (hH.sl _ _ hs),aCr le.cur htk⟩
 .simp only[aV5];rw[aXx];simpa using hv
 .simp only[aV5];rw[aXx,World.frozen?_alloc_new];exact⟨by simp;omega,rfl⟩
 .cases hs;show (match (w.heap.push (.cells cs.toArray e))[w.heap.size]? with|some (.cells c elem _)=>some (elem,c.size) |_=>none)=_
  rw[aXr];simp only[aWn]
theorem sI.newVar {side:List Prop}{rds:pQ}{base:Nat}{t:Ty}{x:t.den}{toks:pL}{cs:pN}{e:TypeId}(hR:Rd g w t x cs) (htk:HD g t x cs toks) (hf:g.J base=none) (hc:g.cur base=fun _=>none):
  sI g w H ⟨side,(.val .ref (some (base,0)),none),[(base,.cells t x toks)],rds⟩ (g.var base w.heap.size (some (e,cs.length))) (w.alloc (.cells cs.toArray e)) (.pointer (some ⟨w.heap.size,0,none⟩)):=
 sI.newVarJ hH (xZ (g:=g) (g':=g.var base w.heap.size (some (e,cs.length))) (w:=w) (w':=w) ⟨fun _ _ h=>h,fun _ _ _=>rfl,fun i p h=>by
  show (if i=base then _ else _)=_;rw[aVv (fun e1=>by rw[e1,hf] at h;cases h)];exact h,fun _ _ _ h=>h⟩ hR) htk hf hc
end
theorem a1j {P:Program}(w:pR) (t ty e:TypeId) (i:TypeInfo) (z:pS) (size bytes:Nat) (ht:P.underlying t=some (.slice e)) (hi:P.info? e=some i) (hz:i.zero=some z)
  (hsize:i.size=size) (hby:i.bytes=bytes) (hzs:z.cells.size=size)
  (v:pS) (n:Nat) (xs:pN) (hown:w.ownsRow 0 e size v n xs)
  (a:Addr) (m c:Nat) (news:pN) (hl:news.length=m*size) (hnews: ∀j u,news[j]? =some u->w.cell? (a.add j)=some u) (h1: ∀u∈news,u.oneCell'=true) (hm:0<m)
  (h63:n+m<=maxLen) (hbytes:(n+m)*bytes<=140737488355328):
  ∃q cap w',(Builtin.append_ #[t,t] ty #[v,.slice (some a) m c]).run P w= .ok (.slice (some ⟨q,0,none⟩) (n+m) cap) w'/\w'.ownsRow 0 e size (.slice (some ⟨q,0,none⟩) (n+m) cap) (n+m) (xs++news)/\
   (q=w.heap.size\/v.ownBlock=some q)/\w.grownBy w' v.ownBlock/\n+m<=cap/\
   ∀b o,b<w.heap.size->(v.ownBlock=some b->o<n*size)->w'.cell? ⟨b,o,none⟩=w.cell? ⟨b,o,none⟩:=by
 subst hsize;subst hby;have hsmall:n+m<=9223372036854775807:=by simp only[maxLen] at h63;omega
 have hlen:(xs++news).length=(n+m)*i.size:=by rw[aVu,hown.1,hl,Nat.add_mul]
 have grown: ∀(old:Nat),old<n+m->∀(row:pP),
   (w.drew.alloc (.cells (xs.toArray++news.toArray++Builtin.zeroCells z.cells (grownCap w (n+m) old e- (n+m))) e)).ownsRow 0 e i.size
    (.slice (some ⟨w.heap.size,0,none⟩) (n+m) (grownCap w (n+m) old e)) (n+m) (xs++news)/\
   w.grownBy (w.drew.alloc (.cells (xs.toArray++news.toArray++Builtin.zeroCells z.cells (grownCap w (n+m) old e- (n+m))) e)) row/\n+m<=grownCap w (n+m) old e/\
   ∀b o,b<w.heap.size->(w.drew.alloc (.cells (xs.toArray++news.toArray++Builtin.zeroCells z.cells (grownCap w (n+m) old e- (n+m))) e)).cell? ⟨b,o,none⟩=w.cell? ⟨b,o,none⟩:=by
  intro old ho row;have hge:=grownCap_ge w (n+m) old e;have hcm:grownCap w (n+m) old e<=maxLen:=grownCap_le_maxLen w (n+m) old e h63;refine⟨⟨hlen,.inr ⟨w.heap.size,_,_,rfl,aWC _,aXw w.drew _,hge,hcm,?_,?_⟩⟩,⟨rfl,rfl,rfl,by simp,fun k hk _=>aV3 w.drew _ k hk⟩,hge,fun b o hb=>aVT (w:=w) (a:=⟨b,o,none⟩) (aV3 w.drew _ b hb)⟩
  .simp only[aXj,aWn,size_zeroCells,hzs,hown.1,hl,<-Nat.add_mul];congr 1;omega
  .simp only[Array.toList_append,aVy];rw[<-aVy,<-hlen];exact aWs
 rcases hown.2 with⟨rfl,rfl⟩ |⟨g,cap,cur,rfl,hbg,hg,hnc,hcm,hcs,htake⟩
 .have hx:xs=[]:=aV2 (by simpa using hown.1);subst hx;have hr:=run_append_nil (P:=P) w t ty e i z ht hi hz a m c news hl hnews pG pG (by have hb:=hbytes;simp only[aV5] at hb;omega);have hgr:=grown 0 pG (Value.ownBlock (.slice none 0 0));simp only[aV5,List.nil_append,Array.empty_append] at hgr|-;exact⟨_,_,_,hr,hgr.1,.inl rfl,hgr.2.1,hgr.2.2.1,fun b o hb _=>hgr.2.2.2 b o hb⟩
 .by_cases hroom:n+m<=cap
  .have hfit:n*i.size+news.length<=cur.size:=by rw[hl,hcs,<-Nat.add_mul];exact aWK _ hroom
   have hr:=run_append_room (P:=P) w t ty e i ht hi g n cap cur hg a m c news hl hnews h1 hroom hfit;refine⟨_,_,_,hr,⟨hlen,.inr ⟨g,cap,_,rfl,hbg,aXp w g cur _ e _ hg,hroom,hcm,?_,?_⟩⟩,.inr rfl,⟨rfl,rfl,rfl,by simp,fun k _ hk=>aW2 w g k _ (fun e=>hk (by simp [Value.ownBlock,e]))⟩,hroom,fun b o hb hso=> ?_⟩
   .simp only[aWn,aVu,aVQ,aVO,aV6];omega
   .rw[htake,<-hlen];exact aWs
   .by_cases hbg':b=g
    .subst hbg';have ho:=hso rfl;rw[cell_setRow_same w b o cur _ e _ hg,cell_of_row w b o cur e (0,0) hg];have hlt:o<(cur.toList.take (n*i.size)).length:=by rw[aVQ,aV6];omega
     rw[aVy,List.getElem?_toArray,aVN hlt,aWL,aVs ho,aWB]
    .exact aVT (w:=w) (a:=⟨b,o,none⟩) (aW2 w g b _ hbg')
  .have holds: ∀j u,xs[j]? =some u->w.cell? ((⟨g,0,none⟩:Addr).add j)=some u:=hown.cells (g:=g) rfl;have hr:=run_append_grow (P:=P) w t ty e i z ht hi hz ⟨g,0,none⟩ n cap xs hown.1 holds a m c news hl hnews pG pG (growslice_fits pG hbytes);have hgr:=grown cap pG (Value.ownBlock (.slice (some ⟨g,0,none⟩) n cap));exact⟨_,_,_,hr,hgr.1,.inl rfl,hgr.2.1,hgr.2.2.1,fun b o hb _=>hgr.2.2.2 b o hb⟩
theorem a1k {w:pR}{e:TypeId}{c n:Nat}{q cap:Nat}{xs:pN}(h:w.ownsRow 0 e c (.slice (some ⟨q,0,none⟩) n cap) n xs):w.rangeAt q 0 xs:=fun j u hu=>by
 have:=h.cells (g:=q) rfl j u hu;rwa [aWS] at this
theorem aMq (w:pR) (a:Addr) (v:pS) (b:Nat):(w.setCell a v).shape? b=w.shape? b:=by
 unfold World.shape? World.setCell;simp only[aWJ];by_cases h:a.block=b
 .rw[aVs h];cases hb:w.heap[b]? with
  |none=>rfl
  |some x=>
   cases x with
   |cells c e f=>
    simp only[Option.map_some];split<;>simp
   |_=>rfl
 .rw[aVv h]
theorem RG (b:Nat): ∀(l:pN) (o:Nat) (w:pR) (b':Nat),(w.setCells b o l).shape? b'=w.shape? b'
 |[],_,_,_=>rfl
 |v::l,o,w,b'=>by rw[World.setCells,RG b l,aMq]
section
variable {g:Gh}{w:pR}{H:sE}(hH:sL g w H)
include hH
theorem sI.append {side:List Prop}{rds:pQ}{k e c n:Nat}{u:Ty}{l r:List u.den}{w':pR}{q cap:Nat}{v:pS}{xs news:pN}(hk:qE H k=some (.grow e c n)) (hc:c=u.cells)
  (hln:l.length=n) (hv:g.cur k n=some v) (hown:w.ownsRow 0 e c v n xs) (hnone: ∀m,n<m->g.cur k m=none) (hseal: ∀b,v.ownBlock=some b->∀o,g.S b o->o<n*c) (hl:uE (Rd g w u) c l xs) (hr:uE (Rd g w u) c r news) (hm:0<r.length)
  (ho:w'.ownsRow 0 e c (.slice (some ⟨q,0,none⟩) (n+r.length) cap) (n+r.length) (xs++news)) (hq:q=w.heap.size\/v.ownBlock=some q) (hg:w.grownBy w' v.ownBlock) (hcap:n+r.length<=cap)
  (hcell: ∀b o,b<w.heap.size->(v.ownBlock=some b->o<n*c)->w'.cell? ⟨b,o,none⟩=w.cell? ⟨b,o,none⟩):
  sI g w H ⟨side,(.val (.list u) (l++r),some k),[(k,.grow e c (n+r.length))],rds⟩ ((g.tok k (n+r.length) (.slice (some ⟨q,0,none⟩) (n+r.length) cap)).shut q ((n+r.length)*c)) w' (.slice (some ⟨q,0,none⟩) (n+r.length) cap):=by
 have hnb:=hnone (n+r.length) pG;have hownk: ∀o b,v.ownBlock=some b->t8 g H (qH [(k,qB.grow e c (n+r.length))]) b o:=fun o b hb=>⟨k,_,by simp [qH],hk,v,hv,hb⟩;have hqlt:q<w'.heap.size:=(ho.lt q rfl).2;have le:Le g w ((g.tok k (n+r.length) (.slice (some ⟨q,0,none⟩) (n+r.length) cap)).shut q ((n+r.length)*c)) w':=⟨fun _ _ h=> .inl h,fun b o h=>hcell b o (hH.sl b o h) (fun hb=>hseal b hb o h),fun _ _ h=>h,fun k' n' v' h=>by
  show (if k'=k/\n'=n+r.length then _ else _)=_;rw[aVv (fun⟨e1,e2⟩=>by rw[e1,e2,hnb] at h;cases h)];exact h⟩
 have fr:Fr (t8 g H (qH [(k,qB.grow e c (n+r.length))])) w w' g.S ((g.tok k (n+r.length) (.slice (some ⟨q,0,none⟩) (n+r.length) cap)).shut q ((n+r.length)*c)).S:=by
  have hbk: ∀b,b<w.heap.size->∀o,¬t8 g H (qH [(k,qB.grow e c (n+r.length))]) b o->w'.heap[b]? =w.heap[b]? :=fun b hb o hno=>hg.block b hb (fun e1=>hno (hownk o b e1.symm));refine⟨hg.os,hg.tape,hg.output,hg.size,fun b hb hno=>hbk b hb 0 (hno 0),fun b o hb hno=>⟨aVT (a:=⟨b,o,none⟩) (hbk b hb o hno),aWm (a:=⟨b,o,none⟩) (hbk b hb o hno)⟩,fun b o h=> ?_,fun b s hs=> ?_⟩
  rotate_left
  .by_cases e1:v.ownBlock=some b
   .exact .inr fun o=>hownk o b e1
   .exact .inl ((CP (hg.block b (CO hs) (fun h=>e1 h.symm))).trans hs)
  rcases h with h|⟨rfl,_⟩
  .exact .inl h
  .rcases hq with h|h
   .exact .inr (.inl (aW6 h.symm))
   .exact .inr (.inr (hownk o b h))
 have gho: ∀i,i∉qH [(k,qB.grow e c (n+r.length))]->((g.tok k (n+r.length) (.slice (some ⟨q,0,none⟩) (n+r.length) cap)).shut q ((n+r.length)*c)).J i=g.J i/\((g.tok k (n+r.length) (.slice (some ⟨q,0,none⟩) (n+r.length) cap)).shut q ((n+r.length)*c)).cur i=g.cur i:=fun i hi=>⟨rfl,by
  funext n';show (if i=k/\n'=n+r.length then _ else _)=_;rw[aVv (fun⟨e1,_⟩=>hi (by simp [qH,e1]))]⟩
 have cur1:((g.tok k (n+r.length) (.slice (some ⟨q,0,none⟩) (n+r.length) cap)).shut q ((n+r.length)*c)).cur k (n+r.length)=some (.slice (some ⟨q,0,none⟩) (n+r.length) cap):=by
  show (if k=k/\n+r.length=n+r.length then _ else _)=_;simp
 have get: ∀i blk,i∈qH [(k,qB.grow e c (n+r.length))]->qE (qY [(k,qB.grow e c (n+r.length))] H) i=some blk->i=k/\blk= .grow e c (n+r.length):=by
  intro i blk hi hg;simp only[qH,aVJ] at hi;subst hi;simp only[qY,qE,aW8,aVr] at hg;exact⟨rfl,hg.symm⟩
 have perm: ∀i blk b o,i∈qH [(k,qB.grow e c (n+r.length))]->qE (qY [(k,qB.grow e c (n+r.length))] H) i=some blk->sG ((g.tok k (n+r.length) (.slice (some ⟨q,0,none⟩) (n+r.length) cap)).shut q ((n+r.length)*c)) i blk b o->w.heap.size<=b\/t8 g H (qH [(k,qB.grow e c (n+r.length))]) b o:=by
  intro i blk b o hi hgt ho';obtain⟨rfl,rfl⟩:=get i blk hi hgt;obtain⟨v',hv',hb⟩:=ho';rw[cur1] at hv';obtain rfl:=aVx hv';cases hb;rcases hq with h|h
  .exact .inl (aW6 h.symm)
  .exact .inr (hownk o _ h)
 have hF:uE (Rd ((g.tok k (n+r.length) (.slice (some ⟨q,0,none⟩) (n+r.length) cap)).shut q ((n+r.length)*c)) w' u) u.cells (l++r) (xs++news):=hc▸DF (fun _ _ h=>xZ le h) (R9 hl hr);have hlr:(l++r).length=n+r.length:=by rw[aVu,hln]
 refine⟨le,⟨.inr ⟨rfl,some ⟨q,0,none⟩,cap,by rw[hlr],by rw[hlr];exact hcap,.inr ⟨q,0,rfl,O1 hF (a1k ho) (fun j hj=> ?_)⟩⟩,?_⟩,hH.upd le fr perm gho (fun i blk hi hgt=> ?_) (fun i j bi bj b o hi hj hij hgi hgj _ _=>hij ((get i bi hi hgi).1.trans (get j bj hj hgj).1.symm)) (fun b o h=> ?_),fr,perm,gho,fun i u' y us h=>by
  simp only[qY,qE] at h;split at h
  .cases h
  .exact .inl ⟨y,us,h⟩⟩
 .right;rw[hlr] at hj;exact⟨rfl,by rw[hc];omega⟩
 .show _=_;rw[hlr];exact cur1
 .obtain⟨rfl,rfl⟩:=get i blk hi hgt;refine⟨_,_,cur1,ho,fun m hm'=> ?_,fun b hb o h=> ?_⟩
  .show (if i=i/\m=n+r.length then _ else _)=_;rw[aVv pG];exact hnone m pG
  .cases hb;rcases h with h|⟨_,h⟩
   .rcases hq with h2|h2
    .have:q<w.heap.size:=hH.sl _ _ h;omega
    .have:=hseal _ h2 o h;rw[Nat.add_mul];omega
   .exact h
 .rcases h with h|⟨rfl,_⟩
  .exact aV7 (hH.sl b o h) hg.size
  .exact hqlt
theorem sI.lit {side:List Prop}{rds:pQ}{base e c n:Nat}{u:Ty}{l:List u.den}{cs:pN}(hc:c=u.cells) (hln:l.length=n) (hl:uE (Rd g w u) c l cs) (hn:n<=maxLen) (hf: ∀m,g.cur base m=none):
  sI g w H ⟨side,(.val (.list u) l,some base),[(base,.grow e c n)],rds⟩ ((g.tok base n (.slice (some ⟨w.heap.size,0,none⟩) n n)).shut w.heap.size (n*c)) (w.alloc (.cells cs.toArray e)) (.slice (some ⟨w.heap.size,0,none⟩) n n):=by
 have hlen:=JA hl;have le:Le g w ((g.tok base n (.slice (some ⟨w.heap.size,0,none⟩) n n)).shut w.heap.size (n*c)) (w.alloc (.cells cs.toArray e)):=⟨fun _ _ h=> .inl h,fun b o h=>aVT (a:=⟨b,o,none⟩) (aV3 _ _ _ (hH.sl b o h)),fun _ _ h=>h,fun k' n' v' h=>by
  show (if k'=base/\n'=n then _ else _)=_;rw[aVv (fun⟨e1,e2⟩=>by rw[e1,hf] at h;cases h)];exact h⟩
 have fr:Fr (t8 g H (qH [(base,qB.grow e c n)])) w (w.alloc (.cells cs.toArray e)) g.S ((g.tok base n (.slice (some ⟨w.heap.size,0,none⟩) n n)).shut w.heap.size (n*c)).S:=
  ⟨rfl,rfl,rfl,by simp,fun b hb _=>aV3 _ _ _ hb,fun b o hb _=>⟨aVT (a:=⟨b,o,none⟩) (aV3 _ _ _ hb),aWm (a:=⟨b,o,none⟩) (aV3 _ _ _ hb)⟩,fun b o h=>h.imp id fun h=> .inl (aW6 h.1.symm),fun b s h=> .inl ((CP (aV3 _ _ _ (CO h))).trans h)⟩
 have gho: ∀i,i∉qH [(base,qB.grow e c n)]->((g.tok base n (.slice (some ⟨w.heap.size,0,none⟩) n n)).shut w.heap.size (n*c)).J i=g.J i/\((g.tok base n (.slice (some ⟨w.heap.size,0,none⟩) n n)).shut w.heap.size (n*c)).cur i=g.cur i:=fun i hi=>⟨rfl,by
  funext n';show (if i=base/\n'=n then _ else _)=_;rw[aVv (fun⟨e1,_⟩=>hi (by simp [qH,e1]))]⟩
 have cur1:((g.tok base n (.slice (some ⟨w.heap.size,0,none⟩) n n)).shut w.heap.size (n*c)).cur base n=some (.slice (some ⟨w.heap.size,0,none⟩) n n):=by
  show (if base=base/\n=n then _ else _)=_;simp
 have get: ∀i blk,i∈qH [(base,qB.grow e c n)]->qE (qY [(base,qB.grow e c n)] H) i=some blk->i=base/\blk= .grow e c n:=by
  intro i blk hi hg;simp only[qH,aVJ] at hi;subst hi;simp only[qY,qE,aW8,aVr] at hg;exact⟨rfl,hg.symm⟩
 have perm: ∀i blk b o,i∈qH [(base,qB.grow e c n)]->qE (qY [(base,qB.grow e c n)] H) i=some blk->sG ((g.tok base n (.slice (some ⟨w.heap.size,0,none⟩) n n)).shut w.heap.size (n*c)) i blk b o->w.heap.size<=b\/t8 g H (qH [(base,qB.grow e c n)]) b o:=by
  intro i blk b o hi hgt ho';obtain⟨rfl,rfl⟩:=get i blk hi hgt;obtain⟨v',hv',hb⟩:=ho';rw[cur1] at hv';obtain rfl:=aVx hv';cases hb;exact .inl (aVR _)
 have hF:uE (Rd ((g.tok base n (.slice (some ⟨w.heap.size,0,none⟩) n n)).shut w.heap.size (n*c)) (w.alloc (.cells cs.toArray e)) u) u.cells l cs:=hc▸DF (fun _ _ h=>xZ le h) hl;have hra:(w.alloc (.cells cs.toArray e)).rangeAt w.heap.size 0 cs:=fun j v hv=>by
  rw[aV5,aXx];simpa using hv
 refine⟨le,⟨.inr ⟨rfl,some ⟨w.heap.size,0,none⟩,n,by rw[hln],by rw[hln];exact aVR _,.inr ⟨w.heap.size,0,rfl,O1 hF hra (fun j hj=> ?_)⟩⟩,?_⟩,hH.upd le fr perm gho (fun i blk hi hgt=> ?_) (fun i j bi bj b o hi hj hij hgi hgj _ _=>hij ((get i bi hi hgi).1.trans (get j bj hj hgj).1.symm)) (fun b o h=> ?_),fr,perm,gho,fun i u' y us h=>by
  simp only[qY,qE] at h;split at h
  .cases h
  .exact .inl ⟨y,us,h⟩⟩
 .right;rw[hln] at hj;exact⟨rfl,by rw[hc];omega⟩
 .show _=_;rw[hln];exact cur1
 .obtain⟨rfl,rfl⟩:=get i blk hi hgt;refine⟨_,cs,cur1,⟨by rw[hlen,hln],.inr ⟨w.heap.size,n,cs.toArray,rfl,aWC _,aXw w _,aVR _,hn,by simp [hlen,hln],by simp [<-hln,<-hlen]⟩⟩,fun m hm'=> ?_,fun b hb o h=> ?_⟩
  .show (if i=i/\m=n then _ else _)=_;rw[aVv pG];exact hf m
  .cases hb;rcases h with h|⟨_,h⟩
   .exact absurd (hH.sl _ _ h) (aW5 _)
   .exact h
 .rcases h with h|⟨rfl,_⟩
  .exact aV7 (hH.sl b o h) pI
  .simp
theorem a1l: ∀{toks:pL}{off n q k:Nat},(q,k)∈wC toks off n->(q,k)∈toks/\¬(off<=q/\q<off+n)
 |[],_,_,_,_,h=>by simp [wC] at h
 |(q',k')::r,off,n,q,k,h=>by
  simp only[wC] at h;split at h
  .obtain⟨h1,h2⟩:=a1l h;exact⟨aVB _ h1,h2⟩
  .rename_i hn;rcases aVH.1 h with h|h
   .cases h;exact⟨by simp,hn⟩
   .obtain⟨h1,h2⟩:=a1l h;exact⟨aVB _ h1,h2⟩
theorem aMr {u:Ty}{y:u.den}: ∀{t:Ty}{x z:t.den}{o:Nat},u.isRow=false->t6 u y t x o=some z->rK u t z o=some y:=by
 intro t
 induction t with
 |pair a b iha ihb=>
  intro x z o hu h;have hne:u≠.pair a b:=by intro e;rw[e] at hu;cases hu
  have key: ∀o,(if o<a.cells then(t6 u y a x.1 o).map (fun q=>(q,x.2)) else(t6 u y b x.2 (o-a.cells)).map (fun q=>(x.1,q)))=some z->
    (if o<a.cells then rK u a z.1 o else rK u b z.2 (o-a.cells))=some y:=by
   intro o h;by_cases ho:o<a.cells
   .rw[aVs ho] at h|-;obtain⟨q,hq,rfl⟩:=aVA.1 h;exact iha hu hq
   .rw[aVv ho] at h|-;obtain⟨q,hq,rfl⟩:=aVA.1 h;exact ihb hu hq
  cases o with
  |zero=>
   unfold t6 at h;unfold rK;rw[aXb hne] at h;rw[aXb (Ne.symm hne)];have:=key 0 (by simpa using h);simpa using this
  |succ o=>
   have:=key (o+1) (by simpa[t6] using h);simpa[rK] using this
 |_=>
  intro x z o hu h;cases o with
  |zero=>
   unfold t6 at h;split at h
   .rename_i e;subst e;simp only[v8,aVr] at h
    try subst h
    unfold rK;simp [v8]
   .simp at h
  |succ o=>simp [t6] at h
theorem aCL {u v:Ty}{y:u.den}: ∀{t:Ty}{x z:t.den}{o q:Nat}{l:(Ty.list v).den},t6 u y t x o=some z->rK (.list v) t x q=some l->¬(o<=q/\q<o+u.cells)->rK (.list v) t z q=some l:=by
 intro t
 induction t with
 |pair a b iha ihb=>
  intro x z o q l h g hq;by_cases hu:o=0/\u= .pair a b
  .obtain⟨rfl,rfl⟩:=hu;exfalso;apply hq;have: ∀(t:Ty) (x:t.den) (q:Nat) (l:(Ty.list v).den),rK (.list v) t x q=some l->q<t.cells:=by
    intro t
    induction t with
    |pair s t ihs iht=>
     intro x q l g;have key: ∀q,(if q<s.cells then rK (.list v) s x.1 q else rK (.list v) t x.2 (q-s.cells))=some l->q<s.cells+t.cells:=by
      intro q g;by_cases h:q<s.cells
      .omega
      .rw[aVv h] at g;have:=iht _ _ _ g;omega
     cases q with
     |zero=>
      unfold rK at g;rw[aXb (by intro e;cases e)] at g;exact key 0 (by simpa using g)
     |succ q=>exact key (q+1) (by simpa[rK] using g)
    |_=>
     intro x q l g;cases q with
     |zero=>first|(simp [Ty.cells];done) |(unfold rK at g;simp at g)
     |succ q=>simp [rK] at g
   exact⟨aWC _,by simpa using this _ _ _ _ g⟩
  .have keyh:(if o<a.cells then(t6 u y a x.1 o).map (fun q=>(q,x.2)) else(t6 u y b x.2 (o-a.cells)).map (fun q=>(x.1,q)))=some z:=by
    cases o with
    |zero=>
     unfold t6 at h;rw[aXb (fun e=>hu ⟨rfl,e⟩)] at h;simpa using h
    |succ o=>simpa[t6] using h
   have keyg: ∀x:(Ty.pair a b).den,rK (.list v) (.pair a b) x q=(if q<a.cells then rK (.list v) a x.1 q else rK (.list v) b x.2 (q-a.cells)):=by
    intro x;cases q with
    |zero=>
     conv=>lhs;unfold rK
     rw[aXb (by intro e;cases e),Nat.zero_sub]
    |succ q=>simp [rK]
   rw[keyg] at g|-;by_cases ho:o<a.cells
   .rw[aVs ho] at keyh;obtain⟨z',hz',rfl⟩:=aVA.1 keyh;by_cases hqa:q<a.cells
    .rw[aVs hqa] at g|-;exact iha hz' g hq
    .rw[aVv hqa] at g|-;exact g
   .rw[aVv ho] at keyh;obtain⟨z',hz',rfl⟩:=aVA.1 keyh;by_cases hqa:q<a.cells
    .rw[aVs hqa] at g|-;exact g
    .rw[aVv hqa] at g|-;exact ihb hz' g pG
 |unit=>
  intro x z o q l h g hq;cases q with
  |zero=>
   unfold rK at g;rw[aXb (by intro e;cases e)] at g;cases g
  |succ q=>simp [rK] at g
 |_=>
  intro x z o q l h g hq;cases o with
  |zero=>
   unfold t6 at h;split at h
   .rename_i e;subst e;cases q with
    |zero=>exact absurd ⟨aVR _,Nat.zero_lt_one⟩ hq
    |succ q=>simp [rK] at g
   .simp at h
  |succ o=>simp [t6] at h
theorem sI.store {side:List Prop}{rds:pQ}{i:Nat}{u t:Ty}{x z:u.den}{y:t.den}{off:Nat}{toks:pL}{k:pP}{p:Pl}{cy:pN}{v:pS}(hb:qE H i=some (.cells u x toks)) (hp:g.J i=some p)
  (hset:t6 t y u x off=some z) (hy:Rd g w t y cy) (hk:DD g t y v k) (hk2: ∀a b,t= .pair a b->k=none) (hv:t.isRow=false->cy=[v]):
  sI g w H ⟨side,(.any,none),[(i,.cells u z (qY (yE k off) (wC toks off t.cells)))],rds⟩ g (w.setCells p.1 (p.2+off) cy) undef/\w.there p.1 (p.2+off) cy.length:=by
 obtain⟨p',cs,hp',hR,hra,hth,hns,htk⟩:=hH.blk i _ hb;rw[hp] at hp';obtain rfl:=aVx hp';obtain⟨c1,c2,c3,hcs,hl1,hl2,hz⟩:=WO hy hR hset;subst hcs;subst hl1;have hcl:=t7 hR;have hyl:=t7 hy;simp only[aVu] at hcl;have hthere:w.there p.1 (p.2+c1.length) cy.length:=fun j hj=>by
  have:=hth.1 (c1.length+j) pG;rwa [<-aWc] at this
 have hout: ∀b o,(b=p.1->o<p.2+c1.length\/p.2+c1.length+cy.length<=o)->(w.setCells p.1 (p.2+c1.length) cy).cell? ⟨b,o,none⟩=w.cell? ⟨b,o,none⟩:=fun b o h=>World.cell?_setCells_out p.1 cy _ w ⟨b,o,none⟩ (fun e _=>h e);have hin: ∀b o,b=p.1->p.2+c1.length<=o->o<p.2+c1.length+cy.length->sG g i (.cells u x toks) b o:=fun b o e h1 h2=>⟨p,hp,e,pG,pG⟩;have hsz:(w.setCells p.1 (p.2+c1.length) cy).heap.size=w.heap.size:=by
  have: ∀(l:pN) (o:Nat) (w:pR),(w.setCells p.1 o l).heap.size=w.heap.size:=by
   intro l
   induction l with
   |nil=>intro o w;rfl
   |cons v l ih=>intro o w;rw[World.setCells,ih];simp [World.setCell]
  exact this _ _ _
 have hbk: ∀b,b≠p.1->(w.setCells p.1 (p.2+c1.length) cy).heap[b]? =w.heap[b]? :=by
  intro b hb;have: ∀(l:pN) (o:Nat) (w:pR),(w.setCells p.1 o l).heap[b]? =w.heap[b]? :=by
   intro l
   induction l with
   |nil=>intro o w;rfl
   |cons v l ih=>intro o w;rw[World.setCells,ih];exact Below.heap_setCell _ _ _ _ hb
  exact this _ _ _
 have hos:(w.setCells p.1 (p.2+c1.length) cy).os=w.os/\(w.setCells p.1 (p.2+c1.length) cy).tape=w.tape/\(w.setCells p.1 (p.2+c1.length) cy).output=w.output:=by
  have: ∀(l:pN) (o:Nat) (w:pR),(w.setCells p.1 o l).os=w.os/\(w.setCells p.1 o l).tape=w.tape/\(w.setCells p.1 o l).output=w.output:=by
   intro l
   induction l with
   |nil=>intro o w;exact⟨rfl,rfl,rfl⟩
   |cons v l ih=>intro o w;rw[World.setCells];exact ih _ _
  exact this _ _ _
 have hiS: ∀b o,g.S b o->¬(b=p.1/\p.2<=o/\o<p.2+u.cells):=fun b o hs ⟨e,h1,h2⟩=>hns (o-p.2) pG (by rw[show p.2+(o-p.2)=o from by omega,<-e];exact hs);have le:Le g w g (w.setCells p.1 (p.2+c1.length) cy):=⟨fun _ _ h=>h,fun b o h=>hout b o (fun e=>by
  have:=hiS b o h;rcases aWA o (p.2+c1.length) with h1|h1
  .exact .inl h1
  .rcases aWA o (p.2+c1.length+cy.length) with h2|h2
   .exact absurd ⟨e,pG,pG⟩ this
   .exact .inr h2),fun _ _ h=>h,fun _ _ _ h=>h⟩
 have hofI: ∀b o,sG g i (.cells u x toks) b o->t8 g H (qH [(i,qB.cells u z (qY (yE k c1.length) (wC toks c1.length t.cells)))]) b o:=fun b o h=>⟨i,_,by simp [qH],hb,h⟩;have fr:Fr (t8 g H (qH [(i,qB.cells u z (qY (yE k c1.length) (wC toks c1.length t.cells)))])) w (w.setCells p.1 (p.2+c1.length) cy) g.S g.S:=by
  refine⟨hos.1,hos.2.1,hos.2.2,aW6 hsz.symm,fun b hb' hno=> ?_,fun b o hb' hno=>⟨hout b o (fun e=> ?_),World.frozen?_setCells _ _ _ _ _⟩,fun b o h=> .inl h,fun b s hs=> .inl ((RG _ _ _ _ _).trans hs)⟩
  .by_cases e:b=p.1
   .cases hcy:cy with
    |nil=>rfl
    |cons q l=>exact absurd (hofI b (p.2+c1.length) (hin b _ e (aVR _) (by rw[hcy];simp))) (hno _)
   .exact hbk b e
  .rcases aWA o (p.2+c1.length) with h1|h1
   .exact .inl h1
   .rcases aWA o (p.2+c1.length+cy.length) with h2|h2
    .exact absurd (hofI b o (hin b o e h1 h2)) hno
    .exact .inr h2
 have gho: ∀j,j∉qH [(i,qB.cells u z (qY (yE k c1.length) (wC toks c1.length t.cells)))]->g.J j=g.J j/\g.cur j=g.cur j:=fun _ _=>⟨rfl,rfl⟩;have get: ∀j blk,j∈qH [(i,qB.cells u z (qY (yE k c1.length) (wC toks c1.length t.cells)))]->qE (qY [(i,qB.cells u z (qY (yE k c1.length) (wC toks c1.length t.cells)))] H) j=some blk->j=i/\blk= .cells u z (qY (yE k c1.length) (wC toks c1.length t.cells)):=by
  intro j blk hi hg;simp only[qH,aVJ] at hi;subst hi;simp only[qY,qE,aW8,aVr] at hg;exact⟨rfl,hg.symm⟩
 have perm: ∀j blk b o,j∈qH [(i,qB.cells u z (qY (yE k c1.length) (wC toks c1.length t.cells)))]->qE (qY [(i,qB.cells u z (qY (yE k c1.length) (wC toks c1.length t.cells)))] H) j=some blk->sG g j blk b o->w.heap.size<=b\/t8 g H (qH [(i,qB.cells u z (qY (yE k c1.length) (wC toks c1.length t.cells)))]) b o:=by
  intro j blk b o hi hg ho;obtain⟨rfl,rfl⟩:=get j blk hi hg;exact .inr (hofI b o ho)
 refine⟨⟨le,⟨trivial,trivial⟩,hH.upd le fr perm gho (fun j blk hi hg=> ?_) (fun i j bi bj b o hi hj hij hgi hgj _ _=>hij ((get i bi hi hgi).1.trans (get j bj hj hgj).1.symm)) (fun b o h=>by rw[hsz];exact hH.sl b o h),fr,perm,gho,fun j u' y' us h=>by
  simp only[qY,qE] at h;split at h
  .rename_i e1;subst e1;simp only[aVr,qB.cells.injEq] at h;obtain⟨rfl,_⟩:=h;exact .inl ⟨x,toks,hb⟩
  .exact .inl ⟨y',us,h⟩⟩,hthere⟩
 obtain⟨rfl,rfl⟩:=get j blk hi hg;refine⟨p,_,hp,xZ le hz,fun q v hq=> ?_,⟨fun q hq=> ?_,fun h0 s hs=>(RG _ _ _ _ _).trans (hth.2 h0 s hs)⟩,hns,?_⟩
 .by_cases h1:q<c1.length
  .rw[hout _ _ (fun _=> .inl pG)];refine hra q v ?_;rw[aVy,aVN h1] at hq|-;exact hq
  .by_cases h2:q<c1.length+cy.length
   .have:=aW0 p.1 cy (p.2+c1.length) w (fun j hj=>(hthere j hj).1) (q-c1.length) pG;rw[show p.2+c1.length+(q-c1.length)=p.2+q from by omega] at this;rw[this];rw[aVy,aVI pG,aVN pG] at hq;rw[<-hq,aVF pG]
   .rw[hout _ _ (fun _=> .inr pG)];refine hra q v ?_;rw[aVy,aVI pG,aVI pG] at hq|-;rw[hl2];rw[hyl] at hq;exact hq
 .have hh:=hth.1 q hq;refine⟨?_,by rw[World.frozen?_setCells];exact hh.2⟩;by_cases h1:q<c1.length\/c1.length+cy.length<=q
  .rw[hout _ _ (fun _=>by omega)];exact hh.1
  .have:=aW0 p.1 cy (p.2+c1.length) w (fun j hj=>(hthere j hj).1) (q-c1.length) pG;rw[show p.2+c1.length+(q-c1.length)=p.2+q from by omega] at this;rw[this];rfl
 .intro q kk hm;have hsplit:(q,kk)∈yE k c1.length\/(q,kk)∈wC toks c1.length t.cells:=by
   cases k with
   |none=>exact .inr (by simpa[yE,qY] using hm)
   |some k=>
    simp only[yE,qY,aVH] at hm;rcases hm with hm|hm
    .exact .inl (by simp [yE,hm])
    .exact .inr hm
  rcases hsplit with hm|hm
  .cases k with
   |none=>simp [yE] at hm
   |some k=>
    simp only[yE,aVJ,aV0] at hm;obtain⟨rfl,rfl⟩:=hm;cases t with
    |list t=>
     obtain rfl:=hv rfl;exact⟨t,y,v,aMr hH rfl hset,by simp,hk⟩
    |pair a b=>cases hk2 a b rfl
    |_=>exact hk.elim
  .obtain⟨h1,h2⟩:=a1l hH hm;obtain⟨v',l,v1,g1,g2,g3⟩:=htk q kk h1;refine⟨v',l,v1,aCL hH hset g1 h2,?_,g3⟩;rcases aWA q c1.length with h3|h3
   .rw[aVy,aVN h3] at g2|-;exact g2
   .have h4:c1.length+t.cells<=q:=by omega
    rw[aVy,aVI pG,aVI pG] at g2|-;rw[hyl];rw[hl2] at g2;exact g2
theorem A4.openS {side:List Prop}{rds:pQ}{i:Nat}{u u0:Ty}{el:Nat}{kn:pO}{x:u.den}{z: Σ t:Ty,t.den}{off:Nat}{toks:pL}{p:Pl}{cy:pN}(hb:qE H i=some (.cells u x toks)) (hp:g.J i=some p)
  (hset:yT el u0 kn u x off=some z) (hy:FV g kn cy) (hyl:cy.length=1) (hre:IX rds=true):
  A4 g w H ⟨side,(.any,none),[(i,.cells z.1 z.2 [])],rds⟩ g (w.setCells p.1 (p.2+off) cy) undef/\w.there p.1 (p.2+off) cy.length:=by
 obtain⟨p',cs,hp',hR,hra,hth,hns,htk⟩:=hH.blk i _ hb;rw[hp] at hp';obtain rfl:=aVx hp';obtain⟨c1,c2,c3,hcs,hl1,hl2,hz⟩:=aLR hy hR hset;subst hcs;subst hl1;have hcl:=t7 hR;have hcz:=aLQ hset;simp only[aVu] at hcl;have hthere:w.there p.1 (p.2+c1.length) cy.length:=fun j hj=>by
  have:=hth.1 (c1.length+j) pG;rwa [<-aWc] at this
 have hout: ∀b o,(b=p.1->o<p.2+c1.length\/p.2+c1.length+cy.length<=o)->(w.setCells p.1 (p.2+c1.length) cy).cell? ⟨b,o,none⟩=w.cell? ⟨b,o,none⟩:=fun b o h=>World.cell?_setCells_out p.1 cy _ w ⟨b,o,none⟩ (fun e _=>h e);have hin: ∀b o,b=p.1->p.2+c1.length<=o->o<p.2+c1.length+cy.length->sG g i (.cells u x toks) b o:=fun b o e h1 h2=>⟨p,hp,e,pG,pG⟩;have hsz:(w.setCells p.1 (p.2+c1.length) cy).heap.size=w.heap.size:=by
  have: ∀(l:pN) (o:Nat) (w:pR),(w.setCells p.1 o l).heap.size=w.heap.size:=by
   intro l
   induction l with
   |nil=>intro o w;rfl
   |cons v l ih=>intro o w;rw[World.setCells,ih];simp [World.setCell]
  exact this _ _ _
 have hbk: ∀b,b≠p.1->(w.setCells p.1 (p.2+c1.length) cy).heap[b]? =w.heap[b]? :=by
  intro b hb;have: ∀(l:pN) (o:Nat) (w:pR),(w.setCells p.1 o l).heap[b]? =w.heap[b]? :=by
   intro l
   induction l with
   |nil=>intro o w;rfl
   |cons v l ih=>intro o w;rw[World.setCells,ih];exact Below.heap_setCell _ _ _ _ hb
  exact this _ _ _
 have hos:(w.setCells p.1 (p.2+c1.length) cy).os=w.os/\(w.setCells p.1 (p.2+c1.length) cy).tape=w.tape/\(w.setCells p.1 (p.2+c1.length) cy).output=w.output:=by
  have: ∀(l:pN) (o:Nat) (w:pR),(w.setCells p.1 o l).os=w.os/\(w.setCells p.1 o l).tape=w.tape/\(w.setCells p.1 o l).output=w.output:=by
   intro l
   induction l with
   |nil=>intro o w;exact⟨rfl,rfl,rfl⟩
   |cons v l ih=>intro o w;rw[World.setCells];exact ih _ _
  exact this _ _ _
 have hiS: ∀b o,g.S b o->¬(b=p.1/\p.2<=o/\o<p.2+u.cells):=fun b o hs ⟨e,h1,h2⟩=>hns (o-p.2) pG (by rw[show p.2+(o-p.2)=o from by omega,<-e];exact hs);have le:Le g w g (w.setCells p.1 (p.2+c1.length) cy):=⟨fun _ _ h=>h,fun b o h=>hout b o (fun e=>by
  have:=hiS b o h;rcases aWA o (p.2+c1.length) with h1|h1
  .exact .inl h1
  .rcases aWA o (p.2+c1.length+cy.length) with h2|h2
   .exact absurd ⟨e,pG,pG⟩ this
   .exact .inr h2),fun _ _ h=>h,fun _ _ _ h=>h⟩
 have hofI: ∀b o,sG g i (.cells u x toks) b o->t8 g H (qH [(i,qB.cells z.1 z.2 [])]) b o:=fun b o h=>⟨i,_,by simp [qH],hb,h⟩;have fr:Fr (t8 g H (qH [(i,qB.cells z.1 z.2 [])])) w (w.setCells p.1 (p.2+c1.length) cy) g.S g.S:=by
  refine⟨hos.1,hos.2.1,hos.2.2,aW6 hsz.symm,fun b hb' hno=> ?_,fun b o hb' hno=>⟨hout b o (fun e=> ?_),World.frozen?_setCells _ _ _ _ _⟩,fun b o h=> .inl h,fun b s hs=> .inl ((RG _ _ _ _ _).trans hs)⟩
  .by_cases e:b=p.1
   .cases hcy:cy with
    |nil=>rfl
    |cons q l=>exact absurd (hofI b (p.2+c1.length) (hin b _ e (aVR _) (by rw[hcy];simp))) (hno _)
   .exact hbk b e
  .rcases aWA o (p.2+c1.length) with h1|h1
   .exact .inl h1
   .rcases aWA o (p.2+c1.length+cy.length) with h2|h2
    .exact absurd (hofI b o (hin b o e h1 h2)) hno
    .exact .inr h2
 have gho: ∀j,j∉qH [(i,qB.cells z.1 z.2 [])]->g.J j=g.J j/\g.cur j=g.cur j:=fun _ _=>⟨rfl,rfl⟩;have get: ∀j blk,j∈qH [(i,qB.cells z.1 z.2 [])]->qE (qY [(i,qB.cells z.1 z.2 [])] H) j=some blk->j=i/\blk= .cells z.1 z.2 []:=by
  intro j blk hi hg;simp only[qH,aVJ] at hi;subst hi;simp only[qY,qE,aW8,aVr] at hg;exact⟨rfl,hg.symm⟩
 have perm: ∀j blk b o,j∈qH [(i,qB.cells z.1 z.2 [])]->qE (qY [(i,qB.cells z.1 z.2 [])] H) j=some blk->sG g j blk b o->w.heap.size<=b\/t8 g H (qH [(i,qB.cells z.1 z.2 [])]) b o:=by
  intro j blk b o hi hg ho;obtain⟨rfl,rfl⟩:=get j blk hi hg;obtain⟨q,hq,e1,e2,e3⟩:=ho;rw[hcz] at e3;exact .inr (hofI b o ⟨q,hq,e1,e2,e3⟩)
 refine⟨⟨le,⟨trivial,trivial⟩,hH.upd le fr perm gho (fun j blk hi hg=> ?_) (fun i j bi bj b o hi hj hij hgi hgj _ _=>hij ((get i bi hi hgi).1.trans (get j bj hj hgj).1.symm)) (fun b o h=>by rw[hsz];exact hH.sl b o h),fr,perm,gho,fun h=>by rw[hre] at h;cases h⟩,hthere⟩;obtain⟨rfl,rfl⟩:=get j blk hi hg;refine⟨p,_,hp,xZ le hz,fun q v hq=> ?_,⟨fun q hq=> ?_,fun h0 s hs=>(RG _ _ _ _ _).trans (hth.2 (by rw[<-hcz];exact h0) s hs)⟩,fun q hq=>hns q (by rw[<-hcz];exact hq),fun _ _ hm=>by cases hm⟩
 .by_cases h1:q<c1.length
  .rw[hout _ _ (fun _=> .inl pG)];refine hra q v ?_;rw[aVy,aVN h1] at hq|-;exact hq
  .by_cases h2:q<c1.length+cy.length
   .have:=aW0 p.1 cy (p.2+c1.length) w (fun j hj=>(hthere j hj).1) (q-c1.length) pG;rw[show p.2+c1.length+(q-c1.length)=p.2+q from by omega] at this;rw[this];rw[aVy,aVI pG,aVN pG] at hq;rw[<-hq,aVF pG]
   .rw[hout _ _ (fun _=> .inr pG)];refine hra q v ?_;rw[aVy,aVI pG,aVI pG] at hq|-;rw[hl2];rw[hyl] at hq;exact hq
 .have hh:=hth.1 q (by rw[<-hcz];exact hq);refine⟨?_,by rw[World.frozen?_setCells];exact hh.2⟩;by_cases h1:q<c1.length\/c1.length+cy.length<=q
  .rw[hout _ _ (fun _=>by omega)];exact hh.1
  .have:=aW0 p.1 cy (p.2+c1.length) w (fun j hj=>(hthere j hj).1) (q-c1.length) pG;rw[show p.2+c1.length+(q-c1.length)=p.2+q from by omega] at this;rw[this];rfl
end
def zO (g:Gh) (base:Nat) (e:qT):Prop:= ∀i,i∈qH e.upd->base<=i->g.J i=none/\∀n,g.cur i n=none
section
variable {P:Program}{o:Oper}{a:Act}{g:Gh}{w:pR}{H:sE}{T:sV}(hT:y3 P T) (hH:sL g w H)
include hT hH
theorem aCM {x:Operand}(ho:o.op= .move x\/o.op= .assign x) {sx:qC}(hx:rX g w sx (a.eval x)) {base:Nat}{e:qT}(hr:a0r base (rZ T o.type) sx=some e) (hf:zO g base e):rN P o a g w H e:=by
 have hrun:(execOp a.eval o).run P w= .ok (.value (a.eval x)) w:=by rcases ho with ho|ho<;>simp [execOp,ho]
 generalize hst:rZ T o.type=ot at hr;unfold a0r at hr;split at hr
 .cases hr;have hv:a.eval x= .slice none 0 0:=hx.1;have hfr:=(hf base (by simp [qH]) (aVR _)).2;refine rN.value (v:= .slice none 0 0) (by rw[hrun,hv]) (sI.row (v:= .slice none 0 0) (xs:=[]) hH rfl (World.ownsRow_nil w 0 _ _) rfl (fun m _=>hfr m) (fun u hu=>by rw[hfr] at hu;cases hu) (.inl ⟨rfl,rfl,rfl,aVR _,fun _ _ _=>rfl⟩) (fun _ _ _=>rfl) (fun b hb=>by cases hb) (fun b hb=>by cases hb) ⟨⟨by simp [Gh.tok],.inl ⟨rfl,rfl⟩⟩,trivial⟩)
 .cases hr;have hv:a.eval x= .slice none 0 0:=hx.1;refine rN.value (v:= .slice none 0 0) (by rw[hrun,hv]) (sI.nilTok hH rfl (hf base (by simp [qH]) (aVR _)).2)
 .cases hr
 .cases hr;exact rN.value hrun (.pure hH hx)
theorem aMs {u:Ty}{y:List u.den}{k:pP}{v:pS}{cs:pN}(h:DD g (.list u) y v k) (hc:cs=[v]):HD g (.list u) y cs (yE k 0):=by
 intro q kk hm;cases k with
 |none=>simp [yE] at hm
 |some k=>
  simp only[yE,aVJ,aV0] at hm;obtain⟨rfl,rfl⟩:=hm;exact⟨u,y,v,by unfold rK;simp [v8],by rw[hc];rfl,h⟩
omit hT hH in
theorem O4 {α:Type}: ∀(l m n:List α),qY (qY l m) n=qY l (qY m n)
 |[],_,_=>rfl
 |x::l,m,n=>by simp only[qY,O4 l m n]
omit hT hH in
theorem EK {i:Nat}: ∀{l m:List (Nat×qB)},i∈qH (qY l m)↔i∈qH l\/i∈qH m
 |[],m=>by simp [qY,qH]
 |(k,b)::l,m=>by simp only[qY,qH,aVH,EK (l:=l),or_assoc]
omit hT hH in
theorem sI.trans {H:sE}{e1 e2:qT}{g1 g2:Gh}{w1 w2:pR}{v1 v2:pS}{side:List Prop}{rds:pQ}(h:sI g w H e1 g1 w1 v1) (k:sI g1 w1 (qY e1.upd H) e2 g2 w2 v2):sI g w H ⟨side,e2.slot,qY e2.upd e1.upd,rds⟩ g2 w2 v2:=by
 have hB: ∀b o,t8 g1 (qY e1.upd H) (qH e2.upd) b o->w.heap.size<=b\/t8 g H (qH (qY e2.upd e1.upd)) b o:=by
  rintro b o ⟨i,blk,hi,hg,ho⟩;by_cases h1:i∈qH e1.upd
  .refine(h.perm i blk b o h1 hg ho).imp id fun⟨j,bj,hj,q⟩=>⟨j,bj,EK.2 (.inr hj),q⟩
  .exact .inr ⟨i,blk,EK.2 (.inl hi),(CQ h1).symm.trans hg,(A5 (h.gho i h1).1 (h.gho i h1).2).1 ho⟩
 have mono: ∀b o,t8 g H (qH e1.upd) b o->t8 g H (qH (qY e2.upd e1.upd)) b o:=fun b o ⟨j,bj,hj,q⟩=>⟨j,bj,EK.2 (.inr hj),q⟩;refine⟨h.le.trans k.le,k.slot,by simp only[O4];exact k.heap,?_,fun i blk b o hi hg ho=> ?_,fun i hi=> ?_,fun i u y us hg=> ?_⟩
 .have h1:Fr (t8 g H (qH (qY e2.upd e1.upd))) w w1 g.S g1.S:=⟨h.fr.os,h.fr.tape,h.fr.output,h.fr.size,fun b hb hn=>h.fr.blk b hb (fun o ho=>hn o (mono b o ho)),fun b o hb hn=>h.fr.cell b o hb (fun ho=>hn (mono b o ho)),fun b o hs=>(h.fr.new b o hs).imp id (Or.imp id (mono b o)),fun b s hs=>(h.fr.shape b s hs).imp id fun h o=>mono b o (h o)⟩;exact h1.trans k.fr hB
 .simp only[O4] at hg;by_cases h2:i∈qH e2.upd
  .rcases k.perm i blk b o h2 hg ho with h3|h3
   .exact .inl (aWx h.fr.size h3)
   .exact hB b o h3
  .have hi1:i∈qH e1.upd:=(EK.1 hi).resolve_left h2;rw[CQ h2] at hg;exact(h.perm i blk b o hi1 hg ((A5 (k.gho i h2).1 (k.gho i h2).2).1 ho)).imp id (mono b o)
 .have h2:i∉qH e2.upd:=fun q=>hi (EK.2 (.inl q));have h1:i∉qH e1.upd:=fun q=>hi (EK.2 (.inr q));exact⟨(k.gho i h2).1.trans (h.gho i h1).1,(k.gho i h2).2.trans (h.gho i h1).2⟩
 .simp only[O4] at hg;rcases k.ty i u y us hg with⟨x,ts,h3⟩ |⟨h3,h4⟩
  .exact h.ty i u x ts h3
  .right;refine⟨?_,fun n=> ?_⟩
   .cases hj:g.J i with
    |none=>rfl
    |some p=>rw[h.le.J i p hj] at h3;cases h3
   .cases hj:g.cur i n with
    |none=>rfl
    |some p=>rw[<-h4 n,h.le.cur i n p hj]
omit hT hH in
theorem sI.congrH {H H':sE}{e:qT}{g':Gh}{w':pR}{v:pS}(h:sI g w H e g' w' v) (hH:H=H'):sI g w H' e g' w' v:=hH▸h
omit hT hH in
theorem a1m {w:pR}: ∀(ls:List (Nat×TypeId×Nat)) (i:Nat) (g:Gh) (H:sE),sL g w H->(∀j,i<=j->j<i+ls.length->∀n,g.cur j n=none)->
  ∃g1,sI g w H ⟨[],(.any,none),EE ls i,[]⟩ g1 w undef/\g1.J=g.J/\(∀o k,(o,k)∈CJ ls i->g1.cur k 0=some (.slice none 0 0))/\(∀k,k<i->g1.cur k=g.cur k)
 |[],i,g,H,hH,_=>⟨g,.pure hH ⟨trivial,trivial⟩,rfl,fun _ _ h=>by simp [CJ] at h,fun _ _=>rfl⟩
 |(o,e,c)::r,i,g,H,hH,hf=>by
  have e1:=sI.nilTok (side:=[]) (d:= .val (.list .bool) []) (rds:=[]) (base:=i) (e:=e) (c:=c) (u:= .bool) hH rfl (hf i (aVR _) pI);have hc1: ∀k n,k≠i->(g.tok i 0 (.slice none 0 0)).cur k n=g.cur k n:=fun k n hk=>by
   show (if k=i/\n=0 then _ else _)=_;rw[aVv (fun h=>hk h.1)]
  obtain⟨g1,k1,k2,k3,k4⟩:=a1m r (i+1) (g.tok i 0 (.slice none 0 0)) (qY [(i,qB.grow e c 0)] H) e1.heap (fun j h1 h2 n=>by rw[hc1 j n pG];exact hf j pG (by simp only[aVw];omega) n);refine⟨g1,e1.trans k1,k2.trans rfl,fun o' k hm=> ?_,fun k hk=> ?_⟩
  .simp only[CJ,aVH,aV0] at hm;rcases hm with⟨rfl,rfl⟩ |hm
   .rw[k4 _ pG];show (if k=k/\0=0 then _ else _)=_;simp
   .exact k3 o' k hm
  .rw[k4 k pG];funext n;exact hc1 k n pG
omit hT hH in
theorem a1n: ∀{ls:List (Nat×TypeId×Nat)}{i o k:Nat},(o,k)∈CJ ls i->∃q∈ls,q.1=o
 |[],_,_,_,h=>by simp [CJ] at h
 |(o',e,c)::r,i,o,k,h=>by
  simp only[CJ,aVH,aV0] at h;rcases h with⟨h1,_⟩ |h
  .exact⟨(o',e,c),by simp,h1.symm⟩
  .obtain⟨q,h1,h2⟩:=a1n h;exact⟨q,by simp [h1],h2⟩
omit hT hH in
theorem a1o {t:Ty}: ∀{ls:List (Nat×TypeId×Nat)},FT t ls=true->∀q∈ls,FS t q.1=true
 |[],_,_,h=>by cases h
 |(o,e,c)::r,h,q,hq=>by
  simp only[FT,aVG] at h;rcases aVH.1 hq with rfl|hq
  .exact h.1
  .exact a1o h.2 q hq
omit hT hH in
theorem RH: ∀(ls:List (Nat×TypeId×Nat)) (i j:Nat),j∈qH (EE ls i)↔i<=j/\j<i+ls.length
 |[],i,j=>by simp only[EE,qH,aW4,aVD,false_iff];omega
 |(o,e,c)::r,i,j=>by
  simp only[EE,EK,RH r (i+1) j,qH,aVJ,aVw];omega
omit hT hH in
theorem aCN {w:pR}: ∀(R:List (Nat×Nat×Ty)) (i:Nat) (g:Gh) (H:sE),sL g w H->(∀j,i<=j->j<i+R.length->∀n,g.cur j n=none)->
  ∃g1,sI g w H ⟨[],(.any,none),L9 R i,[]⟩ g1 w undef/\g1.J=g.J/\(∀j,j<R.length->g1.cur (i+j) 0=some (.slice none 0 0))/\(∀k,k<i->g1.cur k=g.cur k)
 |[],i,g,H,hH,_=>⟨g,.pure hH ⟨trivial,trivial⟩,rfl,fun _ h=>by simp at h,fun _ _=>rfl⟩
 |(o,e,u)::r,i,g,H,hH,hf=>by
  have hfr:=hf i (aVR _) pI;have e1:=sI.row (side:=[]) (rds:=[]) (k:=i) (e:=e) (t:=u) (l:=[]) (n:=0) (s:=(.any,none)) (val:=undef) (v:= .slice none 0 0) (xs:=[]) hH rfl (World.ownsRow_nil w 0 _ _) rfl (fun m _=>hfr m) (fun u hu=>by rw[hfr] at hu;cases hu) (.inl ⟨rfl,rfl,rfl,aVR _,fun _ _ _=>rfl⟩) (fun _ _ _=>rfl) (fun b hb=>by cases hb) (fun b hb=>by cases hb) ⟨trivial,trivial⟩;have hc1: ∀k n,k≠i->(g.tok i 0 (.slice none 0 0)).cur k n=g.cur k n:=fun k n hk=>by
   show (if k=i/\n=0 then _ else _)=_;rw[aVv (fun h=>hk h.1)]
  obtain⟨g1,k1,k2,k3,k4⟩:=aCN r (i+1) (g.tok i 0 (.slice none 0 0)) (qY [(i,qB.row e u [] 0)] H) e1.heap (fun j h1 h2 n=>by rw[hc1 j n pG];exact hf j pG (by simp only[aVw];omega) n);refine⟨g1,e1.trans k1,k2.trans rfl,fun j hj=> ?_,fun k hk=> ?_⟩
  .cases j with
   |zero=>
    rw[aWr,k4 _ pG];show (if i=i/\0=0 then _ else _)=_;simp
   |succ j=>
    have:=k3 j (by simpa using hj);rwa [show i+1+j=i+(j+1) by omega] at this
  .rw[k4 k pG];funext n;exact hc1 k n pG
omit hT hH in
theorem aCO: ∀(R:List (Nat×Nat×Ty)) (i j:Nat),j∈qH (L9 R i)↔i<=j/\j<i+R.length
 |[],i,j=>by simp only[L9,qH,aW4,aVD,false_iff];omega
 |(o,e,c)::r,i,j=>by
  simp only[L9,EK,aCO r (i+1) j,qH,aVJ,aVw];omega
omit hT hH in
theorem a1p {α:Type}: ∀l:List α,QR l=l.length
 |[]=>rfl
 |_::l=>by simp only[QR,a1p l,aVw]
omit hT hH in
theorem RI {α:Type}{x:α}: ∀{l m:List α},x∈qY l m↔x∈l\/x∈m
 |[],m=>by simp [qY]
 |y::l,m=>by simp only[qY,aVH,RI (l:=l),or_assoc]
omit hT hH in
theorem aMt {g:Gh}{w:pR}: ∀{t:Ty}{x:t.den}{cs:pN}{o:Nat},Rd g w t x cs->∀q∈FU t x o,o<=q.1/\cs[q.1-o]? =some (.slice none 0 0):=by
 intro t
 induction t with
 |pair a b iha ihb=>
  intro x cs o r q hq;obtain⟨c1,c2,rfl,r1,r2⟩:=r;simp only[FU,RI] at hq;have hl:=t7 r1;rcases hq with hq|hq
  .obtain⟨h1,h2⟩:=iha r1 q hq;exact⟨h1,by rw[aVN (aVK.1 h2).1];exact h2⟩
  .obtain⟨h1,h2⟩:=ihb r2 q hq;refine⟨pG,?_⟩;rw[aVI pG,hl,show q.1-o-a.cells=q.1- (o+a.cells) by omega];exact h2
 |rl e u=>
  intro x cs o r q hq;cases x with
  |none=>
   simp only[FU,a0t,aVJ] at hq;subst hq;refine⟨aVR _,?_⟩;rw[show cs=[.slice none 0 0] from r];simp
  |some z=>simp [FU,a0t] at hq
 |_=>intro x cs o r q hq;simp [FU] at hq
omit hT hH in
theorem aMu {g:Gh}{w:pR}: ∀{t:Ty}{x:t.den}{cs:pN}{o:Nat},Rd g w t x cs->∀q∈H8 t x o,o<=q/\cs[q-o]? =some (.pointer none):=by
 intro t
 induction t with
 |pair a b iha ihb=>
  intro x cs o r q hq;obtain⟨c1,c2,rfl,r1,r2⟩:=r;simp only[H8,RI] at hq;have hl:=t7 r1;rcases hq with hq|hq
  .obtain⟨h1,h2⟩:=iha r1 q hq;exact⟨h1,by rw[aVN (aVK.1 h2).1];exact h2⟩
  .obtain⟨h1,h2⟩:=ihb r2 q hq;refine⟨pG,?_⟩;rw[aVI pG,hl,show q-o-a.cells=q- (o+a.cells) by omega];exact h2
 |mref=>
  intro x cs o r q hq;cases x with
  |none=>
   simp only[H8,a0u,aVJ] at hq;subst hq;refine⟨aVR _,?_⟩;rw[show cs=[.pointer none] from r];simp
  |some z=>simp [H8,a0u] at hq
 |_=>intro x cs o r q hq;simp [H8] at hq
omit hT hH in
theorem aCP {g:Gh}{w:pR}{t u:Ty}{x z:t.den}{y:u.den}{cs:pN}{o:Nat}{v:pS}(h:t6 u y t x o=some z) (hy:Rd g w u y [v]) (hR:Rd g w t x cs) (hv:cs[o]? =some v):Rd g w t z cs:=by
 obtain⟨c1,c2,c3,rfl,rfl,h2,h3⟩:=WO hy hR h;have hu:=t7 hy;simp only[aWR] at hu;rw[<-hu] at h2;obtain⟨v',rfl⟩:=aWU.1 h2;have:(c1++[v']++c3)[c1.length]? =some v':=by simp
 rw[this] at hv;obtain rfl:=aVx hv;exact h3
omit hT hH in
theorem aCQ {g:Gh}{w:pR}{t:Ty}{cs:pN}: ∀{R:List (Nat×Nat×Ty)}{i:Nat}{x z:t.den},L8 t i R (some x)=some z->Rd g w t x cs->(∀q∈R,cs[q.1]? =some (.slice none 0 0))->(∀j,j<R.length->g.cur (i+j) 0=some (.slice none 0 0))->Rd g w t z cs
 |[],i,x,z,h,hR,_,_=>by simp only[L8,aVr] at h;exact h▸hR
 |(o,e,u)::r,i,x,z,h,hR,hc,hg=>by
  simp only[L8] at h;cases hs:t6 (.rl e u) (some (i,0)) t x o with
  |none=>rw[hs] at h;cases r<;>simp [L8] at h
  |some x'=>
   rw[hs] at h;refine aCQ h (aCP (v:= .slice none 0 0) hs ⟨_,by simpa using hg 0 pI,rfl,.inl ⟨rfl,rfl⟩⟩ hR (hc _ aVz)) (fun q hq=>hc q (aVB _ hq)) (fun j hj=> ?_);have:=hg (j+1) (by simpa using hj);rwa [show i+(j+1)=i+1+j by omega] at this
omit hT hH in
theorem aCR {g:Gh}{w:pR}{t:Ty}{cs:pN}{i:Nat}{p:Pl}(hp:g.J i=some p) (hp2:p.2=0): ∀{M:pQ}{x z:t.den},J1 t i M (some x)=some z->Rd g w t x cs->(∀q∈M,cs[q]? =some (.pointer none)/\a01 p.3 q)->Rd g w t z cs
 |[],x,z,h,hR,_=>by simp only[J1,aVr] at h;exact h▸hR
 |q::r,x,z,h,hR,hc=>by
  simp only[J1] at h;cases hs:t6 .mref (some (i,q)) t x q with
  |none=>rw[hs] at h;cases r<;>simp [J1] at h
  |some x'=>
   rw[hs] at h;exact aCR hp hp2 h (aCP (v:= .pointer none) hs ⟨p,hp,by rw[hp2,aV5];exact(hc _ aVz).2,.inl rfl⟩ hR (hc _ aVz).1) (fun q hq=>hc q (aVB _ hq))
omit hT hH in
theorem WW {k:Nat}: ∀{ls:List (Nat×TypeId×Nat)}{q:Nat×TypeId×Nat},q∈CK k ls->q.1+1≠k
 |[],_,h=>by cases h
 |(o,e,c)::r,q,h=>by
  simp only[CK] at h;split at h
  .exact WW h
  .rename_i hne;rcases aVH.1 h with rfl|h
   .exact hne
   .exact WW h
omit hT in
theorem aCS {t:Ty}{y:t.den}{ls:List (Nat×TypeId×Nat)}{base:Nat}{e:qT}{cs:pN}{el:TypeId}(hr:VG base el t y ls (FT t ls)=some e) (hf:zO g base e) (hR:Rd g w t y cs) (hn: ∀q∈ls,∃k,yJ k t 0 cs/\q.1+1≠k):
  ∃g',sI g w H e g' (w.alloc (.cells cs.toArray el)) (.pointer (some ⟨w.heap.size,0,none⟩)):=by
 cases hl:FT t ls with
 |false=>rw[hl] at hr;cases hr
 |true=>
  rw[hl] at hr;simp only[VG,a1p] at hr;have cR:=fun q hq=>aMt (o:=0) hR q hq;have cM: ∀q∈VF el t y,cs[q]? =some (.pointer none)/\a01 (some (el,cs.length)) q:=by
   intro q hq;unfold VF at hq;split at hq
   .rename_i hb;have h0:=fun q hq=>aMu (o:=0) hR q hq;have hl:=t7 hR;generalize H8 t y 0=M at hq h0;rw[<-hl] at hq;unfold aBS at hq;split at hq
    .rename_i h2;simp only[aVJ] at hq;subst hq;exact⟨by simpa using(h0 0 pI).2,rfl,el,hb,by rw[h2]⟩
    .cases hq
   .cases hq
  generalize FU t y 0=R at hr cR;generalize VF el t y=M at hr cM;cases hz1:L8 t (base+1+ls.length) R (some y) with
  |none=>
   rw[hz1] at hr;have:J1 t base M none=none:=by cases M<;>rfl
   rw[this] at hr;cases hr
  |some z1=>
   rw[hz1] at hr;cases hz2:J1 t base M (some z1) with
   |none=>rw[hz2] at hr;cases hr
   |some z=>
    rw[hz2] at hr;simp only[aBT,a1p] at hr;obtain rfl:=(aVx hr);have hfr: ∀j,base+1<=j->j<base+1+ls.length+R.length->g.J j=none/\∀n,g.cur j n=none:=fun j h1 h2=>hf j (by
     simp only[qH,aVH];right;rw[EK];by_cases h3:j<base+1+ls.length
     .exact .inr ((RH ls (base+1) j).2 ⟨h1,h3⟩)
     .exact .inl ((aCO R (base+1+ls.length) j).2 ⟨pG,h2⟩)) pG
    have hf0:=hf base (by simp [qH]) (aVR _);obtain⟨g1,k1,k2,k3,k4⟩:=a1m ls (base+1) g H hH (fun j h1 h2=>(hfr j h1 pG).2);have hfr1: ∀j,base+1+ls.length<=j->j<base+1+ls.length+R.length->∀n,g1.cur j n=none:=by
     intro j h1 h2 n;have:=(k1.gho j (by simp only;rw[RH];omega)).2;rw[this];exact(hfr j pG h2).2 n
    obtain⟨g2,m1,m2,m3,m4⟩:=aCN R (base+1+ls.length) g1 _ k1.heap hfr1;have hJ:(g2.var base w.heap.size (some (el,cs.length))).J base=some ⟨w.heap.size,0,some (el,cs.length)⟩:=by simp [Gh.var]
    have hle:Le g w (g2.var base w.heap.size (some (el,cs.length))) w:=by
     refine((k1.le.trans m1.le).trans ⟨fun _ _ h=>h,fun _ _ _=>rfl,fun i p h=> ?_,fun _ _ _ h=>h⟩);show (if i=base then _ else _)=_;rw[aVv (fun e1=>by rw[e1,m2,k2,hf0.1] at h;cases h)];exact h
    have hRz:Rd (g2.var base w.heap.size (some (el,cs.length))) w t z cs:=aCR hJ rfl hz2 (aCQ hz1 (xZ hle hR) (fun q hq=>by simpa using(cR q hq).2) (fun j hj=>m3 j hj)) cM;have htk:HD g2 t z cs (CJ ls (base+1)):=by
     intro o k hm;obtain⟨q,hq,rfl⟩:=a1n hm;obtain⟨kx,hx1,hx2⟩:=hn q hq;obtain⟨u,h1,h2⟩:=aCz hx1 hRz (a1o hl q hq) pG;exact⟨u,[],_,h1,h2,m1.le.cur _ _ _ (k3 _ _ hm)⟩
    have e3:=sI.newVarJ (side:=[]) (rds:=[]) (base:=base) (toks:=CJ ls (base+1)) (e:=el) m1.heap hRz htk (by rw[m2,k2];exact hf0.1) (by rw[m4 base pG,k4 base pG];exact funext hf0.2);have e4:=sI.trans (side:=[]) (rds:=[]) k1 m1;exact⟨_,sI.trans (side:=[]) (rds:=[]) e4 (e3.congrH (H':=qY (qY (L9 R (base+1+ls.length)) (EE ls (base+1))) H) (by simp only[O4]))⟩
theorem a1q {t:Ty}{y:t.den}{k:pP}{v:pS}(h:rX g w (.val t y,k) v):tX g w t y v/\DD g t y v k:=by
 refine⟨h.1,?_⟩;cases k with
 |none=>trivial
 |some k=>exact h.2
theorem aMv {t:TypeId}{x:Operand}(ho:o.op= .box t x) {sx:qC}(hx:rX g w sx (a.eval x)) {base:Nat}{e:qT}(hr:a0v base t (rZ T t) sx=some e) (hf:zO g base e):rN P o a g w H e:=by
 generalize hst:rZ T t=ot at hr;have hrun:(execOp a.eval o).run P w= .ok (.value (.pointer (some ⟨w.heap.size,0,none⟩))) (w.alloc (.cells (a.eval x).cells.toList.toArray t)):=by
  unfold execOp;rw[ho];simp only[Instr.box,Go.newVar,newRow,aVM,run_newObj,aVC,aVU,aWZ];rfl
 have one: ∀{u:Ty}{y:u.den},tX g w u y (a.eval x)->u.isRow=false->(a.eval x).cells.toList=[a.eval x]:=fun hv hrow=>by
  have h1:=B8 (B9 hrow hv) _ (aVJ.2 rfl);cases h:a.eval x<;>first|rfl|(rw[h] at h1;simp [Value.oneCell'] at h1)
 unfold a0v at hr;split at hr
 .rename_i ti u y k;split at hr
  .obtain⟨hv,hk⟩:=a1q hT hH hx;have hR:=FW hv;unfold aBU at hr;split at hr
   .rename_i a' b' y' k' _;have hn:yJ k' (.pair a' b') 0 (a.eval x).cells.toList:=hk;obtain⟨g',h⟩:=aCS (el:=t) hH hr hf hR (fun q hq=>⟨k',hn,WW hq⟩);exact rN.value hrun h
   .rename_i u' y' k';cases hr;have hfr:=hf base (by simp [qH]) (aVR _);exact rN.value hrun (sI.newVar hH hR (aMs hT hH hk (one hv rfl)) hfr.1 (funext hfr.2))
   .cases hr;have hfr:=hf base (by simp [qH]) (aVR _);exact rN.value hrun (sI.newVar hH hR (fun q k hm=>by cases hm) hfr.1 (funext hfr.2))
  .cases hr
 .cases hr
theorem aCT {t:TypeId}(run: ∀ti,rZ T t=some ti->(execOp a.eval o).run P w= .ok (.value (.pointer (some ⟨w.heap.size,0,none⟩))) (w.alloc (.cells (uP ti.ty).toArray t))) {base:Nat}{e:qT}(hr:QS base t (rZ T t)=some e) (hf:zO g base e):rN P o a g w H e:=by
 generalize hst:rZ T t=ot at hr;unfold QS at hr;split at hr
 .rename_i u el by' ar ls_;cases hr;have hf0:=hf base (by simp [qH]) (aVR _);have hf1:=hf (base+1) (by simp [qH]) pG;have hty:=tI hT hst;have e1:=sI.nilTok (side:=[]) (d:= .val (.list u) []) (rds:=[]) (base:=base+1) (e:=el) (c:=u.cells) (u:=u) hH rfl hf1.2;have hH1:=e1.heap;have htk:HD (g.tok (base+1) 0 (.slice none 0 0)) (.list u) [] [.slice none 0 0] [(0,base+1)]:=by
   intro q kk hm;simp only[aVJ,aV0] at hm;obtain⟨rfl,rfl⟩:=hm;exact⟨u,[],.slice none 0 0,by unfold rK;simp [v8],rfl,by simp [Gh.tok]⟩
  have e2:=sI.newVar (side:=[]) (rds:=[]) (base:=base) (toks:=[(0,base+1)]) (e:=t) hH1 (EI (g.tok (base+1) 0 (.slice none 0 0)) w (.list u)) htk hf0.1 (by
   funext n;show (if base=base+1/\n=0 then _ else _)=_;rw[aVv pG];exact hf0.2 n)
  exact rN.value (run _ hst) (sI.trans (side:=[]) (rds:=[]) e1 e2)
 .rename_i ti hno;obtain⟨g',h⟩:=aCS (el:=t) hH hr hf (EI g w ti.ty) (fun q _=>⟨0,WS _ _,pG⟩);exact rN.value (run _ hst) h
 .cases hr
theorem aMw {t:TypeId}(ho:o.op= .alloc t) {base:Nat}{e:qT}(hr:QS base t (rZ T t)=some e) (hf:zO g base e):rN P o a g w H e:=by
 have run: ∀ti,rZ T t=some ti->(execOp a.eval o).run P w= .ok (.value (.pointer (some ⟨w.heap.size,0,none⟩))) (w.alloc (.cells (uP ti.ty).toArray t)):=by
  intro ti hti;obtain⟨i,hi,hsz,hz⟩:=EJ (tI hT hti);have hc:(wW ti.ty).cells=(uP ti.ty).toArray:=by
   have:=FW (LL g w ti.ty);unfold wW;cases h:ti.ty<;>simp [Ty.isRow,uP,Value.cells]
  unfold execOp;rw[ho];simp only[Instr.alloc,zeroValue,typeInfo,Go.newVar,newRow,aVM,aWw,hi,hz,hc,run_newObj,aVC,aVU];rfl
 exact aCT hT hH run hr hf
theorem aMx {t:TypeId}{x:Operand}(ho:o.op= .box t x) {sx:qC}(hx:rX g w sx (a.eval x)) (hfix: ∀ti:Option TI,rX g w (NE ti sx) (a.eval x)) {base:Nat}{e:qT}(hr:a0w base t (rZ T t) sx=some e) (hf:zO g base e):rN P o a g w H e:=by
 generalize hst:rZ T t=ot at hr;unfold a0w at hr;split at hr
 .rename_i u el by' ar ls_ k;rw[<-hst] at hr;refine aCT hT hH (fun ti hti=> ?_) hr hf;rw[hst] at hti;cases hti;have hv:a.eval x= .slice none 0 0:=hx.1;unfold execOp;rw[ho];simp only[Instr.box,Go.newVar,newRow,aVM,run_newObj,aVC,aVU,hv];rfl
 .rw[<-hst] at hr;exact aMv hT hH ho (hfix _) hr hf
omit hT hH in
theorem aMy {t:Ty}{y:t.den}{k:pP}{v:pS}(h:DD g t y v k):DD g t y v (FQ t k):=by
 cases t with
 |list u=>exact h
 |_=>trivial
omit hT hH in
theorem aCU {off:Nat}: ∀{l:pL}{o k:Nat},(o,k)∈NM off l->∃q,o=off+q/\(q,k)∈l
 |[],_,_,h=>by cases h
 |(q,k')::r,o,k,h=>by
  simp only[NM,aVH,aV0] at h;rcases h with⟨rfl,rfl⟩ |h
  .exact⟨q,rfl,aVz⟩
  .obtain⟨q',h1,h2⟩:=aCU h;exact⟨q',h1,aVB _ h2⟩
omit hT hH in
theorem aCV {v t:Ty}{y:t.den}: ∀{u:Ty}{x z:u.den}{o q:Nat}{l:(Ty.list v).den},t6 t y u x o=some z->rK (.list v) t y q=some l->q<t.cells->rK (.list v) u z (o+q)=some l:=by
 intro u
 induction u with
 |pair a b iha ihb=>
  intro x z o q l h g hq;by_cases hu:o=0/\t= .pair a b
  .obtain⟨rfl,rfl⟩:=hu;unfold t6 at h;rw[aXz rfl] at h;simp only[v8,aVr] at h;subst h;simpa using g
  .have keyh:(if o<a.cells then(t6 t y a x.1 o).map (fun q=>(q,x.2)) else(t6 t y b x.2 (o-a.cells)).map (fun q=>(x.1,q)))=some z:=by
    cases o with
    |zero=>
     unfold t6 at h;rw[aXb (fun e=>hu ⟨rfl,e⟩)] at h;simpa using h
    |succ o=>simpa[t6] using h
   have keyg: ∀m,rK (.list v) (.pair a b) z m=(if m<a.cells then rK (.list v) a z.1 m else rK (.list v) b z.2 (m-a.cells)):=by
    intro m;cases m with
    |zero=>
     conv=>lhs;unfold rK
     rw[aXb (by intro e;cases e),Nat.zero_sub]
    |succ m=>simp [rK]
   rw[keyg];by_cases ho:o<a.cells
   .rw[aVs ho] at keyh;obtain⟨z',hz',rfl⟩:=aVA.1 keyh;have hfit:o+t.cells<=a.cells:=by
     have: ∀{u:Ty}{x z:u.den}{o:Nat},t6 t y u x o=some z->o+t.cells<=u.cells:=by
      intro u
      induction u with
      |pair a b iha ihb=>
       intro x z o h;have key: ∀o,(if o<a.cells then(t6 t y a x.1 o).map (fun q=>(q,x.2)) else(t6 t y b x.2 (o-a.cells)).map (fun q=>(x.1,q)))=some z->o+t.cells<=a.cells+b.cells:=by
        intro o h;by_cases ho:o<a.cells
        .rw[aVs ho] at h;obtain⟨z',hz',_⟩:=aVA.1 h;have:=iha hz';omega
        .rw[aVv ho] at h;obtain⟨z',hz',_⟩:=aVA.1 h;have:=ihb hz';omega
       cases o with
       |zero=>
        unfold t6 at h;split at h
        .rename_i e;subst e;simp
        .exact key 0 (by simpa using h)
       |succ o=>exact key (o+1) (by simpa[t6] using h)
      |_=>
       intro x z o h;cases o with
       |zero=>
        unfold t6 at h;split at h
        .rename_i e;subst e;simp
        .simp at h
       |succ o=>simp [t6] at h
     exact this hz'
    rw[aVs pG];exact iha hz' g hq
   .rw[aVv ho] at keyh;obtain⟨z',hz',rfl⟩:=aVA.1 keyh;rw[aVv pG,show o+q-a.cells=o-a.cells+q from by omega];exact ihb hz' g hq
 |_=>
  intro x z o q l h g hq;cases o with
  |zero=>
   unfold t6 at h;split at h
   .rename_i e;subst e;simp only[v8,aVr] at h
    try subst h
    simpa using g
   .simp at h
  |succ o=>simp [t6] at h
omit hT hH in
theorem aCW {v:Ty}: ∀{t:Ty}{x:t.den}{q:Nat}{l:(Ty.list v).den},rK (.list v) t x q=some l->q<t.cells:=by
 intro t
 induction t with
 |pair s t ihs iht=>
  intro x q l g;have key: ∀q,(if q<s.cells then rK (.list v) s x.1 q else rK (.list v) t x.2 (q-s.cells))=some l->q<s.cells+t.cells:=by
   intro q g;by_cases h:q<s.cells
   .omega
   .rw[aVv h] at g;have:=iht g;omega
  cases q with
  |zero=>
   unfold rK at g;rw[aXb (by intro e;cases e)] at g;exact key 0 (by simpa using g)
  |succ q=>exact key (q+1) (by simpa[rK] using g)
 |unit=>
  intro x q l g;cases q with
  |zero=>unfold rK at g;rw[aXb (by intro e;cases e)] at g;cases g
  |succ q=>simp [rK] at g
 |_=>
  intro x q l g;cases q with
  |zero=>simp [Ty.cells]
  |succ q=>simp [rK] at g
omit hT in
theorem sI.retok {i:Nat}{u:Ty}{z:u.den}{toks nt:pL}{p:Pl}(hb:qE H i=some (.cells u z toks)) (hp:g.J i=some p)
  (hn: ∀cs,Rd g w u z cs->w.rangeAt p.1 p.2 cs->HD g u z cs nt):sI g w H ⟨[],(.any,none),[(i,.cells u z (qY nt toks))],[]⟩ g w undef:=by
 obtain⟨p',cs,hp',hR,hra,hth,hns,htk⟩:=hH.blk i _ hb;rw[hp] at hp';obtain rfl:=aVx hp';have get: ∀j blk,j∈qH [(i,qB.cells u z (qY nt toks))]->qE (qY [(i,qB.cells u z (qY nt toks))] H) j=some blk->j=i/\blk= .cells u z (qY nt toks):=by
  intro j blk hi hg;simp only[qH,aVJ] at hi;subst hi;simp only[qY,qE,aW8,aVr] at hg;exact⟨rfl,hg.symm⟩
 have perm: ∀j blk b o,j∈qH [(i,qB.cells u z (qY nt toks))]->qE (qY [(i,qB.cells u z (qY nt toks))] H) j=some blk->sG g j blk b o->w.heap.size<=b\/t8 g H (qH [(i,qB.cells u z (qY nt toks))]) b o:=by
  intro j blk b o hi hg ho;obtain⟨rfl,rfl⟩:=get j blk hi hg;exact .inr ⟨j,_,hi,hb,ho⟩
 have le:Le g w g w:=⟨fun _ _ h=>h,fun _ _ _=>rfl,fun _ _ h=>h,fun _ _ _ h=>h⟩;have fr:Fr (t8 g H (qH [(i,qB.cells u z (qY nt toks))])) w w g.S g.S:=⟨rfl,rfl,rfl,aVR _,fun _ _ _=>rfl,fun _ _ _ _=>⟨rfl,rfl⟩,fun _ _ h=> .inl h,fun _ _ h=> .inl h⟩;refine⟨le,⟨trivial,trivial⟩,hH.upd le fr perm (fun _ _=>⟨rfl,rfl⟩) (fun j blk hi hg=> ?_) (fun i j bi bj b o hi hj hij hgi hgj _ _=>hij ((get i bi hi hgi).1.trans (get j bj hj hgj).1.symm)) (fun b o h=>hH.sl b o h),fr,perm,fun _ _=>⟨rfl,rfl⟩,fun j u' y' us h=> ?_⟩
 .obtain⟨rfl,rfl⟩:=get j blk hi hg;refine⟨p,cs,hp,hR,hra,hth,hns,fun q kk hm=> ?_⟩;rcases(RI.1 hm) with hm|hm
  .exact hn cs hR hra q kk hm
  .exact htk q kk hm
 .simp only[qY,qE] at h;split at h
  .rename_i e1;subst e1;simp only[aVr,qB.cells.injEq] at h;obtain⟨rfl,_⟩:=h;exact .inl ⟨z,toks,hb⟩
  .exact .inl ⟨y',us,h⟩
omit hT hH in
theorem aMz {g:Gh}{t a b:Ty}{y:t.den}{v:pS}{k:pP}(h:k.isSome=true) (ht:t= .pair a b) (hk:DD g t y v k): ∃m,k=some m/\yJ m t 0 v.cells.toList:=by
 subst ht;cases k with
 |none=>cases h
 |some k=>exact⟨k,rfl,hk⟩
omit hT hH in
theorem aMA {base i off:Nat}{b:Option qB}{ls:List (Nat×TypeId×Nat)}{t:Ty}{y:t.den}{k:pP}{e:qT}(h:VR base i off b ls t y k=some e):
  (∃(s:Ty) (x:s.den) (toks:pL) (z:s.den),b=some (.cells s x toks)/\t6 t y s x off=some z/\k.isSome=true/\(∃a c,t= .pair a c)/\∃m,k=some m/\FT t (CK m ls)=true/\
   e=⟨[],(.any,none),(i,.cells s z (qY (NM off (CJ (CK m ls) base)) (wC toks off t.cells)))::qY (EE (CK m ls) base) [(i,.cells s z (wC toks off t.cells))],[i]⟩)\/VP t y k i off b=some e:=by
 unfold VR at h;split at h
 .rename_i q r a c y' k';cases hok:FT (.pair a c) (CK k' (q::r)) with
  |false=>rw[hok] at h;unfold VQ at h;split at h<;>first|cases h|(rename_i h2;cases h2)
  |true=>
   rw[hok] at h;unfold VQ at h;split at h
   .rename_i s x toks _;cases hset:t6 (.pair a c) y' s x off with
    |none=>rw[hset] at h;cases h
    |some z=>
     rw[hset] at h;exact .inl ⟨s,x,toks,z,rfl,hset,rfl,⟨a,c,rfl⟩,_,rfl,hok,(aVx h).symm⟩
   .cases h
 .exact .inr h
omit hT hH in
theorem aCX {i off k n el:Nat}{u v:Ty}{x:v.den}{y:Option qT}{e:qT}(h:orO i off k n el u v x y=some e):y=some e\/a0I i (yT el u (some (k,n)) v x off)=some e:=by
 cases y with
 |some r=>exact .inl h
 |none=>exact .inr h
theorem aMB {t:TypeId}{x y:Operand}(ho:o.op= .store t x y) {sx sy:qC}(hx:rX g w sx (a.eval x)) (hy:rX g w sy (a.eval y)) {base:Nat}{e:qT}(hr:VT base H (rZ T t) sx sy=some e) (hside: ∀p∈e.side,p) (hf:zO g base e):rN P o a g w H e:=by
 generalize hst:rZ T t=ot at hr;unfold VT at hr;split at hr
 .rename_i ti i off k kk n k2;generalize hb:qE H i=ob at hr;unfold a0J at hr;split at hr
  .rename_i u el _ _ _ v x' toks;rcases aCX hr with hr|hr
   case inr=>
    generalize hset:yT el u (some (kk,n)) v x' off=oz at hr;cases oz with
    |none=>cases hr
    |some z'=>
     cases hr;have hty:=tI hT hst;obtain⟨p,hp,hv⟩:=A6 hx.1;obtain⟨h1,h2⟩:=hy.1;have hR:Rd g w (.rl el u) (some (kk,n)) [a.eval y]:=⟨_,h1,rfl,h2⟩;obtain⟨heff,hth⟩:=A4.openS (side:=[]) (rds:=[1000000000,i]) hH hb hp hset hR rfl rfl;have hce:(a.eval y).cells= #[a.eval y]:=by rcases h2 with⟨h2,_⟩ |⟨_,_,h2,_⟩<;>(rw[h2];rfl)
     refine rN.skipW (w':=w.setCells p.1 (p.2+off) [a.eval y]) ?_ heff;obtain⟨inf,hi,hsz,_⟩:=EJ hty;have hcells:=run_storeCells_cells (P:=P) p.1 (p.2+off) [a.eval y] 0 w (fun j hj=>by simpa using(hth j hj).1) (fun j hj=>by simpa using(hth j hj).2) (fun v hv=>B8 hR v hv);simp only[aWr] at hcells;have hs2:(a.eval y).cells.size=inf.size:=by rw[hsz,hce];rfl
     have hcl:(a.eval y).cells.toList=[a.eval y]:=by rw[hce]
     simp only[execOp,ho,hv,Instr.storeAt,Instr.sureAddr,storeVar,aVM,aVU,aVC,sizeOf,typeInfo,aWw,hi,hs2,ne_eq,not_true_eq_false,aXD,hcl,hcells]
   generalize hset:t6 (.rl el u) (some (kk,n)) v x' off=oz at hr;cases oz with
   |none=>cases hr
   |some z'=>
    cases hr;have hty:=tI hT hst;obtain⟨p,hp,hv⟩:=A6 hx.1;obtain⟨h1,h2⟩:=hy.1;have hR:Rd g w (.rl el u) (some (kk,n)) [a.eval y]:=⟨_,h1,rfl,h2⟩;obtain⟨heff,hth⟩:=sI.store (side:=[]) (rds:=[i]) (k:=none) (v:=a.eval y) hH hb hp hset hR trivial (fun _ _ _=>rfl) (fun _=>rfl);have hce:(a.eval y).cells= #[a.eval y]:=by rcases h2 with⟨h2,_⟩ |⟨_,_,h2,_⟩<;>(rw[h2];rfl)
    refine rN.skip (w':=w.setCells p.1 (p.2+off) [a.eval y]) ?_ heff;obtain⟨inf,hi,hsz,_⟩:=EJ hty;have hcells:=run_storeCells_cells (P:=P) p.1 (p.2+off) [a.eval y] 0 w (fun j hj=>by simpa using(hth j hj).1) (fun j hj=>by simpa using(hth j hj).2) (fun v hv=>B8 hR v hv);simp only[aWr] at hcells;have hs2:(a.eval y).cells.size=inf.size:=by rw[hsz,hce];rfl
    have hcl:(a.eval y).cells.toList=[a.eval y]:=by rw[hce]
    simp only[execOp,ho,hv,Instr.storeAt,Instr.sureAddr,storeVar,aVM,aVU,aVC,sizeOf,typeInfo,aWw,hi,hs2,ne_eq,not_true_eq_false,aXD,hcl,hcells]
  .cases hr
 .rename_i ti k n c i o' _ u z kk;split at hr
  .rename_i hu;subst hu;generalize hk:qE H k=ob at hr;unfold VS at hr;split at hr
   .rename_i e' t' l m;split at hr
    .rename_i hc;generalize hset:t6 ti.ty z t' (qQ t' l i) o'=oz at hr;cases oz with
     |none=>cases hr
     |some z'=>
      cases hr;have hnm:=hside _ (aVJ.2 rfl);obtain⟨b,cap,xs,c1,c2,c3,hv,hcur,hown,hF,hl,hi,h0,e1,e2,e3,e4⟩:=aCE hT hH hx.1 hk hnm hc;subst hnm;have hty:=tI hT hst;obtain⟨hvy,hky⟩:=a1q hT hH hy;have hR:=FW hvy;have hRl:=t7 hR;obtain⟨d1,d2,d3,f1,f2,f3,f4⟩:=WO hR e4 hset;obtain⟨_,_,_,_,hv0,hown0,_,hnone,hseal⟩: ∃(_:True) (_:True) (v0:pS) (xs0:pN),g.cur k n=some v0/\w.ownsRow 0 e' t'.cells v0 n xs0/\uE (Rd g w t') t'.cells l xs0/\(∀m,n<m->g.cur k m=none)/\∀b,v0.ownBlock=some b->∀o,¬g.S b o:=by
       obtain⟨_,v0,xs0,q1,q2,q3,q4,q5⟩:=hH.blk k _ hk;exact⟨trivial,trivial,v0,xs0,q1,q2,q3,q4,q5⟩
      rw[hcur] at hv0;obtain rfl:=aVx hv0;rcases hown.2 with⟨h5,_⟩ |⟨q,cap',cur,h5,_,hg,hnc,hcm,hcs,htake⟩
      .cases h5
      simp only[aXv,aVr,Addr.mk.injEq,and_true,true_and] at h5;obtain⟨rfl,rfl⟩:=h5;have hxl:=hown.1;have hnew:=t7 f4;simp only[aVu] at hnew;have hc2l:c2.length=t'.cells:=by rw[e3,hc]
      have hd:d1.length+d2.length+d3.length=t'.cells:=by rw[<-hc2l,f1];simp only[aVu]
      have hx1:c1.length+c2.length+c3.length=n*t'.cells:=by rw[<-hxl,e1];simp only[aVu]
      have hall:cur.toList=(c1++(d1++d2++d3)++c3)++cur.toList.drop (n*t'.cells):=by
       conv=>lhs;rw[<-aWX (n*t'.cells) cur.toList,htake,e1,f1]
      obtain⟨D,hD⟩: ∃D,D=cur.toList.drop (n*t'.cells):=⟨_,rfl⟩;rw[<-hD] at hall;have hall2:cur.toList=(c1++d1)++(d2++(d3++c3++D)):=by rw[hall];simp only[aVy]
      have hpos:i.toNat*c+o'=(c1++d1).length:=by rw[aVu,e2,f2]
      have hD2:(a.eval y).cells.toList.length=d2.length:=by rw[hRl,f3]
      have hfit:i.toNat*c+o'+0+(a.eval y).cells.toList.length<=cur.size:=by
       have:cur.size=cur.toList.length:=by simp
       rw[this,hall2,aWr,hpos,hD2];simp only[aVu];omega
      have hst2:=run_storeCells_at P b (i.toNat*c+o') e' (a.eval y).cells.toList 0 cur w hg hfit (fun v hv=>B8 hR v hv);have hrow:cur.toList.take (i.toNat*c+o'+0)++(a.eval y).cells.toList++cur.toList.drop (i.toNat*c+o'+0+(a.eval y).cells.toList.length)=(c1++(d1++(a.eval y).cells.toList++d3)++c3)++D:=by
       rw[aWr,hpos,hD2,hall2,aWs,List.drop_append,List.drop_of_length_le pG,List.nil_append,aWo,aWW];simp only[aVy]
      rw[hrow] at hst2;obtain⟨inf,hinf,hsz,_⟩:=EJ hty;have hs2:(a.eval y).cells.size=inf.size:=by rw[hsz,<-hRl,aV6]
      have hnewlen:((c1++(d1++(a.eval y).cells.toList++d3)++c3)++D).length=cur.size:=by
       have:cur.size=cur.toList.length:=by simp
       rw[this,hall];simp only[aVu];omega
      have hxs':(c1++(d1++(a.eval y).cells.toList++d3)++c3).length=n*t'.cells:=by
       rw[<-hx1];simp only[aVu];rw[f1];simp only[aVu];omega
      have hown':(w.setRow b ((c1++(d1++(a.eval y).cells.toList++d3)++c3)++D).toArray).ownsRow 0 e' t'.cells (.slice (some ⟨b,0,none⟩) n cap) n (c1++(d1++(a.eval y).cells.toList++d3)++c3):=
       ⟨hxs',.inr ⟨b,cap,_,rfl,aWC _,aXp w b cur _ e' _ hg,hnc,hcm,by rw[aWn,hnewlen,hcs],by rw[<-hxs'];exact aWs⟩⟩
      have hF':uE (Rd g w t') t'.cells (l.set i.toNat z') (c1++(d1++(a.eval y).cells.toList++d3)++c3):=by
       obtain⟨q1,q2,q3,r1,r2,r3,r4⟩:=a1i hF f4 (t7 f4) hi;have s1:q1=c1/\q2=c2/\q3=c3:=by
        have h6:q1++(q2++q3)=c1++(c2++c3):=by rw[<-aVy,<-r1,e1,aVy]
        obtain⟨h7,h8⟩:=aXt h6 (by rw[r2,e2,hc]);obtain⟨h9,h10⟩:=aXt h8 (by rw[r3,e3,hc]);exact⟨h7,h9,h10⟩
       obtain⟨rfl,rfl,rfl⟩:=s1;exact r4
      have hownk: ∀o,t8 g H [k] b o:=fun o=>⟨k,_,by simp,hk,_,hcur,rfl⟩;refine rN.skip (w':=w.setRow b ((c1++(d1++(a.eval y).cells.toList++d3)++c3)++D).toArray) ?_ (sI.row (v:= .slice (some ⟨b,0,none⟩) n cap) hH (by rw[List.length_set];exact hl) hown' hF' hnone (fun u hu=>by rw[hcur] at hu;exact(aVx hu).symm)
       (.inr ⟨some b,⟨rfl,rfl,rfl,by simp,fun q _ hq=>aW2 w b q _ (fun e=>hq (by rw[e]))⟩,fun b' hb' o=>by cases hb';exact hownk o⟩) (fun b' o hS=> ?_) hseal (fun b' hb'=>by cases hb';exact .inr hownk) ⟨trivial,trivial⟩)
      .simp only[execOp,ho,hv,Instr.storeAt,Instr.sureAddr,storeVar,aVM,aVU,aVC,sizeOf,typeInfo,aWw,hinf,hs2,ne_eq,not_true_eq_false,aXD,hst2]
      .have hne:b'≠b:=fun e=>hseal b rfl o (e▸hS);exact aVT (a:=⟨b',o,none⟩) (aW2 w b b' _ hne)
    .cases hr
   .cases hr
  .cases hr
 .rename_i ti i off k u z kk;split at hr
  .rename_i hu;subst hu;generalize hb:qE H i=ob at hr;have hty:=tI hT hst;obtain⟨p,hp,hv⟩:=A6 hx.1;obtain⟨hvy,hky⟩:=a1q hT hH hy;have hR:=FW hvy;have hone:ti.ty.isRow=false->(a.eval y).cells.toList=[a.eval y]:=fun hrow=>by
    have h1:=B8 (B9 hrow hvy) _ (aVJ.2 rfl);cases h:a.eval y<;>first|rfl|(rw[h] at h1;simp [Value.oneCell'] at h1)
   have hrun:w.there p.1 (p.2+off) (a.eval y).cells.toList.length->(execOp a.eval o).run P w= .ok .skip (w.setCells p.1 (p.2+off) (a.eval y).cells.toList):=by
    intro hth;obtain⟨inf,hi,hsz,_⟩:=EJ hty;have hlen:=t7 hR;have hcells:=run_storeCells_cells (P:=P) p.1 (p.2+off) (a.eval y).cells.toList 0 w (fun j hj=>by simpa using(hth j hj).1) (fun j hj=>by simpa using(hth j hj).2) (fun v hv=>B8 hR v hv);simp only[aWr] at hcells;have hs2:(a.eval y).cells.size=inf.size:=by rw[hsz,<-hlen,aV6]
    simp only[execOp,ho,hv,Instr.storeAt,Instr.sureAddr,storeVar,aVM,aVU,aVC,sizeOf,typeInfo,aWw,hi,hs2,ne_eq,not_true_eq_false,aXD,hcells]
   rcases aMA hr with⟨s,x',toks,z',hb',hset,hsome,⟨pa,pb,hpair⟩,mk_,hmk,hok,rfl⟩ |hr
   .rw[hb'] at hb;have hn:yJ mk_ ti.ty 0 (a.eval y).cells.toList:=by
     obtain⟨m',e1,e2⟩:=aMz hsome hpair hky;rw[hmk] at e1;obtain rfl:=aVx e1;exact e2
    have hlx:=fun q hq=>WW (k:=mk_) (ls:=ti.ls) (q:=q) hq;generalize CK mk_ ti.ls=lsm at hf hok hlx|-;obtain⟨heff,hth⟩:=sI.store (side:=[]) (rds:=[i]) (k:=none) (v:=undef) hH hb hp hset hR trivial (fun _ _ _=>rfl) (fun h=>by rw[hpair] at h;cases h);have hfr: ∀j,base<=j->j<base+lsm.length->∀n,g.cur j n=none:=fun j h1 h2=>(hf j (by
     simp only[qH,aVH];right;rw[EK];exact .inl ((RH _ base j).2 ⟨h1,h2⟩)) h1).2
    obtain⟨g1,k1,k2,k3,k4⟩:=a1m lsm base g _ heff.heap hfr;have e2:=sI.trans (side:=[]) (rds:=[]) heff k1;have hib:i<base:=by
     rcases aWA i base with h|h
     .exact h
     .have:=(hf i (by simp [qH]) h).1;rw[hp] at this;cases this
    have hiN:i∉qH (EE lsm base):=fun h=>by
     have:=(RH _ base i).1 h;omega
    have hb3:qE (qY (qY (EE lsm base) [(i,qB.cells s z' (wC toks off ti.ty.cells))]) H) i=some (.cells s z' (wC toks off ti.ty.cells)):=by
     rw[O4,CQ hiN];simp [qY,qE]
    have hyl:=t7 hR;have e3:=sI.retok (p:=p) (nt:=NM off (CJ lsm base)) e2.heap hb3 (by rw[k2];exact hp) (fun cs hRz hra o k hm=>by
     obtain⟨q,rfl,hq⟩:=aCU hm;obtain⟨en,he,rfl⟩:=a1n hq;obtain⟨u,h1,h2⟩:=aCz hn hR (a1o hok en he) (by have:=hlx en he;omega);have hql:en.1<(a.eval y).cells.toList.length:=(aVK.1 h2).1;have h3:=aCV hset h1 pG;refine⟨u,[],.slice none 0 0,h3,?_,k3 _ _ hq⟩;have hlen:=t7 hRz;have hlt:=aCW h3;have hc:cs[off+en.1]? =some cs[off+en.1]:=aVF pG;have hr1:=hra _ _ hc;have hr2:=aW0 p.1 (a.eval y).cells.toList (p.2+off) w (fun j hj=>(hth j hj).1) en.1 hql;rw[aWc] at hr2;rw[hr2] at hr1;rw[hc,<-hr1,<-h2,aVF hql])
    exact rN.skip (w':=w.setCells p.1 (p.2+off) (a.eval y).cells.toList) (hrun hth) (sI.trans (side:=[]) (rds:=[i]) e2 e3)
   .unfold VP at hr;split at hr
    .rename_i s q toks _;generalize hset:t6 ti.ty z s q off=oz at hr;cases oz with
     |none=>cases hr
     |some z'=>
      cases hr;obtain⟨heff,hth⟩:=sI.store (side:=[]) (rds:=[i]) hH hb hp hset hR (aMy hky) (fun a b e=>by rw[e];rfl) hone;exact rN.skip (w':=w.setCells p.1 (p.2+off) (a.eval y).cells.toList) (hrun hth) heff
    .cases hr
  .cases hr
 .cases hr
theorem aCY {t:Ty}{n:Nat}{ev:Operand->pS}{ρ:Operand->qC}: ∀(ps:List (Nat×Operand)) (l z:List t.den) (cs:pN),uE (Rd g w t) t.cells l cs->l.length=n->(∀q∈ps,rX g w (ρ q.2) (ev q.2))->BN t n (some l) (vA ρ ps)=some z->
  ∃cs',Instr.fill (fun i=>some (i*t.cells,t.cells)) cs.toArray (ps.map fun q=>(q.1,ev q.2))=some cs'.toArray/\uE (Rd g w t) t.cells z cs'/\z.length=n
 |[],l,z,cs,r,hl,_,h=>by
  simp only[vA,BN,aVr] at h;subst h;exact⟨cs,rfl,r,hl⟩
 |(i,q)::ps,l,z,cs,r,hl,hq,h=>by
  have h0:=hq (i,q) pI;generalize hs:ρ q=s at h0;simp only[vA,hs] at h;obtain⟨d,k⟩:=s;cases d with
  |val u y=>
   simp only[BN,aBH] at h;by_cases hc:u=t/\i<n
   .rw[aXz hc] at h;obtain⟨rfl,hi⟩:=hc;simp only[v8] at h;have hR:=FW h0.1;obtain⟨c1,c2,c3,rfl,h2,h3,h4⟩:=a1i (i:=i) r hR (t7 hR) pG;obtain⟨cs',k1,k2,k3⟩:=aCY ps (l.set i y) z _ h4 (by simpa using hl) (fun q hq'=>hq q (by simp [hq'])) h;refine⟨cs',?_,k2,k3⟩;simp only[aWy];rw[aCy rfl (by have:=t7 hR;simpa using this) (c1:=c1) (c2:=c2) (c3:=c3) pI h2 h3];exact k1
   .rw[aXb hc] at h;cases ps with
    |nil=>simp [vA,BN] at h
    |cons p ps=>simp [vA,BN] at h
  |_=>simp [BN] at h
theorem a1r {t:TypeId}{n:Nat}{ps:Array (Nat×Operand)}(ho:o.op= .buildSlice t n ps) {ρ:Operand->qC}(hρ: ∀q∈ps.toList,rX g w (ρ q.2) (a.eval q.2)) {u:Ty}{el:TypeId}{by':Nat}{ar:Bool}{ls:List (Nat×TypeId×Nat)}(hst:rZ T t=some ⟨.list u,el,by',ar,ls⟩) {l:List u.den}
  (hb:BN u n (some (DB u n)) (vA ρ ps.toList)=some l) (hn:n<=16777216/\n*u.cells<=16777216):
  ∃cs':pN,uE (Rd g w u) u.cells l cs'/\l.length=n/\(execOp a.eval o).run P w= .ok (.value (.slice (some ⟨w.heap.size,0,none⟩) n n)) (w.alloc (.cells cs'.toArray el)):=by
    obtain⟨h2,h3,_⟩:=(tI hT hst).2;obtain⟨ei,hei,hz⟩:=aVA.1 h3;simp only[aV0] at hz;obtain⟨cs',k1,k2,k3⟩:=aCY hT hH ps.toList (DB u n) l _ (aCJ n) (aCK u n) hρ hb;refine⟨cs',k2,k3,?_⟩;have hzc:(wW u).cells=(uP u).toArray:=by
     unfold wW;cases h:u<;>simp [Ty.isRow,uP,Value.cells]
    have hmap:(ps.map fun(q:Nat×Operand)=>(q.1,a.eval q.2)).toList=ps.toList.map fun q=>(q.1,a.eval q.2):=by simp
    have hzl:(uP u).length=u.cells:=t7 (EI g w u);have hrow: ∀z:Array pS,(n*u.cells≠0->z=(uP u).toArray)->(Array.range (n*u.cells)).map (fun i=>z[i%z.size]!)=(List.flatten (List.replicate n (uP u))).toArray:=by
     intro z hz0;by_cases h0:n*u.cells=0
     .rw[h0];have:List.flatten (List.replicate n (uP u))=[]:=aV2 (by simp [hzl,h0]);rw[this];simp
     .rw[hz0 h0];have hpos:0<u.cells:=Nat.pos_of_ne_zero (fun h=>h0 (by rw[h];simp));apply aWF.1;apply List.ext_getElem?;intro j;have key: ∀(m j:Nat),j<m*u.cells->(List.flatten (List.replicate m (uP u)))[j]? =(uP u)[j%u.cells]? :=by
       intro m
       induction m with
       |zero=>intro j h;simp at h
       |succ m ih=>
        intro j h;rw[List.replicate_succ,aWt];by_cases hj:j<u.cells
        .rw[aVN pG,Nat.mod_eq_of_lt hj]
        .rw[aVI pG,hzl,ih (j-u.cells) (by rw[aWz] at h;omega)];congr 1
         conv=>rhs;rw[<-Nat.sub_add_cancel (Nat.le_of_not_lt hj),Nat.add_mod_right]
      by_cases hj:j<n*u.cells
      .have hm:j%u.cells<(uP u).length:=by rw[hzl];exact Nat.mod_lt _ hpos
       simp only[Array.toList_map,Array.toList_range,List.getElem?_map,List.getElem?_range hj,Option.map_some,aWn,hzl];rw[key n j hj,aVF hm];simp [getElem!_pos,hm]
      .rw[aWY pJ,aWY (by simp [hzl];omega)]
    have hlim: ¬(n*u.cells>2^24):=by have:=hn.2;omega
    by_cases h0:n*u.cells=0
    .simp only[execOp,ho,Instr.buildSlice,aVM,aVP h2,aVC,sizeOf,typeInfo,aWw,hei,hz.1,aVU,aVv hlim,aVs h0];rw[hrow #[] (fun h=>absurd h0 h),hmap,k1];simp only[newRow,aVM,run_newObj,aVC,aVU];rfl
    .simp only[execOp,ho,Instr.buildSlice,aVM,aVP h2,aVC,sizeOf,typeInfo,aWw,hei,hz.1,aVU,aVv hlim,aVv h0,zeroValue,hz.2.2,hzc];rw[hrow (uP u).toArray (fun _=>rfl),hmap,k1];simp only[newRow,aVM,run_newObj,aVC,aVU];rfl
theorem aMC {t:TypeId}{n:Nat}{ps:Array (Nat×Operand)}(ho:o.op= .buildSlice t n ps) {ρ:Operand->qC}(hρ: ∀q∈ps.toList,rX g w (ρ q.2) (a.eval q.2)) {base:Nat}{e:qT}(hr:a0A base n (vA ρ ps.toList) (rZ T t)=some e) (hf:zO g base e):rN P o a g w H e:=by
 generalize hst:rZ T t=ot at hr;unfold a0A at hr;split at hr
 .rename_i u el by' ls_;split at hr
  .rename_i hn0;generalize hb:BN u n (some (DB u n)) (vA ρ ps.toList)=ol at hr;cases ol with
   |none=>cases hr
   |some l=>
    simp only[aBV] at hr;split at hr
    .rename_i hn;cases hr;obtain⟨cs',k2,k3,hrun⟩:=a1r hT hH ho hρ hst hb hn.2;have hfr:=(hf base (by simp [qH]) (aVR _)).2;have hlen:=JA k2;have hown:(w.alloc (.cells cs'.toArray el)).ownsRow 0 el u.cells (.slice (some ⟨w.heap.size,0,none⟩) n n) n cs':=⟨by rw[hlen,k3],.inr ⟨w.heap.size,n,cs'.toArray,rfl,aWC _,aXw w _,aVR _,by unfold maxLen;omega,by simp [hlen,k3],by simp [<-k3,<-hlen]⟩⟩;refine rN.value hrun (sI.row (v:= .slice (some ⟨w.heap.size,0,none⟩) n n) (xs:=cs') hH k3 hown k2 (fun m _=>hfr m) (fun u hu=>by rw[hfr] at hu;cases hu) (.inl (World.grownBy_alloc w _ _)) (fun b o h=>aVT (a:=⟨b,o,none⟩) (aV3 _ _ _ (hH.sl b o h))) (fun b hb o hs=> ?_) (fun b hb=> ?_) ⟨⟨by simp [Gh.tok],.inr ⟨_,_,rfl,aVR _⟩⟩,trivial⟩)
     .cases hb;exact aW5 _ (hH.sl _ _ hs)
     .cases hb;exact .inl (aVR _)
    .cases hr
  .rename_i hn0;generalize hb:BN u n (some (DB u n)) (vA ρ ps.toList)=ol at hr;cases ol with
   |none=>cases hr
   |some l=>
    simp only[VJ] at hr;split at hr
    .rename_i hn;cases hr;obtain⟨cs',k2,k3,hrun⟩:=a1r hT hH ho hρ hst hb hn;have hfr:=hf base (by simp [qH]) (aVR _);exact rN.value (v:= .slice (some ⟨w.heap.size,0,none⟩) n n) (w':=w.alloc (.cells cs'.toArray el)) hrun (sI.lit hH rfl k3 k2 (by unfold maxLen;omega) hfr.2)
    .cases hr
 .rename_i u el by' ls_;generalize hb:BN u n (some (DB u n)) (vA ρ ps.toList)=ol at hr;cases ol with
  |none=>cases hr
  |some l=>
   simp only[VJ] at hr;split at hr
   .rename_i hn;cases hr;obtain⟨cs',k2,k3,hrun⟩:=a1r hT hH ho hρ hst hb hn;have hfr:=hf base (by simp [qH]) (aVR _);exact rN.value (v:= .slice (some ⟨w.heap.size,0,none⟩) n n) (w':=w.alloc (.cells cs'.toArray el)) hrun (sI.lit hH rfl k3 k2 (by unfold maxLen;omega) hfr.2)
   .cases hr
 .cases hr
theorem aMD {args:Array Operand}{tys:Array TypeId}(ho:o.op= .call ⟨.builtin .append,args,tys⟩) {ρ:Operand->qC}(hρ: ∀x∈args.toList,rX g w (ρ x) (a.eval x)) {e:qT}
  {t:TypeId}(htt:tys= #[t,t]) (hr:W3 H (rZ T t) (wD ρ args.toList)=some e) (hs: ∀p∈e.side,p):rN P o a g w H e:=by
 subst htt;generalize hst:rZ T t=ot at hr;generalize hss:wD ρ args.toList=ss at hr;unfold W3 at hr;split at hr
 .rename_i u el by' ar ls_ k n _ b1 r _;split at hr
  .rename_i hbu;subst hbu;generalize hk:qE H k=ob at hr;unfold VZ at hr;split at hr
   .rename_i e' t' l m;split at hr
    .rename_i hbt;subst hbt;split at hr
     .rename_i hec;obtain⟨rfl,hpos,hb1⟩:=hec;simp only[v8] at hr;cases hr;have hnm:=hs _ (by simp:(n=m)∈_);subst hnm;have hby:=hs _ (by simp:((n+List.length r)*by'<=140737488355328)∈_);obtain⟨v,vr,hv,hs1,hs2⟩:=WU hT hH hρ hss;obtain⟨h2,h3,_⟩:=(tI hT hst).2;obtain⟨ei,hei,hz⟩:=aVA.1 h3;simp only[aV0] at hz;obtain⟨cs,hx⟩:=HE (a:=a) hT hH ho;obtain⟨hl,v0,xs,hv0,hown,hF0,hnone,hseal⟩:=hH.blk k _ hk;obtain⟨hcur,hshape⟩:=hs1.1;rw[hv0] at hcur;obtain rfl:=aVx hcur;obtain⟨adr,capr,hvr,hler,hlr⟩:=DG hs2.1;have hlen2:(l++r).length=n+List.length r:=by rw[aVu,hl]
      rw[hlen2];have hownk: ∀q,v0.ownBlock=some q->∀o,t8 g H [k] q o:=fun q hq o=>⟨k,_,by simp,hk,v0,hv0,hq⟩;by_cases hm:List.length r=0
      .obtain rfl:r=[]:=aV2 hm;refine rN.value (v:=v0) (w':=w) ?_ (sI.row (v:=v0) (xs:=xs) hH hlen2 hown (by rw[List.append_nil];exact hF0) hnone (fun u hu=>by
        have h5:g.cur k n=some u:=hu;rw[hv0] at h5;exact(aVx h5).symm) (.inl ⟨rfl,rfl,rfl,aVR _,fun _ _ _=>rfl⟩) (fun _ _ _=>rfl) hseal (fun q hq=> .inr (hownk q hq)) ⟨⟨by simp [Gh.tok],hshape⟩,trivial⟩)
       obtain⟨adl,capl,hvl,hlel⟩: ∃adl capl,v0= .slice adl n capl/\n<=capl:=by
        rcases hshape with⟨h,rfl⟩ |⟨b,cap,h,h'⟩
        .exact⟨_,_,h,aVR _⟩
        .exact⟨_,_,h,h'⟩
       rw[hx,hv,hvr,hvl];have ha0:(#[Value.slice adl n capl,Value.slice adr (List.length ([]:List b1.den)) capr]:Array pS)[0]? =some (.slice adl n capl):=rfl;have ha1:(#[Value.slice adl n capl,Value.slice adr (List.length ([]:List b1.den)) capr]:Array pS)[1]? =some (.slice adr 0 capr):=rfl;have ht0:(#[t,t]:Array TypeId)[0]? =some t:=rfl;have ht1:(#[t,t]:Array TypeId)[1]? =some t:=rfl;simp only[builtin,Builtin.append_,ht0,ht1,ha0,ha1,aVM,aVP h2,aVC,aVU,sizeOf,typeInfo,aWw,hei];cases adr<;>cases adl<;>simp [Builtin.lenOf,Builtin.firstCells,loadCells,loadCellsFrom,storeCells,hlel]
      .obtain⟨b,off,rfl,hL⟩: ∃b o,adr=some ⟨b,o,none⟩/\zG (Rd g w b1) w g.S b1.cells b o r:=by
        rcases hlr with rfl|h
        .exact absurd rfl hm
        .exact h
       obtain⟨news,hF,hra,_⟩:=O3 hL;obtain⟨q,cap,w',hrun,hown',hq,hg,hcap,hcell⟩:=a1j (P:=P) w t o.type e' ei (wW b1) b1.cells by' h2 hei hz.2.2 hz.1 hz.2.1 (by
        have:=t7 (FW (LL g w b1));simpa using this) v0 n xs hown ⟨b,off,none⟩ (List.length r) capr news (JA hF) (fun j u hu=>by rw[aWS];exact hra j u hu) (RF (fun _ _ h=>B8 h) hF) pG
        (by
         have:=Nat.mul_le_mul_left (n+List.length r) hb1;unfold maxLen;omega) hby
       refine rN.value (v:= .slice (some ⟨q,0,none⟩) (n+List.length r) cap) (w':=w') ?_ (sI.row (v:= .slice (some ⟨q,0,none⟩) (n+List.length r) cap) (xs:=xs++news) hH hlen2 hown' (R9 hF0 hF) (fun m hm'=>hnone m pG) (fun u hu=>by
        rw[hnone _ pG] at hu;cases hu) (.inr ⟨v0.ownBlock,hg,fun b hb o=>hownk b hb o⟩) (fun b o hS=>hcell b o (hH.sl b o hS) (fun hb=>absurd hS (hseal b hb o))) (fun b hb o hS=> ?_) (fun b hb=> ?_) ⟨⟨by simp [Gh.tok],.inr ⟨q,cap,rfl,hcap⟩⟩,trivial⟩)
       .rw[hx,hv,hvr];simp only[builtin,aVM,hrun,aVC,aVU]
       .cases hb;rcases hq with h|h
        .rw[h] at hS;exact aW5 _ (hH.sl _ _ hS)
        .exact hseal _ h o hS
       .cases hb;rcases hq with h|h
        .exact .inl (aW6 h.symm)
        .exact .inr (hownk _ h)
     .cases hr
    .cases hr
   .cases hr
  .cases hr
 .rename_i u el by' ar ls_ a1 l k b1 r k2;split at hr
  .rename_i hab;obtain⟨rfl,rfl⟩:=hab;simp only[v8] at hr;generalize hk:qE H k=ob at hr;unfold VY at hr;split at hr
   .rename_i e' c n;split at hr
    .rename_i hec;obtain⟨rfl,hcc,hpos,hb1⟩:=hec;cases hr;rw[aVu];have hln:=hs _ (by simp:(List.length l=n)∈_);have hby:=hs _ (by simp:((List.length l+List.length r)*by'<=140737488355328)∈_);obtain⟨v,vr,hv,hs1,hs2⟩:=WU hT hH hρ hss;obtain⟨h2,h3,_⟩:=(tI hT hst).2;obtain⟨ei,hei,hz⟩:=aVA.1 h3;simp only[aV0] at hz;obtain⟨cs,hx⟩:=HE (a:=a) hT hH ho;obtain⟨v0,xs,hv0,hown,hnone,hseal⟩:=hH.blk k _ hk;have hcur:g.cur k (List.length l)=some v:=hs1.2;rw[hln,hv0] at hcur;obtain rfl:=aVx hcur;obtain⟨adr,capr,hvr,hler,hlr⟩:=DG hs2.1;obtain⟨adl,capl,hvl,hlel,hll⟩:=DG hs1.1;by_cases hm:List.length r=0
     ·
      obtain rfl:r=[]:=aV2 hm;have hlr:List.length l+List.length ([]:List b1.den)=n:=by rw[hln];rfl
      have hget: ∀i,qE (qY [(k,qB.grow e' c (List.length l+List.length ([]:List b1.den)))] H) i=qE H i:=by
       intro i;simp only[qY,qE];by_cases hi:k=i
       .subst hi;rw[aVs rfl,hlr];exact hk.symm
       .rw[aVv hi]
      have hkeep:sI g w H ⟨[List.length l=n,(List.length l+List.length ([]:List b1.den))*by'<=140737488355328],(.val (.list b1) (l++[]),some k),[(k,.grow e' c (List.length l+List.length ([]:List b1.den)))],[k]⟩ g w v0:=by
       refine⟨.refl _ _,?_,⟨fun i b h=>hH.blk i b ((hget i).symm.trans h),fun i j bi bj b o' hij h1 h2=>hH.dis i j bi bj b o' hij ((hget i).symm.trans h1) ((hget j).symm.trans h2),hH.sl,hH.tab.1,fun i blk b o' h ho'=>hH.tab.2 i blk b o' ((hget i).symm.trans h) ho'⟩,.refl _ _ _,fun i blk b o' hi hg ho'=> .inr ⟨i,blk,hi,(hget i).symm.trans hg,ho'⟩,fun _ _=>⟨rfl,rfl⟩,fun i u' y us h=> .inl ⟨y,us,(hget i).symm.trans h⟩⟩;rw[List.append_nil];exact hs1
      refine rN.value (v:=v0) (w':=w) ?_ hkeep;rw[hx,hv,hvr,hvl];have ha0:(#[Value.slice adl (List.length l) capl,Value.slice adr (List.length ([]:List b1.den)) capr]:Array pS)[0]? =some (.slice adl (List.length l) capl):=rfl;have ha1:(#[Value.slice adl (List.length l) capl,Value.slice adr (List.length ([]:List b1.den)) capr]:Array pS)[1]? =some (.slice adr 0 capr):=rfl;have ht0:(#[t,t]:Array TypeId)[0]? =some t:=rfl;have ht1:(#[t,t]:Array TypeId)[1]? =some t:=rfl;simp only[builtin,Builtin.append_,ht0,ht1,ha0,ha1,aVM,aVP h2,aVC,aVU,sizeOf,typeInfo,aWw,hei];cases adr<;>cases adl<;>simp [Builtin.lenOf,Builtin.firstCells,loadCells,loadCellsFrom,storeCells,hlel]
     .obtain⟨b,off,rfl,hL⟩: ∃b o,adr=some ⟨b,o,none⟩/\zG (Rd g w b1) w g.S b1.cells b o r:=by
       rcases hlr with rfl|h
       .exact absurd rfl hm
       .exact h
      obtain⟨news,hF,hra,_⟩:=O3 hL;have hxs:uE (Rd g w b1) b1.cells l xs:=by
       by_cases h0:List.length l=0
       .obtain rfl:l=[]:=aV2 h0;have:xs=[]:=aV2 (by rw[hown.1,<-hln];simp);exact this
       .rcases hll with rfl|⟨b0,off0,rfl,hL0⟩
        .exact absurd rfl h0
        .obtain⟨ls,hF0,hra0,_⟩:=O3 hL0;rcases hown.2 with⟨e1,e2⟩ |⟨q,cap,cur,e1,e2⟩
         .exact absurd (hln.trans e2) h0
         .rw[hvl] at e1;simp only[aXv,aVr,Addr.mk.injEq] at e1;obtain⟨⟨rfl,rfl,_⟩,_,rfl⟩:=e1;have hvn:v0= .slice (some ⟨b0,0,none⟩) n capl:=by rw[hvl,hln]
          have hrx:=a1k (hvn▸hown);have:ls=xs:=by
           have hl1:=JA hF0;have hl2:=hown.1;apply List.ext_getElem?;intro j;by_cases hj:j<ls.length
           .have h1:=hra0 j ls[j] (aVF hj);have hj':j<xs.length:=by rw[hl2,hcc,<-hln,<-hl1];exact hj
            have h2:=hrx j xs[j] (aVF hj');rw[h1] at h2;rw[aVF hj,aVF hj',aVx h2]
           .rw[aWY pG,aWY (by rw[hl2,hcc,<-hln,<-hl1];omega)]
          rw[<-this];exact hF0
      obtain⟨q,cap,w',hrun,hown',hq,hg,hcap,hcell⟩:=a1j (P:=P) w t o.type e' ei (wW b1) c by' h2 hei hz.2.2 (by rw[hz.1,hcc]) hz.2.1 (by
       have:=t7 (FW (LL g w b1));rw[hcc];simpa using this) v0 n xs hown ⟨b,off,none⟩ (List.length r) capr news (by rw[JA hF,hcc]) (fun j u hu=>by rw[aWS];exact hra j u hu) (RF (fun _ _ h=>B8 h) hF) pG
       (by
        have:=Nat.mul_le_mul_left (List.length l+List.length r) hb1;unfold maxLen;omega) (by rw[<-hln];exact hby)
      refine rN.value (v:= .slice (some ⟨q,0,none⟩) (n+List.length r) cap) (w':=w') ?_ (by
       have:=sI.append (side:=[List.length l=n,(List.length l+List.length r)*by'<=140737488355328]) (rds:=[k]) hH hk hcc hln hv0 hown hnone hseal (hcc▸hxs) (hcc▸hF) pG hown' hq hg hcap hcell;rw[hln];rw[hln] at this;exact this)
      rw[hx,hv,hvr];simp only[builtin,aVM,hrun,aVC,aVU]
    .cases hr
   .cases hr
  .cases hr
 .cases hr
end
end Go.Proofs.YtkpflnijijccpaaGreatDoor.Vc
