/- Packed by a program of mine (wip/tools/pack.py): the same texts with short names and few blanks. -/
import Derived.Below
import Derived.Calls
import Derived.Deep.MidRow
import Derived.Deep.Upon
import Derived.Laws.AppendOwn
import Derived.Laws.BitsLemmas
import Derived.Laws.OwnMore
import Derived.Shelf.Strconv.Itoa3
import Derived.Shelf.Strings.Fields
import Derived.Shelf.Unicode.DecodeSlow
import Derived.Still
import Derived.WalkKit
set_option linter.defProp false
set_option linter.unusedVariables false
set_option linter.unusedSimpArgs false
set_option linter.unusedSectionVars false
set_option maxRecDepth 100000
set_option maxHeartbeats 4000000
namespace Go.Proofs
abbrev pF:=List UInt8
abbrev pG:=List pF
def aUS:=@_root_.Option.bind_some
def aUT:=@_root_.Option.some.injEq
def aUU:=@_root_.if_pos
def aUV:=@_root_.Option.isSome_iff_exists
def aUW:=@_root_.List.length_append
def aUX:=@_root_.if_neg
def aUY:=@_root_.List.length_cons
def aUZ:=@_root_.Option.some.inj
def aU0:=@_root_.List.append_assoc
def aU1:=@_root_.Option.map_eq_some_iff
def aU2:=@_root_.List.mem_cons_self
def aU3:=@_root_.List.mem_cons_of_mem
def aU4:=@_root_.Go.Result.andThen_ok
def aU5:=@_root_.List.getElem?_eq_getElem
def aU6:=@_root_.Bool.and_eq_true
def aU7:=@_root_.List.length_nil
def aU8:=@_root_.decide_eq_true_eq
def aU9:=@_root_.List.mem_cons
def aVa:=@_root_.List.getElem?_append_right
def aVb:=@_root_.List.mem_singleton
def aVc:=@_root_.congrArg
def aVd:=@_root_.List.getElem?_eq_some_iff
def aVe:=@_root_.Go.Sem.run_bind
def aVf:=@_root_.List.getElem?_append_left
def aVg:=@_root_.List.length_drop
def aVh:=@_root_.Go.run_underlying
def aVi:=@_root_.Nat.le_refl
def aVj:=@_root_.List.length_take
def aVk:=@_root_.decide_eq_true
def aVl:=@_root_.Go.World.cell?_of_block
def aVm:=@_root_.Go.Sem.run_pure
def aVn:=@_root_.Array.getElem?_eq_some_iff
def aVo:=@_root_.Bool.not_eq_true'
def aVp:=@_root_.List.length_pos_iff
def aVq:=@_root_.List.getD_eq_getElem?_getD
def aVr:=@_root_.Array.getD_eq_getD_getElem?
def aVs:=@_root_.Prod.mk.injEq
def aVt:=@_root_.List.getElem?_cons_zero
def aVu:=@_root_.List.eq_nil_of_length_eq_zero
def aVv:=@_root_.Go.RowKit.Below.heap_alloc
def aVw:=@_root_.of_decide_eq_true
def aVx:=@_root_.Nat.zero_add
def aVy:=@_root_.Array.length_toList
def aVz:=@_root_.Nat.lt_of_lt_of_le
def aVA:=@_root_.List.drop_eq_getElem_cons
def aVB:=@_root_.List.any_eq_false
def aVC:=@_root_.List.all_eq_true
def aVD:=@_root_.Int.toNat_natCast
def aVE:=@_root_.decide_eq_false_iff_not
def aVF:=@_root_.Nat.add_assoc
def aVG:=@_root_.Bool.or_eq_false_iff
def aVH:=@_root_.List.getElem?_cons_succ
def aVI:=@_root_.List.reverse_cons
def aVJ:=@_root_.List.mem_append
def aVK:=@_root_.Nat.add_sub_cancel_left
def aVL:=@_root_.List.findIdx?_eq_some_iff_getElem
def aVM:=@_root_.List.flatMap_cons
def aVN:=@_root_.List.take_append_of_le_length
def aVO:=@_root_.Go.World.frozen?_of_block
def aVP:=@_root_.List.size_toArray
def aVQ:=@_root_.List.flatten_cons
def aVR:=@_root_.List.drop_length
def aVS:=@_root_.List.take_left
def aVT:=@_root_.List.cons.injEq
def aVU:=@_root_.Nat.add_zero
def aVV:=@_root_.List.pairwise_iff_getElem
def aVW:=@_root_.List.getElem_mem
def aVX:=@_root_.List.length_map
def aVY:=@_root_.Int.le_refl
def aVZ:=@_root_.Nat.le_trans
def aV0:=@_root_.List.map_cons
def aV1:=@_root_.Go.run_program
def aV2:=@_root_.Bool.not_eq_true
def aV3:=@_root_.Array.getElem?_toList
def aV4:=@_root_.Nat.zero_le
def aV5:=@_root_.Bool.or_eq_true
def aV6:=@_root_.Array.toList_inj
def aV7:=@_root_.Nat.succ_mul
def aV8:=@_root_.Nat.lt_or_ge
def aV9:=@_root_.Bool.not_eq_false'
def aWa:=@_root_.List.getElem?_take_of_lt
def aWb:=@_root_.Array.getElem?_modify
def aWc:=@_root_.List.drop_zero
def aWd:=@_root_.List.getElem?_take
def aWe:=@_root_.List.mem_range
def aWf:=@_root_.List.findIdx?_eq_none_iff
def aWg:=@_root_.Go.IntKind.wrap_i64
def aWh:=@_root_.Nat.le_of_ble_eq_true
def aWi:=@_root_.List.take_append_drop
def aWj:=@_root_.Go.Addr.add_mid
def aWk:=@_root_.List.drop_left
def aWl:=@_root_.Nat.mul_le_mul_right
def aWm:=@_root_.List.length_eq_one_iff
def aWn:=@_root_.Array.getElem?_setIfInBounds_ne
def aWo:=@_root_.List.length_singleton
def aWp:=@_root_.List.getElem?_eq_none
def aWq:=@_root_.decide_eq_decide
def aWr:=@_root_.Array.toArray_toList
def aWs:=@_root_.Go.World.cell?_setCells_in
def aWt:=@_root_.List.length_eq_zero_iff
def aWu:=@_root_.Go.setRow_other
def aWv:=@_root_.List.not_mem_nil
def aWw:=@_root_.Nat.lt_irrefl
def aWx:=@_root_.Nat.le_of_eq
def aWy:=@_root_.Classical.choose_spec
def aWz:=@_root_.if_true
def aWA:=@_root_.List.drop_drop
def aWB:=@_root_.dif_neg
def aWC:=@_root_.List.findIdx?_cons
def aWD:=@_root_.Bool.false_eq_true
def aWE:=@_root_.Array.getElem?_setIfInBounds
def aWF:=@_root_.Go.wpIn_mono
def aWG:=@_root_.Nat.mul_one
def aWH:=@_root_.Bool.eq_iff_iff
def aWI:=@_root_.Bool.and_eq_false_iff
def aWJ:=@_root_.Go.Addr.add_lit
def aWK:=@_root_.Array.size_append
def aWL:=@_root_.Int.tmod_eq_emod_of_nonneg
def aWM:=@_root_.List.pairwise_append
def aWN:=@_root_.Array.getElem?_eq_getElem
def aWO:=@_root_.List.mem_toArray
def aWP:=@_root_.Go.setRow_heap
def aWQ:=@_root_.List.getElem_of_mem
def aWR:=@_root_.List.drop_succ_cons
def aWS:=@_root_.Array.getElem?_push_size
def aWT:=@_root_.List.pairwise_cons
def aWU:=@_root_.List.append_inj
def aWV:=@_root_.Array.foldl_toList
def aWW:=@_root_.Go.Value.slice.injEq
def aWX:=@_root_.Go.heap_alloc_new
def aWY:=@_root_.Go.World.cell?_alloc_new
def aWZ:=@_root_.Nat.sub_self
def aW0:=@_root_.dif_pos
def aW1:=@_root_.Option.getD_some
def aW2:=@_root_.List.range'_succ
def aW3:=@_root_.Go.IntKind.wrap_u8
def aW4:=@_root_.if_false
theorem pI{p:Prop}(h:p:=by omega):p:=h
theorem pJ{p:Prop}(h:p:=by decide):p:=h
theorem pK{p:Prop}(h:p:=by simp):p:=h
theorem pL{p:Prop}(h:p:=by simp;omega):p:=h
theorem pV{p:Prop}(h:p:=by first|rfl|trivial):p:=h
theorem pW{p:Prop}(h:p:=by kernel_rfl):p:=h
theorem pX{p:Prop}(h:p:=by rfl):p:=h
theorem pH{a:Type}{p q r:a->Prop}(k:a)(h1:p k:=by rfl)(h2:q k:=by rfl)(h3:r k:=by rfl): ∃k,p k/\q k/\r k:=⟨k,h1,h2,h3⟩
abbrev pM:=List (pF×Bool)
abbrev pN:=List (Nat×Nat)
abbrev pO:=List Int
abbrev pP:=List Value
abbrev pQ:=Option (Nat×Nat)
abbrev pR:=Option Nat
abbrev pS:=List Nat
abbrev pT:=World
abbrev pU:=Value
end Go.Proofs
namespace Go.Proofs.YtkpflnijijccpaaGreatDoor.Vc
def NG:Nat:=6
def aBk:Nat:=73
def aBl:List (Nat×Array pU):=[(5,(Lib.pow10Tab.map fun z=>Value.int .u64 z).toArray),(0,(Lib.asciiSpaceTab.map fun z=>Value.int .u8 z).toArray)]
def aK6 (w:pT):Prop:= ∀x∈aBl,x.1<NG/\∃e fz,w.heap[x.1]? =some (.cells x.2 e fz)
def DH (w:pT):Prop:=NG<=w.heap.size/\Lib.Utf8Tabs 3 4 w/\(∃m,w.cell? ⟨1,0,none⟩=some (.int .i64 m))/\aK6 w
theorem KX {w w':pT}(h:DH w) (hs:w.heap.size<=w'.heap.size) (hb: ∀b,b<NG->w'.heap[b]? =w.heap[b]?):DH w':=by
 obtain⟨h0,⟨h1,h2⟩,⟨m,h3⟩,h4⟩:=h;have hc: ∀b o,b<NG->w'.cell? ⟨b,o,none⟩=w.cell? ⟨b,o,none⟩:=fun b o h=>aVl (a:=⟨b,o,none⟩) (hb b h);refine⟨aVZ h0 hs,⟨fun c hc'=> ?_,fun i hi=>⟨?_,?_⟩⟩,⟨m,?_⟩,fun x hx=>⟨(h4 x hx).1,by obtain⟨h5,e,fz,h6⟩:=h4 x hx;exact⟨e,fz,(hb _ h5).trans h6⟩⟩⟩
 .rw[hc _ _ pJ];exact h1 c hc'
 .rw[hc _ _ pJ];exact(h2 i hi).1
 .rw[hc _ _ pJ];exact(h2 i hi).2
 .rw[hc _ _ pJ];exact h3
attribute [go_sem] aBk
inductive Ty where
 |bool|int (k:IntKind) |str|list (t:Ty) |unit|pair (a b:Ty) |ref|clo|mp|rl (e:Nat) (t:Ty) |mref|fn
 deriving DecidableEq
abbrev Ty.den:Ty->Type
 | .bool=>Bool
 | .int _=>Int
 | .str=>pF
 | .list t=>List t.den
 | .unit=>Unit
 | .pair a b=>a.den×b.den
 | .ref=>pQ
 | .clo=>Option (Nat×pN)
 | .mp=>pR
 | .rl _ _=>pQ
 | .fn=>pR
 | .mref=>pQ
@[go_sem] def Ty.cells:Ty->Nat
 | .unit=>0
 | .pair a b=>a.cells+b.cells
 | .bool| .int _| .str| .list _| .ref| .clo| .mp| .rl _ _| .mref| .fn=>1
@[go_sem] def Ty.zero:(t:Ty)->t.den
 | .bool=>false
 | .int _=>(0:Int)
 | .str=>[]
 | .list _=>[]
 | .unit=>()
 | .pair a b=>(a.zero,b.zero)
 | .ref=>none
 | .clo=>none
 | .mp=>none
 | .rl _ _=>none
 | .fn=>none
 | .mref=>none
@[go_sem] def Ty.isRow:Ty->Bool
 | .unit| .pair _ _=>true
 | .bool| .int _| .str| .list _| .ref| .clo| .mp| .rl _ _| .mref| .fn=>false
@[go_sem] def Ty.pure:Ty->Bool
 | .ref| .clo| .mp| .rl _ _| .mref=>false
 | .list t=>t.pure
 | .pair a b=>a.pure&&b.pure
 | .bool| .int _| .str| .unit| .fn=>true
def qR (t:Ty) (l:List t.den) (i:Int):t.den:=l.getD i.toNat t.zero
def sJ (l:pF) (i:Int):Int:=((l.getD i.toNat 0).toNat:Int)
def v7 {t u:Ty}(h:t=u) (x:t.den):u.den:=h▸x
@[go_sem] theorem N7 {t:Ty}(x:t.den):v7 (rfl:t=t) x=x:=rfl
@[go_sem] def rJ (u:Ty):(t:Ty)->t.den->Nat->Option u.den
 |t,x,0=>if h:t=u then some (v7 h x) else match t,x with
  | .pair a b,x=>if 0<a.cells then rJ u a x.1 0 else rJ u b x.2 0
  |_,_=>none
 | .pair a b,x,o+1=>if o+1<a.cells then rJ u a x.1 (o+1) else rJ u b x.2 (o+1-a.cells)
 |_,_,_=>none
@[go_sem] def t8 (u:Ty) (y:u.den):(t:Ty)->t.den->Nat->Option t.den
 |t,x,0=>if h:u=t then some (v7 h y) else match t,x with
  | .pair a b,x=>if 0<a.cells then(t8 u y a x.1 0).map (fun z=>(z,x.2)) else(t8 u y b x.2 0).map (fun z=>(x.1,z))
  |_,_=>none
 | .pair a b,x,o+1=>if o+1<a.cells then(t8 u y a x.1 (o+1)).map (fun z=>(z,x.2)) else(t8 u y b x.2 (o+1-a.cells)).map (fun z=>(x.1,z))
 |_,_,_=>none
@[go_sem] def Ty.proj:(t:Ty)->t.den->Nat->Option (Σ u:Ty,u.den)
 | .pair a _,x,0=>some ⟨a,x.1⟩
 | .pair _ b,x,i+1=>b.proj x.2 i
 |_,_,_=>none
@[go_sem] def Ty.offs:Ty->Nat->pR
 | .pair _ _,0=>some 0
 | .pair a b,i+1=>(b.offs i).map fun o=>a.cells+o
 |_,_=>none
@[go_sem] def Ty.fld:Ty->Nat->Option Ty
 | .pair a _,0=>some a
 | .pair _ b,i+1=>b.fld i
 |_,_=>none
@[go_sem] def Ty.setPart (u:Ty) (y:u.den):(t:Ty)->t.den->Nat->Option t.den
 | .pair a b,x,0=>if h:u=a then some (v7 h y,x.2) else none
 | .pair a b,x,i+1=>(Ty.setPart u y b x.2 i).map fun z=>(x.1,z)
 |_,_,_=>none
inductive DV where
 |any
 |nilS
 |val (t:Ty) (x:t.den)
 |at (t:Ty) (x:t.den)
 |tup (l:List ((Σ t:Ty,t.den)×pR))
 |cond (p:Bool) (d:DV)
 |flag (p q:Prop)
 |own (k n:Nat)
 |elt (k n c:Nat) (i:Int) (o:Nat)
 |nxt (b:Bool) (p c:Int)
abbrev qE:=DV×pR
inductive qD where
 |cells (t:Ty) (x:t.den) (toks:pN)
 |grow (e:TypeId) (c:Nat) (n:Nat)
 |row (e:TypeId) (t:Ty) (l:List t.den) (n:Nat)
 |map (k v:Ty) (l:List (k.den×v.den))
 |iter (s:pF) (p:Nat)
 |dead
structure St where
 env:List (Nat×qE)
 H:List (Nat×qD)
 nb:Nat
 N:Nat
 np:Nat:=0
@[go_sem] def lk:List (Nat×qE)->Nat->qE
 |[],_=>(.any,none)
 |(k,s)::r,t=>if k=t then s else lk r t
@[go_sem] def qH:List (Nat×qD)->Nat->Option qD
 |[],_=>none
 |(k,s)::r,t=>if k=t then some s else qH r t
structure TI where
 ty:Ty
 elem:TypeId:=0
 bytes:Nat:=0
 arr:Bool:=false
 ls:List (Nat×TypeId×Nat):=[]
abbrev sY:=List (Nat×TI)
@[go_sem] def s0:sY->TypeId->Option TI
 |[],_=>none
 |(k,s)::r,t=>if k=t then some s else s0 r t
inductive PK where
 |v|own|p (t:Ty) (os:pS) |m|r|f (ks:List (Ty×pS))
structure qK where
 side:List Prop
 ret:List qE
 H:List qD
structure r5 where
 ps:List PK
 C:List qE->List qD->Option qK
 gs:List (Nat×Nat×PK):=[]
 same:pS:=[]
 row:Option ((t:Ty)->List t.den->Option (List t.den)):=none
abbrev uL:=Nat->Option r5
structure qU where
 side:List Prop
 slot:qE
 upd:List (Nat×qD)
 rds:pS
@[go_sem] def IW:pS->Bool
 |[]=>false
 |i::_=>if i=1000000000 then true else false
@[go_sem] def orE:Option qU->Option qU->Option qU
 |some r,_=>some r
 |none,r=>r
@[go_sem] def B7:Option (List Prop×DV)->Option qU
 |some (p,d)=>some ⟨p,(d,none),[],[]⟩
 |none=>none
@[go_sem] def a0c:pU->DV
 | .bool b=> .val .bool b
 | .int k n=> .val (.int k) n
 | .string s=> .val .str s.data.toList
 | .slice none 0 0=> .nilS
 | .pointer none=> .val .ref none
 | .nilFunc=> .val .clo none
 | .map none=> .val .mp none
 |_=> .any
@[go_sem] def uQ (env:List (Nat×qE)):Operand->qE
 | .tmp t=>lk env t
 | .const v=>(a0c v,none)
 | .func f=>(.val .clo (some (f,[])),none)
 | .global _=>(.any,none)
@[go_sem] def N8:Option TI->qE->qE
 |some ⟨.list t,_,_,_,_⟩,(.nilS,_)=>(.val (.list t) [],none)
 |_,s=>s
@[go_sem] def KY:IntKind->Int->List Prop×DV
 | .i64,n=>([-9223372036854775808<=n/\n<=9223372036854775807],.val (.int .i64) n)
 |k,n=>([],.val (.int k) (k.wrap n))
@[go_sem] def qZ {α:Type}:List α->List α->List α
 |[],m=>m
 |x::l,m=>x::qZ l m
@[go_sem] def CK:(t:Ty)->t.den->t.den->Option Bool
 | .bool,a,b=>some (a==b)
 | .int _,a,b=>some (decide ((a:Int)=b))
 | .str,a,b=>some (decide ((a:pF)=b))
 | .unit,_,_=>some true
 | .pair s t,a,b=>eqAnd (CK s a.1 b.1) (CK t a.2 b.2)
 |_,_,_=>none
where
 eqAnd:Option Bool->Option Bool->Option Bool
  |some x,some y=>some (x&&y)
  |_,_=>none
attribute [go_sem] CK.eqAnd
@[go_sem] def a0d (k:IntKind) (a b:Int):BinOp->Option (List Prop×DV)
 | .add=>some (KY k (a+b))
 | .sub=>some (KY k (a-b))
 | .mul=>some (KY k (a*b))
 | .eql=>some ([],.val .bool (decide (a=b)))
 | .neq=>some ([],.val .bool (!decide (a=b)))
 | .lss=>some ([],.val .bool (decide (a<b)))
 | .leq=>some ([],.val .bool (decide (a<=b)))
 | .gtr=>some ([],.val .bool (decide (b<a)))
 | .geq=>some ([],.val .bool (decide (b<=a)))
 | .quo=>some ([b≠0],.val (.int k) (k.wrap (Int.tdiv a b)))
 | .rem=>some ([b≠0],.val (.int k) (Int.tmod a b))
 | .and=>some ([],.val (.int k) (bits .and k a b))
 | .or=>some ([],.val (.int k) (bits .or k a b))
 | .xor=>some ([],.val (.int k) (bits .xor k a b))
 | .andNot=>some ([],.val (.int k) (bits .andNot k a b))
 |_=>none
def a0e (k:IntKind) (a b:Int):Int:=k.wrap (a*2^min b.toNat k.bits)
def yS (k:IntKind) (a b:Int):Int:=a.fdiv (2^min b.toNat k.bits)
@[go_sem] def aBn (k:IntKind) (a:Int) (k':IntKind) (b:Int):BinOp->Option (List Prop×DV)
 | .shl=>some ([0<=b],.val (.int k) (a0e k a b))
 | .shr=>some ([0<=b],.val (.int k) (yS k a b))
 |op=>if k=k' then a0d k a b op else none
@[go_sem] def a0f (a b:pF):BinOp->Option (List Prop×DV)
 | .add=>some ([((a++b).length:Int)<=9223372036854775807],.val .str (a++b))
 | .eql=>some ([],.val .bool (decide (a=b)))
 | .neq=>some ([],.val .bool (!decide (a=b)))
 | .lss=>some ([],.val .bool (Op.bytesLess a b))
 | .leq=>some ([],.val .bool (Op.bytesLess a b||decide (a=b)))
 | .gtr=>some ([],.val .bool (!(Op.bytesLess a b||decide (a=b))))
 | .geq=>some ([],.val .bool (!Op.bytesLess a b))
 |_=>none
@[go_sem] def aBo:BinOp->Option Bool->Option (List Prop×DV)
 | .eql,some r=>some ([],.val .bool r)
 | .neq,some r=>some ([],.val .bool (!r))
 |_,_=>none
@[go_sem] def UU (op:BinOp):qE->qE->Option (List Prop×DV)
 |(.val (.int k) a,_),(.val (.int k') b,_)=>aBn k a k' b op
 |(.val .str a,_),(.val .str b,_)=>a0f a b op
 |_,_=>none
@[go_sem] def aBp (k:IntKind) (a b:Int):BinOp->Option (List Prop×DV)
 | .add=>some ([],.val (.int k) (k.wrap (a+b)))
 | .sub=>some ([],.val (.int k) (k.wrap (a-b)))
 | .mul=>some ([],.val (.int k) (k.wrap (a*b)))
 |_=>none
@[go_sem] def UV (op:BinOp):Option TI->qE->qE->Option (List Prop×DV)
 |some ⟨.int _,_,_,true,_⟩,(.val (.int k) a,_),(.val (.int k') b,_)=>if k=k' then aBp k a b op else none
 |_,_,_=>none
@[go_sem] def aBq (u:Ty) (b:Nat) (op:BinOp) (t t':Ty) (x:t.den) (y:t'.den):Option (List Prop×DV):=
 if h:t'=t then(if t=u/\(t= .bool\/(t.isRow=true/\b=1)) then aBo op (CK t x (v7 h y)) else none) else none
@[go_sem] def UW {α:Type}(l:List α):BinOp->Option (List Prop×DV)
 | .eql=>some ([],.flag (l=[]) True)
 | .neq=>some ([],.flag True (l=[]))
 |_=>none
@[go_sem] def a0g:Option TI->BinOp->qE->qE->Option (List Prop×DV)
 |some ⟨.list _,_,_,_,_⟩,op,(.val (.list _) l,_),(.nilS,_)=>UW l op
 |some ⟨.list _,_,_,_,_⟩,op,(.nilS,_),(.val (.list _) l,_)=>UW l op
 |some ⟨u,_,b,_,_⟩,op,(.val t x,_),(.val t' y,_)=>aBq u b op t t' x y
 |_,_,_,_=>none
@[go_sem] def a0h:Option (List Prop×DV)->Option (List Prop×DV)->Option (List Prop×DV)
 |some r,_=>some r
 |none,r=>r
@[go_sem] def a0i:UnOp->qE->Option (List Prop×DV)
 | .not,(.val .bool b,_)=>some ([],.val .bool (!b))
 | .neg,(.val (.int k) n,_)=>some (KY k (-(n:Int)))
 |_,_=>none
def uC (l:pO):pF:=l.map fun n=>UInt8.ofNat n.toNat
def uY (s:pF):pO:=s.map fun b=>(b.toNat:Int)
@[go_sem] def UX:Option TI->Option TI->qE->Option (List Prop×DV)
 |some _,some ⟨.int k,_,_,_,_⟩,(.val (.int _) n,_)=>some ([],.val (.int k) (k.wrap n))
 |some _,some ⟨.str,_,_,_,_⟩,(.val .str s,_)=>some ([],.val .str s)
 |_,_,_=>none
@[go_sem] def aBr (l:pO):Option TI->Option (List Prop×DV)
 |some ⟨.int .u8,_,_,_,_⟩=>some ([],.val .str (uC l))
 |_=>none
@[go_sem] def a0j (T:sY):Option TI->Option TI->qE->Option (List Prop×DV)
 |some ⟨.list (.int .u8),e,_,_,_⟩,some ⟨.str,_,_,_,_⟩,(.val (.list (.int .u8)) l,_)=>aBr l (s0 T e)
 |_,_,_=>none
def sF {α:Type}(l:List α) (lo hi:Int):List α:=(l.drop lo.toNat).take (hi.toNat-lo.toNat)
@[go_sem] def ED:Option qE->Int->Option Int
 |none,d=>some d
 |some (.val (.int _) n,_),_=>some n
 |_,_=>none
@[go_sem] def UY (t:Ty) (n:Nat) (f:Int->Int->t.den):Option Int->Option Int->Option (List Prop×DV)
 |some a,some b=>some ([0<=a/\a<=b/\b<=(n:Int)],.val t (f a b))
 |_,_=>none
@[go_sem] def a0k:Option TI->qE->Option qE->Option qE->Option (List Prop×DV)
 |some ⟨.str,_,_,_,_⟩,(.val .str l,_),lo,hi=>UY .str (List.length l) (sF l) (ED lo 0) (ED hi (List.length l))
 |some ⟨.list u,_,_,_,_⟩,(.val (.list t) l,_),lo,hi=>if t=u then UY (.list t) (List.length l) (sF l) (ED lo 0) (ED hi (List.length l)) else none
 |_,_,_,_=>none
@[go_sem] def UZ (t:Ty) (x:t.den) (i:Nat):Option Ty->Option t.den
 |some (.list u)=>Ty.setPart (.list u) [] t x i
 |_=>none
@[go_sem] def B8 (t:Ty):Option t.den->List (Nat×qE)->Option t.den
 |some x,[]=>some x
 |some x,(i,(.val u y,_))::r=>B8 t (Ty.setPart u y t x i) r
 |some x,(i,(.nilS,_))::r=>B8 t (UZ t x i (t.fld i)) r
 |_,_=>none
@[go_sem] def DI (t:Ty):Nat->List t.den
 |0=>[]
 |n+1=>t.zero::DI t n
@[go_sem] def aBs (t:Ty) (n:Nat) (l:List t.den) (i:Nat) (u:Ty) (y:u.den):Option (List t.den):=if h:u=t/\i<n then some (l.set i (v7 h.1 y)) else none
@[go_sem] def BT (t:Ty) (n:Nat):Option (List t.den)->List (Nat×qE)->Option (List t.den)
 |some l,[]=>some l
 |some l,(i,(.val u y,_))::r=>BT t n (aBs t n l i u y) r
 |_,_=>none
attribute [go_sem] List.set_cons_zero List.set_cons_succ
@[go_sem] def KZ:List qE->Option pN
 |[]=>some []
 |(.val .ref (some p),_)::r=>(KZ r).map (p:: ·)
 |_=>none
@[go_sem] def xZ:pN->Nat->pR
 |[],_=>none
 |(o,k)::r,a=>if o=a then some k else xZ r a
@[go_sem] def yF:pR->Nat->pN
 |some k,o=>[(o,k)]
 |none,_=>[]
@[go_sem] def wG:pN->Nat->Nat->pN
 |[],_,_=>[]
 |(q,k)::r,o,n=>if o<=q/\q<o+n then wG r o n else(q,k)::wG r o n
@[go_sem] def FS:Ty->pR->pR
 | .list _,k=>k
 |_,_=>none
@[go_sem] def A0 {α:Type}:List α->List α->List α
 |[],acc=>acc
 |x::l,acc=>A0 l (x::acc)
inductive rV where
 |box (id:Nat) (u:Ty) (x:u.den) (toks:pN) (o:Nat)
 |tok (id:Nat)
@[go_sem] def rV.id:rV->Nat
 | .box i _ _ _ _=>i
 | .tok k=>k
@[go_sem] def CL:Nat->pS->Bool
 |_,[]=>false
 |i,j::r=>if i=j then true else CL i r
@[go_sem] def sK:List rV->pS
 |[]=>[]
 |w::r=>w.id::sK r
structure tI where
 args:List qE
 H:List qD
 ws:List rV
 n:Nat
@[go_sem] def L1:pS->Nat->pN
 |[],_=>[]
 |q::qs,n=>(q,n)::L1 qs (n+1)
@[go_sem] def CM (k:Nat):Option qD->Option tI->Option tI
 |some (.grow e c m),some a=>if CL k (sK a.ws)=true then none else some ⟨a.args,.grow e c m::a.H,.tok k::a.ws,a.n+1⟩
 |_,_=>none
@[go_sem] def A1 (H:List (Nat×qD)):pR->Option tI->Option tI
 |some k,a=>CM k (qH H k) a
 |none,_=>none
@[go_sem] def zF (H:List (Nat×qD)) (toks:pN) (o:Nat):pS->Option tI->Option tI
 |[],a=>a
 |q::qs,a=>zF H toks o qs (A1 H (xZ toks (o+q)) a)
@[go_sem] def N9 (n:Nat):pS->Bool
 |[]=>true
 |q::qs=>decide (q<n)&&N9 n qs
@[go_sem] def FT (H:List (Nat×qD)) (t:Ty) (os:pS) (i o:Nat) (u:Ty) (x:u.den) (toks:pN) (a:tI):Option t.den->Option tI
 |some y=>if (N9 t.cells os&& !CL i (sK a.ws))=true then zF H toks o os (some ⟨(.val .ref (some (a.n,0)),none)::a.args,.cells t y (L1 os (a.n+1))::a.H,.box i u x toks o::a.ws,a.n+1⟩) else none
 |none=>none
@[go_sem] def wP (H:List (Nat×qD)) (t:Ty) (os:pS) (i o:Nat) (a:tI):Option qD->Option tI
 |some (.cells u x toks)=>FT H t os i o u x toks a (rJ t u x o)
 |_=>none
@[go_sem] def CN (t:Ty) (x:t.den) (k:Nat) (a:tI):Option qD->Option tI
 |some (.grow e c m)=>if (t.pure&& !CL k (sK a.ws))=true then some ⟨(.val t x,some a.n)::a.args,.grow e c m::a.H,.tok k::a.ws,a.n+1⟩ else none
 |_=>none
@[go_sem] def V0 (t:Ty) (x:t.den) (a:tI):Option tI:=
 if t.pure=true then some ⟨(.val t x,none)::a.args,a.H,a.ws,a.n⟩ else none
@[go_sem] def V1 (f:FuncId) (a:tI):Option tI:=some ⟨(.val .clo (some (f,[])),none)::a.args,a.H,a.ws,a.n⟩
@[go_sem] def V2 (a:tI):Option tI:=some ⟨(.nilS,none)::a.args,a.H,a.ws,a.n⟩
@[go_sem] def CO (i:Nat) (a:tI):Option qD->Option tI
 |some (.map k v l)=>if (k.pure&&v.pure&& !CL i (sK a.ws))=true then some ⟨(.val .mp (some a.n),none)::a.args,.map k v l::a.H,.tok i::a.ws,a.n+1⟩ else none
 |_=>none
@[go_sem] def CP (k n:Nat) (a:tI):Option qD->Option tI
 |some (.row e t l m)=>if (t.pure&& !CL k (sK a.ws))=true then some ⟨(.own a.n n,none)::a.args,.row e t l m::a.H,.tok k::a.ws,a.n+1⟩ else none
 |_=>none
@[go_sem] def yG (H:List (Nat×qD)) (f:FuncId) (args:List qE):List (Ty×pS)->pN->pN->Option tI->Option tI
 |[],[],ids,some a=>some ⟨(.val .clo (some (f,A0 ids [])),none)::args,a.H,a.ws,a.n⟩
 |(t,os)::ks,(i,o)::cs,ids,some a=>yG H f args ks cs ((a.n,0)::ids) (wP H t os i o a (qH H i))
 |_,_,_,_=>none
@[go_sem] def yT (H:List (Nat×qD)) (a:tI):PK->qE->Option tI
 | .v,(.val .clo (some (f,[])),_)=>V1 f a
 | .v,(.val t x,_)=>V0 t x a
 | .v,(.nilS,_)=>V2 a
 | .own,(.val (.list t) x,some k)=>CN (.list t) x k a (qH H k)
 | .p t os,(.val .ref (some (i,o)),_)=>wP H t os i o a (qH H i)
 | .m,(.val .mp (some i),_)=>CO i a (qH H i)
 | .r,(.own k n,_)=>CP k n a (qH H k)
 | .f ks,(.val .clo (some (f,cs)),_)=>yG H f a.args ks cs [] (some a)
 |_,_=>none
@[go_sem] def yH (H:List (Nat×qD)):List PK->List qE->Option tI->Option tI
 |_,_,none=>none
 |[],[],some a=>some a
 |p::ps,s::ss,some a=>yH H ps ss (yT H a p s)
 |_,_,some _=>none
@[go_sem] def aK7:Option pQ->qE
 |some (some p)=>(.val .ref (some p),none)
 |_=>(.any,none)
@[go_sem] def aK8:Option pR->qE
 |some (some i)=>(.val .mp (some i),none)
 |_=>(.any,none)
@[go_sem] def aK9:Option pQ->qE
 |some (some (k,n))=>(.own k n,none)
 |_=>(.any,none)
@[go_sem] def H0:(t:Ty)->t.den->Nat->Option pQ
 | .rl _ _,x,0=>some x
 | .pair a b,x,o=>if o<a.cells then H0 a x.1 o else H0 b x.2 (o-a.cells)
 |_,_,_=>none
@[go_sem] def L2 (q:Nat):PK->Option qD->qE
 | .r,some (.cells t y _)=>aK9 (H0 t y q)
 | .p _ _,some (.cells t y _)=>aK7 (rJ .ref t y q)
 | .m,some (.cells t y _)=>aK8 (rJ .mp t y q)
 |_,_=>(.any,none)
@[go_sem] def IX:List qD->Nat->Option qD
 |[],_=>none
 |b::_,0=>some b
 |_::r,n+1=>IX r n
@[go_sem] def NA (l:List qE):Option tI->Option tI
 |some a=>some ⟨l,a.H,a.ws,a.n⟩
 |none=>none
@[go_sem] def BU (H:List (Nat×qD)):List (Nat×Nat×PK)->Option tI->Option tI
 |_,none=>none
 |[],some a=>some a
 |(c,q,pk)::r,some a=>BU H r (NA a.args (yT H a pk (L2 q pk (IX a.H (a.n-1-c)))))
@[go_sem] def H4 (i o:Nat):List rV->Nat->pQ
 |[],_=>none
 | .box j _ _ _ oc::r,c=>if j=i/\oc<=o then some (c,o-oc) else H4 i o r (c+1)
 | .tok _::r,c=>H4 i o r (c+1)
@[go_sem] def xA (i:Nat):List rV->Nat->pR
 |[],_=>none
 | .tok j::r,c=>if j=i then some c else xA i r (c+1)
 | .box _ _ _ _ _::r,c=>xA i r (c+1)
@[go_sem] def L3 {α β:Type}:Option α->Option β->Option (α×β)
 |some a,some b=>some (a,b)
 |_,_=>none
@[go_sem] def V3 (W:List rV):pQ->Option pQ
 |none=>some none
 |some (i,o)=>(H4 i o W 0).map some
@[go_sem] def aBt (W:List rV):pR->Option pR
 |none=>some none
 |some i=>(xA i W 0).map some
@[go_sem] def aBu (W:List rV):pQ->Option pQ
 |none=>some none
 |some (k,n)=>(xA k W 0).map fun c=>some (c,n)
@[go_sem] def QI:Option (Nat×pN)->Option (Option (Nat×pN))
 |none=>some none
 |some (f,[])=>some (some (f,[]))
 |_=>none
@[go_sem] def DJ (W:List rV):(t:Ty)->t.den->Option t.den
 | .ref,x=>V3 W x
 | .clo,x=>QI x
 | .mp,x=>aBt W x
 | .pair a b,x=>L3 (if a.pure=true then some x.1 else DJ W a x.1) (if b.pure=true then some x.2 else DJ W b x.2)
 | .list t,x=>if t.pure=true then some x else none
 | .bool,x=>some x
 | .int _,x=>some x
 | .str,x=>some x
 | .unit,x=>some x
 | .rl _ _,x=>aBu W x
 | .fn,x=>some x
 | .mref,x=>V3 W x
@[go_sem] def a0l:Option qD->Option (List qD)->Option (List qD)
 |some b,some l=>some (b::l)
 |_,_=>none
@[go_sem] def aLa (t:Ty) (ts:pN):Option t.den->Option qD
 |some y=>some (.cells t y ts)
 |none=>none
@[go_sem] def V4 (W:List rV):qD->Option qD
 | .cells t y ts=>if t.pure=true then some (.cells t y ts) else aLa t ts (DJ W t y)
 |b=>some b
@[go_sem] def IY (W:List rV):List qD->Option (List qD)
 |[]=>some []
 |b::r=>a0l (V4 W b) (IY W r)
@[go_sem] def B9:List rV->Nat->Option rV
 |[],_=>none
 |w::_,0=>some w
 |_::r,n+1=>B9 r n
@[go_sem] def NB (n:Nat) (c:Nat):Option rV->Bool
 |some _=>false
 |none=>decide (c<n)
@[go_sem] def BA (base n c:Nat):Option rV->pR
 |some (.box _ _ _ _ _)=>none
 |some (.tok k)=>some k
 |none=>if c<n then some (base+c) else none
@[go_sem] def aBv (base n c o:Nat):Option rV->qE
 |some (.box i _ _ _ o')=>(.val .ref (some (i,o'+o)),none)
 |wh=>if NB n c wh=true then(.val .ref (some (base+c,o)),none) else(.any,none)
@[go_sem] def L4 (base n:Nat) (W:List rV):pR->pR
 |some c=>BA base n c (B9 W c)
 |none=>none
@[go_sem] def aLb (m:Nat):pR->qE
 |some k=>(.own k m,none)
 |none=>(.any,none)
@[go_sem] def aLc:pR->qE
 |some k=>(.val .mp (some k),none)
 |none=>(.any,none)
@[go_sem] def a0m (base n c o:Nat):Option rV->pQ
 |some (.box i _ _ _ o')=>some (i,o'+o)
 |wh=>if NB n c wh=true then some (base+c,o) else none
@[go_sem] def aLd:pQ->Option pN->Option pN
 |some p,some l=>some (p::l)
 |_,_=>none
@[go_sem] def NC (base n:Nat) (W:List rV):pN->Option pN
 |[]=>some []
 |(c,o)::r=>aLd (a0m base n c o (B9 W c)) (NC base n W r)
@[go_sem] def aLe (f:Nat):Option pN->qE
 |some l=>(.val .clo (some (f,l)),none)
 |none=>(.any,none)
@[go_sem] def V5 (base n:Nat) (W:List rV):qE->qE
 |(.own c m,_)=>aLb m (L4 base n W (some c))
 |(.val .ref (some (c,o)),_)=>aBv base n c o (B9 W c)
 |(.val .ref none,_)=>(.val .ref none,none)
 |(.val .mp (some c),_)=>aLc (L4 base n W (some c))
 |(.val .mp none,_)=>(.val .mp none,none)
 |(.val .clo (some (f,cs)),_)=>aLe f (NC base n W cs)
 |(.val t x,k)=>if t.pure=true then(.val t x,L4 base n W (FS t k)) else(.any,none)
 |_=>(.any,none)
@[go_sem] def aLf (q:Nat):pR->pN->pN
 |some k,r=>(q,k)::r
 |none,r=>r
@[go_sem] def EE (base n:Nat) (W:List rV) (o:Nat):pN->pN
 |[]=>[]
 |(q,c)::r=>aLf (o+q) (BA base n c (B9 W c)) (EE base n W o r)
@[go_sem] def L5 (base n:Nat) (W:List rV):pQ->Option pQ
 |none=>some none
 |some (c,o)=>back2 c o (B9 W c)
where
 back2 (c o:Nat):Option rV->Option pQ
  |some (.box i _ _ _ o')=>some (some (i,o'+o))
  |wh=>if NB n c wh=true then some (some (base+c,o)) else none
attribute [go_sem] L5.back2
@[go_sem] def aBw (base n:Nat) (W:List rV):pR->Option pR
 |none=>some none
 |some c=>(BA base n c (B9 W c)).map some
@[go_sem] def aBx (base n:Nat) (W:List rV):pQ->Option pQ
 |none=>some none
 |some (c,q)=>(BA base n c (B9 W c)).map fun k=>some (k,q)
@[go_sem] def CQ (base n:Nat) (W:List rV):(t:Ty)->t.den->Option t.den
 | .ref,x=>L5 base n W x
 | .clo,x=>QI x
 | .mp,x=>aBw base n W x
 | .pair a b,x=>L3 (if a.pure=true then some x.1 else CQ base n W a x.1) (if b.pure=true then some x.2 else CQ base n W b x.2)
 | .list t,x=>if t.pure=true then some x else none
 | .bool,x=>some x
 | .int _,x=>some x
 | .str,x=>some x
 | .unit,x=>some x
 | .rl _ _,x=>aBx base n W x
 | .fn,x=>some x
 | .mref,x=>L5 base n W x
@[go_sem] def V6 (i o:Nat) (u t:Ty) (toks ts:pN):Option u.den->Option (Nat×qD)
 |some z=>some (i,.cells u z (qZ ts (wG toks o t.cells)))
 |none=>none
@[go_sem] def aBy (i:Nat) (t:Ty) (ts:pN):Option t.den->Option (Nat×qD)
 |some y=>some (i,.cells t y ts)
 |none=>none
@[go_sem] def EF (base n c:Nat) (W:List rV):qD->Option (Nat×qD)
 | .cells t y ts=>if t.pure=true then some (base+c,.cells t y (EE base n W 0 ts)) else aBy (base+c) t (EE base n W 0 ts) (CQ base n W t y)
 | .grow e m k=>some (base+c,.grow e m k)
 | .row e t l n=>if t.pure=true then some (base+c,.row e t l n) else none
 | .map k v l=>if (k.pure&&v.pure)=true then some (base+c,.map k v l) else none
 | .iter _ _=>none
 | .dead=>some (base+c,.dead)
@[go_sem] def AI (k:Nat):qD->Option (Nat×qD)
 | .cells _ _ _=>none
 | .grow e m n=>some (k,.grow e m n)
 | .row e t l n=>if t.pure=true then some (k,.row e t l n) else none
 | .map s v l=>if (s.pure&&v.pure)=true then some (k,.map s v l) else none
 | .iter _ _=>none
 | .dead=>some (k,.dead)
@[go_sem] def aBz (i o:Nat) (u t:Ty) (toks ts:pN) (x:u.den):Option t.den->Option (Nat×qD)
 |some y=>V6 i o u t toks ts (t8 t y u x o)
 |none=>none
@[go_sem] def yI (base n i o:Nat) (W:List rV) (u:Ty) (x:u.den) (toks:pN):qD->Option (Nat×qD)
 | .cells t y ts=>if t.pure=true then V6 i o u t toks (EE base n W o ts) (t8 t y u x o) else aBz i o u t toks (EE base n W o ts) x (CQ base n W t y)
 | .dead=>some (i,.dead)
 | .grow _ _ _=>none
 | .row _ _ _ _=>none
 | .map _ _ _=>none
 | .iter _ _=>none
@[go_sem] def QJ:Option (Nat×qD)->Option (List (Nat×qD))->Option (List (Nat×qD))
 |some q,some r=>some (q::r)
 |_,_=>none
@[go_sem] def BV (base n:Nat) (W:List rV):Nat->List rV->List qD->Option (List (Nat×qD))
 |_,[],[]=>some []
 |c,[],b::L=>QJ (EF base n c W b) (BV base n W (c+1) [] L)
 |c,.box i u x toks o::ws,b::L=>QJ (yI base n i o W u x toks b) (BV base n W (c+1) ws L)
 |c,.tok k::ws,b::L=>QJ (AI k b) (BV base n W (c+1) ws L)
 |_,_::_,[]=>none
@[go_sem] def H5:List qE->Option (List ((Σ t:Ty,t.den)×pR))
 |[]=>some []
 |(.val t x,k)::r=>(H5 r).map ((⟨t,x⟩,k):: ·)
 |(.own k n,_)::r=>(H5 r).map ((⟨.rl 0 .unit,some (k,n)⟩,none):: ·)
 |_=>none
@[go_sem] def aLg:Option (List ((Σ t:Ty,t.den)×pR))->qE
 |some q=>(.tup q,none)
 |none=>(.any,none)
@[go_sem] def ND:List qE->Option qE
 |[]=>some (.tup [],none)
 |[s]=>some s
 |s::s'::l=>some (aLg (H5 (s::s'::l)))
@[go_sem] def a0n (W:List rV):pS->pS
 |[]=>[]
 |c::r=>sameId (B9 W c) (a0n W r)
where
 sameId:Option rV->pS->pS
  |some w,r=>w.id::r
  |none,r=>r
attribute [go_sem] a0n.sameId
@[go_sem] def QK (side:List Prop) (rds:pS):Option (List (Nat×qD))->Option qE->Option qU
 |some H,some s=>some ⟨side,s,H,rds⟩
 |_,_=>none
@[go_sem] def QL (base n:Nat) (W:List rV):List qE->List qE
 |[]=>[]
 |s::r=>V5 base n W s::QL base n W r
@[go_sem] def r6:List qD->Nat
 |[]=>0
 |_::r=>r6 r+1
@[go_sem] def V7 (base:Nat) (W:List rV) (sm:pS):Option qK->Option qU
 |some r=>QK r.side (qZ (sK W) (a0n W sm)) (BV base (r6 r.H) W 0 W r.H) (ND (QL base (r6 r.H) W r.ret))
 |none=>none
@[go_sem] def V8 (C:List qE->List qD->Option qK) (sm:pS) (base:Nat) (W:List rV) (args:List qE):Option (List qD)->Option qU
 |some L=>V7 base W sm (C args L)
 |none=>none
@[go_sem] def QM (C:List qE->List qD->Option qK) (sm:pS) (base:Nat):Option tI->Option qU
 |some a=>V8 C sm base (A0 a.ws []) (A0 a.args []) (IY (A0 a.ws []) (A0 a.H []))
 |none=>none
@[go_sem] def H6 (H:List (Nat×qD)) (base:Nat) (args:List qE):Option r5->Option qU
 |some g=>QM g.C g.same base (BU H g.gs (yH H g.ps args (some ⟨[],[],[],0⟩)))
 |none=>none
@[go_sem] def QN:List PK->List qE->pR
 | .r::ps,_::ss=>QN ps ss
 |_::_,(.own k _,_)::_=>some k
 |_::ps,_::ss=>QN ps ss
 |_,_=>none
@[go_sem] def aBA (k:Nat) (t:Ty) (l:List t.den):qE->qE
 |(.own j m,x)=>if j=k then(.val (.list t) l,none) else(.own j m,x)
 |s=>s
@[go_sem] def QO (k:Nat) (t:Ty) (l:List t.den):List qE->List qE
 |[]=>[]
 |s::r=>aBA k t l s::QO k t l r
@[go_sem] def L6 (k n:Nat):List qE->List Prop
 |[]=>[]
 |(.own j m,_)::r=>(j=k->m=n)::L6 k n r
 |_::r=>L6 k n r
@[go_sem] def IZ:Ty->Bool
 | .list _=>false
 | .pair a b=>IZ a&&IZ b
 | .bool| .int _| .str| .unit| .fn=>true
 | .ref| .clo| .mp| .rl _ _| .mref=>false
@[go_sem] def qJ:List (Nat×qD)->pS
 |[]=>[]
 |(i,_)::r=>i::qJ r
@[go_sem] def NE:List (Nat×qD)->Bool
 |[]=>true
 |(_,.cells t _ [])::r=>IZ t&&NE r
 |_=>false
@[go_sem] def a0o (sd:List Prop) (k:Nat):Option qU->Option qU
 |some ⟨side,(.val t x,_),U,rds⟩=>if (IZ t&&NE U&& !CL k (qJ U))=true then some ⟨qZ sd side,(.val t x,none),U,k::rds⟩ else none
 |_=>none
@[go_sem] def QP (H:List (Nat×qD)) (base:Nat) (args:List qE) (g:r5) (k:Nat):Option qD->Option qU
 |some (.row _ t l m)=>a0o (L6 k m args) k (H6 ((k,.dead)::H) base (QO k t l args) (some g))
 |_=>none
@[go_sem] def aBB (H:List (Nat×qD)) (base:Nat) (args:List qE) (g:r5):pR->Option qU
 |some k=>QP H base args g k (qH H k)
 |none=>H6 H base args (some g)
@[go_sem] def aBC (k n m e:Nat) (t:Ty):Option (List t.den)->Option qU
 |some l=>some ⟨[n=m,m<4611686018427387904],(.tup [],none),[(k,.row e t l m)],[k]⟩
 |none=>none
@[go_sem] def a0p (F:(t:Ty)->List t.den->Option (List t.den)) (k n:Nat):Option qD->Option qU
 |some (.row e t l m)=>aBC k n m e t (F t l)
 |_=>none
@[go_sem] def V9 (H:List (Nat×qD)) (F:(t:Ty)->List t.den->Option (List t.den)):List qE->Option qU
 |[(.own k n,_)]=>a0p F k n (qH H k)
 |_=>none
@[go_sem] def a0q (base:Nat):Option TI->qE->Option qU
 |some ⟨.list u,e,_,true,_⟩,(.nilS,_)=>some ⟨[],(.own base 0,none),[(base,.row e u [] 0)],[]⟩
 |some ⟨.list u,e,_,false,_⟩,(.nilS,_)=>some ⟨[],(.val (.list u) [],some base),[(base,.grow e u.cells 0)],[]⟩
 |_,(.nilS,_)=>none
 |_,s=>some ⟨[],s,[],[]⟩
@[go_sem] def FU:Ty->Nat->Bool
 | .list _,0=>true
 | .pair a b,o=>if o<a.cells then FU a o else FU b (o-a.cells)
 |_,_=>false
@[go_sem] def FV (t:Ty):List (Nat×TypeId×Nat)->Bool
 |[]=>true
 |(o,_,_)::r=>FU t o&&FV t r
@[go_sem] def CR:List (Nat×TypeId×Nat)->Nat->pN
 |[],_=>[]
 |(o,_,_)::r,i=>(o,i)::CR r (i+1)
@[go_sem] def EG:List (Nat×TypeId×Nat)->Nat->List (Nat×qD)
 |[],_=>[]
 |(_,e,c)::r,i=>qZ (EG r (i+1)) [(i,.grow e c 0)]
@[go_sem] def a0r (e:Nat):Bool:=if e=73 then true else if e=aBk then true else false
@[go_sem] def a0s (e:Nat) (u:Ty) (o:Nat):pQ->List (Nat×Nat×Ty)
 |none=>[(o,e,u)]
 |some _=>[]
@[go_sem] def FW:(t:Ty)->t.den->Nat->List (Nat×Nat×Ty)
 | .rl e u,x,o=>a0s e u o x
 | .pair a b,x,o=>qZ (FW a x.1 o) (FW b x.2 (o+a.cells))
 |_,_,_=>[]
@[go_sem] def a0t (o:Nat):pQ->pS
 |none=>[o]
 |some _=>[]
@[go_sem] def H7:(t:Ty)->t.den->Nat->pS
 | .mref,x,o=>a0t o x
 | .pair a b,x,o=>qZ (H7 a x.1 o) (H7 b x.2 (o+a.cells))
 |_,_,_=>[]
@[go_sem] def aBD:Nat->pS->pS
 |2,[0]=>[0]
 |_,_=>[]
@[go_sem] def VA (el:Nat) (t:Ty) (y:t.den):pS:=if a0r el=true then aBD t.cells (H7 t y 0) else[]
@[go_sem] def L7 (t:Ty):Nat->List (Nat×Nat×Ty)->Option t.den->Option t.den
 |_,[],x=>x
 |i,(o,e,u)::r,some x=>L7 t (i+1) r (t8 (.rl e u) (some (i,0)) t x o)
 |_,_::_,none=>none
@[go_sem] def J0 (t:Ty) (i:Nat):pS->Option t.den->Option t.den
 |[],x=>x
 |q::r,some x=>J0 t i r (t8 .mref (some (i,q)) t x q)
 |_::_,none=>none
@[go_sem] def L8:List (Nat×Nat×Ty)->Nat->List (Nat×qD)
 |[],_=>[]
 |(_,e,u)::r,i=>qZ (L8 r (i+1)) [(i,.row e u [] 0)]
@[go_sem] def QQ {α:Type}:List α->Nat
 |[]=>0
 |_::r=>QQ r+1
@[go_sem] def aBE (base:Nat) (t:Ty) (ls:List (Nat×TypeId×Nat)) (R:List (Nat×Nat×Ty)):Option t.den->Option qU
 |some z=>some ⟨[],(.val .ref (some (base,0)),none),(base,.cells t z (CR ls (base+1)))::qZ (L8 R (base+1+QQ ls)) (EG ls (base+1)),[]⟩
 |none=>none
@[go_sem] def VB (base el:Nat) (t:Ty) (y:t.den) (ls:List (Nat×TypeId×Nat)):Bool->Option qU
 |true=>aBE base t ls (FW t y 0) (J0 t base (VA el t y) (L7 t (base+1+QQ ls) (FW t y 0) (some y)))
 |false=>none
@[go_sem] def CS (k:Nat):List (Nat×TypeId×Nat)->List (Nat×TypeId×Nat)
 |[]=>[]
 |(o,e,c)::r=>if o+1=k then CS k r else(o,e,c)::CS k r
@[go_sem] def aBF (base el:Nat) (ls:List (Nat×TypeId×Nat)):(t:Ty)->t.den->pR->Option qU
 | .pair a b,y,some k=>VB base el (.pair a b) y (CS k ls) (FV (.pair a b) (CS k ls))
 | .list u,y,k=>some ⟨[],(.val .ref (some (base,0)),none),[(base,.cells (.list u) y (yF k 0))],[]⟩
 |t,y,_=>some ⟨[],(.val .ref (some (base,0)),none),[(base,.cells t y [])],[]⟩
@[go_sem] def QR (base el:Nat):Option TI->Option qU
 |some ⟨.list u,e,_,_,_⟩=>some ⟨[],(.val .ref (some (base,0)),none),[(base,.cells (.list u) [] [(0,base+1)]),(base+1,.grow e u.cells 0)],[]⟩
 |some ti=>VB base el ti.ty ti.ty.zero ti.ls (FV ti.ty ti.ls)
 |none=>none
@[go_sem] def a0u (base el:Nat):Option TI->qE->Option qU
 |some ti,(.val t y,k)=>if t=ti.ty then aBF base el ti.ls t y k else none
 |_,_=>none
@[go_sem] def a0v (base el:Nat):Option TI->qE->Option qU
 |some ⟨.list u,e,b,a,ls⟩,(.nilS,_)=>QR base el (some ⟨.list u,e,b,a,ls⟩)
 |ti,s=>a0u base el ti (N8 ti s)
@[go_sem] def L9:Ty->Bool
 | .list _=>true
 | .pair a b=>L9 a||L9 b
 | .bool| .int _| .str| .unit| .ref| .clo| .mp| .rl _ _| .mref| .fn=>false
@[go_sem] def VC:pR->pR->pR
 |some o,some m=>if m=0 then some (o+1) else none
 |_,_=>none
@[go_sem] def a0w:Ty->Bool
 | .list _=>true
 | .pair _ _| .bool| .int _| .str| .unit| .ref| .clo| .mp| .rl _ _| .mref| .fn=>false
@[go_sem] def VD (u:Ty) (o m:pR):Bool->Bool->pR
 |false,_=>m
 |true,true=>VC o m
 |true,false=>none
@[go_sem] def BB (t:Ty):List (Nat×qE)->pR
 |[]=>some 0
 |(_,(.nilS,_))::r=>BB t r
 |(i,(.val u _,_))::r=>VD u (t.offs i) (BB t r) (L9 u) (a0w u)
 |_=>none
@[go_sem] def a0x:Ty->pR->pR
 | .pair _ _,m=>m
 |_,_=>none
@[go_sem] def aLh (t:Ty) (k:pR):Option t.den->Option qU
 |some x=>some ⟨[],(.val t x,k),[],[]⟩
 |none=>none
@[go_sem] def a0y (sl:List (Nat×qE)):Option TI->Option qU
 |some ti=>if ti.ty.isRow=true then aLh ti.ty (a0x ti.ty (BB ti.ty sl)) (B8 ti.ty (some ti.ty.zero) sl) else none
 |none=>none
@[go_sem] def VE (base e c n:Nat) (t:Ty):Option (List t.den)->Option qU
 |some l=>if n<=16777216/\n*c<=16777216 then some ⟨[],(.val (.list t) l,some base),[(base,.grow e c n)],[]⟩ else none
 |none=>none
@[go_sem] def aBG (base e n:Nat) (t:Ty):Option (List t.den)->Option qU
 |some l=>if t.pure=true/\n<=16777216/\n*t.cells<=16777216 then some ⟨[],(.own base n,none),[(base,.row e t l n)],[]⟩ else none
 |none=>none
@[go_sem] def a0z (base n:Nat) (sl:List (Nat×qE)):Option TI->Option qU
 |some ⟨.list u,e,_,true,_⟩=>if n=0 then aBG base e n u (BT u n (some (DI u n)) sl) else VE base e u.cells n u (BT u n (some (DI u n)) sl)
 |some ⟨.list u,e,_,false,_⟩=>VE base e u.cells n u (BT u n (some (DI u n)) sl)
 |_=>none
@[go_sem] def aBH (t:Ty) (k:pR) (i:Nat):Option t.den->Option qU
 |some y=>some ⟨[],(.val t y,k),[],[i]⟩
 |none=>none
@[go_sem] def QS (t:Ty) (i off:Nat):Option qD->Option qU
 |some (.cells u x toks)=>aBH t (FS t (xZ toks off)) i (rJ t u x off)
 |_=>none
@[go_sem] def aBI (u:Ty) (k n m:Nat):Option u.den->Option qU
 |some y=>some ⟨[n=m],(.val u y,none),[],[k]⟩
 |none=>none
@[go_sem] def QT (u:Ty) (k n c:Nat) (i:Int) (o:Nat):Option qD->Option qU
 |some (.row _ t l m)=>if c=t.cells then aBI u k n m (rJ u t (qR t l i) o) else none
 |_=>none
@[go_sem] def a0A (i:Nat):Option pQ->Option qU
 |some (some (k,n))=>some ⟨[],(.own k n,none),[],[i]⟩
 |_=>none
@[go_sem] def VF (i off:Nat):TI->Option qD->Option qU
 |⟨.list u,e,_,_,_⟩,some (.cells v x _)=>a0A i (rJ (.rl e u) v x off)
 |_,_=>none
@[go_sem] def orP:pQ->pQ->pQ
 |some p,_=>some p
 |none,q=>q
@[go_sem] def BW:(t:Ty)->t.den->pQ
 | .rl _ _,x=>x
 | .pair a b,x=>orP (BW a x.1) (BW b x.2)
 |_,_=>none
@[go_sem] def a0C (u0:Ty) (l:List u0.den) (u:Ty):pQ->Option (Σ t:Ty,t.den)
 |some _=>if u=u0 then some ⟨.list u0,l⟩ else none
 |none=>none
@[go_sem] def LA (a b:Ty) (x:a.den) (y:b.den):pQ->Option (Σ t:Ty,t.den)->Option (Σ t:Ty,t.den)->Option (Σ t:Ty,t.den)
 |some _,some ⟨a',x'⟩,_=>some ⟨.pair a' b,(x',y)⟩
 |some _,none,_=>none
 |none,_,some ⟨b',y'⟩=>some ⟨.pair a b',(x,y')⟩
 |none,_,none=>none
@[go_sem] def A2 (u0:Ty) (l:List u0.den):(t:Ty)->t.den->Option (Σ t:Ty,t.den)
 | .rl _ u,x=>a0C u0 l u x
 | .pair a b,x=>LA a b x.1 x.2 (BW a x.1) (A2 u0 l a x.1) (A2 u0 l b x.2)
 |_,_=>none
@[go_sem] def a0D (t:Ty) (i k:Nat) (sd:Prop) (e:TypeId) (c n:Nat) (v:Ty) (x:v.den):Option t.den->Option qU
 |some y=>some ⟨[sd],(.val t y,none),[(i,.cells v x []),(k,.grow e c n)],[1000000000,i,k]⟩
 |none=>none
@[go_sem] def a0E (t:Ty) (i off k:Nat) (sd:Prop) (e:TypeId) (c n:Nat):Option (Σ t:Ty,t.den)->Option qU
 |some ⟨v,x⟩=>a0D t i k sd e c n v x (rJ t v x off)
 |none=>none
@[go_sem] def VG (t:Ty) (i off k n0:Nat) (v:Ty) (x:v.den):Option qD->Option qU
 |some (.row e u0 l m)=>a0E t i off k (n0=m) e u0.cells (List.length l) (A2 u0 l v x)
 |_=>none
@[go_sem] def VH (H:List (Nat×qD)) (t:Ty) (i off:Nat) (v:Ty) (x:v.den):pQ->Option qU
 |some (k,n0)=>VG t i off k n0 v x (qH H k)
 |none=>none
@[go_sem] def J1 (H:List (Nat×qD)) (t:Ty) (i off:Nat):Option qD->Option qU
 |some (.cells v x _)=>VH H t i off v x (BW v x)
 |_=>none
@[go_sem] def orS (H:List (Nat×qD)) (t:Ty) (i off:Nat) (b:Option qD):Option qU->Option qU
 |some r=>some r
 |none=>J1 H t i off b
@[go_sem] def VI (H:List (Nat×qD)):Option TI->qE->Option qU
 |some ti,(.elt k n c i o,_)=>QT ti.ty k n c i o (qH H k)
 |some ti,(.at u x,_)=>if u=ti.ty then some ⟨[],(.val u x,none),[],[]⟩ else none
 |some ti,(.val .ref (some (i,off)),_)=>orS H ti.ty i off (qH H i) (orE (QS ti.ty i off (qH H i)) (VF i off ti (qH H i)))
 |_,_=>none
@[go_sem] def VJ (u:Ty) (i:Nat) (toks:pN):Option u.den->Option qU
 |some z=>some ⟨[],(.any,none),[(i,.cells u z toks)],[i]⟩
 |none=>none
@[go_sem] def VK (t:Ty) (y:t.den) (k:pR) (i off:Nat):Option qD->Option qU
 |some (.cells u x toks)=>VJ u i (qZ (yF (FS t k) off) (wG toks off t.cells)) (t8 t y u x off)
 |_=>none
@[go_sem] def NF (off:Nat):pN->pN
 |[]=>[]
 |(o,k)::r=>(off+o,k)::NF off r
@[go_sem] def aBK (u:Ty) (i:Nat) (nt toks:pN) (bs:List (Nat×qD)):Option u.den->Option qU
 |some z=>some ⟨[],(.any,none),(i,.cells u z (qZ nt toks))::qZ bs [(i,.cells u z toks)],[i]⟩
 |none=>none
@[go_sem] def VL (t:Ty) (y:t.den) (ls:List (Nat×TypeId×Nat)) (base i off:Nat):Option qD->Bool->Option qU
 |some (.cells u x toks),true=>aBK u i (NF off (CR ls base)) (wG toks off t.cells) (EG ls base) (t8 t y u x off)
 |_,_=>none
@[go_sem] def VM (base i off:Nat) (b:Option qD):List (Nat×TypeId×Nat)->(t:Ty)->t.den->pR->Option qU
 |q::r,.pair a c,y,some k=>VL (.pair a c) y (CS k (q::r)) base i off b (FV (.pair a c) (CS k (q::r)))
 |_,t,y,k=>VK t y k i off b
@[go_sem] def aBL (k n m:Nat) (e:TypeId) (t:Ty) (l:List t.den) (i:Int):Option t.den->Option qU
 |some z=>some ⟨[n=m],(.any,none),[(k,.row e t (l.set i.toNat z) m)],[k]⟩
 |none=>none
@[go_sem] def VN (u:Ty) (y:u.den) (k n c:Nat) (i:Int) (o:Nat):Option qD->Option qU
 |some (.row e t l m)=>if c=t.cells then aBL k n m e t l i (t8 u y t (qR t l i) o) else none
 |_=>none
@[go_sem] def a0F (b:Ty) (y:b.den):Option (Σ t:Ty,t.den)->Option (Σ t:Ty,t.den)
 |some ⟨a,x⟩=>some ⟨.pair a b,(x,y)⟩
 |none=>none
@[go_sem] def a0G (a:Ty) (x:a.den):Option (Σ t:Ty,t.den)->Option (Σ t:Ty,t.den)
 |some ⟨b,y⟩=>some ⟨.pair a b,(x,y)⟩
 |none=>none
@[go_sem] def yU (e:Nat) (u:Ty) (kn:pQ):(t:Ty)->t.den->Nat->Option (Σ t:Ty,t.den)
 | .list v,_,0=>if v=u then some ⟨.rl e u,kn⟩ else none
 | .pair a b,x,o=>if o<a.cells then a0F b x.2 (yU e u kn a x.1 o) else a0G a x.1 (yU e u kn b x.2 (o-a.cells))
 |_,_,_=>none
@[go_sem] def a0H (i:Nat):Option (Σ t:Ty,t.den)->Option qU
 |some ⟨v,z⟩=>some ⟨[],(.any,none),[(i,.cells v z [])],[1000000000,i]⟩
 |none=>none
@[go_sem] def orO (i off k n e:Nat) (u v:Ty) (x:v.den):Option qU->Option qU
 |some r=>some r
 |none=>a0H i (yU e u (some (k,n)) v x off)
@[go_sem] def a0I (i off k n:Nat):TI->Option qD->Option qU
 |⟨.list u,e,_,_,_⟩,some (.cells v x toks)=>orO i off k n e u v x (VJ v i (wG toks off 1) (t8 (.rl e u) (some (k,n)) v x off))
 |_,_=>none
@[go_sem] def VO (base:Nat) (H:List (Nat×qD)):Option TI->qE->qE->Option qU
 |some ti,(.val .ref (some (i,off)),_),(.own k n,_)=>a0I i off k n ti (qH H i)
 |some ti,(.elt k n c i o,_),(.val t y,_)=>if t=ti.ty then VN t y k n c i o (qH H k) else none
 |some ti,(.val .ref (some (i,off)),_),(.val t y,k)=>if t=ti.ty then VM base i off (qH H i) ti.ls t y k else none
 |_,_,_=>none
@[go_sem] def a0J:qE->Option qU
 |(.val .ref (some p),_)=>some ⟨[],(.val .ref (some p),none),[],[]⟩
 |(.at t x,_)=>some ⟨[],(.at t x,none),[],[]⟩
 |(.elt k n c i o,_)=>some ⟨[],(.elt k n c i o,none),[],[]⟩
 |_=>none
@[go_sem] def aBN (f:FuncId):Option pN->Option qU
 |some l=>some ⟨[],(.val .clo (some (f,l)),none),[],[]⟩
 |none=>none
@[go_sem] def aLi (f:FuncId) (l:Option pN):List Operand->Option qU
 |[]=>aBN f l
 |_=>none
@[go_sem] def VP (side:List Prop):Option (Σ t:Ty,t.den)->Option qU
 |some ⟨t,x⟩=>if 0<t.cells then some ⟨side,(.at t x,none),[],[]⟩ else none
 |none=>none
@[go_sem] def VQ (side:List Prop) (i off:Nat):pR->Option Ty->Option qU
 |some o,some u=>if 0<u.cells then some ⟨side,(.val .ref (some (i,off+o)),none),[],[]⟩ else none
 |_,_=>none
@[go_sem] def aBO (k n c:Nat) (i:Int) (o:Nat):pR->Option Ty->Option qU
 |some q,some u=>if 0<u.cells then some ⟨[],(.elt k n c i (o+q),none),[],[]⟩ else none
 |_,_=>none
@[go_sem] def a0K (f:Nat):Option TI->qE->Option qU
 |some ⟨t,_,_,false,_⟩,(.elt k n c i o,_)=>aBO k n c i o (t.offs f) (t.fld f)
 |some ⟨t,_,_,false,_⟩,(.at u y,_)=>if u=t then VP [] (u.proj y f) else none
 |some ⟨t,_,_,false,_⟩,(.val .ref (some (i,off)),_)=>VQ [] i off (t.offs f) (t.fld f)
 |_,_=>none
@[go_sem] def aLj:Option (Σ t:Ty,t.den)->Option qU
 |some ⟨t,x⟩=>some ⟨[],(.val t x,none),[],[]⟩
 |none=>none
@[go_sem] def a0L (f:Nat):Option TI->qE->Option qU
 |some ⟨t,_,_,false,_⟩,(.val u y,_)=>if u=t then aLj (u.proj y f) else none
 |_,_=>none
@[go_sem] def a0M:Option TI->qE->qE->Option qU
 |some ⟨.list t',_,_,_,_⟩,(.own k n,_),(.val (.int _) i,_)=>if 0<t'.cells then some ⟨[0<=i/\i<(n:Int)],(.elt k n t'.cells i 0,none),[],[]⟩ else none
 |some ⟨.list t',_,_,_,_⟩,(.val (.list t) l,_),(.val (.int _) i,_)=>if t=t' then some ⟨[0<=i/\i<(List.length l:Int)],(.at t (qR t l i),none),[],[]⟩ else none
 |some ⟨.pair a b,_,_,true,_⟩,(.val .ref (some (i,off)),_),(.val (.int _) n,_)=>VQ [(0:Int)<=n] i off ((Ty.pair a b).offs (Int.toNat n)) ((Ty.pair a b).fld (Int.toNat n))
 |some ⟨.pair a b,_,_,true,_⟩,(.at u x,_),(.val (.int _) n,_)=>if u= .pair a b then VP [(0:Int)<=n] (u.proj x (Int.toNat n)) else none
 |_,_,_=>none
@[go_sem] def a0N:Option TI->qE->qE->Option qU
 |some ⟨.str,_,_,_,_⟩,(.val .str l,_),(.val (.int _) i,_)=>some ⟨[0<=i/\i<(List.length l:Int)],(.val (.int .u8) (sJ l i),none),[],[]⟩
 |_,_,_=>none
@[go_sem] def aLk (e:Nat) (u:Ty):pQ->qE
 |some (k,n)=>(.own k n,none)
 |none=>(.val (.rl e u) none,none)
@[go_sem] def aLl:(t:Ty)->t.den->pR->qE
 | .rl e u,x,_=>aLk e u x
 | .bool,x,k=>(.val .bool x,k)
 | .int i,x,k=>(.val (.int i) x,k)
 | .str,x,k=>(.val .str x,k)
 | .list u,x,k=>(.val (.list u) x,k)
 | .unit,x,k=>(.val .unit x,k)
 | .pair a b,x,k=>(.val (.pair a b) x,k)
 | .ref,x,k=>(.val .ref x,k)
 | .clo,x,k=>(.val .clo x,k)
 | .mp,x,k=>(.val .mp x,k)
 | .mref,x,k=>(.val .mref x,k)
 | .fn,x,k=>(.val .fn x,k)
@[go_sem] def VR:List ((Σ t:Ty,t.den)×pR)->Nat->Option qU
 |[],_=>none
 |(⟨t,x⟩,k)::_,0=>some ⟨[],aLl t x k,[],[]⟩
 |_::r,n+1=>VR r n
@[go_sem] def aBP (b:Bool) (p c:Int):Nat->Option qU
 |0=>some ⟨[],(.val .bool b,none),[],[]⟩
 |1=>some ⟨[b=true],(.val (.int .i64) p,none),[],[]⟩
 |2=>some ⟨[b=true],(.val (.int .i32) c,none),[],[]⟩
 |_=>none
@[go_sem] def a0O (i:Nat):qE->Option qU
 |(.tup l,_)=>VR l i
 |(.nxt b p c,_)=>aBP b p c i
 |_=>none
@[go_sem] def VS (i:Nat):Option qD->Option qU
 |some (.map _ _ l)=>some ⟨[],(.val (.int .i64) (List.length l:Int),none),[],[i]⟩
 |_=>none
@[go_sem] def a0P (H:List (Nat×qD)):Option TI->List qE->Option qU
 |some ⟨.mp,_,_,_,_⟩,[(.val .mp (some i),_)]=>VS i (qH H i)
 |some ⟨.str,_,_,_,_⟩,[(.val .str l,_)]=>some ⟨[],(.val (.int .i64) (List.length l:Int),none),[],[]⟩
 |some ⟨.list _,_,_,_,_⟩,[(.val (.list _) l,_)]=>some ⟨[],(.val (.int .i64) (List.length l:Int),none),[],[]⟩
 |some ⟨.list _,_,_,_,_⟩,[(.own _ n,_)]=>some ⟨[],(.val (.int .i64) (n:Int),none),[],[]⟩
 |_,_=>none
@[go_sem] def VT (a:Ty) (l r:List a.den) (k e' by':Nat):Option qD->Option qU
 |some (.grow e c n)=>if e=e'/\c=a.cells/\0<c/\0<by' then some ⟨[List.length l=n,(List.length l+List.length r)*by'<=140737488355328],(.val (.list a) (l++r),some k),[(k,.grow e c (List.length (l++r)))],[k]⟩ else none
 |_=>none
@[go_sem] def VU (b:Ty) (r:List b.den) (k n e' by':Nat):Option qD->Option qU
 |some (.row e t l m)=>if h:b=t then(if e=e'/\0<t.cells/\0<by' then some ⟨[n=m,(n+List.length r)*by'<=140737488355328],(.own k (List.length (l++v7 (t:= .list b) (u:= .list t) (by rw[h]) r)),none),[(k,.row e t (l++v7 (t:= .list b) (u:= .list t) (by rw[h]) r) (List.length (l++v7 (t:= .list b) (u:= .list t) (by rw[h]) r)))],[k]⟩ else none) else none
 |_=>none
@[go_sem] def VV (H:List (Nat×qD)):Option TI->List qE->Option qU
 |some ⟨.list u,e,by',_,_⟩,[(.own k n,_),(.val (.list b) r,_)]=>if b=u then VU b r k n e by' (qH H k) else none
 |some ⟨.list u,e,by',_,_⟩,[(.val (.list a) l,some k),(.val (.list b) r,_)]=>if h:b=a/\a=u then VT a l (v7 (t:= .list b) (u:= .list a) (by rw[h.1]) r) k e by' (qH H k) else none
 |_,_=>none
@[go_sem] def VW (mx:Bool):List qE->Option (List Prop×DV)
 |[(.val (.int k) a,_),(.val (.int k') b,_)]=>if k=k' then some ([],.val (.int k) (if mx then max (a:Int) b else min (a:Int) b)) else none
 |_=>none
@[go_sem] def a0Q:pN->List qE
 |[]=>[]
 |c::r=>(.val .ref (some c),none)::a0Q r
@[go_sem] def VX (H:List (Nat×qD)) (base:Nat) (args:List qE) (g:r5):Option ((t:Ty)->List t.den->Option (List t.den))->Option qU
 |some F=>V9 H F args
 |none=>aBB H base args g (QN g.ps args)
@[go_sem] def LB (H:List (Nat×qD)) (base:Nat) (args:List qE):Option r5->Option qU
 |some g=>VX H base args g g.row
 |none=>none
@[go_sem] def QU (Γ:uL) (f:Nat):Option r5:=if f<1000000000 then Γ f else none
@[go_sem] def NH (Γ:uL) (H:List (Nat×qD)) (base:Nat) (args:List qE):qE->Option qU
 |(.val .clo (some (f,caps)),_)=>LB H base (args++a0Q caps) (QU Γ f)
 |(.val .fn (some f),_)=>LB H base args (QU Γ f)
 |_=>none
@[go_sem] def H8 (T:sY) (ρ:Operand->qE):List Operand->List TypeId->List qE
 |x::xs,t::ts=>N8 (s0 T t) (ρ x)::H8 T ρ xs ts
 |_,_=>[]
@[go_sem] def wH (ρ:Operand->qE):List Operand->List qE
 |[]=>[]
 |x::xs=>ρ x::wH ρ xs
@[go_sem] def v8 (ρ:Operand->qE):List (Nat×Operand)->List (Nat×qE)
 |[]=>[]
 |(i,x)::xs=>(i,ρ x)::v8 ρ xs
@[go_sem] def A3 (ρ:Operand->qE):Option Operand->Option qE
 |some x=>some (ρ x)
 |none=>none
@[go_sem] def VY (T:sY) (H:List (Nat×qD)) (ss:List qE):List TypeId->Option qU
 |t::_=>a0P H (s0 T t) ss
 |[]=>none
@[go_sem] def VZ (l:pO) (s:pF) (k e':Nat):Option qD->Option qU
 |some (.grow e c n)=>if e=e'/\c=1 then some ⟨[List.length l=n,List.length l+List.length s<=140737488355328],(.val (.list (.int .u8)) (l++uY s),some k),[(k,.grow e c (List.length (l++uY s)))],[k]⟩ else none
 |_=>none
@[go_sem] def a0R (H:List (Nat×qD)):Option TI->Option TI->List qE->Option qU
 |some ⟨.list (.int .u8),e,1,_,_⟩,some ⟨.str,_,_,_,_⟩,[(.val (.list (.int .u8)) l,some k),(.val .str s,_)]=>VZ l s k e (qH H k)
 |_,_,_=>none
@[go_sem] def W3 (T:sY) (H:List (Nat×qD)) (ss:List qE):List TypeId->Option qU
 |[t,u]=>if t=u then VV H (s0 T t) ss else a0R H (s0 T t) (s0 T u) ss
 |_=>none
@[go_sem] def LC:List Operand->List TypeId->Bool
 |[],[]=>true
 |_::xs,_::ts=>LC xs ts
 |_,_=>false
@[go_sem] def a0S (T:sY) (Γ:uL) (ρ:Operand->qE) (base:Nat) (H:List (Nat×qD)) (args:List Operand) (tys:List TypeId) (f:qE):Bool->Option qU
 |true=>NH Γ H base (H8 T ρ args tys) f
 |false=>none
@[go_sem] def LD (T:sY) (Γ:uL) (ρ:Operand->qE) (base:Nat) (H:List (Nat×qD)) (args:Array Operand) (tys:Array TypeId):Callee->Option qU
 | .builtin .len=>VY T H (wH ρ args.toList) tys.toList
 | .builtin .append=>W3 T H (wH ρ args.toList) tys.toList
 | .builtin .max=>B7 (VW true (wH ρ args.toList))
 | .builtin .min=>B7 (VW false (wH ρ args.toList))
 | .value f=>a0S T Γ ρ base H args.toList tys.toList (ρ f) (LC args.toList tys.toList)
 |_=>none
@[go_sem] def EH:Ty->Bool
 | .int _| .str| .bool=>true
 |_=>false
def H9:(k:Ty)->k.den->k.den->Bool
 | .int _,a,b=>decide ((a:Int)=b)
 | .str,a,b=>decide ((a:pF)=b)
 | .bool,a,b=>a==b
 |_,_,_=>false
def s9 (k v:Ty):List (k.den×v.den)->k.den->v.den
 |[],_=>v.zero
 |(x,y)::r,a=>if H9 k a x=true then y else s9 k v r a
def vW (k v:Ty):List (k.den×v.den)->k.den->Bool
 |[],_=>false
 |(x,_)::r,a=>if H9 k a x=true then true else vW k v r a
def tY (k v:Ty) (a:k.den) (b:v.den):List (k.den×v.den)->List (k.den×v.den)
 |[]=>[(a,b)]
 |(x,y)::r=>if H9 k a x=true then(a,b)::r else(x,y)::tY k v a b r
@[go_sem] def aBQ (base:Nat):Option TI->Option TI->Option qU
 |some k,some v=>if EH k.ty=true then some ⟨[],(.val .mp (some base),none),[(base,.map k.ty v.ty [])],[]⟩ else none
 |_,_=>none
@[go_sem] def a0T (T:sY) (base:Nat):Option TI->Option Operand->Option qU
 |some ⟨.mp,e,f,_,_⟩,none=>aBQ base (s0 T e) (s0 T f)
 |_,_=>none
@[go_sem] def W4 (k:Ty) (a:k.den) (u:Ty) (i:Nat) (ok:Bool):Option qD->Option qU
 |some (.map k' v l)=>if h:k=k'/\v=u then(if EH k=true then(match ok with
   |true=>some ⟨[],(.tup [(⟨v,s9 k' v l (v7 h.1 a)⟩,none),(⟨.bool,vW k' v l (v7 h.1 a)⟩,none)],none),[],[i]⟩
   |false=>some ⟨[],(.val v (s9 k' v l (v7 h.1 a)),none),[],[i]⟩) else none) else none
 |_=>none
@[go_sem] def a0U (H:List (Nat×qD)) (ok:Bool) (i:Nat):Option TI->Option TI->qE->Option qU
 |some kt,some vt,(.val k a,_)=>if k=kt.ty then W4 k a vt.ty i ok (qH H i) else none
 |_,_,_=>none
@[go_sem] def aBR (ok:Bool):Option TI->Option TI->qE->Option qU
 |some kt,some vt,(.val k _,_)=>if k=kt.ty then(if EH k=true then(match ok with
   |true=>some ⟨[],(.tup [(⟨vt.ty,vt.ty.zero⟩,none),(⟨.bool,false⟩,none)],none),[],[]⟩
   |false=>some ⟨[],(.val vt.ty vt.ty.zero,none),[],[]⟩) else none) else none
 |_,_,_=>none
@[go_sem] def W5 (T:sY) (H:List (Nat×qD)) (ok:Bool):Option TI->qE->qE->Option qU
 |some ⟨.mp,e,f,_,_⟩,(.val .mp (some i),_),s=>a0U H ok i (s0 T e) (s0 T f) s
 |some ⟨.mp,e,f,_,_⟩,(.val .mp none,_),s=>aBR ok (s0 T e) (s0 T f) s
 |_,_,_=>none
@[go_sem] def NI (k:Ty) (a:k.den) (u:Ty) (b:u.den) (i:Nat):Option qD->Option qU
 |some (.map k' v l)=>if h:k=k'/\u=v then(if EH k=true then some ⟨[],(.any,none),[(i,.map k' v (tY k' v (v7 h.1 a) (v7 h.2 b) l))],[i]⟩ else none) else none
 |_=>none
@[go_sem] def W6 (H:List (Nat×qD)) (i:Nat):Option TI->qE->qE->Option qU
 |some kt,(.val k a,_),(.val u b,_)=>if k=kt.ty then NI k a u b i (qH H i) else none
 |_,_,_=>none
@[go_sem] def aBS:Option TI->qE->qE
 |some ⟨.fn,_,_,_,_⟩,(.val .clo (some (f,[])),_)=>(.val .fn (some f),none)
 |_,s=>s
@[go_sem] def W7 (T:sY):Option TI->qE->qE
 |some ⟨.mp,_,f,_,_⟩,s=>aBS (s0 T f) s
 |_,s=>s
@[go_sem] def NJ (T:sY) (H:List (Nat×qD)):Option TI->qE->qE->qE->Option qU
 |some ⟨.mp,e,_,_,_⟩,(.val .mp (some i),_),s,x=>W6 H i (s0 T e) s x
 |_,_,_,_=>none
def y3 (s:pF) (p:Nat):Int:=((Utf8.decode ⟨s.toArray⟩ p).1:Int)
def a0V (s:pF) (p:Nat):Nat:=(Utf8.decode ⟨s.toArray⟩ p).2
def BC (s:pF) (p:Nat):Nat:=if p<s.length then p+a0V s p else p
@[go_sem] def a0W (base:Nat):Option TI->qE->Option qU
 |some ⟨.str,_,_,_,_⟩,(.val .str s,_)=>some ⟨[],(.val .ref (some (base,0)),none),[(base,.iter s 0)],[]⟩
 |_,_=>none
@[go_sem] def a0X (i:Nat):Option qD->Option qU
 |some (.iter s p)=>some ⟨[],(.nxt (decide (p<List.length s)) ((p:Nat):Int) (y3 s p),none),[(i,.iter s (BC s p))],[i]⟩
 |_=>none
@[go_sem] def W8 (H:List (Nat×qD)):Bool->qE->Option qU
 |true,(.val .ref (some (i,0)),_)=>a0X i (qH H i)
 |_,_=>none
@[go_sem] def vA (T:sY) (Γ:uL) (ty:TypeId) (ρ:Operand->qE) (base:Nat) (H:List (Nat×qD)):Op->Option qU
 | .move x| .assign x=>a0q base (s0 T ty) (ρ x)
 | .alloc e=>QR base e (s0 T e)
 | .box e x=>a0v base e (s0 T e) (ρ x)
 | .build t ps=>a0y (v8 ρ ps.toList) (s0 T t)
 | .buildSlice t n ps=>a0z base n (v8 ρ ps.toList) (s0 T t)
 | .load t a=>VI H (s0 T t) (ρ a)
 | .store t a x=>VO base H (s0 T t) (ρ a) (N8 (s0 T t) (ρ x))
 | .nilCheck x=>a0J (ρ x)
 | .binOp op t x y _=>B7 (a0h (UV op (s0 T t) (ρ x) (ρ y)) (a0h (UU op (ρ x) (ρ y)) (a0g (s0 T t) op (ρ x) (ρ y))))
 | .unOp op _ x=>B7 (a0i op (ρ x))
 | .convert src dst x=>B7 (a0h (UX (s0 T src) (s0 T dst) (ρ x)) (a0j T (s0 T src) (s0 T dst) (ρ x)))
 | .makeFunc (.func f) first caps=>aLi f (KZ (wH ρ caps.toList)) first.toList
 | .slice t x lo hi none=>B7 (a0k (s0 T t) (ρ x) (A3 ρ lo) (A3 ρ hi))
 | .fieldAddr t x f=>a0K f (s0 T t) (ρ x)
 | .field t x f=>a0L f (s0 T t) (ρ x)
 | .indexAddr t x ix=>a0M (s0 T t) (ρ x) (ρ ix)
 | .index t x ix=>a0N (s0 T t) (ρ x) (ρ ix)
 | .extract x i=>a0O i (ρ x)
 | .makeMap t r=>a0T T base (s0 T t) r
 | .range t x=>a0W base (s0 T t) (ρ x)
 | .next x b=>W8 H b (ρ x)
 | .lookup t x i ok=>W5 T H ok (s0 T t) (ρ x) (ρ i)
 | .mapUpdate t m k x=>NJ T H (s0 T t) (ρ m) (ρ k) (W7 T (s0 T t) (ρ x))
 | .insert t m k x=>NJ T H (s0 T t) (ρ m) (ρ k) (W7 T (s0 T t) (ρ x))
 | .call c=>LD T Γ ρ base H c.args c.argTypes c.callee
 |_=>none
@[go_sem] def yJ:qE->qE
 |(.cond _ d,_)=>(d,none)
 |s=>s
@[go_sem] def zP (G:Bool):List qE->List Prop
 |[]=>[]
 |(.cond p _,_)::r=>(G=true->p=true)::zP G r
 |_::r=>zP G r
@[go_sem] def aBT (b:Bool):qE->Option Bool
 |(.val .bool c,_)=>some (c==b)
 |(.cond p (.val .bool c),_)=>some (p&&(c==b))
 |_=>none
@[go_sem] def AJ:List Oper->Nat->Option Tmp
 |[],_=>none
 |o::_,0=>o.dst
 |_::r,n+1=>AJ r n
@[go_sem] def HA (env:List (Nat×qE)) (b:Bool):Option Tmp->Option Bool
 |some t=>aBT b (lk env t)
 |none=>none
@[go_sem] def aBU (b:Bool):qE->Bool
 |(.val .bool c,_)=>c==b
 |(.cond p (.val .bool c),_)=>p&&(c==b)
 |(.cond p .any,_)=>p
 |_=>true
@[go_sem] def LE (env:List (Nat×qE)) (b:Bool):Option Tmp->Bool
 |some t=>aBU b (lk env t)
 |none=>true
@[go_sem] def W9 (j:Nat) (b:Bool):Nat:=1000000000+(2*j+if b=true then 1 else 0)
@[go_sem] theorem aSV (x y:Bool):cond x y false=(x&&y):=by cases x<;>rfl
@[go_sem] theorem aSW (x y:Bool):cond x true y=(x||y):=by cases x<;>rfl
@[go_sem] def aBV (x:Bool):qE->qE->Option qU
 |(.val .bool y,_),(.val .bool z,_)=>some ⟨[],(.val .bool (cond x y z),none),[],[]⟩
 |(.cond p (.val .bool y),_),(.val .bool z,_)=>some ⟨[x=true->p=true],(.val .bool (cond x y z),none),[],[]⟩
 |(.val .bool y,_),(.cond p (.val .bool z),_)=>some ⟨[x=false->p=true],(.val .bool (cond x y z),none),[],[]⟩
 |(.cond q (.val .bool y),_),(.cond p (.val .bool z),_)=>some ⟨[x=true->q=true,x=false->p=true],(.val .bool (cond x y z),none),[],[]⟩
 |(.val .bool y,_),(.cond _ .any,_)=>some ⟨[x=true],(.val .bool y,none),[],[]⟩
 |(.cond q (.val .bool y),_),(.cond _ .any,_)=>some ⟨[x=true,q=true],(.val .bool y,none),[],[]⟩
 |(.cond _ .any,_),(.val .bool z,_)=>some ⟨[x=false],(.val .bool z,none),[],[]⟩
 |(.cond _ .any,_),(.cond p (.val .bool z),_)=>some ⟨[x=false,p=true],(.val .bool z,none),[],[]⟩
 |_,_=>none
@[go_sem] def QV:qE->qE->qE->Option qU
 |(.val .bool x,_),a,b=>aBV x a b
 |_,_,_=>none
@[go_sem] def sW:Op->List Operand
 | .move x| .assign x| .box _ x| .load _ x| .nilCheck x| .unOp _ _ x| .convert _ _ x| .fieldAddr _ x _| .field _ x _| .extract x _=>[x]
 | .build _ ps| .buildSlice _ _ ps=>parts ps.toList
 | .store _ a v| .binOp _ _ a v _| .indexAddr _ a v| .index _ a v=>[a,v]
 | .lookup _ a v _=>[a,v]
 | .range _ x| .next x _=>[x]
 | .mapUpdate _ m k x=>[m,k,x]
 | .insert _ m k x=>[m,k,x]
 | .makeFunc _ _ caps=>caps.toList
 | .slice _ x l h _=>x::qZ (opt l) (opt h)
 | .call ⟨.value f,args,_⟩=>f::args.toList
 | .call ⟨_,args,_⟩=>args.toList
 |_=>[]
where
 parts:List (Nat×Operand)->List Operand
  |[]=>[]
  |(_,x)::r=>x::parts r
 opt:Option Operand->List Operand
  |some x=>[x]
  |none=>[]
attribute [go_sem] sW.parts sW.opt
@[go_sem] def NK (l:List Prop):Option qU->Option qU
 |some e=>some ⟨qZ l e.side,e.slot,e.upd,e.rds⟩
 |none=>none
@[go_sem] def QW (G:Bool):List Prop->List Prop
 |[]=>[]
 |p::r=>(G=true->p)::QW G r
@[go_sem] def J2 (G:Bool) (l:List Prop):Option qU->Option qU
 |some ⟨side,(d,_),[],rds⟩=>some ⟨qZ l (QW G side),(.cond G d,none),[],rds⟩
 |some ⟨side,s,u::us,rds⟩=>some ⟨(G=true)::qZ l (QW G side),s,u::us,rds⟩
 |none=>none
@[go_sem] def CT (env:List (Nat×qE)):List Operand->List qE
 |[]=>[]
 |x::r=>uQ env x::CT env r
@[go_sem] def NL (T:sY) (Γ:uL) (o:Oper) (s:St):Option Bool->Op->Option qU
 |some G,.pick c a b=>J2 G (zP G [uQ s.env c]) (QV (yJ (uQ s.env c)) (uQ s.env a) (uQ s.env b))
 |some G,op=>J2 G (zP G (CT s.env (sW op))) (vA T Γ o.type (fun x=>yJ (uQ s.env x)) s.nb s.H op)
 |none,_=>none
@[go_sem] def aBW:Op->Bool
 | .defer _=>true
 |_=>false
@[go_sem] def aBX (up:Bool):Bool->Option qU
 |true=>none
 |false=>some ⟨[up=false],(.cond false .any,none),[],[]⟩
@[go_sem] def QX (T:sY) (Γ:uL) (o:Oper) (s:St) (up:Bool) (g:Option Bool) (op:Op):Option r5->Option qU
 |some _=>aBX up (aBW op)
 |none=>NL T Γ o s g op
@[go_sem] def NM (T:sY) (Γ:uL) (o:Oper) (s:St):Op->Option qU
 | .pick c a b=>QV (uQ s.env c) (uQ s.env a) (uQ s.env b)
 |op=>NK (zP true (CT s.env (sW op))) (vA T Γ o.type (fun x=>yJ (uQ s.env x)) s.nb s.H op)
@[go_sem] def J3 (np:Nat):List (Nat×qD)->Bool
 |[]=>true
 |(i,.cells _ _ _)::r=>if np<=i then J3 np r else false
 |_::r=>J3 np r
@[go_sem] def aBY (np:Nat) (e:qU):Bool->Option qU
 |true=>if J3 np e.upd=true then some e else none
 |false=>some e
@[go_sem] def a0Y (np:Nat):Option qU->Option qU
 |some e=>aBY np e (IW e.rds)
 |none=>none
@[go_sem] def NN (T:sY) (Γ:uL) (ops:List Oper) (o:Oper) (s:St):Option qU:=
 match o.guard with
 |none=>NM T Γ o s o.op
 |some (j,b)=>QX T Γ o s (LE s.env b (AJ ops j)) (HA s.env b (AJ ops j)) o.op (Γ (W9 j b))
@[go_sem] def zG (T:sY) (Γ:uL) (ops:List Oper) (o:Oper) (s:St):Option qU:=a0Y s.np (NN T Γ ops o s)
@[go_sem] def uM:Option Tmp->qE->List (Nat×qE)->List (Nat×qE)
 |some d,s,env=>(d,s)::env
 |none,_,env=>env
structure wA where
 s:St
 side:List Prop
 es:List qU
@[go_sem] def J4 (N:Nat):Option Tmp->Bool
 |some d=>decide (d<N)
 |none=>true
@[go_sem] def J5 (n:Nat):List (Nat×qD)->Bool
 |[]=>true
 |(i,_)::r=>decide (i<n)&&J5 n r
@[go_sem] def CU (i:Nat):pS->Bool
 |[]=>false
 |j::r=>if j=i then CL i r else CU i r
@[go_sem] def LF (H U:List (Nat×qD)) (rds:pS):List (Nat×qD)->List Prop
 |[]=>[]
 |(i,_)::r=>if CU i rds=true then(qH U i=qH H i)::LF H U rds r else LF H U rds r
@[go_sem] def J6 (rds:pS):List (Nat×qD)->List (Nat×qD)
 |[]=>[]
 |(i,b)::r=>if CU i rds=true then J6 rds r else(i,b)::J6 rds r
@[go_sem] def xO (e:qU):List (Nat×qD):=J6 e.rds e.upd
@[go_sem] def WA (o:Oper) (a:wA):Option qU->Option wA
 |some e=>if (J4 a.s.N o.dst&&J5 (a.s.nb+32) e.upd)=true then some ⟨⟨uM o.dst e.slot a.s.env,qZ e.upd a.s.H,a.s.nb+32,a.s.N,a.s.np⟩,qZ a.side (qZ (LF a.s.H e.upd e.rds e.upd) e.side),e::a.es⟩ else none
 |none=>none
@[go_sem] def vB (T:sY) (Γ:uL) (ops:List Oper):List Oper->Option wA->Option wA
 |[],a=>a
 |o::r,some a=>vB T Γ ops r (WA o a (zG T Γ ops o a.s))
 |_::_,none=>none
@[go_sem] def QY:List (Nat×qD)->pS->Bool
 |[],_=>false
 |(i,_)::r,l=>l.contains i||QY r l
@[go_sem] def HB (a b:qU):Bool:= !QY (xO a) (qZ b.rds (qJ b.upd))&& !QY (xO b) a.rds
def LG (lo:Nat):List (Nat×qD)->Bool
 |[]=>true
 |(i,_)::r=>(decide (i<lo)||decide (lo+32<=i))&&LG lo r
def WB (i0 j0:Nat) (ops:Array Oper) (bs:pS) (nb i:Nat) (o:Oper) (e:qU):List Oper->List qU->Nat->Bool
 |p::ps,f::fs,j=>((bs.getD j 0).testBit i||(o.apart ops p&&(HB e f||(decide (i=i0)&&decide (j=j0)))&&LG (nb+32*i) f.upd))&&WB i0 j0 ops bs nb i o e ps fs (j+1)
 |_,_,_=>true
def WC (i0 j0:Nat) (ops:Array Oper) (bs:pS) (nb:Nat):List Oper->List qU->Nat->Bool
 |o::os,e::es,i=>WB i0 j0 ops bs nb i o e os es (i+1)&&WC i0 j0 ops bs nb os es (i+1)
 |_,_,_=>true
def WD:List Oper->Nat->Bool
 |[],_=>true
 |o::r,i=>o.after.toList.all (fun e=> !Region.binds .any e||decide (e.on<i))&&WD r (i+1)
def NO (i0 j0:Nat) (ops:Array Oper) (nb:Nat) (es:List qU):Bool:=WD ops.toList 0&&WC i0 j0 ops (Region.before ops).toList nb ops.toList es 0
def LH (ops:Array Oper) (nb:Nat) (es:List qU):Bool:=NO ops.size 0 ops nb es
@[go_sem] def aBZ (ops:Array Oper) (nb:Nat):Option wA->Option wA
 |some a=>if LH ops nb a.es.reverse then some a else none
 |none=>none
@[go_sem] def QZ (T:sY) (Γ:uL) (ops:Array Oper) (s:St):Bool->Option wA
 |true=>aBZ ops s.nb (vB T Γ ops.toList ops.toList (some ⟨s,[],[]⟩))
 |false=>vB T Γ ops.toList ops.toList (some ⟨s,[],[]⟩)
inductive Ex where
 |normal|exit (id:Nat) |ret
structure wZ where
 slots:pS
 ids:pN:=[]
@[go_sem] def xP:pN->Nat->pR
 |[],_=>none
 |(n,o)::r,k=>if o=k then some n else xP r k
@[go_sem] def aB0 (m:pN):pQ->pQ
 |some (i,o)=>(xP m i).map fun j=>(j,o)
 |none=>none
@[go_sem] def CV (m:pN):pN->Option pN
 |[]=>some []
 |(i,o)::r=>renCons (xP m i) o (CV m r)
where
 renCons:pR->Nat->Option pN->Option pN
  |some j,o,some r=>some ((j,o)::r)
  |_,_,_=>none
attribute [go_sem] CV.renCons
@[go_sem] def aB1 (m:pN):pR->pR
 |some k=>xP m k
 |none=>none
@[go_sem] def aLm (n:Nat):pR->qE
 |some k=>(.own k n,none)
 |none=>(.any,none)
@[go_sem] def aB2 (m:pN):Option (Nat×pN)->Option (Option (Nat×pN))
 |none=>some none
 |some (f,l)=>(CV m l).map fun l'=>some (f,l')
@[go_sem] def WE (m:pN):pQ->Option pQ
 |none=>some none
 |some (i,o)=>(xP m i).map fun j=>some (j,o)
@[go_sem] def aB3 (m:pN):pR->Option pR
 |none=>some none
 |some i=>(xP m i).map some
@[go_sem] def aB4 (m:pN):pQ->Option pQ
 |none=>some none
 |some (k,n)=>(xP m k).map fun j=>some (j,n)
@[go_sem] def A4 (m:pN):(t:Ty)->t.den->Option t.den
 | .ref,x=>WE m x
 | .clo,x=>aB2 m x
 | .mp,x=>aB3 m x
 | .pair a b,x=>L3 (if a.pure=true then some x.1 else A4 m a x.1) (if b.pure=true then some x.2 else A4 m b x.2)
 | .list t,x=>if t.pure=true then some x else none
 | .bool,x=>some x
 | .int _,x=>some x
 | .str,x=>some x
 | .unit,x=>some x
 | .rl _ _,x=>aB4 m x
 | .fn,x=>some x
 | .mref,x=>WE m x
@[go_sem] def AK (m:pN):qE->qE
 |(.own k n,_)=>aLm n (xP m k)
 |(.val .ref none,_)=>(.val .ref none,none)
 |(.val .ref (some p),_)=>refSlot (aB0 m (some p))
 |(.val .clo (some (f,l)),_)=>cloSlot f (CV m l)
 |(.val .mp (some i),_)=>mpSlot (xP m i)
 |(.val t x,k)=>if t.pure then(.val t x,aB1 m (FS t k)) else valSlot t (A4 m t x)
 |(.at t x,_)=>if t.pure then(.at t x,none) else(.any,none)
 |(.nilS,_)=>(.nilS,none)
 |_=>(.any,none)
where
 refSlot:pQ->qE
  |some p=>(.val .ref (some p),none)
  |none=>(.any,none)
 cloSlot (f:Nat):Option pN->qE
  |some l=>(.val .clo (some (f,l)),none)
  |none=>(.any,none)
 valSlot (t:Ty):Option t.den->qE
  |some y=>(.val t y,none)
  |none=>(.any,none)
 mpSlot:pR->qE
  |some j=>(.val .mp (some j),none)
  |none=>(.any,none)
attribute [go_sem] AK.refSlot AK.cloSlot AK.mpSlot AK.valSlot
@[go_sem] def WF (q j:Nat):pN->pN
 |[]=>[(q,j)]
 |(a,b)::r=>if q<=a then(q,j)::(a,b)::r else(a,b)::WF q j r
@[go_sem] def LI (m:pN):pN->pN
 |[]=>[]
 |(q,k)::r=>renTok1 q (xP m k) (LI m r)
where
 renTok1 (q:Nat):pR->pN->pN
  |some j,r=>WF q j r
  |none,r=>r
attribute [go_sem] LI.renTok1
@[go_sem] def a0Z (t:Ty) (toks:pN):Option t.den->qD
 |some y=> .cells t y toks
 |none=> .dead
@[go_sem] def J7 (m:pN):Option qD->qD
 |some (.cells t x toks)=>if t.pure then .cells t x (LI m toks) else a0Z t (LI m toks) (A4 m t x)
 |some (.grow e c n)=> .grow e c n
 |some (.row e t l n)=>if t.pure then .row e t l n else .dead
 |some (.map k v l)=>if k.pure&&v.pure then .map k v l else .dead
 |some (.iter s p)=> .iter s p
 |_=> .dead
@[go_sem] def R0 (m:pN) (env:List (Nat×qE)):pS->List (Nat×qE)
 |[]=>[]
 |t::r=>(t,AK m (lk env t))::R0 m env r
@[go_sem] def WG (m:pN) (H:List (Nat×qD)):pN->List (Nat×qD)
 |[]=>[]
 |(n,o)::r=>(n,J7 m (qH H o))::WG m H r
@[go_sem] def WH:pN->Nat
 |[]=>0
 |(n,_)::r=>max (n+1) (WH r)
@[go_sem] def NP (n o:Nat):pN->Bool
 |[]=>false
 |(n',o')::r=>decide (n'=n)||decide (o'=o)||NP n o r
@[go_sem] def xQ (np:Nat):pN->Bool
 |[]=>true
 |(n,o)::r=>(decide (np<=n)||decide (n=o))&& !NP n o r&&xQ np r
@[go_sem] def R1 (s:St) (k:wZ):Bool->St
 |true=>⟨R0 k.ids s.env k.slots,WG k.ids s.H k.ids,max s.np (WH k.ids),s.N,s.np⟩
 |false=>⟨[],[],s.nb,s.N,s.np⟩
@[go_sem] def St.keep (s:St) (k:wZ):St:=R1 s k (xQ s.np k.ids)
@[go_sem] def rC:List Prop->Prop
 |[]=>True
 |[p]=>p
 |p::q::r=>p/\rC (q::r)
@[go_sem] def aB5 (Q:Ex->St->Prop):Option wA->Prop
 |some a=>rC a.side/\Q .normal a.s
 |none=>False
@[go_sem] def aB6 (A B:Prop):qE->Prop
 |(.val .bool x,_)=>(x=true->A)/\(x=false->B)
 |(.flag p q,_)=>(p->A)/\(q->B)
 |_=>False
@[go_sem] def R2 (f:St->Prop) (Q:Ex->St->Prop):Ex->St->Prop
 | .normal,s=>f s
 | .exit j,s=>Q (.exit j) s
 | .ret,s=>Q .ret s
@[go_sem] def J8 (id:Nat) (Q:Ex->St->Prop):Ex->St->Prop
 | .normal,s=>Q .normal s
 | .exit j,s=>if j=id then Q .normal s else Q (.exit j) s
 | .ret,s=>Q .ret s
@[go_sem] def aLn (I:St->Prop) (μ:St->Nat) (m:Nat) (Q:Ex->St->Prop):Ex->St->Prop
 | .normal,s=> ∃k:wZ,I (s.keep k)/\μ (s.keep k)<m
 | .exit j,s=>Q (.exit j) s
 | .ret,s=>Q .ret s
def xB (T:sY) (Γ:uL):Code->St->(Ex->St->Prop)->Prop
 | .skip,s,Q=>Q .normal s
 | .label _,s,Q=>Q .normal s
 | .region _ ops draw,s,Q=>aB5 Q (QZ T Γ ops s draw)
 | .seq a b,s,Q=>xB T Γ a s (R2 (fun s'=>xB T Γ b s' Q) Q)
 | .cond c a b,s,Q=>aB6 (xB T Γ a s Q) (xB T Γ b s Q) (uQ s.env c)
 | .block id c,s,Q=>xB T Γ c s (J8 id Q)
 | .loop c,s,Q=> ∃(k:wZ) (I:St->Prop) (μ:St->Nat),I (s.keep k)/\∀s,I s->xB T Γ c s (aLn I μ (μ s) Q)
 | .exit id,s,Q=>Q (.exit id) s
 | .ret,s,Q=>Q .ret s
 |_,_,_=>False
attribute [go_sem] Ty.list.injEq Ty.pair.injEq Ty.int.injEq
section
variable {T:sY}{Γ:uL}{s:St}{Q:Ex->St->Prop}
theorem aLo {id:Nat}{ops:Array Oper}{a:wA}(h:vB T Γ ops.toList ops.toList (some ⟨s,[],[]⟩)=some a) (hp:rC a.side) (hq:Q .normal a.s):xB T Γ (.region id ops false) s Q:=by
 unfold xB QZ;rw[h];exact⟨hp,hq⟩
theorem aLp {id:Nat}{ops:Array Oper}{a:wA}(h:vB T Γ ops.toList ops.toList (some ⟨s,[],[]⟩)=some a) (hf:LH ops s.nb a.es.reverse=true) (hp:rC a.side) (hq:Q .normal a.s):xB T Γ (.region id ops true) s Q:=by
 unfold xB QZ;rw[h];show aB5 Q (if LH ops s.nb a.es.reverse=true then some a else none);rw[aUU hf];exact⟨hp,hq⟩
end
end Go.Proofs.YtkpflnijijccpaaGreatDoor.Vc
namespace Go.Proofs.YtkpflnijijccpaaGreatDoor.Vc
open Go.RowKit
abbrev sD:=List (Nat×qD)
structure Pl where
 b:Nat
 o:Nat
 k:Option (TypeId×Nat):=none
structure Gh where
 S:Nat->Nat->Prop
 J:Nat->Option Pl
 cur:Nat->Nat->Option pU
def zH {α:Type}(R:α->pP->Prop) (w:pT) (S:Nat->Nat->Prop) (c b:Nat):Nat->List α->Prop
 |_,[]=>True
 |o,x::xs=>(∃cs,cs.length=c/\w.rangeAt b o cs/\(∀j,j<c->S b (o+j))/\R x cs)/\zH R w S c b (o+c) xs
def yV (g:Gh):pN->pP->Prop
 |[],vs=>vs=[]
 |(i,o)::l,vs=> ∃p vs',g.J i=some p/\vs= .pointer (some ⟨p.1,p.2+o,none⟩)::vs'/\yV g l vs'
def R3 (g:Gh):pQ->pP->Prop
 |none,cs=>cs=[.pointer none]
 |some (i,o),cs=> ∃p,g.J i=some p/\cs=[.pointer (some ⟨p.1,p.2+o,none⟩)]
def R4 (g:Gh):Option (Nat×pN)->pP->Prop
 |none,cs=>cs=[.nilFunc]
 |some (f,l),cs=> ∃vs,yV g l vs/\cs=[.func (.func f) #[] vs.toArray]
def LJ (g:Gh):pR->pP->Prop
 |none,cs=>cs=[.map none]
 |some i,cs=> ∃p,g.J i=some p/\cs=[.map (some p.1)]
def a00 (k:Option (TypeId×Nat)) (o:Nat):Prop:=o=0/\∃e,a0r e=true/\k=some (e,2)
def FX (g:Gh):pQ->pP->Prop
 |none,cs=>cs=[.slice none 0 0]
 |some (k,n),cs=> ∃v,g.cur k n=some v/\cs=[v]/\((v= .slice none 0 0/\n=0)\/∃b cap,v= .slice (some ⟨b,0,none⟩) n cap/\n<=cap)
def R5 (g:Gh):pQ->pP->Prop
 |none,cs=>cs=[.pointer none]
 |some (i,o),cs=> ∃p,g.J i=some p/\a00 p.3 (p.2+o)/\(cs=[.pointer none]\/cs=[.pointer (some ⟨p.1,p.2+o,none⟩)])
def aB7:pR->pP->Prop
 |none,cs=>cs=[.nilFunc]
 |some f,cs=>cs=[.func (.func f) #[] #[]]
def Rd (g:Gh) (w:pT):(t:Ty)->t.den->pP->Prop
 | .bool,x,cs=>cs=[.bool x]
 | .int k,n,cs=>cs=[.int k n]
 | .str,l,cs=>cs=[.string ⟨List.toArray l⟩]
 | .list t,l,cs=> ∃a cap,cs=[.slice a (List.length l) cap]/\List.length l<=cap/\(l=[]\/∃b o,a=some ⟨b,o,none⟩/\zH (Rd g w t) w g.S t.cells b o l)
 | .unit,_,cs=>cs=[]
 | .pair s t,x,cs=> ∃c1 c2,cs=c1++c2/\Rd g w s x.1 c1/\Rd g w t x.2 c2
 | .ref,x,cs=>R3 g x cs
 | .clo,x,cs=>R4 g x cs
 | .mp,x,cs=>LJ g x cs
 | .rl _ _,x,cs=>FX g x cs
 | .fn,x,cs=>aB7 x cs
 | .mref,x,cs=>R5 g x cs
def tT (g:Gh) (w:pT) (t:Ty) (x:t.den) (v:pU):Prop:=
 (t.isRow=true/\∃cs:pP,v= .agg cs.toArray/\Rd g w t x cs)\/(t.isRow=false/\Rd g w t x [v])
def yK (k:Nat):Ty->Nat->pP->Prop
 | .list _,o,cs=>o+1=k\/cs=[.slice none 0 0]
 | .pair a b,o,cs=> ∃c1 c2,cs=c1++c2/\c1.length=a.cells/\yK k a o c1/\yK k b (o+a.cells) c2
 |_,_,_=>True
def DK (g:Gh) (t:Ty) (x:t.den) (v:pU):pR->Prop
 |none=>True
 |some k=>match t,x with
  | .list _,l=>g.cur k (List.length l)=some v
  | .pair a b,_=>yK k (.pair a b) 0 v.cells.toList
  |_,_=>False
def NQ (g:Gh) (w:pT):List ((Σ t:Ty,t.den)×pR)->pP->Prop
 |[],vs=>vs=[]
 |(⟨t,x⟩,k)::l,vs=> ∃v vs',vs=v::vs'/\tT g w t x v/\DK g t x v k/\NQ g w l vs'
def AL (g:Gh) (w:pT):DV->pU->Prop
 | .any,_=>True
 | .nilS,v=>v= .slice none 0 0
 | .val t x,v=>tT g w t x v
 | .at t x,v=> ∃b o cs,v= .pointer (some ⟨b,o,none⟩)/\w.rangeAt b o cs/\(∀j,j<t.cells->g.S b (o+j))/\Rd g w t x cs
 | .tup l,v=> ∃vs:pP,v= .tuple vs.toArray/\NQ g w l vs
 | .cond p d,v=>(p=true->AL g w d v)/\(p=false->v=undef)
 | .flag p q,v=> ∃b,v= .bool b/\(b=true->p)/\(b=false->q)
 | .own k n,v=>g.cur k n=some v/\((v= .slice none 0 0/\n=0)\/∃b cap,v= .slice (some ⟨b,0,none⟩) n cap/\n<=cap)
 | .nxt b p c,v=>(b=true->v= .tuple #[.bool true,.int .i64 p,.int .i32 c])/\(b=false->v= .tuple #[.bool false])
 | .elt k n c i o,v=> ∃b cap,g.cur k n=some (.slice (some ⟨b,0,none⟩) n cap)/\0<=i/\i<(n:Int)/\v= .pointer (some ⟨b,i.toNat*c+o,none⟩)
def rX (g:Gh) (w:pT) (s:qE) (v:pU):Prop:=
 AL g w s.1 v/\match s with
  |(_,none)=>True
  |(.val t x,some k)=>DK g t x v (some k)
  |(_,some _)=>False
structure Le (g:Gh) (w:pT) (g':Gh) (w':pT):Prop where
 S: ∀b o,g.S b o->g'.S b o
 cell: ∀b o,g.S b o->w'.cell? ⟨b,o,none⟩=w.cell? ⟨b,o,none⟩
 J: ∀i p,g.J i=some p->g'.J i=some p
 cur: ∀k n v,g.cur k n=some v->g'.cur k n=some v
theorem Le.refl (g:Gh) (w:pT):Le g w g w:=⟨fun _ _ h=>h,fun _ _ _=>rfl,fun _ _ h=>h,fun _ _ _ h=>h⟩
theorem Le.trans {g g' g'':Gh}{w w' w'':pT}(h:Le g w g' w') (k:Le g' w' g'' w''):Le g w g'' w'':=
 ⟨fun b o x=>k.S b o (h.S b o x),fun b o x=>(k.cell b o (h.S b o x)).trans (h.cell b o x),fun i p x=>k.J i p (h.J i p x),fun i n v x=>k.cur i n v (h.cur i n v x)⟩
theorem a01 {g g':Gh}(hJ: ∀i p,g.J i=some p->g'.J i=some p): ∀{l:pN}{vs:pP},yV g l vs->yV g' l vs
 |[],_,h=>h
 |(_,_)::_,_,⟨p,vs',h1,h2,h3⟩=>⟨p,vs',hJ _ _ h1,h2,a01 hJ h3⟩
theorem aLq {g g':Gh}(hJ: ∀i p,g.J i=some p->g'.J i=some p): ∀{x:pQ}{cs:pP},R3 g x cs->R3 g' x cs
 |none,_,h=>h
 |some (_,_),_,⟨p,h1,h2⟩=>⟨p,hJ _ _ h1,h2⟩
theorem aLr {g g':Gh}(hJ: ∀i p,g.J i=some p->g'.J i=some p): ∀{x:Option (Nat×pN)}{cs:pP},R4 g x cs->R4 g' x cs
 |none,_,h=>h
 |some (_,_),_,⟨vs,h1,h2⟩=>⟨vs,a01 hJ h1,h2⟩
theorem aLs {g g':Gh}(hJ: ∀i p,g.J i=some p->g'.J i=some p): ∀{x:pR}{cs:pP},LJ g x cs->LJ g' x cs
 |none,_,h=>h
 |some _,_,⟨p,h1,h2⟩=>⟨p,hJ _ _ h1,h2⟩
theorem aLt {g g':Gh}(hc: ∀k n v,g.cur k n=some v->g'.cur k n=some v): ∀{x:pQ}{cs:pP},FX g x cs->FX g' x cs
 |none,_,h=>h
 |some (_,_),_,⟨v,h1,h2⟩=>⟨v,hc _ _ _ h1,h2⟩
theorem aLu {g g':Gh}(hJ: ∀i p,g.J i=some p->g'.J i=some p): ∀{x:pQ}{cs:pP},R5 g x cs->R5 g' x cs
 |none,_,h=>h
 |some (_,_),_,⟨p,h1,h2⟩=>⟨p,hJ _ _ h1,h2⟩
theorem a02 {α:Type}{R R':α->pP->Prop}{w w':pT}{S S':Nat->Nat->Prop}{c b:Nat}(hR: ∀x cs,R x cs->R' x cs) (hS: ∀o,S b o->S' b o)
  (hc: ∀o,S b o->w'.cell? ⟨b,o,none⟩=w.cell? ⟨b,o,none⟩): ∀{l:List α}{o:Nat},zH R w S c b o l->zH R' w' S' c b o l
 |[],_,_=>trivial
 |_::_,o,⟨⟨cs,h1,h2,h3,h4⟩,h5⟩=>⟨⟨cs,h1,fun j v hv=>by
   have hj:j<c:=h1▸(aVd.1 hv).1;rw[hc _ (h3 j hj)];exact h2 j v hv,fun j hj=>hS _ (h3 j hj),hR _ _ h4⟩,a02 hR hS hc h5⟩
theorem y4 {g g':Gh}{w w':pT}(h:Le g w g' w'): ∀{t:Ty}{x:t.den}{cs:pP},Rd g w t x cs->Rd g' w' t x cs
 | .bool,_,_,r=>r
 | .int _,_,_,r=>r
 | .str,_,_,r=>r
 | .unit,_,_,r=>r
 | .ref,_,_,r=>aLq h.J r
 | .clo,_,_,r=>aLr h.J r
 | .mp,_,_,r=>aLs h.J r
 | .rl _ _,_,_,r=>aLt h.cur r
 | .fn,_,_,r=>r
 | .mref,_,_,r=>aLu h.J r
 | .pair _ _,_,_,⟨c1,c2,e,r1,r2⟩=>⟨c1,c2,e,y4 h r1,y4 h r2⟩
 | .list _,_,_,⟨a,cap,e,hle,hl⟩=>⟨a,cap,e,hle,hl.imp id fun⟨b,o,ea,hr⟩=>⟨b,o,ea,a02 (fun _ _=>y4 h) (fun _=>h.S _ _) (fun _=>h.cell _ _) hr⟩⟩
theorem tC {g:Gh}{w:pT}: ∀{t:Ty}{x:t.den}{cs:pP},Rd g w t x cs->cs.length=t.cells
 | .bool,_,_,r=>by cases r;rfl
 | .int _,_,_,r=>by cases r;rfl
 | .str,_,_,r=>by cases r;rfl
 | .unit,_,_,r=>by cases r;rfl
 | .ref,none,_,r=>by cases r;rfl
 | .ref,some (_,_),_,⟨_,_,e⟩=>by cases e;rfl
 | .clo,none,_,r=>by cases r;rfl
 | .clo,some (_,_),_,⟨_,_,e⟩=>by cases e;rfl
 | .mp,none,_,r=>by cases r;rfl
 | .mp,some _,_,⟨_,_,e⟩=>by cases e;rfl
 | .fn,none,_,r=>by cases r;rfl
 | .fn,some _,_,r=>by cases r;rfl
 | .rl _ _,none,_,r=>by cases r;rfl
 | .rl _ _,some (_,_),_,⟨_,_,e,_⟩=>by cases e;rfl
 | .mref,none,_,r=>by cases r;rfl
 | .mref,some (_,_),_,⟨_,_,_,e⟩=>by rcases e with e|e<;>(cases e;rfl)
 | .pair _ _,_,_,⟨c1,c2,e,r1,r2⟩=>by rw[e,aUW,tC r1,tC r2];rfl
 | .list _,_,_,⟨_,_,e,_,_⟩=>by cases e;rfl
theorem WI {g g':Gh}{w w':pT}(h:Le g w g' w') {t:Ty}{x:t.den}{v:pU}(r:tT g w t x v):tT g' w' t x v:=
 r.imp (fun⟨a,cs,e,q⟩=>⟨a,cs,e,y4 h q⟩) (fun⟨a,q⟩=>⟨a,y4 h q⟩)
theorem aB8 {g g':Gh}{w w':pT}(h:Le g w g' w') {t:Ty}{x:t.den}{v:pU}{k:pR}(r:DK g t x v k):DK g' t x v k:=by
 cases k with
 |none=>trivial
 |some k=>
  cases t with
  |list u=>exact h.cur _ _ _ r
  |pair a b=>exact r
  |_=>exact r.elim
theorem aB9 {g g':Gh}{w w':pT}(h:Le g w g' w'): ∀{l:List ((Σ t:Ty,t.den)×pR)}{vs:pP},NQ g w l vs->NQ g' w' l vs
 |[],_,r=>r
 |(⟨_,_⟩,_)::_,_,⟨v,vs',e,r1,r2,r3⟩=>⟨v,vs',e,WI h r1,aB8 h r2,aB9 h r3⟩
theorem aCa {g g':Gh}{w w':pT}(h:Le g w g' w'): ∀{d:DV}{v:pU},AL g w d v->AL g' w' d v
 | .any,_,r=>r
 | .nilS,_,r=>r
 | .val _ _,_,r=>WI h r
 | .at t _,_,⟨b,o,cs,e,h1,h2,h3⟩=>⟨b,o,cs,e,fun j v hv=>by
   by_cases hj:j<t.cells
   .rw[h.cell _ _ (h2 j hj)];exact h1 j v hv
   .exact absurd (aVd.1 hv).1 (by rw[tC h3];exact hj),fun j hj=>h.S _ _ (h2 j hj),y4 h h3⟩
 | .tup _,_,⟨vs,e,r⟩=>⟨vs,e,aB9 h r⟩
 | .cond _ _,_,⟨r1,r2⟩=>⟨fun p=>aCa h (r1 p),r2⟩
 | .flag _ _,_,r=>r
 | .own _ _,_,⟨h1,h2⟩=>⟨h.cur _ _ _ h1,h2⟩
 | .nxt _ _ _,_,r=>r
 | .elt _ _ _ _ _,_,⟨b,cap,h1,h2⟩=>⟨b,cap,h.cur _ _ _ h1,h2⟩
theorem DL {g g':Gh}{w w':pT}(h:Le g w g' w') {s:qE}{v:pU}(r:rX g w s v):rX g' w' s v:=by
 obtain⟨d,k⟩:=s;refine⟨aCa h r.1,?_⟩;have r2:=r.2;cases k with
 |none=>trivial
 |some k=>
  cases d with
  |val t x=>exact aB8 h r2
  |_=>exact r2.elim
theorem BD {g:Gh}{w:pT}: ∀{t:Ty}{x:t.den}{cs:pP},Rd g w t x cs->∀v∈cs,v.oneCell'=true
 | .bool,_,_,r=>by cases r;intro v hv;simp at hv;subst hv;rfl
 | .int _,_,_,r=>by cases r;intro v hv;simp at hv;subst hv;rfl
 | .str,_,_,r=>by cases r;intro v hv;simp at hv;subst hv;rfl
 | .unit,_,_,r=>by cases r;intro v hv;simp at hv
 | .ref,none,_,r=>by cases r;intro v hv;simp at hv;subst hv;rfl
 | .ref,some (_,_),_,⟨_,_,e⟩=>by cases e;intro v hv;simp at hv;subst hv;rfl
 | .clo,none,_,r=>by cases r;intro v hv;simp at hv;subst hv;rfl
 | .clo,some (_,_),_,⟨_,_,e⟩=>by cases e;intro v hv;simp at hv;subst hv;rfl
 | .mp,none,_,r=>by cases r;intro v hv;simp at hv;subst hv;rfl
 | .mp,some _,_,⟨_,_,e⟩=>by cases e;intro v hv;simp at hv;subst hv;rfl
 | .fn,none,_,r=>by cases r;intro v hv;simp at hv;subst hv;rfl
 | .fn,some _,_,r=>by cases r;intro v hv;simp at hv;subst hv;rfl
 | .rl _ _,none,_,r=>by cases r;intro v hv;simp at hv;subst hv;rfl
 | .rl _ _,some (_,_),_,⟨_,_,e,hs⟩=>by
  cases e;intro v hv;simp at hv;subst hv;rcases hs with⟨rfl,_⟩ |⟨_,_,rfl,_⟩<;>rfl
 | .mref,none,_,r=>by cases r;intro v hv;simp at hv;subst hv;rfl
 | .mref,some (_,_),_,⟨_,_,_,e⟩=>by rcases e with e|e<;>(cases e;intro v hv;simp at hv;subst hv;rfl)
 | .pair _ _,_,_,⟨c1,c2,e,r1,r2⟩=>by
  subst e;intro v hv;rcases aVJ.1 hv with h|h
  .exact BD r1 v h
  .exact BD r2 v h
 | .list _,_,_,⟨_,_,e,_,_⟩=>by cases e;intro v hv;simp at hv;subst hv;rfl
theorem wQ {g g':Gh}{w:pT}(hS:g'.S=g.S): ∀{t:Ty}{x:t.den}{cs:pP},t.pure=true->Rd g w t x cs->Rd g' w t x cs
 | .bool,_,_,_,r=>r
 | .int _,_,_,_,r=>r
 | .str,_,_,_,r=>r
 | .unit,_,_,_,r=>r
 | .ref,_,_,h,_=>by simp [Ty.pure] at h
 | .clo,_,_,h,_=>by simp [Ty.pure] at h
 | .mp,_,_,h,_=>by simp [Ty.pure] at h
 | .rl _ _,_,_,h,_=>by simp [Ty.pure] at h
 | .fn,_,_,_,r=>r
 | .mref,_,_,h,_=>by simp [Ty.pure] at h
 | .pair _ _,_,_,h,⟨c1,c2,e,r1,r2⟩=>by
  simp only[Ty.pure,aU6] at h;exact⟨c1,c2,e,wQ hS h.1 r1,wQ hS h.2 r2⟩
 | .list _,_,_,h,⟨a,cap,e,hle,hl⟩=>by
  simp only[Ty.pure] at h;exact⟨a,cap,e,hle,hl.imp id fun⟨b,o,ea,hr⟩=>⟨b,o,ea,a02 (fun _ _ r=>wQ hS h r) (fun _ q=>by rw[hS];exact q) (fun _ _=>rfl) hr⟩⟩
def EI (g:Gh) (w:pT) (k v:Ty):List (k.den×v.den)->List MapEntry->Prop
 |[],es=>es=[]
 |(a,b)::l,es=> ∃e es',es=e::es'/\tT g w k a e.key/\tT g w v b e.val/\EI g w k v l es'
theorem a03 {g g':Gh}{w w':pT}(h:Le g w g' w') {k v:Ty}: ∀{l:List (k.den×v.den)}{es:List MapEntry},EI g w k v l es->EI g' w' k v l es
 |[],_,r=>r
 |_::_,_,⟨e,es',h1,h2,h3,h4⟩=>⟨e,es',h1,WI h h2,WI h h3,a03 h h4⟩
theorem aCb {g g':Gh}{w:pT}(hS:g'.S=g.S) {t:Ty}{x:t.den}{v:pU}(hp:t.pure=true) (r:tT g w t x v):tT g' w t x v:=
 r.imp (fun⟨a,cs,e,q⟩=>⟨a,cs,e,wQ hS hp q⟩) (fun⟨a,q⟩=>⟨a,wQ hS hp q⟩)
theorem R6 {g g':Gh}{w:pT}(hS:g'.S=g.S) {k v:Ty}(hk:k.pure=true) (hv:v.pure=true): ∀{l:List (k.den×v.den)}{es:List MapEntry},EI g w k v l es->EI g' w k v l es
 |[],_,r=>r
 |_::_,_,⟨e,es',h1,h2,h3,h4⟩=>⟨e,es',h1,aCb hS hk h2,aCb hS hv h3,R6 hS hk hv h4⟩
def uI {α:Type}(R:α->pP->Prop) (c:Nat):List α->pP->Prop
 |[],cs=>cs=[]
 |x::xs,cs=> ∃c1 c2,cs=c1++c2/\c1.length=c/\R x c1/\uI R c xs c2
theorem J9 {α:Type}{R:α->pP->Prop}{c:Nat}: ∀{l:List α}{cs:pP},uI R c l cs->cs.length=l.length*c
 |[],_,h=>by rw[h];simp
 |_::l,_,⟨c1,c2,e,h1,_,h3⟩=>by rw[e,aUW,h1,J9 h3,aUY,aV7];omega
theorem R7 {α:Type}{R:α->pP->Prop}{c:Nat}: ∀{l m:List α}{cs ds:pP},uI R c l cs->uI R c m ds->uI R c (l++m) (cs++ds)
 |[],_,_,_,h,k=>by rw[h];exact k
 |_::_,_,_,_,⟨c1,c2,e,h1,h2,h3⟩,k=>⟨c1,c2++_,by rw[e,aU0],h1,h2,R7 h3 k⟩
theorem DM {α:Type}{R R':α->pP->Prop}{c:Nat}(hR: ∀x cs,R x cs->R' x cs): ∀{l:List α}{cs:pP},uI R c l cs->uI R' c l cs
 |[],_,h=>h
 |_::_,_,⟨c1,c2,e,h1,h2,h3⟩=>⟨c1,c2,e,h1,hR _ _ h2,DM hR h3⟩
theorem EJ {g:Gh}{w:pT}{u:Ty}: ∀{t:Ty}{x:t.den}{cs:pP}{o:Nat}{y:u.den},Rd g w t x cs->rJ u t x o=some y->
  ∃c1 c2 c3,cs=c1++c2++c3/\c1.length=o/\Rd g w u y c2:=by
 intro t
 induction t with
 |pair a b iha ihb=>
  intro x cs o y r h;obtain⟨c1,c2,e,r1,r2⟩:=r;have key: ∀o,(if o<a.cells then rJ u a x.1 o else rJ u b x.2 (o-a.cells))=some y->∃d1 d2 d3,cs=d1++d2++d3/\d1.length=o/\Rd g w u y d2:=by
   intro o h;by_cases ho:o<a.cells
   .rw[aUU ho] at h;obtain⟨d1,d2,d3,e',hl,hr⟩:=iha r1 h;exact⟨d1,d2,d3++c2,by rw[e,e'];simp,hl,hr⟩
   .rw[aUX ho] at h;obtain⟨d1,d2,d3,e',hl,hr⟩:=ihb r2 h;refine⟨c1++d1,d2,d3,by rw[e,e'];simp,?_,hr⟩;rw[aUW,hl,tC r1];omega
  cases o with
  |zero=>
   unfold rJ at h;by_cases hu:Ty.pair a b=u
   .rw[aW0 hu] at h;subst hu;simp only[v7,aUT] at h;subst h;exact⟨[],cs,[],by simp,rfl,⟨c1,c2,e,r1,r2⟩⟩
   .rw[aWB hu] at h;refine key 0 ?_;simpa using h
  |succ o=>exact key (o+1) (by simpa[rJ] using h)
 |_=>
  intro x cs o y r h;cases o with
  |zero=>
   unfold rJ at h;split at h
   .rename_i hu;subst hu;simp only[v7,aUT] at h
    try subst h
    exact⟨[],cs,[],by simp,rfl,r⟩
   .simp at h
  |succ o=>simp [rJ] at h
theorem WJ {g:Gh}{w:pT}{u:Ty}{y:u.den}{cy:pP}(hy:Rd g w u y cy): ∀{t:Ty}{x z:t.den}{cs:pP}{o:Nat},Rd g w t x cs->t8 u y t x o=some z->
  ∃c1 c2 c3,cs=c1++c2++c3/\c1.length=o/\c2.length=u.cells/\Rd g w t z (c1++cy++c3):=by
 intro t
 induction t with
 |pair a b iha ihb=>
  intro x z cs o r h;obtain⟨c1,c2,e,r1,r2⟩:=r;have key: ∀o,(if o<a.cells then(t8 u y a x.1 o).map (fun q=>(q,x.2)) else(t8 u y b x.2 (o-a.cells)).map (fun q=>(x.1,q)))=some z->
    ∃d1 d2 d3,cs=d1++d2++d3/\d1.length=o/\d2.length=u.cells/\Rd g w (.pair a b) z (d1++cy++d3):=by
   intro o h;by_cases ho:o<a.cells
   .rw[aUU ho] at h;obtain⟨q,hq,rfl⟩:=aU1.1 h;obtain⟨d1,d2,d3,e',hl,hl2,hr⟩:=iha r1 hq;exact⟨d1,d2,d3++c2,by rw[e,e'];simp,hl,hl2,⟨d1++cy++d3,c2,by simp,hr,r2⟩⟩
   .rw[aUX ho] at h;obtain⟨q,hq,rfl⟩:=aU1.1 h;obtain⟨d1,d2,d3,e',hl,hl2,hr⟩:=ihb r2 hq;refine⟨c1++d1,d2,d3,by rw[e,e'];simp,?_,hl2,⟨c1,d1++cy++d3,by simp,r1,hr⟩⟩;rw[aUW,hl,tC r1];omega
  cases o with
  |zero=>
   unfold t8 at h;by_cases hu:u=Ty.pair a b
   .rw[aW0 hu] at h;subst hu;simp only[v7,aUT] at h;subst h;exact⟨[],cs,[],by simp,rfl,tC (t:= .pair a b) (x:=x) ⟨c1,c2,e,r1,r2⟩,by simpa using hy⟩
   .rw[aWB hu] at h;refine key 0 ?_;simpa using h
  |succ o=>exact key (o+1) (by simpa[t8] using h)
 |_=>
  intro x z cs o r h;cases o with
  |zero=>
   unfold t8 at h;split at h
   .rename_i hu;subst hu;simp only[v7,aUT] at h
    try subst h
    exact⟨[],cs,[],by simp,rfl,tC r,by simpa using hy⟩
   .simp at h
  |succ o=>simp [t8] at h
theorem aLv {e:Nat}{u:Ty}{kn:pQ}: ∀{t:Ty}{x:t.den}{o:Nat}{q: Σ t:Ty,t.den},yU e u kn t x o=some q->q.1.cells=t.cells:=by
 intro t
 induction t with
 |pair a b iha ihb=>
  intro x o q h;unfold yU at h;split at h
  .cases hq:yU e u kn a x.1 o with
   |none=>rw[hq] at h;cases h
   |some r=>
    obtain⟨a',x'⟩:=r;rw[hq] at h;simp only[a0F,aUT] at h;subst h;have:=iha hq;simp only[Ty.cells] at this|-;omega
  .cases hq:yU e u kn b x.2 (o-a.cells) with
   |none=>rw[hq] at h;cases h
   |some r=>
    obtain⟨b',y'⟩:=r;rw[hq] at h;simp only[a0G,aUT] at h;subst h;have:=ihb hq;simp only[Ty.cells] at this|-;omega
 |list v=>
  intro x o q h;cases o with
  |zero=>
   simp only[yU] at h;split at h
   .simp only[aUT] at h;subst h;rfl
   .cases h
  |succ o=>simp [yU] at h
 |_=>intro x o q h;cases o<;>simp [yU] at h
theorem aLw {g:Gh}{w:pT}{e:Nat}{u:Ty}{kn:pQ}{cy:pP}(hy:FX g kn cy): ∀{t:Ty}{x:t.den}{cs:pP}{o:Nat}{q: Σ t:Ty,t.den},Rd g w t x cs->yU e u kn t x o=some q->
  ∃c1 c2 c3,cs=c1++c2++c3/\c1.length=o/\c2.length=1/\Rd g w q.1 q.2 (c1++cy++c3):=by
 intro t
 induction t with
 |pair a b iha ihb=>
  intro x cs o q r h;obtain⟨c1,c2,e1,r1,r2⟩:=r;unfold yU at h;split at h
  .cases hq:yU e u kn a x.1 o with
   |none=>rw[hq] at h;cases h
   |some z=>
    obtain⟨a',x'⟩:=z;rw[hq] at h;simp only[a0F,aUT] at h;subst h;obtain⟨d1,d2,d3,e',hl,hl2,hr⟩:=iha r1 hq;exact⟨d1,d2,d3++c2,by rw[e1,e'];simp,hl,hl2,⟨d1++cy++d3,c2,by simp,hr,r2⟩⟩
  .cases hq:yU e u kn b x.2 (o-a.cells) with
   |none=>rw[hq] at h;cases h
   |some z=>
    obtain⟨b',y'⟩:=z;rw[hq] at h;simp only[a0G,aUT] at h;subst h;obtain⟨d1,d2,d3,e',hl,hl2,hr⟩:=ihb r2 hq;refine⟨c1++d1,d2,d3,by rw[e1,e'];simp,?_,hl2,⟨c1,d1++cy++d3,by simp,r1,hr⟩⟩;rw[aUW,hl,tC r1];omega
 |list v=>
  intro x cs o q r h;cases o with
  |zero=>
   simp only[yU] at h;split at h
   .simp only[aUT] at h;subst h;exact⟨[],cs,[],by simp,rfl,tC r,by rw[List.nil_append,List.append_nil];exact hy⟩
   .cases h
  |succ o=>simp [yU] at h
 |_=>intro x cs o q r h;cases o<;>simp [yU] at h
def HC (g:Gh) (t:Ty) (x:t.den) (cs:pP) (toks:pN):Prop:=
 ∀o k,(o,k)∈toks->∃(u:Ty) (l:List u.den) (v:pU),rJ (.list u) t x o=some l/\cs[o]? =some v/\g.cur k l.length=some v
def aLx (w:pT) (p:Pl) (n:Nat):Prop:=w.there p.1 p.2 n/\(0<n->∀s,p.3=some s->w.shape? p.1=some s)
theorem CW {w:pT}{b:Nat}{s:TypeId×Nat}(h:w.shape? b=some s):b<w.heap.size:=by
 unfold World.shape? at h;cases hb:w.heap[b]? with
 |none=>rw[hb] at h;cases h
 |some x=>exact(aVn.1 hb).1
theorem CX {w w':pT}{b:Nat}(h:w'.heap[b]? =w.heap[b]?):w'.shape? b=w.shape? b:=by
 unfold World.shape?;rw[h]
def AM (g:Gh) (w:pT) (i:Nat):qD->Prop
 | .cells t x toks=> ∃p cs,g.J i=some p/\Rd g w t x cs/\w.rangeAt p.1 p.2 cs/\aLx w p t.cells/\(∀j,j<t.cells->¬g.S p.1 (p.2+j))/\HC g t x cs toks
 | .grow e c n=> ∃v xs,g.cur i n=some v/\w.ownsRow 0 e c v n xs/\(∀m,n<m->g.cur i m=none)/\∀b,v.ownBlock=some b->∀o,g.S b o->o<n*c
 | .row e t l n=>l.length=n/\∃v xs,g.cur i n=some v/\w.ownsRow 0 e t.cells v n xs/\uI (Rd g w t) t.cells l xs/\(∀m,n<m->g.cur i m=none)/\∀b,v.ownBlock=some b->∀o,¬g.S b o
 | .map k v l=> ∃p es clock,g.J i=some p/\p.2=0/\w.heap[p.1]? =some (.map es clock)/\EI g w k v l es.toList/\∀o,¬g.S p.1 o
 | .iter s n=> ∃p,g.J i=some p/\p.2=0/\w.heap[p.1]? =some (.stringIter ⟨s.toArray⟩ n)/\∀o,¬g.S p.1 o
 | .dead=>True
def sG (g:Gh) (i:Nat):qD->Nat->Nat->Prop
 | .cells t _ _,b,o=> ∃p,g.J i=some p/\b=p.1/\p.2<=o/\o<p.2+t.cells
 | .grow _ _ n,b,_=> ∃v,g.cur i n=some v/\v.ownBlock=some b
 | .row _ _ _ n,b,_=> ∃v,g.cur i n=some v/\v.ownBlock=some b
 | .map _ _ _,b,_=> ∃p,g.J i=some p/\b=p.1
 | .iter _ _,b,_=> ∃p,g.J i=some p/\b=p.1
 | .dead,_,_=>False
structure sM (g:Gh) (w:pT) (H:sD):Prop where
 blk: ∀i b,qH H i=some b->AM g w i b
 dis: ∀i j bi bj b o,i≠j->qH H i=some bi->qH H j=some bj->sG g i bi b o->sG g j bj b o->False
 sl: ∀b o,g.S b o->b<w.heap.size
 tab:DH w/\∀i blk b o,qH H i=some blk->sG g i blk b o->NG<=b
def tE (g:Gh) (H:sD) (ids:pS) (b o:Nat):Prop:= ∃i blk,i∈ids/\qH H i=some blk/\sG g i blk b o
structure Fr (A:Nat->Nat->Prop) (w w':pT) (S S':Nat->Nat->Prop):Prop where
 os:w'.os=w.os
 tape:w'.tape=w.tape
 output:w'.output=w.output
 size:w.heap.size<=w'.heap.size
 blk: ∀b,b<w.heap.size->(∀o,¬A b o)->w'.heap[b]? =w.heap[b]?
 cell: ∀b o,b<w.heap.size->¬A b o->w'.cell? ⟨b,o,none⟩=w.cell? ⟨b,o,none⟩/\w'.frozen? ⟨b,o,none⟩=w.frozen? ⟨b,o,none⟩
 new: ∀b o,S' b o->S b o\/w.heap.size<=b\/A b o
 shape: ∀b s,w.shape? b=some s->w'.shape? b=some s\/∀o,A b o
theorem Fr.refl (A:Nat->Nat->Prop) (w:pT) (S:Nat->Nat->Prop):Fr A w w S S:=
 ⟨rfl,rfl,rfl,aVi _,fun _ _ _=>rfl,fun _ _ _ _=>⟨rfl,rfl⟩,fun _ _ h=> .inl h,fun _ _ h=> .inl h⟩
theorem Fr.trans {A B:Nat->Nat->Prop}{w w' w'':pT}{S S' S'':Nat->Nat->Prop}(h:Fr A w w' S S') (k:Fr B w' w'' S' S'') (hB: ∀b o,B b o->w.heap.size<=b\/A b o):Fr A w w'' S S'':=by
 refine⟨k.os.trans h.os,k.tape.trans h.tape,k.output.trans h.output,aVZ h.size k.size,fun b hb hA=> ?_,fun b o hb hA=> ?_,fun b o hs=> ?_,fun b s hs=> ?_⟩
 .refine(k.blk b (aVz hb h.size) fun o ho=> ?_).trans (h.blk b hb hA);rcases hB b o ho with h1|h1
  .omega
  .exact hA o h1
 .have h1:=h.cell b o hb hA;have h2:=k.cell b o (aVz hb h.size) (fun ho=>by
   rcases hB b o ho with h1|h1
   .omega
   .exact hA h1)
  exact⟨h2.1.trans h1.1,h2.2.trans h1.2⟩
 .rcases k.new b o hs with h1|h1|h1
  .exact h.new b o h1
  .exact .inr (.inl (aVZ h.size h1))
  .exact .inr (hB b o h1)
 .rcases h.shape b s hs with h1|h1
  .rcases k.shape b s h1 with h2|h2
   .exact .inl h2
   .refine .inr fun o=>(hB b o (h2 o)).resolve_left ?_;have:=CW hs;omega
  .exact .inr h1
structure sH (g:Gh) (w:pT) (H:sD) (e:qU) (g':Gh) (w':pT) (v:pU):Prop where
 le:Le g w g' w'
 slot:rX g' w' e.slot v
 heap:sM g' w' (qZ e.upd H)
 fr:Fr (tE g H (qJ e.upd)) w w' g.S g'.S
 perm: ∀i blk b o,i∈qJ e.upd->qH (qZ e.upd H) i=some blk->sG g' i blk b o->w.heap.size<=b\/tE g H (qJ e.upd) b o
 gho: ∀i,i∉qJ e.upd->g'.J i=g.J i/\g'.cur i=g.cur i
 ty: ∀i u y us,qH (qZ e.upd H) i=some (.cells u y us)->(∃x ts,qH H i=some (.cells u x ts))\/(g.J i=none/\∀n,g.cur i n=none)
structure A5 (g:Gh) (w:pT) (H:sD) (e:qU) (g':Gh) (w':pT) (v:pU):Prop where
 le:Le g w g' w'
 slot:rX g' w' e.slot v
 heap:sM g' w' (qZ e.upd H)
 fr:Fr (tE g H (qJ e.upd)) w w' g.S g'.S
 perm: ∀i blk b o,i∈qJ e.upd->qH (qZ e.upd H) i=some blk->sG g' i blk b o->w.heap.size<=b\/tE g H (qJ e.upd) b o
 gho: ∀i,i∉qJ e.upd->g'.J i=g.J i/\g'.cur i=g.cur i
 ty:IW e.rds=false->∀i u y us,qH (qZ e.upd H) i=some (.cells u y us)->(∃x ts,qH H i=some (.cells u x ts))\/(g.J i=none/\∀n,g.cur i n=none)
theorem sH.w {g:Gh}{w:pT}{H:sD}{e:qU}{g':Gh}{w':pT}{v:pU}(h:sH g w H e g' w' v):A5 g w H e g' w' v:=⟨h.le,h.slot,h.heap,h.fr,h.perm,h.gho,fun _=>h.ty⟩
theorem R9 {w:pT}{B:Nat}{e:TypeId}{c n:Nat}{v:pU}{xs:pP}(h:w.ownsRow B e c v n xs) {b:Nat}(hb:v.ownBlock=some b):b<w.heap.size:=(h.lt b hb).2
theorem WK {w:pT}{b o:Nat}{v:pU}(h:w.cell? ⟨b,o,none⟩=some v):b<w.heap.size:=by
 have:=World.block_lt_of_cell? w ⟨b,o,none⟩ h;exact this
theorem NR {g:Gh}{w:pT}{i:Nat}{blk:qD}(h:AM g w i blk) {b o:Nat}(ho:sG g i blk b o):b<w.heap.size:=by
 cases blk with
 |cells t x toks=>
  obtain⟨p,cs,hp,_,_,ht,_⟩:=h;obtain⟨q,hq,rfl,h1,h2⟩:=ho;rw[hp] at hq;obtain rfl:=aUZ hq;have:=(ht.1 (o-p.2) pI).1;obtain⟨v,hv⟩:=aUV.1 this;exact WK hv
 |grow e c n=>
  obtain⟨v,xs,hv,hr,_⟩:=h;obtain⟨v',hv',hb⟩:=ho;rw[hv] at hv';obtain rfl:=aUZ hv';exact R9 hr hb
 |row e t l n=>
  obtain⟨_,v,xs,hv,hr,_⟩:=h;obtain⟨v',hv',hb⟩:=ho;rw[hv] at hv';obtain rfl:=aUZ hv';exact R9 hr hb
 |map k v l=>
  obtain⟨p,es,cl,hp,_,hh,_,_⟩:=h;obtain⟨q,hq,rfl⟩:=ho;rw[hp] at hq;obtain rfl:=aUZ hq;exact(aVn.1 hh).1
 |iter s n=>
  obtain⟨p,hp,_,hh,_⟩:=h;obtain⟨q,hq,rfl⟩:=ho;rw[hp] at hq;obtain rfl:=aUZ hq;exact(aVn.1 hh).1
 |dead=>exact ho.elim
theorem aCc {g g':Gh}(hc: ∀k n v,g.cur k n=some v->g'.cur k n=some v) {t:Ty}{x:t.den}{cs:pP}{toks:pN}(h:HC g t x cs toks):HC g' t x cs toks:=
 fun o k hm=>let ⟨u,l,v,h1,h2,h3⟩:=h o k hm;⟨u,l,v,h1,h2,hc _ _ _ h3⟩
theorem NS {g g':Gh}{w w':pT}{i:Nat}{blk:qD}(h:AM g w i blk) (le:Le g w g' w') (hJ:g'.J i=g.J i) (hcur:g'.cur i=g.cur i)
  (hc: ∀b o,sG g i blk b o->w'.cell? ⟨b,o,none⟩=w.cell? ⟨b,o,none⟩/\w'.frozen? ⟨b,o,none⟩=w.frozen? ⟨b,o,none⟩)
  (hb: ∀b,(∀o,sG g i blk b o)->w'.heap[b]? =w.heap[b]?) (hS: ∀b o,sG g i blk b o->g'.S b o->g.S b o) (hsh: ∀b o s,sG g i blk b o->w.shape? b=some s->w'.shape? b=some s):AM g' w' i blk:=by
 cases blk with
 |cells t x toks=>
  obtain⟨p,cs,hp,hr,hra,ht,hs,htk⟩:=h;have ho: ∀j,j<t.cells->sG g i (.cells t x toks) p.1 (p.2+j):=fun j hj=>⟨p,hp,rfl,pI,pI⟩;refine⟨p,cs,hJ.trans hp,y4 le hr,fun j v hv=> ?_,⟨fun j hj=> ?_,fun h0 s hs3=>hsh _ _ _ (ho 0 h0) (ht.2 h0 s hs3)⟩,fun j hj hs'=>hs j hj (hS _ _ (ho j hj) hs'),aCc le.cur htk⟩
  .have hj:j<t.cells:=tC hr▸(aVd.1 hv).1;rw[(hc _ _ (ho j hj)).1];exact hra j v hv
  .rw[(hc _ _ (ho j hj)).1,(hc _ _ (ho j hj)).2];exact ht.1 j hj
 |grow e c n=>
  obtain⟨v,xs,hv,hr,hn,hs⟩:=h;have hbl: ∀b,v.ownBlock=some b->∀o,sG g i (.grow e c n) b o:=fun b hb o=>⟨v,hv,hb⟩;refine⟨v,xs,by rw[hcur];exact hv,⟨hr.1,?_⟩,fun m hm=>by rw[hcur];exact hn m hm,fun b hvb o hs'=>hs b hvb o (hS _ _ (hbl b hvb o) hs')⟩;rcases hr.2 with h0|⟨q,cap,cur,e1,e2,e3,e4⟩
  .exact .inl h0
  .subst e1;exact .inr ⟨q,cap,cur,rfl,e2,by rw[hb q (hbl q rfl)];exact e3,e4⟩
 |row e t l n=>
  obtain⟨hl,v,xs,hv,hr,hF,hn,hs⟩:=h;have hbl: ∀b,v.ownBlock=some b->∀o,sG g i (.row e t l n) b o:=fun b hb o=>⟨v,hv,hb⟩;refine⟨hl,v,xs,by rw[hcur];exact hv,⟨hr.1,?_⟩,DM (fun _ _ h=>y4 le h) hF,fun m hm=>by rw[hcur];exact hn m hm,fun b hvb o hs'=>hs b hvb o (hS _ _ (hbl b hvb o) hs')⟩;rcases hr.2 with h0|⟨q,cap,cur,e1,e2,e3,e4⟩
  .exact .inl h0
  .subst e1;exact .inr ⟨q,cap,cur,rfl,e2,by rw[hb q (hbl q rfl)];exact e3,e4⟩
 |map k v l=>
  obtain⟨p,es,cl,hp,h0,hh,hM,hs⟩:=h;have hbl: ∀o,sG g i (.map k v l) p.1 o:=fun o=>⟨p,hp,rfl⟩;exact⟨p,es,cl,hJ.trans hp,h0,(hb _ hbl).trans hh,a03 le hM,fun o hs'=>hs o (hS _ _ (hbl o) hs')⟩
 |iter s n=>
  obtain⟨p,hp,h0,hh,hs⟩:=h;have hbl: ∀o,sG g i (.iter s n) p.1 o:=fun o=>⟨p,hp,rfl⟩;exact⟨p,hJ.trans hp,h0,(hb _ hbl).trans hh,fun o hs'=>hs o (hS _ _ (hbl o) hs')⟩
 |dead=>trivial
theorem A6 {g g':Gh}{i:Nat}{blk:qD}(hJ:g'.J i=g.J i) (hcur:g'.cur i=g.cur i) {b o:Nat}:sG g' i blk b o↔sG g i blk b o:=by
 cases blk<;>simp [sG,hJ,hcur]
theorem CY {i:Nat}: ∀{u:List (Nat×qD)}{H:sD},i∉qJ u->qH (qZ u H) i=qH H i
 |[],_,_=>rfl
 |(k,b)::r,H,h=>by
  simp only[qJ,aU9,not_or] at h;simp only[qZ,qH];rw[aUX (Ne.symm h.1)];exact CY h.2
theorem sM.upd {g g':Gh}{w w':pT}{H:sD}{u:List (Nat×qD)}(h:sM g w H) (le:Le g w g' w') (fr:Fr (tE g H (qJ u)) w w' g.S g'.S)
  (perm: ∀i blk b o,i∈qJ u->qH (qZ u H) i=some blk->sG g' i blk b o->w.heap.size<=b\/tE g H (qJ u) b o)
  (gho: ∀i,i∉qJ u->g'.J i=g.J i/\g'.cur i=g.cur i)
  (hb: ∀i blk,i∈qJ u->qH (qZ u H) i=some blk->AM g' w' i blk)
  (hd: ∀i j bi bj b o,i∈qJ u->j∈qJ u->i≠j->qH (qZ u H) i=some bi->qH (qZ u H) j=some bj->sG g' i bi b o->sG g' j bj b o->False)
  (sl: ∀b o,g'.S b o->b<w'.heap.size):sM g' w' (qZ u H):=by
 have out: ∀i blk,i∉qJ u->qH H i=some blk->∀b o,sG g i blk b o->b<w.heap.size/\¬tE g H (qJ u) b o:=fun i blk hi hg b o ho=>
  ⟨NR (h.blk i blk hg) ho,fun⟨j,bj,hj,hgj,hoj⟩=>h.dis i j blk bj b o (fun e=>hi (e▸hj)) hg hgj ho hoj⟩
 refine⟨fun i blk hg=> ?_,fun i j bi bj b o hij hgi hgj hoi hoj=> ?_,sl,KX h.tab.1 fr.size (fun b hb=>fr.blk b (aVz hb h.tab.1.1) (fun o ⟨j,bj,_,k1,k2⟩=>Nat.not_lt.2 (h.tab.2 j bj b o k1 k2) hb)),fun i blk b o hg ho=> ?_⟩
 rotate_right
 .by_cases hi:i∈qJ u
  .rcases perm i blk b o hi hg ho with h1|⟨j,bj,_,k1,k2⟩
   .exact aVZ h.tab.1.1 h1
   .exact h.tab.2 j bj b o k1 k2
  .exact h.tab.2 i blk b o ((CY hi).symm.trans hg) ((A6 (gho i hi).1 (gho i hi).2).1 ho)
 .by_cases hi:i∈qJ u
  .exact hb i blk hi hg
  .have hg0:=(CY hi).symm.trans hg;have hk:=gho i hi;refine NS (h.blk i blk hg0) le hk.1 hk.2 (fun b o ho=> ?_) (fun b ho=> ?_) (fun b o ho hs=> ?_) (fun b o s ho hs=>(fr.shape b s hs).resolve_right fun h1=>(out i blk hi hg0 b o ho).2 (h1 o))
   .exact fr.cell b o (out i blk hi hg0 b o ho).1 (out i blk hi hg0 b o ho).2
   .exact fr.blk b (out i blk hi hg0 b 0 (ho 0)).1 (fun o=>(out i blk hi hg0 b o (ho o)).2)
   .rcases fr.new b o hs with h1|h1|h1
    .exact h1
    .have:=(out i blk hi hg0 b o ho).1;omega
    .exact absurd h1 (out i blk hi hg0 b o ho).2
 .by_cases hi:i∈qJ u<;>by_cases hj:j∈qJ u
  .exact hd i j bi bj b o hi hj hij hgi hgj hoi hoj
  .have hg0:=(CY hj).symm.trans hgj;have ho0:=(A6 (gho j hj).1 (gho j hj).2).1 hoj;rcases perm i bi b o hi hgi hoi with h1|h1
   .have:=(out j bj hj hg0 b o ho0).1;omega
   .exact(out j bj hj hg0 b o ho0).2 h1
  .have hg0:=(CY hi).symm.trans hgi;have ho0:=(A6 (gho i hi).1 (gho i hi).2).1 hoi;rcases perm j bj b o hj hgj hoj with h1|h1
   .have:=(out i bi hi hg0 b o ho0).1;omega
   .exact(out i bi hi hg0 b o ho0).2 h1
  .exact h.dis i j bi bj b o hij ((CY hi).symm.trans hgi) ((CY hj).symm.trans hgj) ((A6 (gho i hi).1 (gho i hi).2).1 hoi) ((A6 (gho j hj).1 (gho j hj).2).1 hoj)
theorem sH.pure {g:Gh}{w:pT}{H:sD}{side:List Prop}{s:qE}{rds:pS}{v:pU}(h:sM g w H) (hs:rX g w s v):sH g w H ⟨side,s,[],rds⟩ g w v:=
 ⟨.refl _ _,hs,h,.refl _ _ _,fun _ _ _ _ hi=>(by cases hi),fun _ _=>⟨rfl,rfl⟩,fun _ _ y us h=> .inl ⟨y,us,h⟩⟩
theorem A5.pure {g:Gh}{w:pT}{H:sD}{side:List Prop}{s:qE}{rds:pS}{v:pU}(h:sM g w H) (hs:rX g w s v):A5 g w H ⟨side,s,[],rds⟩ g w v:=(sH.pure h hs).w
def uR:Ty->pP
 | .bool=>[.bool false]
 | .int k=>[.int k 0]
 | .str=>[.string ⟨#[]⟩]
 | .list _=>[.slice none 0 0]
 | .unit=>[]
 | .pair a b=>uR a++uR b
 | .ref=>[.pointer none]
 | .clo=>[.nilFunc]
 | .mp=>[.map none]
 | .rl _ _=>[.slice none 0 0]
 | .fn=>[.nilFunc]
 | .mref=>[.pointer none]
def x4 (t:Ty):pU:=if t.isRow then .agg (uR t).toArray else(uR t).headD undef
def NT (P:Program):Ty->Nat->List Field->Prop
 | .unit,_,[]=>True
 | .pair a b,o,f::r=>f.offset=o/\(P.info? f.type).map (·.size)=some a.cells/\(P.underlying f.type).map (·.isRow)=some a.isRow/\NT P b (o+a.cells) r
 |_,_,_=>False
def RA (P:Program) (e:TypeId):Ty->Nat->Prop
 | .unit,0=>True
 | .pair a b,n+1=>(P.info? e).map (·.size)=some a.cells/\(P.underlying e).map (·.isRow)=some a.isRow/\RA P e b n
 |_,_=>False
inductive a04 where
 |ty (t:TypeId) |fs (o:Nat) (l:List Field) |el (e:TypeId) (i m:Nat)
inductive zI (P:Program):Nat->a04->Ty->Prop
 |bool {h t}:P.underlying t=some .bool->zI P h (.ty t) .bool
 |int {h t k}:P.underlying t=some (.int k)->zI P h (.ty t) (.int k)
 |str {h t}:P.underlying t=some .string->zI P h (.ty t) .str
 |struct {h t fs ty}:ty.isRow=true->P.underlying t=some (.struct fs)->P.stoodInHeld t=false->zI P h (.fs 0 fs.toList) ty->zI P (h+1) (.ty t) ty
 |arr {h t e n ty}:ty.isRow=true->P.underlying t=some (.array n e)->(P.info? e).isSome=true->zI P h (.el e 0 n) ty->zI P (h+1) (.ty t) ty
 |nil {h o}:zI P h (.fs o []) .unit
 |cons {h o}{f:Field}{r a b}:f.name≠ "_" ->f.offset=o->(P.info? f.type).map (·.size)=some a.cells->(P.underlying f.type).map (·.isRow)=some a.isRow->zI P h (.ty f.type) a->zI P h (.fs (o+a.cells) r) b->zI P h (.fs o (f::r)) (.pair a b)
 |anil {h e i}:zI P h (.el e i 0) .unit
 |acons {h e i m a b}:(P.info? e).map (·.size)=some a.cells->(P.underlying e).map (·.isRow)=some a.isRow->zI P h (.ty e) a->zI P h (.el e (i+1) m) b->zI P h (.el e i (m+1)) (.pair a b)
def yW (P:Program) (t:TypeId) (ti:TI):Prop:=
 match ti.ty with
 | .bool=>P.underlying t=some .bool
 | .int k=>P.underlying t=some (.int k)
 | .str=>P.underlying t=some .string
 | .ref=> ∃e,P.underlying t=some (.pointer e)
 | .clo=> ∃a b c,P.underlying t=some (.func a b c)
 | .mp=>P.underlying t=some (.map ti.elem ti.bytes)
 | .rl _ _=> ∃e,P.underlying t=some (.slice e)
 | .fn=> ∃a b c,P.underlying t=some (.func a b c)
 | .mref=> ∃e,P.underlying t=some (.pointer e)
 | .list u=>P.underlying t=some (.slice ti.elem)/\(P.info? ti.elem).map (fun i=>(i.size,i.bytes,i.zero))=some (u.cells,ti.bytes,some (x4 u))/\(P.underlying ti.elem).map (·.isRow)=some u.isRow
 |ty=>((ti.arr=false/\∃fs,P.underlying t=some (.struct fs)/\NT P ty 0 fs.toList)\/(ti.arr=true/\∃n e,P.underlying t=some (.array n e)/\RA P e ty n/\(P.info? e).isSome=true))/\(ti.bytes=1->P.eqGuardType P.depth t=false/\∃h,h<9000/\zI P h (.ty t) ty)
def uG (P:Program) (t:TypeId) (ti:TI):Prop:=(P.info? t).map (fun i=>(i.size,i.zero))=some (ti.ty.cells,some (x4 ti.ty))/\yW P t ti
def y5 (P:Program):sY->Prop
 |[]=>True
 |(t,ti)::r=>uG P t ti/\y5 P r
theorem tM {P:Program}: ∀{T:sY},y5 P T->∀{t:TypeId}{ti:TI},s0 T t=some ti->uG P t ti
 |[],_,_,_,h=>by simp [s0] at h
 |(k,ti)::r,hT,t,ti',h=>by
  simp only[s0] at h;by_cases hk:k=t
  .rw[aUU hk] at h;subst hk;rw[<-aUZ h];exact hT.1
  .rw[aUX hk] at h;exact tM hT.2 h
theorem EK (g:Gh) (w:pT): ∀t:Ty,Rd g w t t.zero (uR t)
 | .bool=>rfl
 | .int _=>rfl
 | .str=>rfl
 | .list _=>⟨none,0,rfl,aVi _,.inl rfl⟩
 | .unit=>rfl
 | .pair a b=>⟨_,_,rfl,EK g w a,EK g w b⟩
 | .ref=>rfl
 | .clo=>rfl
 | .mp=>rfl
 | .rl _ _=>rfl
 | .fn=>rfl
 | .mref=>rfl
theorem LK (g:Gh) (w:pT) (t:Ty):tT g w t t.zero (x4 t):=by
 unfold tT x4;by_cases h:t.isRow=true
 .left;rw[aUU h];exact⟨h,_,rfl,EK g w t⟩
 .right;rw[aUX h];refine⟨by simpa using h,?_⟩;cases t<;>first|exact EK g w _|(simp [Ty.isRow] at h)
theorem FY {g:Gh}{w:pT}{t:Ty}{x:t.den}{v:pU}(h:tT g w t x v):Rd g w t x v.cells.toList:=by
 rcases h with⟨_,cs,rfl,r⟩ |⟨hr,r⟩
 .simpa[Value.cells] using r
 .have h1:=BD r v pK;have:v.cells= #[v]:=by cases v<;>first|rfl|(simp [Value.oneCell'] at h1)
  rw[this];exact r
theorem BE {g:Gh}{w:pT}{t:Ty}{x:t.den}{v:pU}(hr:t.isRow=false) (h:tT g w t x v):Rd g w t x [v]:=by
 rcases h with⟨h1,_⟩ |⟨_,r⟩
 .rw[hr] at h1;cases h1
 .exact r
theorem x5 {g:Gh}{w:pT}{k:IntKind}{n:Int}{v:pU}(h:tT g w (.int k) n v):v= .int k n:=by
 have:=BE rfl h;simp only[Rd,aVT,and_true] at this;exact this
theorem wI {g:Gh}{w:pT}{n:Bool}{v:pU}(h:tT g w .bool n v):v= .bool n:=by
 have:=BE rfl h;simp only[Rd,aVT,and_true] at this;exact this
theorem xC {g:Gh}{w:pT}{l:pF}{v:pU}(h:tT g w .str l v):v= .string ⟨l.toArray⟩:=by
 have:=BE rfl h;simp only[Rd,aVT,and_true] at this;exact this
theorem DN {g:Gh}{w:pT}{t:Ty}{l:List t.den}{v:pU}(h:tT g w (.list t) l v): ∃a cap,v= .slice a l.length cap/\l.length<=cap/\(l=[]\/∃b o,a=some ⟨b,o,none⟩/\zH (Rd g w t) w g.S t.cells b o l):=by
 have:=BE rfl h;obtain⟨a,cap,e,h1,h2⟩:=this;simp only[aVT,and_true] at e;exact⟨a,cap,e,h1,h2⟩
theorem A7 {g:Gh}{w:pT}{i o:Nat}{v:pU}(h:tT g w .ref (some (i,o)) v): ∃p,g.J i=some p/\v= .pointer (some ⟨p.1,p.2+o,none⟩):=by
 have:=BE rfl h;obtain⟨p,h1,e⟩:=this;simp only[aVT,and_true] at e;exact⟨p,h1,e⟩
theorem LL {g:Gh}{w:pT}{t:Ty}{x:t.den}{v:pU}(hr:t.isRow=true) (h:tT g w t x v): ∃cs:pP,v= .agg cs.toArray/\Rd g w t x cs:=by
 rcases h with⟨_,r⟩ |⟨h1,_⟩
 .exact r
 .rw[hr] at h1;cases h1
theorem x6 (g:Gh) (w:pT) (k:IntKind) (n:Int):tT g w (.int k) n (.int k n):= .inr ⟨rfl,rfl⟩
theorem xD (g:Gh) (w:pT) (b:Bool):tT g w .bool b (.bool b):= .inr ⟨rfl,rfl⟩
theorem BX (g:Gh) (w:pT) (l:pF):tT g w .str l (.string ⟨l.toArray⟩):= .inr ⟨rfl,rfl⟩
def rL (P:Program) (o:Oper) (a:Act) (g:Gh) (w:pT) (H:sD) (e:qU):Prop:=
 ∀(K:Act->pT->Prop) (Q:Exit->Act->pT->Prop),(∀g' w' v,A5 g w H e g' w' v->K (a.put o.dst v) w')->o.wp P a w K Q
theorem rL.valueW {P:Program}{o:Oper}{a:Act}{g g':Gh}{w w':pT}{H:sD}{e:qU}{v:pU}(hr:(execOp a.eval o).run P w= .ok (.value v) w') (h:A5 g w H e g' w' v):rL P o a g w H e:=by
 intro K Q hK;unfold Oper.wp;rw[hr];exact hK g' w' v h
theorem rL.skipW {P:Program}{o:Oper}{a:Act}{g g':Gh}{w w':pT}{H:sD}{e:qU}(hr:(execOp a.eval o).run P w= .ok .skip w') (h:A5 g w H e g' w' undef):rL P o a g w H e:=by
 intro K Q hK;unfold Oper.wp;rw[hr];exact hK g' w' undef h
theorem rL.value {P:Program}{o:Oper}{a:Act}{g g':Gh}{w w':pT}{H:sD}{e:qU}{v:pU}(hr:(execOp a.eval o).run P w= .ok (.value v) w') (h:sH g w H e g' w' v):rL P o a g w H e:= .valueW hr h.w
theorem rL.skip {P:Program}{o:Oper}{a:Act}{g g':Gh}{w w':pT}{H:sD}{e:qU}(hr:(execOp a.eval o).run P w= .ok .skip w') (h:sH g w H e g' w' undef):rL P o a g w H e:= .skipW hr h.w
theorem rL.pure {P:Program}{o:Oper}{a:Act}{g:Gh}{w:pT}{H:sD}{side:List Prop}{d:DV}{rds:pS}{v:pU}(hH:sM g w H) (hr:(execOp a.eval o).run P w= .ok (.value v) w) (h:AL g w d v):
  rL P o a g w H ⟨side,(d,none),[],rds⟩:= .value hr (.pure hH ⟨h,trivial⟩)
section
variable {P:Program}{o:Oper}{a:Act}{g:Gh}{w:pT}{H:sD}
theorem WL {g:Gh}{w:pT}{k:IntKind}(q:Int) (hq: ∀p∈(KY k q).1,p):AL g w (KY k q).2 (.int k (k.wrap q)):=by
 cases k<;>simp only[KY] at hq|- <;>first|exact x6 _ _ _ _|skip
 have h0:=hq _ (aVb.2 rfl);rw[show IntKind.i64.wrap q=q from IntWalk.i64_in q pI];exact x6 _ _ _ _
theorem aLy (g:Gh) {op:BinOp}{xt:TypeId}{x y:Operand}{k:IntKind}{m n:Int}{r:List Prop×DV}(hr:a0d k m n op=some r) (hs: ∀p∈r.1,p):
  ∃v,(do eqGuard op xt x y (.int k m) (.int k n);Go.binOp op xt (.int k m) (.int k n):Sem pU).run P w= .ok v w/\AL g w r.2 v:=by
 cases op<;>simp only[a0d,aUT,reduceCtorEq] at hr
 all_goals subst hr
 case add=>exact⟨.int k (k.wrap _),by simp [eqGuard,Go.binOp,Op.intArith],WL _ hs⟩
 case sub=>exact⟨.int k (k.wrap _),by simp [eqGuard,Go.binOp,Op.intArith],WL _ hs⟩
 case mul=>exact⟨.int k (k.wrap _),by simp [eqGuard,Go.binOp,Op.intArith],WL _ hs⟩
 case eql=>exact⟨.bool (decide (m=n)),by simp [eqGuard,Go.binOp,Op.intCmp];rfl,xD _ _ _⟩
 case neq=>exact⟨.bool (!decide (m=n)),by simp [eqGuard,Go.binOp,Op.intCmp,bne];rfl,xD _ _ _⟩
 case lss=>exact⟨.bool (decide _),by simp [eqGuard,Go.binOp,Op.intCmp],xD _ _ _⟩
 case leq=>exact⟨.bool (decide _),by simp [eqGuard,Go.binOp,Op.intCmp],xD _ _ _⟩
 case gtr=>exact⟨.bool (decide (n<m)),by simp [eqGuard,Go.binOp,Op.intCmp],xD _ _ _⟩
 case geq=>exact⟨.bool (decide (n<=m)),by simp [eqGuard,Go.binOp,Op.intCmp],xD _ _ _⟩
 case quo=>
  have h0:=hs _ (aVb.2 rfl);exact⟨.int k (k.wrap (Int.tdiv m n)),by simp [eqGuard,Go.binOp,Op.intDiv,h0],x6 _ _ _ _⟩
 case rem=>
  have h0:=hs _ (aVb.2 rfl);exact⟨.int k (Int.tmod m n),by simp [eqGuard,Go.binOp,Op.intDiv,h0],x6 _ _ _ _⟩
 case and=>exact⟨.int k (bits .and k m n),by simp [eqGuard,Go.binOp,intBits_and],x6 _ _ _ _⟩
 case or=>exact⟨.int k (bits .or k m n),by simp [eqGuard,Go.binOp,intBits_or],x6 _ _ _ _⟩
 case xor=>exact⟨.int k (bits .xor k m n),by simp [eqGuard,Go.binOp,intBits_xor],x6 _ _ _ _⟩
 case andNot=>exact⟨.int k (bits .andNot k m n),by simp [eqGuard,Go.binOp,intBits_andNot],x6 _ _ _ _⟩
theorem RB (m n:pF):(m==n)=decide (m=n):=by rw[aWH];simp
theorem aLz (g:Gh) {op:BinOp}{xt:TypeId}{x y:Operand}{m n:pF}{r:List Prop×DV}(hr:a0f m n op=some r) (hs: ∀p∈r.1,p):
  ∃v,(do eqGuard op xt x y (.string ⟨m.toArray⟩) (.string ⟨n.toArray⟩);Go.binOp op xt (.string ⟨m.toArray⟩) (.string ⟨n.toArray⟩):Sem pU).run P w= .ok v w/\AL g w r.2 v:=by
 have hl: ∀l:pF,(⟨l.toArray⟩:ByteArray).size=l.length:=fun l=>by simp [ByteArray.size]
 cases op<;>simp only[a0f,aUT,reduceCtorEq] at hr
 all_goals subst hr
 case add=>
  have h0:=hs _ (aVb.2 rfl);refine⟨.string ⟨(m++n).toArray⟩,?_,BX _ _ _⟩;rw[aUW] at h0;have h1: ¬(((⟨m.toArray⟩:ByteArray).size+(⟨n.toArray⟩:ByteArray).size:Nat):Int) >IntKind.i64.max:=by rw[hl,hl,show IntKind.i64.max=9223372036854775807 from by decide];omega
  simp only[eqGuard,Go.binOp,Op.stringOp,aVe,aUX h1];simp;rfl
 case eql=>exact⟨.bool (decide (m=n)),by simp [eqGuard,Go.binOp,Op.stringOp,RB],xD _ _ _⟩
 case neq=>exact⟨.bool (!decide (m=n)),by simp [eqGuard,Go.binOp,Op.stringOp,RB],xD _ _ _⟩
 case lss=>exact⟨.bool (Op.bytesLess m n),by simp [eqGuard,Go.binOp,Op.stringOp],xD _ _ _⟩
 case leq=>exact⟨.bool (Op.bytesLess m n||decide (m=n)),by simp [eqGuard,Go.binOp,Op.stringOp,RB],xD _ _ _⟩
 case gtr=>exact⟨.bool (!(Op.bytesLess m n||decide (m=n))),by simp [eqGuard,Go.binOp,Op.stringOp,RB],xD _ _ _⟩
 case geq=>exact⟨.bool (!Op.bytesLess m n),by simp [eqGuard,Go.binOp,Op.stringOp],xD _ _ _⟩
theorem JA {r:Option (List Prop×DV)}{e:qU}(h:B7 r=some e): ∃q,r=some q/\e=⟨q.1,(q.2,none),[],[]⟩:=by
 cases r with
 |none=>cases h
 |some q=>obtain⟨p,d⟩:=q;exact⟨(p,d),rfl,(aUZ h).symm⟩
theorem aLA (hH:sM g w H) {op:BinOp}{xt yt:TypeId}{x y:Operand}(ho:o.op= .binOp op xt x y yt) {sx sy:qE}(hx:rX g w sx (a.eval x)) (hy:rX g w sy (a.eval y)) {e:qU}
  (hr:B7 (UU op sx sy)=some e) (hs: ∀p∈e.side,p):rL P o a g w H e:=by
 obtain⟨q,hq,rfl⟩:=JA hr;have go: ∀{u v:pU},a.eval x=u->a.eval y=v->(∃z,(do eqGuard op xt x y u v;Go.binOp op xt u v:Sem pU).run P w= .ok z w/\AL g w q.2 z)->rL P o a g w H ⟨q.1,(q.2,none),[],[]⟩:=by
  rintro u v rfl rfl ⟨z,hz,hd⟩;refine rL.pure hH (v:=z) ?_ hd;unfold execOp;rw[ho];simp only[aVe,aVm] at hz|-;rw[hz];rfl
 obtain⟨dx,kx⟩:=sx;obtain⟨dy,ky⟩:=sy;replace hx:=hx.1;replace hy:=hy.1;unfold UU at hq;split at hq
 .rename_i k m k1 k' n k2 e1 e2;simp only[aVs] at e1 e2;obtain⟨rfl,-⟩:=e1;obtain⟨rfl,-⟩:=e2;unfold aBn at hq;split at hq
  .cases hq;have h0:=hs _ (aVb.2 rfl);exact go (x5 hx) (x5 hy) ⟨.int k (a0e k m n),by simp [eqGuard,Go.binOp,Op.shift,a0e,Int.not_lt.2 h0],x6 _ _ _ _⟩
  .cases hq;have h0:=hs _ (aVb.2 rfl);exact go (x5 hx) (x5 hy) ⟨.int k (yS k m n),by simp [eqGuard,Go.binOp,Op.shift,yS,Int.not_lt.2 h0],x6 _ _ _ _⟩
  .by_cases hk:k=k'
   .subst hk;rw[aUU rfl] at hq;exact go (x5 hx) (x5 hy) (aLy g hq hs)
   .rw[aUX hk] at hq;cases hq
 .rename_i m k1 n k2 e1 e2;simp only[aVs] at e1 e2;obtain⟨rfl,-⟩:=e1;obtain⟨rfl,-⟩:=e2;exact go (xC hx) (xC hy) (aLz g hq hs)
 .cases hq
theorem aLB (hH:sM g w H) {op:BinOp}{xt yt:TypeId}{x y:Operand}(ho:o.op= .binOp op xt x y yt) {ti:Option TI}{sx sy:qE}(hx:rX g w sx (a.eval x)) (hy:rX g w sy (a.eval y)) {e:qU}
  (hr:B7 (UV op ti sx sy)=some e):rL P o a g w H e:=by
 obtain⟨q,hq,rfl⟩:=JA hr;unfold UV at hq;split at hq
 .rename_i k m _ k' n _;by_cases hk:k=k'
  .subst hk;rw[aUU rfl] at hq;have hx1:=x5 hx.1;have hy1:=x5 hy.1;cases op<;>simp only[aBp,aUT,reduceCtorEq] at hq
   all_goals subst hq
   all_goals refine rL.pure hH (v:= .int k (k.wrap _)) ?_ (x6 _ _ _ _)
   all_goals
    unfold execOp;rw[ho];simp [hx1,hy1,eqGuard,Go.binOp,Op.intArith]
  .rw[aUX hk] at hq;cases hq
 .cases hq
theorem aLC (hH:sM g w H) {op:UnOp}{xt:TypeId}{x:Operand}(ho:o.op= .unOp op xt x) {sx:qE}(hx:rX g w sx (a.eval x)) {e:qU}
  (hr:B7 (a0i op sx)=some e) (hs: ∀p∈e.side,p):rL P o a g w H e:=by
 obtain⟨q,hq,rfl⟩:=JA hr;replace hx:=hx.1;unfold a0i at hq;split at hq
 .have:=wI hx;cases hq;refine rL.pure hH (v:= .bool _) ?_ (xD _ _ _);simp [execOp,ho,this,Op.unary]
 .rename_i k n _;have:=x5 hx;cases hq;refine rL.pure hH (v:= .int k (k.wrap (-n))) ?_ (WL _ hs);simp [execOp,ho,this,Op.unary,Op.intArith]
 .cases hq
theorem WM {t:TypeId}{ti:TI}(h:uG P t ti): ∃d,P.underlying t=some d/\d.isRow=ti.ty.isRow:=by
 have h2:=h.2;unfold yW at h2;obtain⟨ty,el,by',ar,ls⟩:=ti;cases ty<;>simp only at h2
 case bool=>exact⟨_,h2,rfl⟩
 case int=>exact⟨_,h2,rfl⟩
 case str=>exact⟨_,h2,rfl⟩
 case list=>exact⟨_,h2.1,rfl⟩
 case ref=>obtain⟨e,h⟩:=h2;exact⟨_,h,rfl⟩
 case clo=>obtain⟨a,b,c,h⟩:=h2;exact⟨_,h,rfl⟩
 case mp=>exact⟨_,h2,rfl⟩
 case rl=>obtain⟨e,h⟩:=h2;exact⟨_,h,rfl⟩
 case fn=>obtain⟨a,b,c,h⟩:=h2;exact⟨_,h,rfl⟩
 case mref=>obtain⟨e,h⟩:=h2;exact⟨_,h,rfl⟩
 all_goals
  rcases h2.1 with⟨_,fs,h,_⟩ |⟨_,n,e,h,_⟩
  .exact⟨_,h,rfl⟩
  .exact⟨_,h,rfl⟩
theorem EL {t:TypeId}{ti:TI}(h:uG P t ti): ∃i,P.info? t=some i/\i.size=ti.ty.cells/\i.zero=some (x4 ti.ty):=by
 obtain⟨i,hi,he⟩:=aU1.1 h.1;simp only[aVs] at he;exact⟨i,hi,he.1,he.2⟩
theorem aLD {T:sY}(hT:y5 P T) (hH:sM g w H) {st dt:TypeId}{x:Operand}(ho:o.op= .convert st dt x) {sx:qE}(hx:rX g w sx (a.eval x)) {e:qU}
  (hr:B7 (UX (s0 T st) (s0 T dt) sx)=some e):rL P o a g w H e:=by
 obtain⟨q,hq,rfl⟩:=JA hr;replace hx:=hx.1;generalize hs:s0 T st=os at hq;generalize hd:s0 T dt=od at hq;unfold UX at hq;split at hq
 .rename_i k' k _ _ _ _ k0 n _;obtain⟨d,hd1,_⟩:=WM (tM hT hs);have hd2:=(tM hT hd).2;simp only[yW] at hd2;have:=x5 hx;cases hq;refine rL.pure hH (v:= .int k (k.wrap n)) ?_ (x6 _ _ _ _);simp [execOp,ho,this,Go.convert,aVh hd1,aVh hd2,Conv.intToInt]
 .rename_i k' _ _ _ _ s _;obtain⟨d,hd1,_⟩:=WM (tM hT hs);have hd2:=(tM hT hd).2;simp only[yW] at hd2;have:=xC hx;cases hq;refine rL.pure hH (v:= .string ⟨List.toArray s⟩) ?_ (BX _ _ _);simp [execOp,ho,this,Go.convert,aVh hd1,aVh hd2]
 .cases hq
theorem NU {α:Type}{R:α->pP->Prop}{w:pT}{S:Nat->Nat->Prop}{c b:Nat}: ∀{l:List α}{o i:Nat}{x:α},zH R w S c b o l->l[i]? =some x->
  ∃cs,cs.length=c/\w.rangeAt b (o+i*c) cs/\(∀j,j<c->S b (o+i*c+j))/\R x cs
 |y::l,o,0,x,⟨⟨cs,h1,h2,h3,h4⟩,_⟩,h=>by
  simp only[aVt,aUT] at h;subst h;exact⟨cs,h1,by simpa using h2,by simpa using h3,h4⟩
 |y::l,o,i+1,x,⟨_,h5⟩,h=>by
  simp only[aVH] at h;obtain⟨cs,h1,h2,h3,h4⟩:=NU h5 h;have e:o+c+i*c=o+(i+1)*c:=by rw[aV7];omega
  exact⟨cs,h1,by rw[<-e];exact h2,by rw[<-e];exact h3,h4⟩
theorem aCd {α:Type}{R:α->pP->Prop}{w:pT}{S:Nat->Nat->Prop}{c b:Nat}: ∀{l:List α}{o:Nat}(i:Nat),zH R w S c b o l->i<=l.length->zH R w S c b (o+i*c) (l.drop i)
 |_,o,0,h,_=>by simpa using h
 |[],o,i+1,_,h=>by simp at h
 |y::l,o,i+1,⟨_,h5⟩,h=>by
  have:=aCd i h5 (by simpa using h);have e:o+c+i*c=o+(i+1)*c:=by rw[aV7];omega
  rw[<-e];simpa using this
theorem aCe {α:Type}{R:α->pP->Prop}{w:pT}{S:Nat->Nat->Prop}{c b:Nat}: ∀{l:List α}{o:Nat}(i:Nat),zH R w S c b o l->zH R w S c b o (l.take i)
 |_,_,0,_=>by simp [zH]
 |[],_,_+1,_=>by simp [zH]
 |_::_,_,i+1,⟨h,h5⟩=>by simpa[zH] using⟨h,aCe i h5⟩
theorem a05 {g:Gh}{w:pT}: ∀{t:Ty}{x:t.den}{cs:pP}{f:Nat}{u:Ty}{y:u.den},Rd g w t x cs->t.proj x f=some ⟨u,y⟩->
  ∃o c1 c2 c3,t.offs f=some o/\t.fld f=some u/\cs=c1++c2++c3/\c1.length=o/\Rd g w u y c2:=by
 intro t
 induction t with
 |pair a b _ ihb=>
  intro x cs f u y r h;obtain⟨c1,c2,e,r1,r2⟩:=r;cases f with
  |zero=>
   simp only[Ty.proj,aUT,Sigma.mk.injEq] at h;obtain⟨rfl,h2⟩:=h;obtain rfl:=eq_of_heq h2;exact⟨0,[],c1,c2,rfl,rfl,by simpa using e,rfl,r1⟩
  |succ f=>
   simp only[Ty.proj] at h;obtain⟨o,d1,d2,d3,h1,h2,h3,h4,h5⟩:=ihb r2 h;refine⟨a.cells+o,c1++d1,d2,d3,by simp [Ty.offs,h1],by simpa[Ty.fld] using h2,by rw[e,h3];simp,?_,h5⟩;rw[aUW,h4,tC r1]
 |_=>intro x cs f u y r h;cases f<;>simp [Ty.proj] at h
theorem a06 {P:Program}: ∀{ty:Ty}{off:Nat}{fs:List Field}{f o:Nat}{u:Ty},NT P ty off fs->ty.offs f=some o->ty.fld f=some u->
  ∃fd,fs[f]? =some fd/\fd.offset=off+o/\(P.info? fd.type).map (·.size)=some u.cells/\(P.underlying fd.type).map (·.isRow)=some u.isRow:=by
 intro ty
 induction ty with
 |pair a b _ ihb=>
  intro off fs f o u h ho hu;cases fs with
  |nil=>exact h.elim
  |cons fd fs=>
   obtain⟨h1,h2,h3,h4⟩:=h;cases f with
   |zero=>
    simp only[Ty.offs,aUT] at ho;simp only[Ty.fld,aUT] at hu;subst ho;subst hu;exact⟨fd,rfl,pI,h2,h3⟩
   |succ f=>
    simp only[Ty.offs,aU1] at ho;obtain⟨o',ho',rfl⟩:=ho;obtain⟨fd',k1,k2,k3,k4⟩:=ihb h4 ho' hu;exact⟨fd',by simpa using k1,pI,k3,k4⟩
 |_=>intro off fs f o u h ho hu;cases f<;>simp [Ty.offs] at ho
theorem a07 {P:Program}{e:TypeId}: ∀{ty:Ty}{n f o:Nat}{u:Ty},RA P e ty n->ty.offs f=some o->ty.fld f=some u->
  f<n/\(P.info? e).map (·.size)=some u.cells/\(P.underlying e).map (·.isRow)=some u.isRow/\o=f*u.cells:=by
 intro ty
 induction ty with
 |pair a b _ ihb=>
  intro n f o u h ho hu;cases n with
  |zero=>exact h.elim
  |succ n=>
   obtain⟨h2,h3,h4⟩:=h;cases f with
   |zero=>
    simp only[Ty.offs,aUT] at ho;simp only[Ty.fld,aUT] at hu;subst ho;subst hu;exact⟨pI,h2,h3,by simp⟩
   |succ f=>
    simp only[Ty.offs,aU1] at ho;obtain⟨o',ho',rfl⟩:=ho;obtain⟨k1,k2,k3,k4⟩:=ihb h4 ho' hu;rw[h2] at k2;have hc:a.cells=u.cells:=aUZ k2;exact⟨pI,by rw[h2,hc],k3,by rw[k4,hc,aV7];omega⟩
 |_=>intro n f o u h ho hu;cases f<;>simp [Ty.offs] at ho
theorem RC {t:TypeId}{u:Ty}(hi:(P.info? t).map (·.size)=some u.cells) (hr:(P.underlying t).map (·.isRow)=some u.isRow) {y:u.den}{c1 c2 c3:pP}(h:Rd g w u y c2):
  ∃v,(part t (c1++c2++c3).toArray c1.length).run P w= .ok v w/\tT g w u y v:=by
 obtain⟨i,hi,hsz⟩:=aU1.1 hi;obtain⟨d,hd,hrow⟩:=aU1.1 hr;have hl:=tC h;by_cases hu:u.isRow=true
 .refine⟨.agg c2.toArray,?_,.inl ⟨hu,c2,rfl,h⟩⟩;have hagg:(isAgg t).run P w= .ok true w:=by
   unfold isAgg;rw[aVe,aVh hd w];rw[hu] at hrow;cases d<;>simp_all [TypeDesc.isRow]
  simp only[part,aVe,hagg,aU4,aWz,sizeOf,typeInfo,aV1,hi,hsz,aVm];congr 2;apply aV6.1;simp [<-hl]
 .have hu':u.isRow=false:=by simpa using hu
  have h1:u.cells=1:=by cases u<;>first|rfl|(simp [Ty.isRow] at hu')
  obtain⟨v,rfl⟩: ∃v,c2=[v]:=by
   rw[h1] at hl;exact aWm.1 hl
  refine⟨v,?_,.inr ⟨hu',h⟩⟩;have hagg:(isAgg t).run P w= .ok false w:=by
   unfold isAgg;rw[aVe,aVh hd w];rw[hu'] at hrow;cases d<;>simp_all [TypeDesc.isRow]
  simp only[part,aVe,hagg,aU4];simp
theorem a08 {t:TypeId}{ti:TI}(h:uG P t ti) (hr:ti.ty.isRow=true):
  (ti.arr=false/\∃fs,P.underlying t=some (.struct fs)/\NT P ti.ty 0 fs.toList)\/(ti.arr=true/\∃n e,P.underlying t=some (.array n e)/\RA P e ti.ty n/\(P.info? e).isSome=true):=by
 have h2:=h.2;unfold yW at h2;obtain⟨ty,el,by',ar,ls⟩:=ti;cases ty<;>simp only[Ty.isRow,aWD] at hr<;>exact h2.1
theorem aCf {t:TypeId}{ti:TI}(h:uG P t ti) (hr:ti.ty.isRow=true) (ha:ti.arr=false): ∃fs,P.underlying t=some (.struct fs)/\NT P ti.ty 0 fs.toList:=by
 rcases a08 h hr with⟨_,h⟩ |⟨h,_⟩
 .exact h
 .rw[ha] at h;cases h
theorem aCg {t:TypeId}{ti:TI}(h:uG P t ti) (hr:ti.ty.isRow=true) (ha:ti.arr=true): ∃n e,P.underlying t=some (.array n e)/\RA P e ti.ty n/\(P.info? e).isSome=true:=by
 rcases a08 h hr with⟨h,_⟩ |⟨_,h⟩
 .rw[ha] at h;cases h
 .exact h
theorem aLE {t:Ty}{x:t.den}{f:Nat}{q: Σ u:Ty,u.den}(h:t.proj x f=some q):t.isRow=true:=by
 cases t<;>first|rfl|(cases f<;>simp [Ty.proj] at h)
theorem aLF {t:Ty}{f o:Nat}(h:t.offs f=some o):t.isRow=true:=by
 cases t<;>first|rfl|(cases f<;>simp [Ty.offs] at h)
end
theorem aLG (l:pF) (n:Nat) (h:n<l.length):(⟨l.toArray⟩:ByteArray)[n]? =some l[n]:=by
 have:n<(⟨l.toArray⟩:ByteArray).size:=by simpa[ByteArray.size] using h
 rw[getElem?_pos (⟨l.toArray⟩:ByteArray) n this];rfl
theorem yX {i:Int}{n:Nat}(h0:0<=i) (h1:i<n):i.toNat<n:=by omega
theorem aCh {i:Int}{n:Nat}(h0:0<=i) (h1:i.toNat<n):i<n:=by omega
section
variable {P:Program}{o:Oper}{a:Act}{g:Gh}{w:pT}{H:sD}{T:sY}(hT:y5 P T) (hH:sM g w H)
include hT hH
theorem aLH {t:TypeId}{x:Operand}{f:Nat}(ho:o.op= .field t x f) {sx:qE}(hx:rX g w sx (a.eval x)) {e:qU}(hr:a0L f (s0 T t) sx=some e):rL P o a g w H e:=by
 generalize hs:s0 T t=ot at hr;replace hx:=hx.1;unfold a0L at hr;split at hr
 .rename_i ty el by' ls_ u y _;split at hr
  .rename_i hu;subst hu;have hty:=tM hT hs;generalize hp:u.proj y f=q at hr;cases q with
   |none=>cases hr
   |some q=>
    obtain⟨u,z⟩:=q;cases hr;have hrow:=aLE hp;obtain⟨cs,hv,hR⟩:=LL hrow hx;obtain⟨oo,c1,c2,c3,h1,h2,rfl,rfl,h5⟩:=a05 hR hp;obtain⟨fs,hfs,hfe⟩:=aCf hty hrow rfl;obtain⟨fd,k1,k2,k3,k4⟩:=a06 hfe h1 h2;obtain⟨v,hv1,hv2⟩:=RC k3 k4 (P:=P) (c1:=c1) (c3:=c3) h5;refine rL.pure hH (v:=v) ?_ hv2;have k1':fs[f]? =some fd:=by simpa using k1
    simp only[execOp,ho,hv,Instr.field,aVe,aVh hfs,aU4,k1',asAgg,aVm,k2,aVx,hv1]
  .cases hr
 .cases hr
theorem a09 {t:TypeId}{ti:TI}(hty:uG P t ti) (har:ti.arr=false) {f oo:Nat}{u:Ty}(h1:ti.ty.offs f=some oo) (h2:ti.ty.fld f=some u) (hpos:0<u.cells) (b off:Nat):
  (Instr.fieldAt t (.pointer (some ⟨b,off,none⟩)) f).run P w= .ok (.pointer (some ⟨b,off+oo,none⟩)) w:=by
 obtain⟨fs,hfs,hfe⟩:=aCf hty (aLF h1) har;obtain⟨fd,k1,k2,k3,k4⟩:=a06 hfe h1 h2;obtain⟨i,hi,hsz⟩:=aU1.1 k3;have k1':fs[f]? =some fd:=by simpa using k1
 have hne: ¬(u.cells=0):=by omega
 simp only[Instr.fieldAt,aVe,aVh hfs,aU4,k1',Instr.sureAddr,aVm,fieldPlace,sizeOf,typeInfo,aV1,hi,hsz,aUX hne,k2,aVx,aWj]
theorem aLI {t:TypeId}{x:Operand}{f:Nat}(ho:o.op= .fieldAddr t x f) {sx:qE}(hx:rX g w sx (a.eval x)) {e:qU}(hr:a0K f (s0 T t) sx=some e):rL P o a g w H e:=by
 generalize hs:s0 T t=ot at hr;replace hx:=hx.1;unfold a0K at hr;split at hr
 .rename_i ty el by' ls_ k n c i o' _;have hty:=tM hT hs;generalize h1:ty.offs f=o1 at hr;generalize h2:ty.fld f=o2 at hr;unfold aBO at hr;split at hr
  .split at hr
   .rename_i oo u hpos;cases hr;obtain⟨b,cap,hc,hi0,hi1,hv⟩:=hx;refine rL.pure hH (v:= .pointer (some ⟨b,i.toNat*c+o'+oo,none⟩)) ?_ ⟨b,cap,hc,hi0,hi1,by rw[aVF]⟩;simp only[execOp,ho,hv,aVe,a09 hT hH hty rfl h1 h2 hpos,aU4,aVm]
   .cases hr
  .cases hr
 .rename_i ty el by' ls_ u y _;split at hr
  .rename_i hu;subst hu;have hty:=tM hT hs;generalize hp:u.proj y f=q at hr;cases q with
   |none=>cases hr
   |some q=>
    obtain⟨u,z⟩:=q;simp only[VP] at hr;split at hr
    .rename_i hpos;cases hr;obtain⟨b,off,cs,hv,hra,hS,hR⟩:=hx;obtain⟨oo,c1,c2,c3,h1,h2,rfl,rfl,h5⟩:=a05 hR hp;refine rL.pure hH (v:= .pointer (some ⟨b,off+c1.length,none⟩)) ?_ ⟨b,off+c1.length,c2,rfl,fun j v hj=> ?_,fun j hj=> ?_,h5⟩
     .simp only[execOp,ho,hv,aVe,a09 hT hH hty rfl h1 h2 hpos,aU4,aVm]
     .have:=hra (c1.length+j) v (by
       have hj':=(aVd.1 hj).1;rw[aU0,aVa pI,aVK,aVf hj'];exact hj)
      rw[aVF];exact this
     .have:=hS (c1.length+j) (by
       have:=tC hR;have h6:=tC h5;simp only[aUW] at this;omega)
      rw[aVF];exact this
    .cases hr
  .cases hr
 .rename_i ty el by' ls_ i off _;have hty:=tM hT hs;generalize h1:ty.offs f=o1 at hr;generalize h2:ty.fld f=o2 at hr;unfold VQ at hr;split at hr
  .split at hr
   .rename_i oo u hpos;cases hr;obtain⟨p,hp,hv⟩:=A7 hx;refine rL.pure hH (v:= .pointer (some ⟨p.1,p.2+off+oo,none⟩)) ?_ (.inr ⟨rfl,p,hp,by rw[aVF]⟩);simp only[execOp,ho,hv,aVe,a09 hT hH hty rfl h1 h2 hpos,aU4,aVm]
   .cases hr
  .cases hr
 .cases hr
theorem aLJ {x:Operand}{i:Nat}(ho:o.op= .extract x i) {sx:qE}(hx:rX g w sx (a.eval x)) {e:qU}(hr:a0O i sx=some e) (hs: ∀p∈e.side,p):rL P o a g w H e:=by
 replace hx:=hx.1;unfold a0O at hr;split at hr
 rotate_left
 .rename_i b p c _;have run: ∀(v:pU) (vs:Array pU),a.eval x= .tuple vs->vs[i]? =some v->(execOp a.eval o).run P w= .ok (.value v) w:=by
   intro v vs h1 h2;simp [execOp,ho,h1,Instr.extract,h2]
  obtain⟨h1,h2⟩:=hx;unfold aBP at hr;split at hr
  .cases hr;cases b with
   |true=>exact rL.pure hH (run (.bool true) _ (h1 rfl) rfl) (xD _ _ _)
   |false=>exact rL.pure hH (run (.bool false) _ (h2 rfl) rfl) (xD _ _ _)
  .cases hr;have hb:=hs (b=true) pK;exact rL.pure hH (run (.int .i64 p) _ (h1 hb) rfl) (x6 _ _ _ _)
  .cases hr;have hb:=hs (b=true) pK;exact rL.pure hH (run (.int .i32 c) _ (h1 hb) rfl) (x6 _ _ _ _)
  .cases hr
 rotate_left
 .rename_i l _;obtain⟨vs,hv,hl⟩:=hx;have key: ∀(l:List ((Σ t:Ty,t.den)×pR)) (vs:pP) (i:Nat),NQ g w l vs->VR l i=some e->∃v,vs[i]? =some v/\rX g w e.slot v/\e.upd=[]/\e.rds=[]:=by
   intro l
   induction l with
   |nil=>intro vs i _ h;cases i<;>cases h
   |cons q l ih=>
    obtain⟨⟨t,x⟩,k⟩:=q;rintro vs i ⟨v,vs',rfl,r1,r2,r3⟩ h;cases i with
    |zero=>
     simp only[VR,aUT] at h;subst h;refine⟨v,rfl,?_,rfl,rfl⟩;have gen:rX g w (.val t x,k) v:=⟨r1,by
      cases k with
      |none=>trivial
      |some k=>exact r2⟩
     cases t with
     |rl e u=>
      cases x with
      |none=>exact⟨r1,trivial⟩
      |some q=>
       obtain⟨k',n⟩:=q;obtain⟨v',h1,h2,h3⟩:=BE rfl r1;simp only[aVT,and_true] at h2;subst h2;exact⟨⟨h1,h3⟩,trivial⟩
     |_=>exact gen
    |succ i=>
     obtain⟨v',h1,h2,h3,h4⟩:=ih vs' i r3 h;exact⟨v',by simpa using h1,h2,h3,h4⟩
  obtain⟨v,h1,h2,h3,h4⟩:=key l vs i hl hr;obtain⟨side,slot,upd,rds⟩:=e;simp only at h2 h3 h4;subst h3;refine rL.value (v:=v) (g':=g) (w':=w) ?_ (.pure hH h2);have:vs.toArray[i]? =some v:=by simpa using h1
  simp [execOp,ho,hv,Instr.extract,this]
 .cases hr
theorem aLK {x:Operand}(ho:o.op= .nilCheck x) {sx:qE}(hx:rX g w sx (a.eval x)) {e:qU}(hr:a0J sx=some e):rL P o a g w H e:=by
 replace hx:=hx.1;unfold a0J at hr;split at hr
 .rename_i p _;obtain⟨i,off⟩:=p;cases hr;obtain⟨p,hp,hv⟩:=A7 hx;refine rL.pure hH (v:=a.eval x) ?_ hx;simp [execOp,ho,hv]
 .cases hr;obtain⟨b,off,cs,hv,h⟩:=hx;refine rL.pure hH (v:=a.eval x) ?_ ⟨b,off,cs,hv,h⟩;simp [execOp,ho,hv]
 .cases hr;obtain⟨b,cap,h1,h2,h3,hv⟩:=hx;refine rL.pure hH (v:=a.eval x) ?_ ⟨b,cap,h1,h2,h3,hv⟩;simp [execOp,ho,hv]
 .cases hr
theorem aLL {t:TypeId}{x ix:Operand}(ho:o.op= .index t x ix) {sx si:qE}(hx:rX g w sx (a.eval x)) (hi:rX g w si (a.eval ix)) {e:qU}(hr:a0N (s0 T t) sx si=some e) (hs: ∀p∈e.side,p):rL P o a g w H e:=by
 generalize hst:s0 T t=ot at hr;replace hx:=hx.1;replace hi:=hi.1;unfold a0N at hr;split at hr
 .rename_i _ _ _ _ l _ k i _;cases hr;have hb:=hs _ (aVb.2 rfl);have h2:=(tM hT hst).2;simp only[yW] at h2;have hv:=xC hx;have hvi:=x5 hi;have hlt:(Int.toNat i)<List.length l:=yX hb.1 hb.2;refine rL.pure hH (v:= .int .u8 (sJ l i)) ?_ (x6 _ _ _ _);have hget:(if (0:Int)<=i then(⟨List.toArray l⟩:ByteArray)[Int.toNat i]? else none)=some (l[Int.toNat i]):=by
   rw[aUU hb.1];exact aLG l _ hlt
  have hbyte:sJ l i=((l[Int.toNat i]).toNat:Int):=by
   unfold sJ;rw[aVq,aU5 hlt];rfl
  simp only[execOp,ho,hv,hvi,Instr.index,asIntOf,aVe,aVm,aU4,aVh h2,hget,hbyte]
 .cases hr
theorem aLM {t:TypeId}{x ix:Operand}(ho:o.op= .indexAddr t x ix) {sx si:qE}(hx:rX g w sx (a.eval x)) (hi:rX g w si (a.eval ix)) {e:qU}(hr:a0M (s0 T t) sx si=some e) (hs: ∀p∈e.side,p):rL P o a g w H e:=by
 generalize hst:s0 T t=ot at hr;replace hx:=hx.1;replace hi:=hi.1;unfold a0M at hr;split at hr
 .rename_i t' el by' ar ls_ k n _ k' i _;split at hr
  .rename_i hpos;cases hr;have hb:=hs _ (aVb.2 rfl);obtain⟨h2,h3,_⟩:=(tM hT hst).2;obtain⟨ei,hei,hz⟩:=aU1.1 h3;simp only[aVs] at hz;have hvi:=x5 hi;obtain⟨hc,hv⟩:=hx;rcases hv with⟨_,rfl⟩ |⟨b,cap,hv,hcap⟩
   .exact absurd (Int.lt_of_le_of_lt hb.1 hb.2) (Int.lt_irrefl 0)
   refine rL.pure hH (v:= .pointer (some ⟨b,0+Int.toNat i*t'.cells,none⟩)) ?_ ⟨b,cap,by rw[<-hv];exact hc,hb.1,hb.2,by rw[aVx,aVU]⟩;simp only[execOp,ho,hv,hvi,Instr.indexAt,asIntOf,aVe,aVm,aU4,aVh h2,sizeOf,typeInfo,aV1,hei,hz.1,aUU hb,aWj]
  .cases hr
 .rename_i t' el by' ar ls_ t1 l _ k i _;split at hr
  .rename_i htt;subst htt;cases hr;have hb:=hs _ (aVb.2 rfl);obtain⟨h2,h3,_⟩:=(tM hT hst).2;obtain⟨ei,hei,hz⟩:=aU1.1 h3;simp only[aVs] at hz;have hvi:=x5 hi;obtain⟨ad,cap,hv,hle,hl⟩:=DN hx;have hlt:(Int.toNat i)<List.length l:=yX hb.1 hb.2;rcases hl with rfl|⟨b,off,rfl,hL⟩
   .simp at hlt
   have hnth:l[Int.toNat i]? =some (qR t1 l i):=by
    unfold qR;rw[aVq,aU5 hlt];rfl
   obtain⟨cs,hc1,hc2,hc3,hc4⟩:=NU hL hnth;refine rL.pure hH (v:= .pointer (some ⟨b,off+Int.toNat i*t1.cells,none⟩)) ?_ ⟨b,_,cs,rfl,hc2,hc3,hc4⟩;simp only[execOp,ho,hv,hvi,Instr.indexAt,asIntOf,aVe,aVm,aU4,aVh h2,sizeOf,typeInfo,aV1,hei,hz.1,aUU hb,aWj]
  .cases hr
 .rename_i s u el by' ls_ i off _ k n _;have hty:=tM hT hst;generalize h1:(Ty.pair s u).offs (Int.toNat n)=o1 at hr;generalize h2:(Ty.pair s u).fld (Int.toNat n)=o2 at hr;unfold VQ at hr;split at hr
  .split at hr
   .rename_i oo v hpos;cases hr;have hn0:=hs _ (aVb.2 rfl);obtain⟨p,hp,hv⟩:=A7 hx;have hvi:=x5 hi;obtain⟨len,el',hu,hel,_⟩:=aCg hty rfl rfl;obtain⟨k1,k2,k3,k4⟩:=a07 hel h1 h2;obtain⟨ei,hei,hz⟩:=aU1.1 k2;have hb:(0:Int)<=n/\(n:Int)<(len:Int):=⟨hn0,aCh hn0 k1⟩;refine rL.pure hH (v:= .pointer (some ⟨p.1,p.2+off+oo,none⟩)) ?_ (.inr ⟨rfl,p,hp,by rw[aVF]⟩);simp only[execOp,ho,hv,hvi,Instr.indexAt,Instr.sureAddr,asIntOf,aVe,aVm,aU4,aVh hu,sizeOf,typeInfo,aV1,hei,hz,aUU hb,aWj,k4]
   .cases hr
  .cases hr
 .rename_i s u el by' ls_ u' y _ k n _;split at hr
  .rename_i hu';subst hu';have hty:=tM hT hst;generalize hp:(Ty.pair s u).proj y (Int.toNat n)=q at hr;cases q with
   |none=>cases hr
   |some q=>
    obtain⟨v,z⟩:=q;simp only[VP] at hr;split at hr
    .rename_i hpos;cases hr;have hn0:=hs _ (aVb.2 rfl);obtain⟨b,off,cs,hv,hra,hS,hR⟩:=hx;have hvi:=x5 hi;obtain⟨oo,c1,c2,c3,h1,h2,rfl,rfl,h5⟩:=a05 hR hp;obtain⟨len,el',hu,hel,_⟩:=aCg hty rfl rfl;obtain⟨k1,k2,k3,k4⟩:=a07 hel h1 h2;obtain⟨ei,hei,hz⟩:=aU1.1 k2;have hb:(0:Int)<=n/\(n:Int)<(len:Int):=⟨hn0,aCh hn0 k1⟩;refine rL.pure hH (v:= .pointer (some ⟨b,off+c1.length,none⟩)) ?_ ⟨b,off+c1.length,c2,rfl,fun j v hj=> ?_,fun j hj=> ?_,h5⟩
     .simp only[execOp,ho,hv,hvi,Instr.indexAt,Instr.sureAddr,asIntOf,aVe,aVm,aU4,aVh hu,sizeOf,typeInfo,aV1,hei,hz,aUU hb,aWj,<-k4]
     .have:=hra (c1.length+j) v (by
       have hj':=(aVd.1 hj).1;rw[aU0,aVa pI,aVK,aVf hj'];exact hj)
      rw[aVF];exact this
     .have:=hS (c1.length+j) (by
       have:=tC hR;have h6:=tC h5;simp only[aUW] at this;omega)
      rw[aVF];exact this
    .cases hr
  .cases hr
 .cases hr
end
theorem aCi (off:Nat): ∀(vl:pP) (k:Nat) (cs:Array pU) (c1 c2 c3:pP),cs.toList=c1++c2++c3->c1.length=off+k->c2.length=vl.length->
  ((vl.zipIdx k).foldl (fun(cs:Array pU) (p:pU×Nat)=>cs.setIfInBounds (off+p.2) p.1) cs).toList=c1++vl++c3
 |[],_,cs,c1,c2,c3,h,_,h2=>by
  have:c2=[]:=aVu (by simpa using h2);subst this;simpa using h
 |v::vl,k,cs,c1,c2,c3,h,h1,h2=>by
  cases c2 with
  |nil=>simp at h2
  |cons u c2=>
   simp only[List.zipIdx_cons,List.foldl_cons];have:=aCi off vl (k+1) (cs.setIfInBounds (off+k) v) (c1++[v]) c2 c3 (by
    rw[Array.toList_setIfInBounds,h,<-h1];simp) pL (by simpa using h2)
   rw[this];simp
theorem aLN (off:Nat) (vs cs:Array pU) (c1 c2 c3:pP) (h:cs.toList=c1++c2++c3) (h1:c1.length=off) (h2:c2.length=vs.size):
  (vs.zipIdx.foldl (fun(cs:Array pU) (x:pU×Nat)=>match x with|(c,j)=>cs.setIfInBounds (off+j) c) cs).toList=c1++vs.toList++c3:=by
 rw[<-aWV,Array.toList_zipIdx];exact aCi off vs.toList 0 cs c1 c2 c3 h pI (by simpa using h2)
theorem aCj {place:Nat->pQ}{cells:Array pU}{i:Nat}{v:pU}{rest:List (Nat×pU)}{off size:Nat}{c1 c2 c3:pP}(hp:place i=some (off,size)) (hs:v.cells.size=size)
  (h:cells.toList=c1++c2++c3) (h1:c1.length=off) (h2:c2.length=size):
  Instr.fill place cells ((i,v)::rest)=Instr.fill place (c1++v.cells.toList++c3).toArray rest:=by
 have hsz:cells.size=c1.length+c2.length+c3.length:=by rw[<-aVy,h];simp;omega
 simp only[Instr.fill,hp];rw[aUX (by simp [hs];omega)];congr 1;apply aV6.1;rw[aLN off v.cells cells c1 c2 c3 h h1 pI]
theorem a1a {k:Nat}: ∀{t:Ty}{o:Nat}{cs:pP},L9 t=false->cs.length=t.cells->yK k t o cs
 | .bool,_,_,_,_=>trivial
 | .int _,_,_,_,_=>trivial
 | .str,_,_,_,_=>trivial
 | .unit,_,_,_,_=>trivial
 | .ref,_,_,_,_=>trivial
 | .clo,_,_,_,_=>trivial
 | .mp,_,_,_,_=>trivial
 | .rl _ _,_,_,_,_=>trivial
 | .fn,_,_,_,_=>trivial
 | .mref,_,_,_,_=>trivial
 | .list _,_,_,h,_=>by simp [L9] at h
 | .pair a b,_,cs,h,hl=>by
  simp only[L9,aVG] at h;simp only[Ty.cells] at hl;exact⟨cs.take a.cells,cs.drop a.cells,by simp,by rw[aVj];omega,a1a h.1 (by rw[aVj];omega),a1a h.2 (by rw[aVg];omega)⟩
theorem a1b: ∀t:Ty,(uR t).length=t.cells
 | .bool=>rfl
 | .int _=>rfl
 | .str=>rfl
 | .unit=>rfl
 | .ref=>rfl
 | .clo=>rfl
 | .mp=>rfl
 | .rl _ _=>rfl
 | .fn=>rfl
 | .mref=>rfl
 | .list _=>rfl
 | .pair a b=>by simp only[uR,aUW,a1b a,a1b b,Ty.cells]
theorem WN {k:Nat}: ∀(t:Ty) (o:Nat),yK k t o (uR t)
 | .bool,_=>trivial
 | .int _,_=>trivial
 | .str,_=>trivial
 | .unit,_=>trivial
 | .ref,_=>trivial
 | .clo,_=>trivial
 | .mp,_=>trivial
 | .rl _ _,_=>trivial
 | .fn,_=>trivial
 | .mref,_=>trivial
 | .list _,_=> .inr rfl
 | .pair a b,_=>⟨uR a,uR b,rfl,a1b a,WN a _,WN b _⟩
theorem aCk {g:Gh}{w:pT}{k:Nat}: ∀{t:Ty}{x:t.den}{cs:pP}{off o:Nat},yK k t off cs->Rd g w t x cs->FU t o=true->off+o+1≠k->∃(u:Ty),rJ (.list u) t x o=some []/\cs[o]? =some (.slice none 0 0):=by
 intro t
 induction t with
 |pair a b iha ihb=>
  intro x cs off o hn hr hl hk;obtain⟨c1,c2,e,h1,h2,h3⟩:=hn;obtain⟨d1,d2,e',r1,r2⟩:=hr;have hd:c1=d1/\c2=d2:=aWU (e.symm.trans e') (by rw[h1,tC r1]);obtain⟨rfl,rfl⟩:=hd;have key: ∀(u:Ty) q,rJ (.list u) (.pair a b) x q=if q<a.cells then rJ (.list u) a x.1 q else rJ (.list u) b x.2 (q-a.cells):=by
   intro u q;cases q with
   |zero=>
    conv=>lhs;unfold rJ
    rw[aWB (by intro e;cases e),Nat.zero_sub]
   |succ q=>simp [rJ]
  have hl':(if o<a.cells then FU a o else FU b (o-a.cells))=true:=by
   cases o<;>simpa[FU] using hl
  by_cases ho:o<a.cells
  .rw[aUU ho] at hl';obtain⟨u,k1,k2⟩:=iha h2 r1 hl' hk;exact⟨u,by rw[key,aUU ho];exact k1,by rw[e,aVf pI];exact k2⟩
  .rw[aUX ho] at hl';obtain⟨u,k1,k2⟩:=ihb h3 r2 hl' pI;exact⟨u,by rw[key,aUX ho];exact k1,by rw[e,aVa pI,h1];exact k2⟩
 |list u=>
  intro x cs off o hn hr hl hk;cases o with
  |succ o=>simp [FU] at hl
  |zero=>
   obtain⟨a,cap,e,_,_⟩:=hr;have hn':cs=[.slice none 0 0]:=hn.resolve_left (by simpa using hk);rw[hn'] at e;simp only[aVT,aWW,and_true] at e;have:(x:List u.den)=[]:=aVu e.2.1.symm;subst this;exact⟨u,by unfold rJ;simp [v7],by rw[hn'];rfl⟩
 |_=>intro x cs off o hn hr hl;cases o<;>simp [FU] at hl
theorem aLO {g:Gh}{w:pT}{u:Ty}{y:u.den}{cy:pP}(hy:Rd g w u y cy): ∀{t:Ty}{x z:t.den}{cs:pP}{f:Nat},Rd g w t x cs->Ty.setPart u y t x f=some z->
  ∃o c1 c2 c3,t.offs f=some o/\t.fld f=some u/\cs=c1++c2++c3/\c1.length=o/\c2.length=u.cells/\Rd g w t z (c1++cy++c3)/\(∀k off,yK k t off cs->yK k u (off+o) cy->yK k t off (c1++cy++c3)):=by
 intro t
 induction t with
 |pair a b _ ihb=>
  intro x z cs f r h;obtain⟨c1,c2,e,r1,r2⟩:=r;cases f with
  |zero=>
   simp only[Ty.setPart] at h;split at h
   .rename_i hu;subst hu;simp only[v7,aUT] at h;subst h;refine⟨0,[],c1,c2,rfl,rfl,by simpa using e,rfl,tC r1,⟨cy,c2,by simp,hy,r2⟩,fun k off ⟨d1,d2,e',k1,_,k3⟩ hcy=> ?_⟩;obtain⟨rfl,rfl⟩:=aWU (e'.symm.trans e) (by rw[k1,tC r1]);exact⟨cy,d2,by simp,tC hy,hcy,k3⟩
   .cases h
  |succ f=>
   simp only[Ty.setPart,aU1] at h;obtain⟨q,hq,rfl⟩:=h;obtain⟨o,d1,d2,d3,h1,h2,h3,h4,h5,h6,h7⟩:=ihb r2 hq;refine⟨a.cells+o,c1++d1,d2,d3,by simp [Ty.offs,h1],by simpa[Ty.fld] using h2,by rw[e,h3];simp,?_,h5,⟨c1,d1++cy++d3,by simp,r1,h6⟩,fun k off ⟨k1,k2,e',k3,k4,k5⟩ hcy=>by
    obtain⟨rfl,rfl⟩:=aWU (e'.symm.trans e) (by rw[k3,tC r1]);exact⟨k1,d1++cy++d3,by simp,k3,k4,h7 k _ k5 (by rw[aVF];exact hcy)⟩⟩
   rw[aUW,h4,tC r1]
 |_=>intro x z cs f r h;cases f<;>simp [Ty.setPart] at h
theorem a1c {g:Gh}{w:pT}{t:Ty}{ev:Operand->pU}{ρ:Operand->qE}{place:Nat->pQ}(hp: ∀f o u,t.offs f=some o->t.fld f=some u->place f=some (o,u.cells)):
  ∀(ps:List (Nat×Operand)) (x z:t.den) (cs:pP),Rd g w t x cs->(∀q∈ps,rX g w (ρ q.2) (ev q.2))->B8 t (some x) (v8 ρ ps)=some z->
  ∃cs',Instr.fill place cs.toArray (ps.map fun q=>(q.1,ev q.2))=some cs'.toArray/\Rd g w t z cs'/\(∀m k,BB t (v8 ρ ps)=some m->m=0\/m=k->yK k t 0 cs->yK k t 0 cs')
 |[],x,z,cs,r,_,h=>by
  simp only[v8,B8,aUT] at h;subst h;exact⟨cs,rfl,r,fun _ _ _ _ h=>h⟩
 |(i,q)::ps,x,z,cs,r,hq,h=>by
  have h0:=hq (i,q) pK;have step: ∀{u:Ty}{y:u.den}{z1:t.den},tT g w u y (ev q)->Ty.setPart u y t x i=some z1->B8 t (some z1) (v8 ρ ps)=some z->(∀m k,BB t (v8 ρ ((i,q)::ps))=some m->m=0\/m=k->(∀o,t.offs i=some o->yK k u o (ev q).cells.toList)/\∃m',BB t (v8 ρ ps)=some m'/\(m'=0\/m'=k))->
    ∃cs',Instr.fill place cs.toArray (((i,q)::ps).map fun q=>(q.1,ev q.2))=some cs'.toArray/\Rd g w t z cs'/\(∀m k,BB t (v8 ρ ((i,q)::ps))=some m->m=0\/m=k->yK k t 0 cs->yK k t 0 cs'):=by
   intro u y z1 hv hset h hpl;obtain⟨o,c1,c2,c3,h1,h2,rfl,h4,h5,h6,h7⟩:=aLO (FY hv) r hset;obtain⟨cs',hf,hr,hn⟩:=a1c hp ps z1 z _ h6 (fun q hq'=>hq q (by simp [hq'])) h;refine⟨cs',?_,hr,fun m k hpp hm hcs=> ?_⟩
   rotate_left
   .obtain⟨q1,m',q2,q3⟩:=hpl m k hpp hm;exact hn m' k q2 q3 (h7 k 0 hcs (by rw[aVx];exact q1 o h1))
   simp only[aV0];rw[aCj (hp i o u h1 h2) (by have:=tC (FY hv);simpa using this) (c1:=c1) (c2:=c2) (c3:=c3) pK h4 h5];exact hf
  generalize hs:ρ q=s at h0;simp only[v8,hs] at h;obtain⟨d,k⟩:=s;cases d with
  |val u y=>
   simp only[B8] at h;generalize hset:Ty.setPart u y t x i=o1 at h;cases o1 with
   |none=>cases ps with
    |nil=>simp [v8,B8] at h
    |cons p ps=>simp [v8,B8] at h
   |some z1=>
    have hpl: ∀m k,BB t (v8 ρ ((i,q)::ps))=some m->m=0\/m=k->(∀o,t.offs i=some o->yK k u o (ev q).cells.toList)/\∃m',BB t (v8 ρ ps)=some m'/\(m'=0\/m'=k):=by
     intro m k hpp hm;simp only[v8,hs,BB] at hpp;cases hu:L9 u with
     |false=>
      rw[hu] at hpp;simp only[VD] at hpp;exact⟨fun o _=>a1a hu (tC (FY h0.1)),m,hpp,hm⟩
     |true=>
      rw[hu] at hpp;cases hu2:a0w u with
      |false=>rw[hu2] at hpp;simp [VD] at hpp
      |true=>
       rw[hu2] at hpp;simp only[VD] at hpp;cases ho:t.offs i with
       |none=>rw[ho] at hpp;simp [VC] at hpp
       |some o=>
        rw[ho] at hpp;cases hm2:BB t (v8 ρ ps) with
        |none=>rw[hm2] at hpp;simp [VC] at hpp
        |some m'=>
         rw[hm2] at hpp;simp only[VC] at hpp;split at hpp
         .rename_i hm0;subst hm0;simp only[aUT] at hpp;refine⟨fun o' ho'=> ?_,0,rfl,.inl rfl⟩;obtain rfl:=aUZ ho';cases u with
          |list u=>exact .inl pI
          |_=>simp [a0w] at hu2
         .cases hpp
    obtain⟨cs',k1,k2,k3⟩:=step h0.1 hset h hpl;exact⟨cs',k1,k2,k3⟩
  |nilS=>
   simp only[B8] at h;generalize hfl:t.fld i=fl at h;cases fl with
   |none=>cases ps<;>simp [UZ,v8,B8] at h
   |some u=>
    cases u with
    |list u=>
     simp only[UZ] at h;generalize hset:Ty.setPart (.list u) [] t x i=o1 at h;cases o1 with
     |none=>cases ps<;>simp [v8,B8] at h
     |some z1=>
      have hev:ev q= .slice none 0 0:=h0.1;refine step (u:= .list u) (y:=[]) ?_ hset h (fun m k hpp hm=> ?_)
      .rw[hev];exact .inr ⟨rfl,none,0,rfl,aVi _,.inl rfl⟩
      .simp only[v8,hs,BB] at hpp;exact⟨fun o _=>by rw[hev];exact .inr rfl,m,hpp,hm⟩
    |_=>cases ps<;>simp [UZ,v8,B8] at h
  |_=>simp [B8] at h
section
variable {P:Program}{o:Oper}{a:Act}{g:Gh}{w:pT}{H:sD}{T:sY}(hT:y5 P T) (hH:sM g w H)
include hT hH
theorem aCl {P:Program}(w:pT): ∀(fs:List Field),(∀f∈fs,∃n,(P.info? f.type).map (·.size)=some n)->
  (fs.mapM (fun f=>do pure (f.offset,<-sizeOf f.type):Field->Sem (Nat×Nat))).run P w= .ok (fs.map fun f=>(f.offset,((P.info? f.type).map (·.size)).getD 0)) w
 |[],_=>rfl
 |f::fs,h=>by
  obtain⟨n,hn⟩:=h f pK;obtain⟨i,hi,hsz⟩:=aU1.1 hn;rw[List.mapM_cons];simp only[aVe,sizeOf,typeInfo,aV1,hi,aU4,aVm];have:=aCl w fs (fun f hf=>h f (by simp [hf]));simp only[sizeOf,typeInfo,aVe,aV1] at this;rw[this];simp [hi]
theorem aLP {P:Program}: ∀{ty:Ty}{off:Nat}{fs:List Field},NT P ty off fs->∀f∈fs,∃n,(P.info? f.type).map (·.size)=some n:=by
 intro ty
 induction ty with
 |pair a b _ ihb=>
  intro off fs h f hf;cases fs with
  |nil=>cases hf
  |cons fd fs=>
   obtain⟨_,h2,_,h4⟩:=h;rcases aU9.1 hf with rfl|hf
   .exact⟨_,h2⟩
   .exact ihb h4 f hf
 |unit=>intro off fs h f hf;cases fs with|nil=>cases hf|cons=>exact h.elim
 |_=>intro off fs h f hf;cases fs<;>exact h.elim
omit hT hH in
theorem aCm {t:Ty}{x:t.den}{cs:pP}{ps:List (Nat×qE)}(h: ∀m k,BB t ps=some m->m=0\/m=k->yK k t 0 (uR t)->yK k t 0 cs):match ((DV.val t x,a0x t (BB t ps)):qE) with
  |(_,none)=>True
  |(.val t x,some k)=>DK g t x (.agg cs.toArray) (some k)
  |(_,some _)=>False:=by
 cases hp:BB t ps with
 |none=>cases t<;>trivial
 |some m=>
  cases t with
  |pair a b=>
   have:=h m m hp (.inr rfl) (WN _ _);simpa[a0x,DK,Value.cells] using this
  |_=>trivial
omit hT in
theorem rL.pureS {s:qE}{v:pU}(hr:(execOp a.eval o).run P w= .ok (.value v) w) (hs:rX g w s v):rL P o a g w H ⟨[],s,[],[]⟩:=
 rL.value hr (.pure hH hs)
theorem aLQ {t:TypeId}{ps:Array (Nat×Operand)}(ho:o.op= .build t ps) {ρ:Operand->qE}(hρ: ∀q∈ps.toList,rX g w (ρ q.2) (a.eval q.2)) {e:qU}(hr:a0y (v8 ρ ps.toList) (s0 T t)=some e):rL P o a g w H e:=by
 generalize hs:s0 T t=ot at hr;cases ot with
 |none=>cases hr
 |some ti=>
  have hty:=tM hT hs;simp only[a0y] at hr;by_cases hrow:ti.ty.isRow=true
  case neg=>rw[aUX hrow] at hr;cases hr
  rw[aUU hrow] at hr;generalize hb:B8 ti.ty (some ti.ty.zero) (v8 ρ ps.toList)=ox at hr;cases ox with
  |none=>cases hr
  |some x=>
   cases hr;obtain⟨i,hi,hsz,hz⟩:=EL hty;have hzv:x4 ti.ty= .agg (uR ti.ty).toArray:=by unfold x4;rw[aUU hrow]
   have hzr: ∀w,(zeroValue t).run P w= .ok (.agg (uR ti.ty).toArray) w:=by
    intro w;simp [zeroValue,typeInfo,hi,hz,hzv]
   have hmap:(ps.map fun(q:Nat×Operand)=>(q.1,a.eval q.2)).toList=ps.toList.map fun q=>(q.1,a.eval q.2):=by simp
   rcases a08 hty hrow with⟨har,fs,hfs,hfe⟩ |⟨har,n,el,hu,hel,hsome⟩
   .have hpl:=aCl (P:=P) hT hH w fs.toList (aLP hT hH hfe);obtain⟨cs',hf,hR,hN⟩:=a1c (g:=g) (w:=w) (ev:=a.eval) (ρ:=ρ) (t:=ti.ty) (place:=fun j=>((fs.map fun f=>(f.offset,((P.info? f.type).map (·.size)).getD 0))[j]?)) (fun f oo u h1 h2=>by
     obtain⟨fd,k1,k2,k3,_⟩:=a06 hfe h1 h2;have k1':fs[f]? =some fd:=by simpa using k1
     simp [k1',k2,k3]) ps.toList ti.ty.zero x (uR ti.ty) (EK g w ti.ty) hρ hb
    refine rL.pureS hH (v:= .agg cs'.toArray) ?_ ⟨.inl ⟨hrow,cs',rfl,hR⟩,aCm hN⟩;have hmp:(fs.mapM (fun f=>do pure (f.offset,<-sizeOf f.type):Field->Sem (Nat×Nat))).run P w= .ok (fs.map fun f=>(f.offset,((P.info? f.type).map (·.size)).getD 0)) w:=by
     rw[Array.mapM_eq_mapM_toList,Sem.run_map,hpl];simp only[aU4];congr 1;apply aV6.1;simp
    simp only[execOp,ho,Instr.build,aVe,hzr,aU4,aVh hfs,hmp,Value.cells];rw[hmap,hf];rfl
   .obtain⟨cs',hf,hR,hN⟩:=a1c (g:=g) (w:=w) (ev:=a.eval) (ρ:=ρ) (t:=ti.ty) (place:=fun j=>some (j*((P.info? el).map (·.size)).getD 0,((P.info? el).map (·.size)).getD 0)) (fun f oo u h1 h2=>by
     obtain⟨k1,k2,k3,k4⟩:=a07 hel h1 h2;simp [k2,k4]) ps.toList ti.ty.zero x (uR ti.ty) (EK g w ti.ty) hρ hb
    refine rL.pureS hH (v:= .agg cs'.toArray) ?_ ⟨.inl ⟨hrow,cs',rfl,hR⟩,aCm hN⟩;obtain⟨ei,hei⟩:=aUV.1 hsome;simp only[hei,Option.map_some,aW1] at hf;simp only[execOp,ho,Instr.build,aVe,hzr,aU4,aVh hu,sizeOf,typeInfo,aV1,hei,aVm,Value.cells];rw[hmap,hf];rfl
theorem a1d {ρ:Operand->qE}{ev:Operand->pU}: ∀{xs:List Operand}{ss:List qE},(∀x∈xs,rX g w (ρ x) (ev x))->wH ρ xs=ss->∃vs,xs.map ev=vs/\vs.length=ss.length/\∀(i:Nat) (s:qE) (v:pU),ss[i]? =some s->vs[i]? =some v->rX g w s v
 |[],_,_,h=>⟨[],rfl,by rw[<-h];rfl,fun i s v _ hv=>by simp at hv⟩
 |x::xs,ss,hx,h=>by
  subst h;obtain⟨vs,h1,h2,h3⟩:=a1d (fun y hy=>hx y (by simp [hy])) rfl (xs:=xs);refine⟨ev x::vs,by simp [h1],by simp [wH,h2],fun i s v hs hv=> ?_⟩;cases i with
  |zero=>
   simp only[wH,aVt,aUT] at hs hv;subst hs;subst hv;exact hx x pK
  |succ i=>
   simp only[wH,aVH] at hs hv;exact h3 i s v hs hv
theorem WO {ρ:Operand->qE}{ev:Operand->pU}{args:Array Operand}{s:qE}(hρ: ∀x∈args.toList,rX g w (ρ x) (ev x)) (h:wH ρ args.toList=[s]): ∃v,args.map ev= #[v]/\rX g w s v:=by
 obtain⟨vs,h1,h2,h3⟩:=a1d hT hH hρ h;obtain⟨v,rfl⟩:=aWm.1 h2;exact⟨v,by apply aV6.1;simpa using h1,h3 0 s v rfl rfl⟩
theorem WP {ρ:Operand->qE}{ev:Operand->pU}{args:Array Operand}{s t:qE}(hρ: ∀x∈args.toList,rX g w (ρ x) (ev x)) (h:wH ρ args.toList=[s,t]): ∃v u,args.map ev= #[v,u]/\rX g w s v/\rX g w t u:=by
 obtain⟨vs,h1,h2,h3⟩:=a1d hT hH hρ h
 match vs,h2 with
 |[v,u],_=>exact⟨v,u,by apply aV6.1;simpa using h1,h3 0 s v rfl rfl,h3 1 t u rfl rfl⟩
theorem HD {b:Builtin}{args:Array Operand}{tys:Array TypeId}(ho:o.op= .call ⟨.builtin b,args,tys⟩):
  ∃cs,execOp a.eval o=builtin b tys o.type cs (args.map a.eval):=by
 refine⟨args.map fun| .const _=>true|_=>false,?_⟩
 unfold execOp;rw[ho];rfl
theorem aLR (x y:Int):(if y<x then y else x)=min x y:=by rw[Int.min_def];split<;>split<;>omega
theorem aLS (x y:Int):(if y>x then y else x)=max x y:=by rw[Int.max_def];split<;>split<;>omega
theorem aLT {args:Array Operand}{tys:Array TypeId}(ho:o.op= .call ⟨.builtin .len,args,tys⟩) {ρ:Operand->qE}(hρ: ∀x∈args.toList,rX g w (ρ x) (a.eval x)) {e:qU}
  (hr:VY T H (wH ρ args.toList) tys.toList=some e):rL P o a g w H e:=by
 obtain⟨t0,tr,htl⟩: ∃t0 tr,tys.toList=t0::tr:=by cases h:tys.toList with|nil=>(rw[h] at hr;cases hr) |cons t r=>exact⟨t,r,rfl⟩
 have ht0:tys[0]? =some t0:=by rw[<-aV3,htl];rfl
 rw[htl] at hr;simp only[VY] at hr;generalize hst:s0 T t0=ot at hr;generalize hss:wH ρ args.toList=ss at hr;unfold a0P at hr;split at hr
 .rename_i el fl ar ls_ i k;generalize hb:qH H i=ob at hr;unfold VS at hr;split at hr
  .rename_i kt vt l;cases hr;obtain⟨v,hv,hs⟩:=WO hT hH hρ hss;have h2:=(tM hT hst).2;simp only[yW] at h2;obtain⟨p,es,cl,hp,hp0,hh,hM,hS⟩:=hH.blk i _ hb;obtain⟨p',hp',hxv⟩: ∃p,g.J i=some p/\v= .map (some p.1):=by
    rcases hs.1 with⟨h1,_⟩ |⟨_,p,h3,h4⟩
    .cases h1
    .simp only[aVT,and_true] at h4;exact⟨p,h3,h4⟩
   rw[hp] at hp';obtain rfl:=aUZ hp';have hlen: ∀{l:List (kt.den×vt.den)}{es:List MapEntry},EI g w kt vt l es->es.length=l.length:=by
    intro l
    induction l with
    |nil=>intro es h;rw[show es=[] from h];rfl
    |cons q l ih=>intro es h;obtain⟨e,es',rfl,_,_,h5⟩:=h;simp [ih h5]
   refine rL.pure hH (v:= .int .i64 (List.length l:Int)) ?_ (x6 _ _ _ _);obtain⟨cs,hx⟩:=HD (a:=a) hT hH ho;rw[hx,hv,hxv];have harg:(#[Value.map (some p.1)]:Array pU)[0]? =some (.map (some p.1)):=rfl;have hobj:(getObj p.1).run P w= .ok (.map es cl) w:=by simp [getObj,Sem.run,hh]
   simp only[builtin,Builtin.len_,ht0,harg,aVe,aVh h2,aU4,aVm,goInt,hobj];rw[<-hlen hM,aVy]
  .cases hr
 .rename_i el by' ar ls_ l k;cases hr;obtain⟨v,hv,hs⟩:=WO hT hH hρ hss;have h2:=(tM hT hst).2;simp only[yW] at h2;have hv':=xC hs.1;refine rL.pure hH (v:= .int .i64 (List.length l:Int)) ?_ (x6 _ _ _ _);subst hv';obtain⟨cs,hx⟩:=HD (a:=a) hT hH ho;rw[hx,hv];have harg:(#[Value.string ⟨List.toArray l⟩]:Array pU)[0]? =some (.string ⟨List.toArray l⟩):=rfl;simp only[builtin,Builtin.len_,ht0,harg,aVe,aVh h2,aU4,aVm,goInt];rfl
 .rename_i u el by' ar ls_ t l k;cases hr;obtain⟨v,hv,hs⟩:=WO hT hH hρ hss;have h2:=(tM hT hst).2.1;obtain⟨ad,cap,rfl,_⟩:=DN hs.1;refine rL.pure hH (v:= .int .i64 (List.length l:Int)) ?_ (x6 _ _ _ _);obtain⟨cs,hx⟩:=HD (a:=a) hT hH ho;rw[hx,hv];have harg:(#[Value.slice ad (List.length l) cap]:Array pU)[0]? =some (.slice ad (List.length l) cap):=rfl;simp only[builtin,Builtin.len_,ht0,harg,aVe,aVh h2,aU4,aVm,goInt]
 .rename_i u el by' ar ls_ ko n k;cases hr;obtain⟨v,hv,hs⟩:=WO hT hH hρ hss;have h2:=(tM hT hst).2.1;obtain⟨ad,cap,rfl⟩: ∃ad cap,v= .slice ad n cap:=by
   rcases hs.1.2 with⟨h,rfl⟩ |⟨b,cap,h,_⟩
   .exact⟨_,_,h⟩
   .exact⟨_,_,h⟩
  refine rL.pure hH (v:= .int .i64 (n:Int)) ?_ (x6 _ _ _ _);obtain⟨cs,hx⟩:=HD (a:=a) hT hH ho;rw[hx,hv];have harg:(#[Value.slice ad n cap]:Array pU)[0]? =some (.slice ad n cap):=rfl;simp only[builtin,Builtin.len_,ht0,harg,aVe,aVh h2,aU4,aVm,goInt]
 .cases hr
theorem aCn {args:Array Operand}{tys:Array TypeId}{mx:Bool}(ho:o.op= .call ⟨.builtin (if mx then .max else .min),args,tys⟩) {ρ:Operand->qE}(hρ: ∀x∈args.toList,rX g w (ρ x) (a.eval x)) {e:qU}
  (hr:B7 (VW mx (wH ρ args.toList))=some e):rL P o a g w H e:=by
 obtain⟨q,hq,rfl⟩:=JA hr;generalize hss:wH ρ args.toList=ss at hq;unfold VW at hq;split at hq
 .rename_i k x k1 k' y k2;split at hq
  .rename_i hk;subst hk;cases hq;obtain⟨v,u,hv,hs1,hs2⟩:=WP hT hH hρ hss;have e1:=x5 hs1.1;have e2:=x5 hs2.1;subst e1;subst e2;cases mx
   .refine rL.pure hH (v:= .int k (min (x:Int) y)) ?_ (x6 _ _ _ _);obtain⟨cs,hx⟩:=HD (a:=a) hT hH ho;rw[hx,hv];have:=aLR hT hH x y;simp [builtin,Builtin.min_,Builtin.min2,this]
   .refine rL.pure hH (v:= .int k (max (x:Int) y)) ?_ (x6 _ _ _ _);obtain⟨cs,hx⟩:=HD (a:=a) hT hH ho;rw[hx,hv];have:=aLS hT hH x y;simp [builtin,Builtin.max_,Builtin.max2,this]
  .cases hq
 .cases hq
theorem aLU {f:FuncId}{caps:Array Operand}(ho:o.op= .makeFunc (.func f) #[] caps) {ρ:Operand->qE}(hρ: ∀x∈caps.toList,rX g w (ρ x) (a.eval x)) {e:qU}
  (hr:aBN f (KZ (wH ρ caps.toList))=some e):rL P o a g w H e:=by
 generalize hc:KZ (wH ρ caps.toList)=oc at hr;cases oc with
 |none=>cases hr
 |some l=>
  cases hr;have key: ∀(xs:List Operand) (l:pN),(∀x∈xs,rX g w (ρ x) (a.eval x))->KZ (wH ρ xs)=some l->yV g l (xs.map a.eval):=by
   intro xs
   induction xs with
   |nil=>intro l _ h;simp only[wH,KZ,aUT] at h;subst h;rfl
   |cons x xs ih=>
    intro l hx h;have h0:=hx x pK;generalize hs:ρ x=s at h0;simp only[wH,hs] at h;obtain⟨d,k⟩:=s;unfold KZ at h;split at h
    .cases ‹_=[]›
    .rename_i p k r heq;simp only[aVT,aVs] at heq;obtain⟨⟨rfl,rfl⟩,rfl⟩:=heq;obtain⟨l',hl',rfl⟩:=aU1.1 h;obtain⟨i,off⟩:=p;obtain⟨p,hp,hv⟩:=A7 h0.1;exact⟨p,_,hp,by rw[aV0,hv],ih l' (fun y hy=>hx y (by simp [hy])) hl'⟩
    .cases h
  refine rL.pure hH (v:= .func (.func f) #[] (caps.map a.eval)) ?_ (.inr ⟨rfl,caps.toList.map a.eval,key _ _ hρ hc,by congr 2;apply aV6.1;simp⟩);simp [execOp,ho,Instr.makeFunc]
end
theorem a1e {α:Type}{l:List α}{m n:Int}(h0:0≤m) (h1:m≤n) (h2:n≤(l.length:Int)):(sF l m n).length=n.toNat-m.toNat:=by
  unfold sF;rw[aVj,aVg];omega
theorem aCo {α:Type}{R:α→pP→Prop}{c:Nat}: ∀{l:List α}{cs:pP}{i:Nat}{x:α},uI R c l cs→l[i]? =some x→∃c1 c2 c3,cs=c1++c2++c3∧c1.length=i*c∧c2.length=c∧R x c2
  | y::l,_,0,x,⟨c1,c2,e,h1,h2,h3⟩,h=>by
    simp only[aVt,aUT] at h;subst h;exact⟨[],c1,c2,by simpa using e,by simp,h1,h2⟩
  | y::l,_,i+1,x,⟨c1,c2,e,h1,h2,h3⟩,h=>by
    simp only[aVH] at h;obtain⟨d1,d2,d3,e1,e2,e3,e4⟩:=aCo h3 h;exact⟨c1++d1,d2,d3,by rw[e,e1];simp,by rw[aUW,h1,e2,aV7];omega,e3,e4⟩
theorem aLV {t:Ty}{l:List t.den}{i:Int}(h0:0≤i) (h:i.toNat<l.length):l[i.toNat]? =some (qR t l i):=by
  unfold qR;rw[aVq,aU5 h];rfl
theorem NV {α:Type}{R:α→pP→Prop}{w:pT}{S:Nat→Nat→Prop}{c b:Nat}: ∀{l:List α}{o:Nat}{cs:pP},uI R c l cs→w.rangeAt b o cs→(∀j,j<l.length*c→S b (o+j))→zH R w S c b o l
  |[],_,_,_,_,_=>trivial
  | x::l,o,cs,⟨c1,c2,e,h1,h2,h3⟩,hr,hS=>by
    subst e;refine⟨⟨c1,h1,fun j v hv=>hr j v (by rw[aVf (aVd.1 hv).1];exact hv),fun j hj=>hS j (by rw[aUY,aV7];omega),h2⟩,NV h3 (fun j v hv=> ?_) (fun j hj=> ?_)⟩
    · have:=hr (c+j) v (by rw[aVa pI,h1,aVK];exact hv)
      rwa [←aVF] at this
    · have:=hS (c+j) (by rw[aUY,aV7];omega)
      rwa [←aVF] at this
theorem a1f {u0:Ty}{l:List u0.den}: ∀{t:Ty}{x:t.den}{q: Σ t:Ty,t.den},A2 u0 l t x=some q→q.1.cells=t.cells:=by
  intro t
  induction t with
  | rl e u=>
    intro x q h;cases x with
    |none=>cases h
    | some p=>
      simp only[A2,a0C] at h;split at h
      .cases h;rfl
      .cases h
  | pair a b iha ihb=>
    intro x q h;simp only[A2] at h;cases hf:BW a x.1 with
    | some p=>
      rw[hf] at h;cases hq:A2 u0 l a x.1 with
      |none=>rw[hq] at h;cases h
      | some r=>
        obtain⟨a',x'⟩:=r;rw[hq] at h;simp only[LA,aUT] at h;subst h;have:=iha hq;simp only[Ty.cells] at this|-;omega
    | none=>
      rw[hf] at h;cases hq:A2 u0 l b x.2 with
      |none=>rw[hq] at h;simp [LA] at h
      | some r=>
        obtain⟨b',y'⟩:=r;rw[hq] at h;simp only[LA,aUT] at h;subst h;have:=ihb hq;simp only[Ty.cells] at this|-;omega
  |_=>intro x q h;simp [A2] at h
theorem aLW {g:Gh}{w:pT}{k n:Nat}{u0:Ty}{l:List u0.den}(hk: ∀cs,FX g (some (k,n)) cs→Rd g w (.list u0) l cs): ∀{t:Ty}{x:t.den}{cs:pP}{q: Σ t:Ty,t.den},BW t x=some (k,n)→A2 u0 l t x=some q→Rd g w t x cs→Rd g w q.1 q.2 cs:=by
  intro t
  induction t with
  | rl e u=>
    intro x cs q hf h r;simp only[BW] at hf;subst hf;simp only[A2,a0C] at h;split at h
    · cases h
      exact hk _ r
    .cases h
  | pair a b iha ihb=>
    intro x cs q hf h r;obtain⟨c1,c2,e,r1,r2⟩:=r;simp only[BW] at hf;simp only[A2] at h;cases hfa:BW a x.1 with
    | some p=>
      rw[hfa] at h hf;simp only[orP,aUT] at hf;subst hf;cases hq:A2 u0 l a x.1 with
      |none=>rw[hq] at h;cases h
      | some z=>
        obtain⟨a',x'⟩:=z;rw[hq] at h;simp only[LA,aUT] at h;subst h;exact⟨c1,c2,e,iha hfa hq r1,r2⟩
    | none=>
      rw[hfa] at h hf;simp only[orP] at hf;cases hq:A2 u0 l b x.2 with
      |none=>rw[hq] at h;simp [LA] at h
      | some z=>
        obtain⟨b',y'⟩:=z;rw[hq] at h;simp only[LA,aUT] at h;subst h;exact⟨c1,c2,e,r1,ihb hf hq r2⟩
  |_=>intro x cs q hf;simp [BW] at hf
theorem aLX {g:Gh}{w:pT}{H:sD}(hH:sM g w H) {k i:Nat}{e:TypeId}{t:Ty}{l:List t.den}{n:Nat}(hk:qH H k=some (.row e t l n)) {u:Ty}{x:u.den}{toks:pN}(hi:qH H i=some (.cells u x toks)) (hfr:BW u x=some (k,n)) {q: Σ t:Ty,t.den}(hq:A2 t l u x=some q):
    ∃ g',sM g' w (qZ [(i,qD.cells q.1 q.2 []),(k,qD.grow e t.cells (List.length l))] H)∧g'.J=g.J∧
      ∀side s rds v,IW rds=true→rX g' w s v→A5 g w H ⟨side,s,[(i,qD.cells q.1 q.2 []),(k,qD.grow e t.cells (List.length l))],rds⟩ g' w v:=by
  obtain⟨hl,v,xs,hv,hown,hF,hnone,hseal⟩:=hH.blk k _ hk
  let g':Gh:={g with S:=fun b o=>g.S b o∨(v.ownBlock=some b∧o<n*t.cells)}
  have le:Le g w g' w:=⟨fun _ _ h=> .inl h,fun _ _ _=>rfl,fun _ _ h=>h,fun _ _ _ h=>h⟩;have hown2: ∀b,v.ownBlock=some b→∀o,sG g k (.row e t l n) b o:=fun b hb o=>⟨v,hv,hb⟩
  have hlist: ∀u,g.cur k n=some u→((u= .slice none 0 0∧n=0)∨∃b cap,u= .slice (some ⟨b,0,none⟩) n cap∧n≤cap)→tT g' w (.list t) l u:=by
    intro u hu hshape;rw[hv] at hu;obtain rfl:=aUZ hu;rcases hshape with⟨rfl,h0⟩ |⟨b,cap,rfl,hcap⟩
    · have:l=[]:=aVu (by rw[hl,h0])
      subst this;exact .inr ⟨rfl,none,0,rfl,aVi _,.inl rfl⟩
    · refine .inr ⟨rfl,some ⟨b,0,none⟩,cap,by rw[hl],by rw[hl];exact hcap,.inr ⟨b,0,rfl,NV (DM (fun _ _ h=>y4 le h) hF) (fun j u hu=> ?_) (fun j hj=> ?_)⟩⟩
      · have:=hown.cells (g:=b) rfl j u hu
        rwa [aWj] at this
      · right
        exact⟨rfl,by rw[hl] at hj;omega⟩
  have hik:i≠k:=fun e1=>by rw[e1,hk] at hi;cases hi
  obtain⟨p0,cs0,hp0,hR0,hra0,hth0,hns0,_⟩:=hH.blk i _ hi
  let b':qD:= .cells q.1 q.2 []
  let H':sD:=(i,b')::(k,qD.grow e t.cells (List.length l))::H
  have hget: ∀i' b,qH H' i'=some b→(i'=i∧b=b')∨(i'=k∧b= .grow e t.cells (List.length l))∨(i'≠k∧i'≠i∧qH H i'=some b):=by
    intro i' b hb;simp only[H',qH] at hb;split at hb
    .rename_i e1;exact .inl ⟨e1.symm,(aUZ hb).symm⟩
    · rename_i e1
      split at hb
      .rename_i e2;exact .inr (.inl ⟨e2.symm,(aUZ hb).symm⟩)
      .rename_i e2;exact .inr (.inr ⟨Ne.symm e2,Ne.symm e1,hb⟩)
  have howns: ∀i' b bb o,qH H' i'=some b→sG g' i' b bb o→∃b0,qH H i'=some b0∧sG g i' b0 bb o:=by
    intro i' b bb o hb ho;rcases hget i' b hb with⟨rfl,rfl⟩ |⟨rfl,rfl⟩ |⟨_,_,h1⟩
    · obtain⟨p,hp,e1,e2,e3⟩:=ho
      rw[a1f hq] at e3;exact⟨_,hi,p,hp,e1,e2,e3⟩
    · obtain⟨u,hu,hub⟩:=ho
      have hu':g.cur i' (List.length l)=some u:=hu;rw[hl] at hu';exact⟨_,hk,u,hu',hub⟩
    .exact⟨b,h1,(A6 (g':=g') (g:=g) rfl rfl).1 ho⟩
  have hheap:sM g' w H':=by
    refine⟨fun i' b hb=> ?_,fun i' j bi bj b o hij h1 h2 o1 o2=> ?_,fun b o hS=> ?_,hH.tab.1,fun i' b bb oo hb ho=>by
      obtain⟨c1,k1,k2⟩:=howns i' b bb oo hb ho;exact hH.tab.2 i' c1 bb oo k1 k2⟩
    · rcases hget i' b hb with⟨rfl,rfl⟩ |⟨rfl,rfl⟩ |⟨hne,_,h1⟩
      · have hk2: ∀cs,FX g' (some (k,n)) cs→Rd g' w (.list t) l cs:=by
          rintro cs ⟨v1,z1,z2,z3⟩;rw[z2];exact BE rfl (hlist v1 z1 z3)
        refine⟨p0,cs0,hp0,aLW (n:=n) hk2 hfr hq (y4 le hR0),hra0,?_,?_,fun _ _ hm=>by cases hm⟩
        .rw[a1f hq];exact⟨hth0.1,hth0.2⟩
        · rw[a1f hq]
          intro j hj hS;rcases hS with hS|hS
          .exact hns0 j hj hS
          .exact hH.dis i' k _ _ p0.1 (p0.2+j) hik hi hk ⟨p0,hp0,rfl,pI,pI⟩ (hown2 _ hS.1 _)
      · refine⟨v,xs,by rw[hl];exact hv,by rw[hl];exact hown,fun m hm=>hnone m (by rw[hl] at hm;exact hm),fun b hb o hS=> ?_⟩
        rw[hl];rcases hS with hS|hS
        .exact absurd hS (hseal b hb o)
        .exact hS.2
      .exact NS (hH.blk i' b h1) le rfl rfl (fun _ _ _=>⟨rfl,rfl⟩) (fun _ _=>rfl) (fun bb o ho hS=>by
          rcases hS with hS|hS
          .exact hS
          .exact absurd (hown2 bb hS.1 o) (fun h5=>hH.dis i' k b _ bb o hne h1 hk ho h5)) (fun _ _ _ _ h=>h)
    · obtain⟨c1,k1,k2⟩:=howns i' bi b o h1 o1
      obtain⟨c2,k3,k4⟩:=howns j bj b o h2 o2;exact hH.dis i' j c1 c2 b o hij k1 k3 k2 k4
    · rcases hS with hS|hS
      .exact hH.sl b o hS
      .exact R9 hown hS.1
  refine⟨g',hheap,rfl,fun side s rds vv hre hs=>⟨le,hs,hheap,⟨rfl,rfl,rfl,aVi _,fun _ _ _=>rfl,fun _ _ _ _=>⟨rfl,rfl⟩,fun b o hS=> ?_,fun _ _ h=> .inl h⟩,fun i' blk b o hm hg ho=> ?_,fun _ _=>⟨rfl,rfl⟩,fun h=>by rw[hre] at h;cases h⟩⟩
  · rcases hS with hS|hS
    .exact .inl hS
    .exact .inr (.inr ⟨k,_,by simp [qJ],hk,hown2 b hS.1 o⟩)
  · obtain⟨b0,k1,k2⟩:=howns i' blk b o hg ho
    exact .inr ⟨i',b0,hm,k1,k2⟩
section
variable {P:Program}{o:Oper}{a:Act}{g:Gh}{w:pT}{H:sD}{T:sY}(hT:y5 P T) (hH:sM g w H)
include hT hH
theorem RD {t:TypeId}{ti:TI}(hty:uG P t ti) {x:ti.ty.den}{b off:Nat}{cs:pP}(hra:w.rangeAt b off cs) (hR:Rd g w ti.ty x cs):
    ∃v,(Instr.loadAt t (.pointer (some ⟨b,off,none⟩))).run P w= .ok v w∧tT g w ti.ty x v∧v.cells.toList=cs:=by
  obtain⟨d,hd,hrow⟩:=WM hty;obtain⟨i,hi,hsz,_⟩:=EL hty;have hl:=tC hR;by_cases hr:ti.ty.isRow=true
  .refine⟨.agg cs.toArray,run_loadAt_mid w b off t cs d hra hd (by rw[hrow,hr]) (by rw[hi,Option.map_some,hsz,hl]),.inl ⟨hr,cs,rfl,hR⟩,by simp [Value.cells]⟩
  · have hr':ti.ty.isRow=false:=by simpa using hr
    have h1:ti.ty.cells=1:=by
      obtain⟨ty,el,by',ar,ls⟩:=ti;cases ty<;>first|rfl|(simp [Ty.isRow] at hr')
    obtain⟨v,rfl⟩: ∃v,cs=[v]:=by rw[h1] at hl;exact aWm.1 hl
    have hv1:=BD hR v pK;refine⟨v,?_,.inr ⟨hr',hR⟩,by cases v<;>first|rfl|(simp [Value.oneCell'] at hv1)⟩
    have hc:w.cell? ⟨b,off,none⟩=some v:=by simpa using hra 0 v rfl
    have hagg:(isAgg t).run P w= .ok false w:=by
      unfold isAgg;rw[aVe,aVh hd w];rw[hr'] at hrow;cases d<;>simp_all [TypeDesc.isRow]
    simp [Instr.loadAt,Instr.sureAddr,loadVar,aVe,hagg,hc]
theorem NW {b off:Nat}{c1 c2 c3:pP}(h:w.rangeAt b off (c1++c2++c3)):w.rangeAt b (off+c1.length) c2:=fun j v hj=>by
  have:=h (c1.length+j) v (by
    have hj':=(aVd.1 hj).1;rw[aU0,aVa pI,aVK,aVf hj'];exact hj)
  rw[aVF];exact this
theorem aCp {k n c:Nat}{i:Int}{o':Nat}{v:pU}(hx:AL g w (.elt k n c i o') v) {e:TypeId}{t:Ty}{l:List t.den}{m:Nat}(hk:qH H k=some (.row e t l m)) (hnm:n=m) (hc:c=t.cells):
    ∃ b cap xs c1 c2 c3,v= .pointer (some ⟨b,i.toNat*c+o',none⟩)∧g.cur k m=some (.slice (some ⟨b,0,none⟩) m cap)∧w.ownsRow 0 e t.cells (.slice (some ⟨b,0,none⟩) m cap) m xs∧uI (Rd g w t) t.cells l xs∧l.length=m∧i.toNat<l.length∧0≤i∧
      xs=c1++c2++c3∧c1.length=i.toNat*c∧c2.length=c∧Rd g w t (qR t l i) c2:=by
  subst hnm;subst hc;obtain⟨b,cap,h1,h2,h3,hv⟩:=hx;obtain⟨hl,v0,xs,hv0,hown,hF,hnone,hseal⟩:=hH.blk k _ hk;rw[h1] at hv0;obtain rfl:=aUZ hv0;have hi:i.toNat<l.length:=by rw[hl];omega
  obtain⟨c1,c2,c3,e1,e2,e3,e4⟩:=aCo hF (aLV h2 hi);exact⟨b,cap,xs,c1,c2,c3,hv,h1,hown,hF,hl,hi,h2,e1,e2,e3,e4⟩
theorem aLY {e:TypeId}{c n:Nat}{q cap:Nat}{xs:pP}(h:w.ownsRow 0 e c (.slice (some ⟨q,0,none⟩) n cap) n xs):w.rangeAt q 0 xs:=fun j u hu=>by
  have:=h.cells (g:=q) rfl j u hu;rwa [aWj] at this
theorem aLZ {t:TypeId}{ti:TI}(hst:s0 T t=some ti) {k n c:Nat}{i:Int}{o':Nat}{vx:pU}(hx:AL g w (.elt k n c i o') vx) {e:qU}(hr:QT ti.ty k n c i o' (qH H k)=some e) (hs: ∀p∈e.side,p):
    ∃v,(Instr.loadAt t vx).run P w= .ok v w∧rX g w e.slot v∧e.upd=[]:=by
  generalize hk:qH H k=ob at hr;unfold QT at hr;split at hr
  · rename_i e' t' l m
    split at hr
    · rename_i hc
      generalize hga:rJ ti.ty t' (qR t' l i) o'=oy at hr;cases oy with
      |none=>cases hr
      | some y=>
        cases hr;have hnm:=hs _ (aVb.2 rfl);obtain⟨b,cap,xs,c1,c2,c3,hv,hcur,hown,hF,hl,hi,h0,e1,e2,e3,e4⟩:=aCp hT hH hx hk hnm hc;obtain⟨d1,d2,d3,f1,f2,f3⟩:=EJ e4 hga;have hra:=aLY hT hH hown;rw[e1] at hra;have hra2:=NW hT hH hra;rw[f1] at hra2;have hra3:=NW hT hH hra2;rw[aVx,e2,f2] at hra3;obtain⟨v,h1,h2,_⟩:=RD hT hH (tM hT hst) hra3 f3;exact⟨v,by rw[hv];exact h1,⟨h2,trivial⟩,rfl⟩
    .cases hr
  .cases hr
theorem a1g: ∀{toks:pN}{q k:Nat},xZ toks q=some k→(q,k)∈toks
  |[],_,_,h=>by simp [xZ] at h
  | (q',k')::r,q,k,h=>by
    simp only[xZ] at h;split at h
    · rename_i e
      subst e;simp only[aUT] at h;subst h;simp
    .exact aU3 _ (a1g h)
theorem aCq {u v:Ty}: ∀{t:Ty}{x:t.den}{q:Nat}{l:List u.den}{y:v.den},rJ (.list u) t x q=some l→rJ v t x q=some y→v.isRow=false→∃h:v= .list u,v7 h y=l:=by
  intro t
  induction t with
  | pair s t ihs iht=>
    intro x q l y h1 h2 hv
    have key: ∀q,(if q<s.cells then rJ (.list u) s x.1 q else rJ (.list u) t x.2 (q-s.cells))=some l→(if q<s.cells then rJ v s x.1 q else rJ v t x.2 (q-s.cells))=some y→∃h:v= .list u,v7 h y=l:=by
      intro q h1 h2;by_cases hq:q<s.cells
      .rw[aUU hq] at h1 h2;exact ihs h1 h2 hv
      .rw[aUX hq] at h1 h2;exact iht h1 h2 hv
    cases q with
    | zero=>
      have e1:Ty.pair s t≠.list u:=by intro h;cases h
      have e2:Ty.pair s t≠v:=by intro h;subst h;simp [Ty.isRow] at hv
      unfold rJ at h1 h2;rw[aWB e1] at h1;rw[aWB e2] at h2;exact key 0 (by simpa using h1) (by simpa using h2)
    |succ q=>exact key (q+1) (by simpa[rJ] using h1) (by simpa[rJ] using h2)
  | _=>
    intro x q l y h1 h2 hv;cases q with
    | zero=>
      unfold rJ at h1 h2;split at h1
      · rename_i e1
        split at h2
        · rename_i e2
          first
          |(cases e1;done)
          | (subst e2
             injection e1 with e1'
             subst e1';simp only[v7,aUT] at h1 h2;subst h1;subst h2;exact⟨rfl,rfl⟩)
        .simp at h2
      .simp at h1
    |succ q=>simp [rJ] at h1
theorem aL0 {t:TypeId}{ti:TI}(hty:uG P t ti) (hr:ti.ty.isRow=false) {b off:Nat}{v:pU}(hc:w.cell? ⟨b,off,none⟩=some v):
    (Instr.loadAt t (.pointer (some ⟨b,off,none⟩))).run P w= .ok v w:=by
  obtain⟨d,hd,hrow⟩:=WM hty
  have hagg:(isAgg t).run P w= .ok false w:=by
    unfold isAgg;rw[aVe,aVh hd w];rw[hr] at hrow;cases d<;>simp_all [TypeDesc.isRow]
  simp [Instr.loadAt,Instr.sureAddr,loadVar,aVe,hagg,hc]
omit hT hH in
theorem aCr {a b:Option qU}{e:qU}(h:orE a b=some e):a=some e∨b=some e:=by
  cases a with
  |some r=>exact .inl h
  |none=>exact .inr h
omit hT hH in
theorem aCs {H:List (Nat×qD)}{t:Ty}{i off:Nat}{b:Option qD}{x:Option qU}{e:qU}(h:orS H t i off b x=some e):x=some e∨(x=none∧J1 H t i off b=some e):=by
  cases x with
  |some r=>exact .inl h
  |none=>exact .inr ⟨rfl,h⟩
theorem aL1 {t:TypeId}{ti:TI}{x:Operand}(ho:o.op= .load t x) (hs:s0 T t=some ti) {i off:Nat}(hx:tT g w .ref (some (i,off)) (a.eval x)) {e:qU}(hr:VF i off ti (qH H i)=some e):rL P o a g w H e:=by
  have hty:=tM hT hs;generalize hb:qH H i=ob at hr;unfold VF at hr;split at hr
  · rename_i u el _ _ _ v x' toks
    generalize hga:rJ (.rl el u) v x' off=oy at hr;unfold a0A at hr;split at hr
    · rename_i k n
      cases hr;obtain⟨p,hp,hv⟩:=A7 hx;obtain⟨p',cs,hp',hR,hra,_⟩:=hH.blk i _ hb;rw[hp] at hp';obtain rfl:=aUZ hp';obtain⟨c1,c2,c3,rfl,rfl,hR2⟩:=EJ hR hga;obtain⟨v0,hcur,rfl,hsh⟩:=hR2;have hc:w.cell? ⟨p.1,p.2+c1.length,none⟩=some v0:=by simpa using NW hT hH hra 0 _ rfl
      have h1:=aL0 (P:=P) hT hH hty rfl hc;exact rL.value (v:=v0) (g':=g) (w':=w) (by simp only[execOp,ho,hv,aVe,h1,aU4,aVm]) (.pure hH ⟨⟨hcur,hsh⟩,trivial⟩)
    .cases hr
  .cases hr
theorem aL2 {t:TypeId}{ti:TI}{x:Operand}(ho:o.op= .load t x) (hs:s0 T t=some ti) {i off:Nat}(hx:tT g w .ref (some (i,off)) (a.eval x)) {e:qU}(hr:J1 H ti.ty i off (qH H i)=some e) (hside: ∀p∈e.side,p):rL P o a g w H e:=by
  have hty:=tM hT hs;generalize hb:qH H i=ob at hr;unfold J1 at hr;split at hr
  case h_2=>cases hr
  rename_i v z toks;generalize hf:BW v z=of at hr;cases of with
  |none=>cases hr
  | some kn=>
    obtain⟨k,n0⟩:=kn;simp only[VH] at hr;generalize hk:qH H k=ok at hr;unfold VG at hr;split at hr
    case h_2=>cases hr
    rename_i el u0 l m;generalize hz:A2 u0 l v z=oq at hr;cases oq with
    |none=>cases hr
    |some q=>
    obtain⟨v',x'⟩:=q;simp only[a0E] at hr;generalize hga:rJ ti.ty v' x' off=oy at hr;cases oy with
    |none=>cases hr
    | some y=>
      simp only[a0D,aUT] at hr;subst hr;have hnm:n0=m:=hside _ (aVb.2 rfl);subst hnm;obtain⟨g',hH',hJ,heff⟩:=aLX hH hk hb hf hz;obtain⟨p,hp,hv⟩:=A7 hx;obtain⟨p',cs,hp',hR,hra,_,_,_⟩:=hH'.blk i (.cells v' x' []) (by simp [qZ,qH]);rw[hJ,hp] at hp';obtain rfl:=aUZ hp';obtain⟨c1,c2,c3,rfl,rfl,hR2⟩:=EJ hR hga;obtain⟨v0,h1,h2,_⟩:=RD hT hH' hty (NW hT hH' hra) hR2;exact rL.valueW (v:=v0) (g':=g') (w':=w) (by simp only[execOp,ho,hv,aVe,h1,aU4,aVm]) (heff _ _ _ _ rfl ⟨h2,trivial⟩)
theorem aL3 {t:TypeId}{x:Operand}(ho:o.op= .load t x) {sx:qE}(hx:rX g w sx (a.eval x)) {e:qU}(hr:VI H (s0 T t) sx=some e) (hside: ∀p∈e.side,p):rL P o a g w H e:=by
  generalize hs:s0 T t=ot at hr;replace hx:=hx.1;unfold VI at hr;split at hr
  · rename_i ti k n c i o' _
    obtain⟨v,h1,h2,h3⟩:=aLZ hT hH hs hx hr hside;obtain⟨side,slot,upd,rds⟩:=e;simp only at h2 h3;subst h3;exact rL.value (v:=v) (g':=g) (w':=w) (by simp only[execOp,ho,aVe,h1,aU4,aVm]) (.pure hH h2)
  · rename_i ti u y k
    split at hr
    · rename_i hu
      subst hu;cases hr;have hty:=tM hT hs;obtain⟨b,off,cs,hv,hra,hS,hR⟩:=hx;obtain⟨v,h1,h2,_⟩:=RD hT hH hty hra hR;exact rL.pure hH (v:=v) (by simp only[execOp,ho,hv,aVe,h1,aU4,aVm]) h2
    .cases hr
  · rename_i ti i off k
    rcases aCs hr with hr|⟨_,hr⟩
    case inr=>exact aL2 hT hH ho hs hx hr hside
    rcases aCr hr with hr|hr
    case inr=>exact aL1 hT hH ho hs hx hr
    have hty:=tM hT hs;generalize hb:qH H i=ob at hr;unfold QS at hr;split at hr
    · rename_i u z toks
      generalize hga:rJ ti.ty u z off=oy at hr;cases oy with
      |none=>cases hr
      | some y=>
        cases hr;obtain⟨p,hp,hv⟩:=A7 hx;obtain⟨p',cs,hp',hR,hra,_,_,htk⟩:=hH.blk i _ hb;rw[hp] at hp';obtain rfl:=aUZ hp';obtain⟨c1,c2,c3,rfl,rfl,hR2⟩:=EJ hR hga;obtain⟨v,h1,h2,h3⟩:=RD hT hH hty (NW hT hH hra) hR2;refine rL.value (v:=v) (g':=g) (w':=w) (by simp only[execOp,ho,hv,aVe,h1,aU4,aVm]) (.pure hH ⟨h2,?_⟩);obtain⟨ty,el,by',ar,ls⟩:=ti;cases ty with
        | list u'=>
          simp only[FS];generalize htt:xZ toks c1.length=ok;cases ok with
          |none=>trivial
          | some k=>
            obtain⟨u2,l,v',g1,g2,g3⟩:=htk _ _ (a1g hT hH htt);obtain⟨heq,hl⟩:=aCq hT hH g1 hga rfl;injection heq with heq'
            subst heq';have hlen:=tC hR2;obtain⟨v2,rfl⟩:=aWm.1 hlen
            have e2:v'=v2:=by
              have e:(c1++[v2]++c3)[c1.length]? =some v2:=by simp
              rw[e] at g2;exact(aUZ g2).symm
            have e3:v=v2:=by
              have h4:=BE rfl h2;have hone:=BD h4 v pK;have:v.cells= #[v]:=by cases v<;>first|rfl|(simp [Value.oneCell'] at hone)
              rw[this] at h3;simpa using h3
            subst e2;subst e3;have e4:(y:List u'.den)=l:=hl;subst e4;exact g3
        |_=>trivial
    .cases hr
  .cases hr
theorem WQ {ρ:Operand→qE}{x:Option Operand}{n m:Int}(hρ: ∀y∈x.toList,rX g w (ρ y) (a.eval y)) (h:ED (A3 ρ x) n=some m):(x=none∧m=n)∨∃y k,x=some y∧a.eval y= .int k m:=by
  cases x with
  |none=>simp only[A3,ED,aUT] at h;exact .inl ⟨rfl,h.symm⟩
  | some y=>
    have h0:=hρ y pK;simp only[A3] at h;unfold ED at h;split at h
    .cases ‹some _=none›
    · rename_i k q kk heq
      simp only[aUT] at heq h;rw[heq] at h0;subst h;exact .inr ⟨y,k,rfl,x5 h0.1⟩
    .cases h
theorem aCt {isSlice:Bool}{len cap:Nat}{lo hi:Option Operand}{m n:Int}(hlo:(lo=none∧m=0)∨∃y k,lo=some y∧a.eval y= .int k m) (hhi:(hi=none∧n=(len:Int))∨∃y k,hi=some y∧a.eval y= .int k n)
    (h0:0≤m) (h1:m≤n) (h2:n≤(len:Int)) (h3:len≤cap):(Instr.sliceBounds isSlice len cap (lo.map a.eval) (hi.map a.eval) none).run P w= .ok (m.toNat,n.toNat,cap) w:=by
  have e1:(n.toNat:Int)=n:=Int.toNat_of_nonneg pI;rcases hlo with⟨rfl,rfl⟩ |⟨y,k,rfl,hy⟩<;>rcases hhi with⟨rfl,rfl⟩ |⟨z,k',rfl,hz⟩
  .simp [Instr.sliceBounds]
  .simp [Instr.sliceBounds,hz,run_sliceBound,(by omega:0≤n),(by omega:n≤(cap:Int))]
  .simp [Instr.sliceBounds,hy,run_sliceBound,h0,h1]
  .simp [Instr.sliceBounds,hy,hz,run_sliceBound,(by omega:0≤n),(by omega:n≤(cap:Int)),e1,h0,h1]
theorem aL4 {t:TypeId}{x:Operand}{lo hi:Option Operand}(ho:o.op= .slice t x lo hi none) {ρ:Operand→qE}(hx:rX g w (ρ x) (a.eval x)) (hlo: ∀y∈lo.toList,rX g w (ρ y) (a.eval y)) (hhi: ∀y∈hi.toList,rX g w (ρ y) (a.eval y)) {e:qU}
    (hr:B7 (a0k (s0 T t) (ρ x) (A3 ρ lo) (A3 ρ hi))=some e) (hs: ∀p∈e.side,p):rL P o a g w H e:=by
  obtain⟨q,hq,rfl⟩:=JA hr;replace hx:=hx.1;generalize hst:s0 T t=ot at hq;generalize hsx:ρ x=sx at hq hx;unfold a0k at hq;split at hq
  · rename_i el by' ar ls_ l k
    generalize hb1:ED (A3 ρ lo) 0=o1 at hq;generalize hb2:ED (A3 ρ hi) (List.length l)=o2 at hq;unfold UY at hq;split at hq
    · rename_i m n
      cases hq;obtain⟨k1,k2,k3⟩:=hs _ (aVb.2 rfl);have h2:=(tM hT hst).2;simp only[yW] at h2;have hv:=xC hx;have hbd:=aCt (P:=P) (isSlice:=false) (cap:=List.length l) hT hH (WQ hT hH hlo hb1) (WQ hT hH hhi hb2) k1 k2 k3 (aVi _);refine rL.pure hH (v:= .string ⟨(sF l m n).toArray⟩) ?_ (BX _ _ _);have hsz:(⟨List.toArray l⟩:ByteArray).size=List.length l:=by simp [ByteArray.size]
      have hext:(⟨List.toArray l⟩:ByteArray).extract m.toNat n.toNat=⟨(sF l m n).toArray⟩:=by
        apply ByteArray.ext;apply aV6.1;simp [sF]
      simp only[execOp,ho,hv,Option.map_none,Instr.sliceAt,Instr.slice,aVe,aVh h2,aU4,Option.isSome_none,aWD,aW4,hsz,hbd,hext,aVm]
    .cases hq
  · rename_i u el by' ar ls_ t1 l k
    split at hq
    · rename_i htu
      subst htu;generalize hb1:ED (A3 ρ lo) 0=o1 at hq;generalize hb2:ED (A3 ρ hi) (List.length l)=o2 at hq;unfold UY at hq;split at hq
      · rename_i m n
        cases hq;obtain⟨k1,k2,k3⟩:=hs _ (aVb.2 rfl);obtain⟨h2,h3,_⟩:=(tM hT hst).2;obtain⟨ei,hei,hz⟩:=aU1.1 h3;simp only[aVs] at hz;obtain⟨ad,cap,hv,hle,hl⟩:=DN hx;have hbd:=aCt (P:=P) (isSlice:=true) (cap:=cap) hT hH (WQ hT hH hlo hb1) (WQ hT hH hhi hb2) k1 k2 k3 hle;refine rL.pure hH (v:= .slice (if cap=m.toNat then ad else ad.map (·.add (m.toNat*t1.cells))) (n.toNat-m.toNat) (cap-m.toNat)) ?_ (.inr ⟨rfl,(if cap=m.toNat then ad else ad.map (·.add (m.toNat*t1.cells))),cap-m.toNat,?_,?_,?_⟩)
        .simp only[execOp,ho,hv,Option.map_none,Instr.sliceAt,Instr.slice,aVe,aVh h2,aU4,hbd,sizeOf,typeInfo,aV1,hei,hz.1,aVm]
        .rw[a1e k1 k2 k3]
        .rw[a1e k1 k2 k3];omega
        · rcases hl with rfl|⟨b,off,rfl,hL⟩
          .exact .inl (by simp [sF])
          · by_cases hc:cap=m.toNat
            · left
              apply aVu;rw[a1e k1 k2 k3];omega
            · right
              rw[aUX hc];refine⟨b,off+m.toNat*t1.cells,by simp [aWj],?_⟩;exact aCe _ (aCd _ hL pI)
      .cases hq
    .cases hq
  .cases hq
end
theorem RE {α:Type}{R:α->pP->Prop}{c:Nat}(hR: ∀x cs,R x cs->∀v∈cs,v.oneCell'=true): ∀{l:List α}{cs:pP},uI R c l cs->∀v∈cs,v.oneCell'=true
 |[],_,h=>by rw[h];simp
 |_::_,_,⟨c1,c2,e,_,h2,h3⟩=>by
  subst e;intro v hv;rcases aVJ.1 hv with h|h
  .exact hR _ _ h2 v h
  .exact RE hR h3 v h
theorem a1h {α:Type}{R:α->pP->Prop}{c:Nat}: ∀{l:List α}{cs cy:pP}{i:Nat}{y:α},uI R c l cs->R y cy->cy.length=c->i<l.length->
  ∃c1 c2 c3,cs=c1++c2++c3/\c1.length=i*c/\c2.length=c/\uI R c (l.set i y) (c1++cy++c3)
 |[],_,_,_,_,_,_,_,h=>by simp at h
 |_::l,_,cy,0,y,⟨c1,c2,e,h1,_,h3⟩,hy,hc,_=>⟨[],c1,c2,by simpa using e,by simp,h1,⟨cy,c2,by simp,hc,hy,h3⟩⟩
 |x::l,_,cy,i+1,y,⟨c1,c2,e,h1,h2,h3⟩,hy,hc,hi=>by
  obtain⟨d1,d2,d3,e1,e2,e3,e4⟩:=a1h h3 hy hc (by simpa using hi);refine⟨c1++d1,d2,d3,by rw[e,e1];simp,by rw[aUW,h1,e2,aV7];omega,e3,⟨c1,d1++cy++d3,by simp,h1,h2,e4⟩⟩
theorem NX {α:Type}{R:α->pP->Prop}{w:pT}{S:Nat->Nat->Prop}{c b:Nat}: ∀{l:List α}{o:Nat},zH R w S c b o l->∃cs,uI R c l cs/\w.rangeAt b o cs/\∀j,j<l.length*c->S b (o+j)
 |[],o,_=>⟨[],rfl,fun j v h=>by simp at h,fun j h=>by simp at h⟩
 |x::l,o,⟨⟨c1,h1,h2,h3,h4⟩,h5⟩=>by
  obtain⟨c2,k1,k2,k3⟩:=NX h5;refine⟨c1++c2,⟨c1,c2,rfl,h1,h4,k1⟩,fun j v hv=> ?_,fun j hj=> ?_⟩
  .by_cases hj:j<c
   .exact h2 j v (by rwa [aVf pI] at hv)
   .have:=k2 (j-c) v (by rw[aVa pI,h1] at hv;exact hv);rwa [show o+c+(j-c)=o+j from by omega] at this
  .by_cases hj':j<c
   .exact h3 j hj'
   .have:=k3 (j-c) (by rw[aUY,aV7] at hj;omega);rwa [show o+c+(j-c)=o+j from by omega] at this
theorem aCu {g:Gh}{w:pT}{t:Ty}: ∀n,uI (Rd g w t) t.cells (DI t n) (List.flatten (List.replicate n (uR t)))
 |0=>rfl
 |n+1=>⟨uR t,_,rfl,tC (EK g w t),EK g w t,aCu n⟩
theorem aCv (t:Ty): ∀n,(DI t n).length=n
 |0=>rfl
 |n+1=>by simp [DI,aCv t n]
def Gh.tok (g:Gh) (k n:Nat) (v:pU):Gh:={g with cur:=fun k' n'=>if k'=k/\n'=n then some v else g.cur k' n'}
def Gh.var (g:Gh) (i b:Nat) (k:Option (TypeId×Nat)):Gh:={g with J:=fun i'=>if i'=i then some ⟨b,0,k⟩ else g.J i'}
def Gh.shut (g:Gh) (b m:Nat):Gh:={g with S:=fun b' o=>g.S b' o\/(b'=b/\o<m)}
section
variable {g:Gh}{w:pT}{H:sD}(hH:sM g w H)
include hH
theorem sH.nilTok {side:List Prop}{d:DV}{rds:pS}{base e c:Nat}{u:Ty}(hd:d= .val (.list u) []) (hf: ∀n,g.cur base n=none):
  sH g w H ⟨side,(d,some base),[(base,.grow e c 0)],rds⟩ (g.tok base 0 (.slice none 0 0)) w (.slice none 0 0):=by
 have le:Le g w (g.tok base 0 (.slice none 0 0)) w:=⟨fun _ _ h=>h,fun _ _ _=>rfl,fun _ _ h=>h,fun k n v h=>by
  show (if k=base/\n=0 then _ else _)=_;rw[aUX (fun⟨e1,_⟩=>by rw[e1,hf] at h;cases h)];exact h⟩
 have fr:Fr (tE g H (qJ [(base,qD.grow e c 0)])) w w g.S (g.tok base 0 (.slice none 0 0)).S:= .refl _ _ _;have gho: ∀i,i∉qJ [(base,qD.grow e c 0)]->(g.tok base 0 (.slice none 0 0)).J i=g.J i/\(g.tok base 0 (.slice none 0 0)).cur i=g.cur i:=fun i hi=>⟨rfl,by
  funext n;show (if i=base/\n=0 then _ else _)=_;rw[aUX (fun⟨e1,_⟩=>hi (by simp [qJ,e1]))]⟩
 have cur0:(g.tok base 0 (.slice none 0 0)).cur base 0=some (.slice none 0 0):=by simp [Gh.tok]
 have own: ∀i blk b o,i∈qJ [(base,qD.grow e c 0)]->qH (qZ [(base,qD.grow e c 0)] H) i=some blk->¬sG (g.tok base 0 (.slice none 0 0)) i blk b o:=by
  intro i blk b o hi hg ho;simp only[qJ,aVb] at hi;subst hi;simp only[qZ,qH,aWz,aUT] at hg;subst hg;obtain⟨v,hv,hb⟩:=ho;rw[cur0] at hv;obtain rfl:=aUZ hv;cases hb
 subst hd;refine⟨le,⟨.inr ⟨rfl,none,0,rfl,aVi _,.inl rfl⟩,cur0⟩,hH.upd le fr (fun i blk b o h1 h2 h3=>absurd h3 (own i blk b o h1 h2)) gho (fun i blk hi hg=> ?_) (fun i j bi bj b o hi hj hij hgi hgj hoi hoj=>own i bi b o hi hgi hoi) hH.sl,fr,fun i blk b o h1 h2 h3=>absurd h3 (own i blk b o h1 h2),gho,fun i u' y us h=>by
  simp only[qZ,qH] at h;split at h
  .cases h
  .exact .inl ⟨y,us,h⟩⟩
 simp only[qJ,aVb] at hi;subst hi;simp only[qZ,qH,aWz,aUT] at hg;subst hg;refine⟨.slice none 0 0,[],cur0,World.ownsRow_nil w 0 e c,fun m hm=> ?_,fun b hb=>by cases hb⟩;show (if i=i/\m=0 then _ else _)=_;rw[aUX pI];exact hf m
theorem sH.row {side:List Prop}{rds:pS}{s:qE}{val:pU}{k:Nat}{e:TypeId}{t:Ty}{l:List t.den}{n:Nat}{v:pU}{xs:pP}{w':pT}
  (hl:l.length=n) (hown:w'.ownsRow 0 e t.cells v n xs) (hF:uI (Rd g w t) t.cells l xs) (hnone: ∀m,n<m->g.cur k m=none) (hcur: ∀u,g.cur k n=some u->u=v)
  (hg:w.grownBy w' (v.ownBlock)\/∃q,w.grownBy w' q/\∀b,q=some b->∀o,tE g H [k] b o)
  (hcell: ∀b o,g.S b o->w'.cell? ⟨b,o,none⟩=w.cell? ⟨b,o,none⟩)
  (hseal: ∀b,v.ownBlock=some b->∀o,¬g.S b o)
  (hperm: ∀b,v.ownBlock=some b->w.heap.size<=b\/∀o,tE g H [k] b o)
  (hslot:rX (g.tok k n v) w' s val):sH g w H ⟨side,s,[(k,.row e t l n)],rds⟩ (g.tok k n v) w' val:=by
 have le:Le g w (g.tok k n v) w':=⟨fun _ _ h=>h,fun b o h=>hcell b o h,fun _ _ h=>h,fun k' n' v' h=>by
  show (if k'=k/\n'=n then _ else _)=_;by_cases hk:k'=k/\n'=n
  .obtain⟨rfl,rfl⟩:=hk;rw[aUU ⟨rfl,rfl⟩,hcur _ h]
  .rw[aUX hk];exact h⟩
 have cur1:(g.tok k n v).cur k n=some v:=by simp [Gh.tok]
 have hblk: ∀b,b<w.heap.size->(∀o,¬tE g H (qJ [(k,qD.row e t l n)]) b o)->w'.heap[b]? =w.heap[b]? :=by
  intro b hb hno;rcases hg with hg|⟨q,hg,hq⟩
  .refine hg.block b hb (fun e1=> ?_);rcases hperm b e1.symm with h|h
   .omega
   .exact hno 0 (h 0)
  .exact hg.block b hb (fun e1=>hno 0 (hq b e1.symm 0))
 have hgo:w'.os=w.os/\w'.tape=w.tape/\w'.output=w.output/\w.heap.size<=w'.heap.size:=by
  rcases hg with hg|⟨q,hg,_⟩
  .exact⟨hg.os,hg.tape,hg.output,hg.size⟩
  .exact⟨hg.os,hg.tape,hg.output,hg.size⟩
 have hall: ∀b o,tE g H (qJ [(k,qD.row e t l n)]) b o->True:=fun _ _ _=>trivial;have hcell2: ∀b o,b<w.heap.size->¬tE g H (qJ [(k,qD.row e t l n)]) b o->(w'.cell? ⟨b,o,none⟩=w.cell? ⟨b,o,none⟩/\w'.frozen? ⟨b,o,none⟩=w.frozen? ⟨b,o,none⟩):=by
  intro b o hb hno;have:w'.heap[b]? =w.heap[b]? :=by
   rcases hg with hg|⟨q,hg,hq⟩
   .refine hg.block b hb (fun e1=> ?_);rcases hperm b e1.symm with h|h
    .omega
    .exact hno (h o)
   .exact hg.block b hb (fun e1=>hno (hq b e1.symm o))
  exact⟨aVl (a:=⟨b,o,none⟩) this,aVO (a:=⟨b,o,none⟩) this⟩
 have hshape: ∀b s,w.shape? b=some s->w'.shape? b=some s\/∀o,tE g H (qJ [(k,qD.row e t l n)]) b o:=by
  intro b s hs;rcases hg with hg|⟨q,hg,hq⟩
  .by_cases e1:v.ownBlock=some b
   .rcases hperm b e1 with h|h
    .have:=CW hs;omega
    .exact .inr h
   .exact .inl ((CX (hg.block b (CW hs) (fun h=>e1 h.symm))).trans hs)
  .by_cases e1:q=some b
   .exact .inr (hq b e1)
   .exact .inl ((CX (hg.block b (CW hs) (fun h=>e1 h.symm))).trans hs)
 have fr:Fr (tE g H (qJ [(k,qD.row e t l n)])) w w' g.S (g.tok k n v).S:=⟨hgo.1,hgo.2.1,hgo.2.2.1,hgo.2.2.2,hblk,hcell2,fun b o h=> .inl h,hshape⟩;have gho: ∀i,i∉qJ [(k,qD.row e t l n)]->(g.tok k n v).J i=g.J i/\(g.tok k n v).cur i=g.cur i:=fun i hi=>⟨rfl,by
  funext n';show (if i=k/\n'=n then _ else _)=_;rw[aUX (fun⟨e1,_⟩=>hi (by simp [qJ,e1]))]⟩
 have get: ∀i blk,i∈qJ [(k,qD.row e t l n)]->qH (qZ [(k,qD.row e t l n)] H) i=some blk->i=k/\blk= .row e t l n:=by
  intro i blk hi hg;simp only[qJ,aVb] at hi;subst hi;simp only[qZ,qH,aWz,aUT] at hg;exact⟨rfl,hg.symm⟩
 have perm: ∀i blk b o,i∈qJ [(k,qD.row e t l n)]->qH (qZ [(k,qD.row e t l n)] H) i=some blk->sG (g.tok k n v) i blk b o->w.heap.size<=b\/tE g H (qJ [(k,qD.row e t l n)]) b o:=by
  intro i blk b o hi hgt ho;obtain⟨rfl,rfl⟩:=get i blk hi hgt;obtain⟨v',hv',hb⟩:=ho;rw[cur1] at hv';obtain rfl:=aUZ hv';exact(hperm b hb).imp id (fun h=>h o)
 refine⟨le,hslot,hH.upd le fr perm gho (fun i blk hi hgt=> ?_) (fun i j bi bj b o hi hj hij hgi hgj _ _=>hij ((get i bi hi hgi).1.trans (get j bj hj hgj).1.symm)) (fun b o h=>aVz (hH.sl b o h) hgo.2.2.2),fr,perm,gho,fun i u' y us h=>by
  simp only[qZ,qH] at h;split at h
  .cases h
  .exact .inl ⟨y,us,h⟩⟩
 obtain⟨rfl,rfl⟩:=get i blk hi hgt;refine⟨hl,v,xs,cur1,hown,DM (fun _ _ h=>y4 le h) hF,fun m hm=> ?_,hseal⟩;show (if i=i/\m=n then _ else _)=_;rw[aUX pI];exact hnone m hm
theorem sH.newVarJ {side:List Prop}{rds:pS}{base:Nat}{t:Ty}{x:t.den}{toks:pN}{cs:pP}{e:TypeId}(hR:Rd (g.var base w.heap.size (some (e,cs.length))) w t x cs) (htk:HC g t x cs toks) (hf:g.J base=none) (hc:g.cur base=fun _=>none):
  sH g w H ⟨side,(.val .ref (some (base,0)),none),[(base,.cells t x toks)],rds⟩ (g.var base w.heap.size (some (e,cs.length))) (w.alloc (.cells cs.toArray e)) (.pointer (some ⟨w.heap.size,0,none⟩)):=by
 have hJ:(g.var base w.heap.size (some (e,cs.length))).J base=some ⟨w.heap.size,0,some (e,cs.length)⟩:=by simp [Gh.var]
 have le:Le g w (g.var base w.heap.size (some (e,cs.length))) (w.alloc (.cells cs.toArray e)):=⟨fun _ _ h=>h,fun b o h=>aVl (a:=⟨b,o,none⟩) (aVv _ _ _ (hH.sl b o h)),fun i p h=>by
  show (if i=base then _ else _)=_;rw[aUX (fun e1=>by rw[e1,hf] at h;cases h)];exact h,fun _ _ _ h=>h⟩
 have le2:Le (g.var base w.heap.size (some (e,cs.length))) w (g.var base w.heap.size (some (e,cs.length))) (w.alloc (.cells cs.toArray e)):=⟨fun _ _ h=>h,fun b o h=>aVl (a:=⟨b,o,none⟩) (aVv _ _ _ (hH.sl b o h)),fun _ _ h=>h,fun _ _ _ h=>h⟩;have fr:Fr (tE g H (qJ [(base,qD.cells t x toks)])) w (w.alloc (.cells cs.toArray e)) g.S (g.var base w.heap.size (some (e,cs.length))).S:=
  ⟨rfl,rfl,rfl,by simp,fun b hb _=>aVv _ _ _ hb,fun b o hb _=>⟨aVl (a:=⟨b,o,none⟩) (aVv _ _ _ hb),aVO (a:=⟨b,o,none⟩) (aVv _ _ _ hb)⟩,fun b o h=> .inl h,fun b s h=> .inl ((CX (aVv _ _ _ (CW h))).trans h)⟩
 have gho: ∀i,i∉qJ [(base,qD.cells t x toks)]->(g.var base w.heap.size (some (e,cs.length))).J i=g.J i/\(g.var base w.heap.size (some (e,cs.length))).cur i=g.cur i:=fun i hi=>⟨by
  show (if i=base then _ else _)=_;rw[aUX (fun e1=>hi (by simp [qJ,e1]))],rfl⟩
 have get: ∀i blk,i∈qJ [(base,qD.cells t x toks)]->qH (qZ [(base,qD.cells t x toks)] H) i=some blk->i=base/\blk= .cells t x toks:=by
  intro i blk hi hg;simp only[qJ,aVb] at hi;subst hi;simp only[qZ,qH,aWz,aUT] at hg;exact⟨rfl,hg.symm⟩
 have perm: ∀i blk b o,i∈qJ [(base,qD.cells t x toks)]->qH (qZ [(base,qD.cells t x toks)] H) i=some blk->sG (g.var base w.heap.size (some (e,cs.length))) i blk b o->w.heap.size<=b\/tE g H (qJ [(base,qD.cells t x toks)]) b o:=by
  intro i blk b o hi hg ho;obtain⟨rfl,rfl⟩:=get i blk hi hg;obtain⟨p,hp,h1,_⟩:=ho;rw[hJ] at hp;obtain rfl:=aUZ hp;exact .inl (aWx h1.symm)
 have hl:=tC hR;refine⟨le,⟨.inr ⟨rfl,_,hJ,rfl⟩,trivial⟩,hH.upd le fr perm gho (fun i blk hi hg=> ?_) (fun i j bi bj b o hi hj hij hgi hgj _ _=>hij ((get i bi hi hgi).1.trans (get j bj hj hgj).1.symm)) (fun b o h=>aVz (hH.sl b o h) pK),fr,perm,gho,fun i u' y us h=>by
  simp only[qZ,qH] at h;split at h
  .rename_i e1;subst e1;exact .inr ⟨hf,fun n=>by rw[hc]⟩
  .exact .inl ⟨y,us,h⟩⟩
 obtain⟨rfl,rfl⟩:=get i blk hi hg;refine⟨_,cs,hJ,y4 le2 hR,fun j v hv=> ?_,⟨fun j hj=> ?_,fun _ s hs=> ?_⟩,fun j _ hs=>aWw _ (hH.sl _ _ hs),aCc le.cur htk⟩
 .simp only[aVx];rw[aWY];simpa using hv
 .simp only[aVx];rw[aWY,World.frozen?_alloc_new];exact⟨by simp;omega,rfl⟩
 .cases hs;show (match (w.heap.push (.cells cs.toArray e))[w.heap.size]? with|some (.cells c elem _)=>some (elem,c.size) |_=>none)=_
  rw[aWS];simp only[aVP]
theorem sH.newVar {side:List Prop}{rds:pS}{base:Nat}{t:Ty}{x:t.den}{toks:pN}{cs:pP}{e:TypeId}(hR:Rd g w t x cs) (htk:HC g t x cs toks) (hf:g.J base=none) (hc:g.cur base=fun _=>none):
  sH g w H ⟨side,(.val .ref (some (base,0)),none),[(base,.cells t x toks)],rds⟩ (g.var base w.heap.size (some (e,cs.length))) (w.alloc (.cells cs.toArray e)) (.pointer (some ⟨w.heap.size,0,none⟩)):=
 sH.newVarJ hH (y4 (g:=g) (g':=g.var base w.heap.size (some (e,cs.length))) (w:=w) (w':=w) ⟨fun _ _ h=>h,fun _ _ _=>rfl,fun i p h=>by
  show (if i=base then _ else _)=_;rw[aUX (fun e1=>by rw[e1,hf] at h;cases h)];exact h,fun _ _ _ h=>h⟩ hR) htk hf hc
end
theorem a1i {P:Program}(w:pT) (t ty e:TypeId) (i:TypeInfo) (z:pU) (size bytes:Nat) (ht:P.underlying t=some (.slice e)) (hi:P.info? e=some i) (hz:i.zero=some z)
  (hsize:i.size=size) (hby:i.bytes=bytes) (hzs:z.cells.size=size)
  (v:pU) (n:Nat) (xs:pP) (hown:w.ownsRow 0 e size v n xs)
  (a:Addr) (m c:Nat) (news:pP) (hl:news.length=m*size) (hnews: ∀j u,news[j]? =some u->w.cell? (a.add j)=some u) (h1: ∀u∈news,u.oneCell'=true) (hm:0<m)
  (h63:n+m<=maxLen) (hbytes:(n+m)*bytes<=140737488355328):
  ∃q cap w',(Builtin.append_ #[t,t] ty #[v,.slice (some a) m c]).run P w= .ok (.slice (some ⟨q,0,none⟩) (n+m) cap) w'/\w'.ownsRow 0 e size (.slice (some ⟨q,0,none⟩) (n+m) cap) (n+m) (xs++news)/\
   (q=w.heap.size\/v.ownBlock=some q)/\w.grownBy w' v.ownBlock/\n+m<=cap/\
   ∀b o,b<w.heap.size->(v.ownBlock=some b->o<n*size)->w'.cell? ⟨b,o,none⟩=w.cell? ⟨b,o,none⟩:=by
 subst hsize;subst hby;have hsmall:n+m<=9223372036854775807:=by simp only[maxLen] at h63;omega
 have hlen:(xs++news).length=(n+m)*i.size:=by rw[aUW,hown.1,hl,Nat.add_mul]
 have grown: ∀(old:Nat),old<n+m->∀(row:pR),
   (w.drew.alloc (.cells (xs.toArray++news.toArray++Builtin.zeroCells z.cells (grownCap w (n+m) old e- (n+m))) e)).ownsRow 0 e i.size
    (.slice (some ⟨w.heap.size,0,none⟩) (n+m) (grownCap w (n+m) old e)) (n+m) (xs++news)/\
   w.grownBy (w.drew.alloc (.cells (xs.toArray++news.toArray++Builtin.zeroCells z.cells (grownCap w (n+m) old e- (n+m))) e)) row/\n+m<=grownCap w (n+m) old e/\
   ∀b o,b<w.heap.size->(w.drew.alloc (.cells (xs.toArray++news.toArray++Builtin.zeroCells z.cells (grownCap w (n+m) old e- (n+m))) e)).cell? ⟨b,o,none⟩=w.cell? ⟨b,o,none⟩:=by
  intro old ho row;have hge:=grownCap_ge w (n+m) old e;have hcm:grownCap w (n+m) old e<=maxLen:=grownCap_le_maxLen w (n+m) old e h63;refine⟨⟨hlen,.inr ⟨w.heap.size,_,_,rfl,aV4 _,aWX w.drew _,hge,hcm,?_,?_⟩⟩,⟨rfl,rfl,rfl,by simp,fun k hk _=>aVv w.drew _ k hk⟩,hge,fun b o hb=>aVl (w:=w) (a:=⟨b,o,none⟩) (aVv w.drew _ b hb)⟩
  .simp only[aWK,aVP,size_zeroCells,hzs,hown.1,hl,<-Nat.add_mul];congr 1;omega
  .simp only[Array.toList_append,aU0];rw[<-aU0,<-hlen];exact aVS
 rcases hown.2 with⟨rfl,rfl⟩ |⟨g,cap,cur,rfl,hbg,hg,hnc,hcm,hcs,htake⟩
 .have hx:xs=[]:=aVu (by simpa using hown.1);subst hx;have hr:=run_append_nil (P:=P) w t ty e i z ht hi hz a m c news hl hnews pI pI (by have hb:=hbytes;simp only[aVx] at hb;omega);have hgr:=grown 0 pI (Value.ownBlock (.slice none 0 0));simp only[aVx,List.nil_append,Array.empty_append] at hgr|-;exact⟨_,_,_,hr,hgr.1,.inl rfl,hgr.2.1,hgr.2.2.1,fun b o hb _=>hgr.2.2.2 b o hb⟩
 .by_cases hroom:n+m<=cap
  .have hfit:n*i.size+news.length<=cur.size:=by rw[hl,hcs,<-Nat.add_mul];exact aWl _ hroom
   have hr:=run_append_room (P:=P) w t ty e i ht hi g n cap cur hg a m c news hl hnews h1 hroom hfit;refine⟨_,_,_,hr,⟨hlen,.inr ⟨g,cap,_,rfl,hbg,aWP w g cur _ e _ hg,hroom,hcm,?_,?_⟩⟩,.inr rfl,⟨rfl,rfl,rfl,by simp,fun k _ hk=>aWu w g k _ (fun e=>hk (by simp [Value.ownBlock,e]))⟩,hroom,fun b o hb hso=> ?_⟩
   .simp only[aVP,aUW,aVj,aVg,aVy];omega
   .rw[htake,<-hlen];exact aVS
   .by_cases hbg':b=g
    .subst hbg';have ho:=hso rfl;rw[cell_setRow_same w b o cur _ e _ hg,cell_of_row w b o cur e (0,0) hg];have hlt:o<(cur.toList.take (n*i.size)).length:=by rw[aVj,aVy];omega
     rw[aU0,List.getElem?_toArray,aVf hlt,aWd,aUU ho,aV3]
    .exact aVl (w:=w) (a:=⟨b,o,none⟩) (aWu w g b _ hbg')
  .have holds: ∀j u,xs[j]? =some u->w.cell? ((⟨g,0,none⟩:Addr).add j)=some u:=hown.cells (g:=g) rfl;have hr:=run_append_grow (P:=P) w t ty e i z ht hi hz ⟨g,0,none⟩ n cap xs hown.1 holds a m c news hl hnews pI pI (growslice_fits pI hbytes);have hgr:=grown cap pI (Value.ownBlock (.slice (some ⟨g,0,none⟩) n cap));exact⟨_,_,_,hr,hgr.1,.inl rfl,hgr.2.1,hgr.2.2.1,fun b o hb _=>hgr.2.2.2 b o hb⟩
theorem a1j {w:pT}{e:TypeId}{c n:Nat}{q cap:Nat}{xs:pP}(h:w.ownsRow 0 e c (.slice (some ⟨q,0,none⟩) n cap) n xs):w.rangeAt q 0 xs:=fun j u hu=>by
 have:=h.cells (g:=q) rfl j u hu;rwa [aWj] at this
theorem aL5 (w:pT) (a:Addr) (v:pU) (b:Nat):(w.setCell a v).shape? b=w.shape? b:=by
 unfold World.shape? World.setCell;simp only[aWb];by_cases h:a.block=b
 .rw[aUU h];cases hb:w.heap[b]? with
  |none=>rfl
  |some x=>
   cases x with
   |cells c e f=>
    simp only[Option.map_some];split<;>simp
   |_=>rfl
 .rw[aUX h]
theorem RF (b:Nat): ∀(l:pP) (o:Nat) (w:pT) (b':Nat),(w.setCells b o l).shape? b'=w.shape? b'
 |[],_,_,_=>rfl
 |v::l,o,w,b'=>by rw[World.setCells,RF b l,aL5]
section
variable {g:Gh}{w:pT}{H:sD}(hH:sM g w H)
include hH
theorem sH.append {side:List Prop}{rds:pS}{k e c n:Nat}{u:Ty}{l r:List u.den}{w':pT}{q cap:Nat}{v:pU}{xs news:pP}(hk:qH H k=some (.grow e c n)) (hc:c=u.cells)
  (hln:l.length=n) (hv:g.cur k n=some v) (hown:w.ownsRow 0 e c v n xs) (hnone: ∀m,n<m->g.cur k m=none) (hseal: ∀b,v.ownBlock=some b->∀o,g.S b o->o<n*c) (hl:uI (Rd g w u) c l xs) (hr:uI (Rd g w u) c r news) (hm:0<r.length)
  (ho:w'.ownsRow 0 e c (.slice (some ⟨q,0,none⟩) (n+r.length) cap) (n+r.length) (xs++news)) (hq:q=w.heap.size\/v.ownBlock=some q) (hg:w.grownBy w' v.ownBlock) (hcap:n+r.length<=cap)
  (hcell: ∀b o,b<w.heap.size->(v.ownBlock=some b->o<n*c)->w'.cell? ⟨b,o,none⟩=w.cell? ⟨b,o,none⟩):
  sH g w H ⟨side,(.val (.list u) (l++r),some k),[(k,.grow e c (n+r.length))],rds⟩ ((g.tok k (n+r.length) (.slice (some ⟨q,0,none⟩) (n+r.length) cap)).shut q ((n+r.length)*c)) w' (.slice (some ⟨q,0,none⟩) (n+r.length) cap):=by
 have hnb:=hnone (n+r.length) pI;have hownk: ∀o b,v.ownBlock=some b->tE g H (qJ [(k,qD.grow e c (n+r.length))]) b o:=fun o b hb=>⟨k,_,by simp [qJ],hk,v,hv,hb⟩;have hqlt:q<w'.heap.size:=(ho.lt q rfl).2;have le:Le g w ((g.tok k (n+r.length) (.slice (some ⟨q,0,none⟩) (n+r.length) cap)).shut q ((n+r.length)*c)) w':=⟨fun _ _ h=> .inl h,fun b o h=>hcell b o (hH.sl b o h) (fun hb=>hseal b hb o h),fun _ _ h=>h,fun k' n' v' h=>by
  show (if k'=k/\n'=n+r.length then _ else _)=_;rw[aUX (fun⟨e1,e2⟩=>by rw[e1,e2,hnb] at h;cases h)];exact h⟩
 have fr:Fr (tE g H (qJ [(k,qD.grow e c (n+r.length))])) w w' g.S ((g.tok k (n+r.length) (.slice (some ⟨q,0,none⟩) (n+r.length) cap)).shut q ((n+r.length)*c)).S:=by
  have hbk: ∀b,b<w.heap.size->∀o,¬tE g H (qJ [(k,qD.grow e c (n+r.length))]) b o->w'.heap[b]? =w.heap[b]? :=fun b hb o hno=>hg.block b hb (fun e1=>hno (hownk o b e1.symm));refine⟨hg.os,hg.tape,hg.output,hg.size,fun b hb hno=>hbk b hb 0 (hno 0),fun b o hb hno=>⟨aVl (a:=⟨b,o,none⟩) (hbk b hb o hno),aVO (a:=⟨b,o,none⟩) (hbk b hb o hno)⟩,fun b o h=> ?_,fun b s hs=> ?_⟩
  rotate_left
  .by_cases e1:v.ownBlock=some b
   .exact .inr fun o=>hownk o b e1
   .exact .inl ((CX (hg.block b (CW hs) (fun h=>e1 h.symm))).trans hs)
  rcases h with h|⟨rfl,_⟩
  .exact .inl h
  .rcases hq with h|h
   .exact .inr (.inl (aWx h.symm))
   .exact .inr (.inr (hownk o b h))
 have gho: ∀i,i∉qJ [(k,qD.grow e c (n+r.length))]->((g.tok k (n+r.length) (.slice (some ⟨q,0,none⟩) (n+r.length) cap)).shut q ((n+r.length)*c)).J i=g.J i/\((g.tok k (n+r.length) (.slice (some ⟨q,0,none⟩) (n+r.length) cap)).shut q ((n+r.length)*c)).cur i=g.cur i:=fun i hi=>⟨rfl,by
  funext n';show (if i=k/\n'=n+r.length then _ else _)=_;rw[aUX (fun⟨e1,_⟩=>hi (by simp [qJ,e1]))]⟩
 have cur1:((g.tok k (n+r.length) (.slice (some ⟨q,0,none⟩) (n+r.length) cap)).shut q ((n+r.length)*c)).cur k (n+r.length)=some (.slice (some ⟨q,0,none⟩) (n+r.length) cap):=by
  show (if k=k/\n+r.length=n+r.length then _ else _)=_;simp
 have get: ∀i blk,i∈qJ [(k,qD.grow e c (n+r.length))]->qH (qZ [(k,qD.grow e c (n+r.length))] H) i=some blk->i=k/\blk= .grow e c (n+r.length):=by
  intro i blk hi hg;simp only[qJ,aVb] at hi;subst hi;simp only[qZ,qH,aWz,aUT] at hg;exact⟨rfl,hg.symm⟩
 have perm: ∀i blk b o,i∈qJ [(k,qD.grow e c (n+r.length))]->qH (qZ [(k,qD.grow e c (n+r.length))] H) i=some blk->sG ((g.tok k (n+r.length) (.slice (some ⟨q,0,none⟩) (n+r.length) cap)).shut q ((n+r.length)*c)) i blk b o->w.heap.size<=b\/tE g H (qJ [(k,qD.grow e c (n+r.length))]) b o:=by
  intro i blk b o hi hgt ho';obtain⟨rfl,rfl⟩:=get i blk hi hgt;obtain⟨v',hv',hb⟩:=ho';rw[cur1] at hv';obtain rfl:=aUZ hv';cases hb;rcases hq with h|h
  .exact .inl (aWx h.symm)
  .exact .inr (hownk o _ h)
 have hF:uI (Rd ((g.tok k (n+r.length) (.slice (some ⟨q,0,none⟩) (n+r.length) cap)).shut q ((n+r.length)*c)) w' u) u.cells (l++r) (xs++news):=hc▸DM (fun _ _ h=>y4 le h) (R7 hl hr);have hlr:(l++r).length=n+r.length:=by rw[aUW,hln]
 refine⟨le,⟨.inr ⟨rfl,some ⟨q,0,none⟩,cap,by rw[hlr],by rw[hlr];exact hcap,.inr ⟨q,0,rfl,NV hF (a1j ho) (fun j hj=> ?_)⟩⟩,?_⟩,hH.upd le fr perm gho (fun i blk hi hgt=> ?_) (fun i j bi bj b o hi hj hij hgi hgj _ _=>hij ((get i bi hi hgi).1.trans (get j bj hj hgj).1.symm)) (fun b o h=> ?_),fr,perm,gho,fun i u' y us h=>by
  simp only[qZ,qH] at h;split at h
  .cases h
  .exact .inl ⟨y,us,h⟩⟩
 .right;rw[hlr] at hj;exact⟨rfl,by rw[hc];omega⟩
 .show _=_;rw[hlr];exact cur1
 .obtain⟨rfl,rfl⟩:=get i blk hi hgt;refine⟨_,_,cur1,ho,fun m hm'=> ?_,fun b hb o h=> ?_⟩
  .show (if i=i/\m=n+r.length then _ else _)=_;rw[aUX pI];exact hnone m pI
  .cases hb;rcases h with h|⟨_,h⟩
   .rcases hq with h2|h2
    .have:q<w.heap.size:=hH.sl _ _ h;omega
    .have:=hseal _ h2 o h;rw[Nat.add_mul];omega
   .exact h
 .rcases h with h|⟨rfl,_⟩
  .exact aVz (hH.sl b o h) hg.size
  .exact hqlt
theorem sH.lit {side:List Prop}{rds:pS}{base e c n:Nat}{u:Ty}{l:List u.den}{cs:pP}(hc:c=u.cells) (hln:l.length=n) (hl:uI (Rd g w u) c l cs) (hn:n<=maxLen) (hf: ∀m,g.cur base m=none):
  sH g w H ⟨side,(.val (.list u) l,some base),[(base,.grow e c n)],rds⟩ ((g.tok base n (.slice (some ⟨w.heap.size,0,none⟩) n n)).shut w.heap.size (n*c)) (w.alloc (.cells cs.toArray e)) (.slice (some ⟨w.heap.size,0,none⟩) n n):=by
 have hlen:=J9 hl;have le:Le g w ((g.tok base n (.slice (some ⟨w.heap.size,0,none⟩) n n)).shut w.heap.size (n*c)) (w.alloc (.cells cs.toArray e)):=⟨fun _ _ h=> .inl h,fun b o h=>aVl (a:=⟨b,o,none⟩) (aVv _ _ _ (hH.sl b o h)),fun _ _ h=>h,fun k' n' v' h=>by
  show (if k'=base/\n'=n then _ else _)=_;rw[aUX (fun⟨e1,e2⟩=>by rw[e1,hf] at h;cases h)];exact h⟩
 have fr:Fr (tE g H (qJ [(base,qD.grow e c n)])) w (w.alloc (.cells cs.toArray e)) g.S ((g.tok base n (.slice (some ⟨w.heap.size,0,none⟩) n n)).shut w.heap.size (n*c)).S:=
  ⟨rfl,rfl,rfl,by simp,fun b hb _=>aVv _ _ _ hb,fun b o hb _=>⟨aVl (a:=⟨b,o,none⟩) (aVv _ _ _ hb),aVO (a:=⟨b,o,none⟩) (aVv _ _ _ hb)⟩,fun b o h=>h.imp id fun h=> .inl (aWx h.1.symm),fun b s h=> .inl ((CX (aVv _ _ _ (CW h))).trans h)⟩
 have gho: ∀i,i∉qJ [(base,qD.grow e c n)]->((g.tok base n (.slice (some ⟨w.heap.size,0,none⟩) n n)).shut w.heap.size (n*c)).J i=g.J i/\((g.tok base n (.slice (some ⟨w.heap.size,0,none⟩) n n)).shut w.heap.size (n*c)).cur i=g.cur i:=fun i hi=>⟨rfl,by
  funext n';show (if i=base/\n'=n then _ else _)=_;rw[aUX (fun⟨e1,_⟩=>hi (by simp [qJ,e1]))]⟩
 have cur1:((g.tok base n (.slice (some ⟨w.heap.size,0,none⟩) n n)).shut w.heap.size (n*c)).cur base n=some (.slice (some ⟨w.heap.size,0,none⟩) n n):=by
  show (if base=base/\n=n then _ else _)=_;simp
 have get: ∀i blk,i∈qJ [(base,qD.grow e c n)]->qH (qZ [(base,qD.grow e c n)] H) i=some blk->i=base/\blk= .grow e c n:=by
  intro i blk hi hg;simp only[qJ,aVb] at hi;subst hi;simp only[qZ,qH,aWz,aUT] at hg;exact⟨rfl,hg.symm⟩
 have perm: ∀i blk b o,i∈qJ [(base,qD.grow e c n)]->qH (qZ [(base,qD.grow e c n)] H) i=some blk->sG ((g.tok base n (.slice (some ⟨w.heap.size,0,none⟩) n n)).shut w.heap.size (n*c)) i blk b o->w.heap.size<=b\/tE g H (qJ [(base,qD.grow e c n)]) b o:=by
  intro i blk b o hi hgt ho';obtain⟨rfl,rfl⟩:=get i blk hi hgt;obtain⟨v',hv',hb⟩:=ho';rw[cur1] at hv';obtain rfl:=aUZ hv';cases hb;exact .inl (aVi _)
 have hF:uI (Rd ((g.tok base n (.slice (some ⟨w.heap.size,0,none⟩) n n)).shut w.heap.size (n*c)) (w.alloc (.cells cs.toArray e)) u) u.cells l cs:=hc▸DM (fun _ _ h=>y4 le h) hl;have hra:(w.alloc (.cells cs.toArray e)).rangeAt w.heap.size 0 cs:=fun j v hv=>by
  rw[aVx,aWY];simpa using hv
 refine⟨le,⟨.inr ⟨rfl,some ⟨w.heap.size,0,none⟩,n,by rw[hln],by rw[hln];exact aVi _,.inr ⟨w.heap.size,0,rfl,NV hF hra (fun j hj=> ?_)⟩⟩,?_⟩,hH.upd le fr perm gho (fun i blk hi hgt=> ?_) (fun i j bi bj b o hi hj hij hgi hgj _ _=>hij ((get i bi hi hgi).1.trans (get j bj hj hgj).1.symm)) (fun b o h=> ?_),fr,perm,gho,fun i u' y us h=>by
  simp only[qZ,qH] at h;split at h
  .cases h
  .exact .inl ⟨y,us,h⟩⟩
 .right;rw[hln] at hj;exact⟨rfl,by rw[hc];omega⟩
 .show _=_;rw[hln];exact cur1
 .obtain⟨rfl,rfl⟩:=get i blk hi hgt;refine⟨_,cs,cur1,⟨by rw[hlen,hln],.inr ⟨w.heap.size,n,cs.toArray,rfl,aV4 _,aWX w _,aVi _,hn,by simp [hlen,hln],by simp [<-hln,<-hlen]⟩⟩,fun m hm'=> ?_,fun b hb o h=> ?_⟩
  .show (if i=i/\m=n then _ else _)=_;rw[aUX pI];exact hf m
  .cases hb;rcases h with h|⟨_,h⟩
   .exact absurd (hH.sl _ _ h) (aWw _)
   .exact h
 .rcases h with h|⟨rfl,_⟩
  .exact aVz (hH.sl b o h) pK
  .simp
theorem a1k: ∀{toks:pN}{off n q k:Nat},(q,k)∈wG toks off n->(q,k)∈toks/\¬(off<=q/\q<off+n)
 |[],_,_,_,_,h=>by simp [wG] at h
 |(q',k')::r,off,n,q,k,h=>by
  simp only[wG] at h;split at h
  .obtain⟨h1,h2⟩:=a1k h;exact⟨aU3 _ h1,h2⟩
  .rename_i hn;rcases aU9.1 h with h|h
   .cases h;exact⟨by simp,hn⟩
   .obtain⟨h1,h2⟩:=a1k h;exact⟨aU3 _ h1,h2⟩
theorem aL6 {u:Ty}{y:u.den}: ∀{t:Ty}{x z:t.den}{o:Nat},u.isRow=false->t8 u y t x o=some z->rJ u t z o=some y:=by
 intro t
 induction t with
 |pair a b iha ihb=>
  intro x z o hu h;have hne:u≠.pair a b:=by intro e;rw[e] at hu;cases hu
  have key: ∀o,(if o<a.cells then(t8 u y a x.1 o).map (fun q=>(q,x.2)) else(t8 u y b x.2 (o-a.cells)).map (fun q=>(x.1,q)))=some z->
    (if o<a.cells then rJ u a z.1 o else rJ u b z.2 (o-a.cells))=some y:=by
   intro o h;by_cases ho:o<a.cells
   .rw[aUU ho] at h|-;obtain⟨q,hq,rfl⟩:=aU1.1 h;exact iha hu hq
   .rw[aUX ho] at h|-;obtain⟨q,hq,rfl⟩:=aU1.1 h;exact ihb hu hq
  cases o with
  |zero=>
   unfold t8 at h;unfold rJ;rw[aWB hne] at h;rw[aWB (Ne.symm hne)];have:=key 0 (by simpa using h);simpa using this
  |succ o=>
   have:=key (o+1) (by simpa[t8] using h);simpa[rJ] using this
 |_=>
  intro x z o hu h;cases o with
  |zero=>
   unfold t8 at h;split at h
   .rename_i e;subst e;simp only[v7,aUT] at h
    try subst h
    unfold rJ;simp [v7]
   .simp at h
  |succ o=>simp [t8] at h
theorem aCw {u v:Ty}{y:u.den}: ∀{t:Ty}{x z:t.den}{o q:Nat}{l:(Ty.list v).den},t8 u y t x o=some z->rJ (.list v) t x q=some l->¬(o<=q/\q<o+u.cells)->rJ (.list v) t z q=some l:=by
 intro t
 induction t with
 |pair a b iha ihb=>
  intro x z o q l h g hq;by_cases hu:o=0/\u= .pair a b
  .obtain⟨rfl,rfl⟩:=hu;exfalso;apply hq;have: ∀(t:Ty) (x:t.den) (q:Nat) (l:(Ty.list v).den),rJ (.list v) t x q=some l->q<t.cells:=by
    intro t
    induction t with
    |pair s t ihs iht=>
     intro x q l g;have key: ∀q,(if q<s.cells then rJ (.list v) s x.1 q else rJ (.list v) t x.2 (q-s.cells))=some l->q<s.cells+t.cells:=by
      intro q g;by_cases h:q<s.cells
      .omega
      .rw[aUX h] at g;have:=iht _ _ _ g;omega
     cases q with
     |zero=>
      unfold rJ at g;rw[aWB (by intro e;cases e)] at g;exact key 0 (by simpa using g)
     |succ q=>exact key (q+1) (by simpa[rJ] using g)
    |_=>
     intro x q l g;cases q with
     |zero=>first|(simp [Ty.cells];done) |(unfold rJ at g;simp at g)
     |succ q=>simp [rJ] at g
   exact⟨aV4 _,by simpa using this _ _ _ _ g⟩
  .have keyh:(if o<a.cells then(t8 u y a x.1 o).map (fun q=>(q,x.2)) else(t8 u y b x.2 (o-a.cells)).map (fun q=>(x.1,q)))=some z:=by
    cases o with
    |zero=>
     unfold t8 at h;rw[aWB (fun e=>hu ⟨rfl,e⟩)] at h;simpa using h
    |succ o=>simpa[t8] using h
   have keyg: ∀x:(Ty.pair a b).den,rJ (.list v) (.pair a b) x q=(if q<a.cells then rJ (.list v) a x.1 q else rJ (.list v) b x.2 (q-a.cells)):=by
    intro x;cases q with
    |zero=>
     conv=>lhs;unfold rJ
     rw[aWB (by intro e;cases e),Nat.zero_sub]
    |succ q=>simp [rJ]
   rw[keyg] at g|-;by_cases ho:o<a.cells
   .rw[aUU ho] at keyh;obtain⟨z',hz',rfl⟩:=aU1.1 keyh;by_cases hqa:q<a.cells
    .rw[aUU hqa] at g|-;exact iha hz' g hq
    .rw[aUX hqa] at g|-;exact g
   .rw[aUX ho] at keyh;obtain⟨z',hz',rfl⟩:=aU1.1 keyh;by_cases hqa:q<a.cells
    .rw[aUU hqa] at g|-;exact g
    .rw[aUX hqa] at g|-;exact ihb hz' g pI
 |unit=>
  intro x z o q l h g hq;cases q with
  |zero=>
   unfold rJ at g;rw[aWB (by intro e;cases e)] at g;cases g
  |succ q=>simp [rJ] at g
 |_=>
  intro x z o q l h g hq;cases o with
  |zero=>
   unfold t8 at h;split at h
   .rename_i e;subst e;cases q with
    |zero=>exact absurd ⟨aVi _,Nat.zero_lt_one⟩ hq
    |succ q=>simp [rJ] at g
   .simp at h
  |succ o=>simp [t8] at h
theorem sH.store {side:List Prop}{rds:pS}{i:Nat}{u t:Ty}{x z:u.den}{y:t.den}{off:Nat}{toks:pN}{k:pR}{p:Pl}{cy:pP}{v:pU}(hb:qH H i=some (.cells u x toks)) (hp:g.J i=some p)
  (hset:t8 t y u x off=some z) (hy:Rd g w t y cy) (hk:DK g t y v k) (hk2: ∀a b,t= .pair a b->k=none) (hv:t.isRow=false->cy=[v]):
  sH g w H ⟨side,(.any,none),[(i,.cells u z (qZ (yF k off) (wG toks off t.cells)))],rds⟩ g (w.setCells p.1 (p.2+off) cy) undef/\w.there p.1 (p.2+off) cy.length:=by
 obtain⟨p',cs,hp',hR,hra,hth,hns,htk⟩:=hH.blk i _ hb;rw[hp] at hp';obtain rfl:=aUZ hp';obtain⟨c1,c2,c3,hcs,hl1,hl2,hz⟩:=WJ hy hR hset;subst hcs;subst hl1;have hcl:=tC hR;have hyl:=tC hy;simp only[aUW] at hcl;have hthere:w.there p.1 (p.2+c1.length) cy.length:=fun j hj=>by
  have:=hth.1 (c1.length+j) pI;rwa [<-aVF] at this
 have hout: ∀b o,(b=p.1->o<p.2+c1.length\/p.2+c1.length+cy.length<=o)->(w.setCells p.1 (p.2+c1.length) cy).cell? ⟨b,o,none⟩=w.cell? ⟨b,o,none⟩:=fun b o h=>World.cell?_setCells_out p.1 cy _ w ⟨b,o,none⟩ (fun e _=>h e);have hin: ∀b o,b=p.1->p.2+c1.length<=o->o<p.2+c1.length+cy.length->sG g i (.cells u x toks) b o:=fun b o e h1 h2=>⟨p,hp,e,pI,pI⟩;have hsz:(w.setCells p.1 (p.2+c1.length) cy).heap.size=w.heap.size:=by
  have: ∀(l:pP) (o:Nat) (w:pT),(w.setCells p.1 o l).heap.size=w.heap.size:=by
   intro l
   induction l with
   |nil=>intro o w;rfl
   |cons v l ih=>intro o w;rw[World.setCells,ih];simp [World.setCell]
  exact this _ _ _
 have hbk: ∀b,b≠p.1->(w.setCells p.1 (p.2+c1.length) cy).heap[b]? =w.heap[b]? :=by
  intro b hb;have: ∀(l:pP) (o:Nat) (w:pT),(w.setCells p.1 o l).heap[b]? =w.heap[b]? :=by
   intro l
   induction l with
   |nil=>intro o w;rfl
   |cons v l ih=>intro o w;rw[World.setCells,ih];exact Below.heap_setCell _ _ _ _ hb
  exact this _ _ _
 have hos:(w.setCells p.1 (p.2+c1.length) cy).os=w.os/\(w.setCells p.1 (p.2+c1.length) cy).tape=w.tape/\(w.setCells p.1 (p.2+c1.length) cy).output=w.output:=by
  have: ∀(l:pP) (o:Nat) (w:pT),(w.setCells p.1 o l).os=w.os/\(w.setCells p.1 o l).tape=w.tape/\(w.setCells p.1 o l).output=w.output:=by
   intro l
   induction l with
   |nil=>intro o w;exact⟨rfl,rfl,rfl⟩
   |cons v l ih=>intro o w;rw[World.setCells];exact ih _ _
  exact this _ _ _
 have hiS: ∀b o,g.S b o->¬(b=p.1/\p.2<=o/\o<p.2+u.cells):=fun b o hs ⟨e,h1,h2⟩=>hns (o-p.2) pI (by rw[show p.2+(o-p.2)=o from by omega,<-e];exact hs);have le:Le g w g (w.setCells p.1 (p.2+c1.length) cy):=⟨fun _ _ h=>h,fun b o h=>hout b o (fun e=>by
  have:=hiS b o h;rcases aV8 o (p.2+c1.length) with h1|h1
  .exact .inl h1
  .rcases aV8 o (p.2+c1.length+cy.length) with h2|h2
   .exact absurd ⟨e,pI,pI⟩ this
   .exact .inr h2),fun _ _ h=>h,fun _ _ _ h=>h⟩
 have hofI: ∀b o,sG g i (.cells u x toks) b o->tE g H (qJ [(i,qD.cells u z (qZ (yF k c1.length) (wG toks c1.length t.cells)))]) b o:=fun b o h=>⟨i,_,by simp [qJ],hb,h⟩;have fr:Fr (tE g H (qJ [(i,qD.cells u z (qZ (yF k c1.length) (wG toks c1.length t.cells)))])) w (w.setCells p.1 (p.2+c1.length) cy) g.S g.S:=by
  refine⟨hos.1,hos.2.1,hos.2.2,aWx hsz.symm,fun b hb' hno=> ?_,fun b o hb' hno=>⟨hout b o (fun e=> ?_),World.frozen?_setCells _ _ _ _ _⟩,fun b o h=> .inl h,fun b s hs=> .inl ((RF _ _ _ _ _).trans hs)⟩
  .by_cases e:b=p.1
   .cases hcy:cy with
    |nil=>rfl
    |cons q l=>exact absurd (hofI b (p.2+c1.length) (hin b _ e (aVi _) (by rw[hcy];simp))) (hno _)
   .exact hbk b e
  .rcases aV8 o (p.2+c1.length) with h1|h1
   .exact .inl h1
   .rcases aV8 o (p.2+c1.length+cy.length) with h2|h2
    .exact absurd (hofI b o (hin b o e h1 h2)) hno
    .exact .inr h2
 have gho: ∀j,j∉qJ [(i,qD.cells u z (qZ (yF k c1.length) (wG toks c1.length t.cells)))]->g.J j=g.J j/\g.cur j=g.cur j:=fun _ _=>⟨rfl,rfl⟩;have get: ∀j blk,j∈qJ [(i,qD.cells u z (qZ (yF k c1.length) (wG toks c1.length t.cells)))]->qH (qZ [(i,qD.cells u z (qZ (yF k c1.length) (wG toks c1.length t.cells)))] H) j=some blk->j=i/\blk= .cells u z (qZ (yF k c1.length) (wG toks c1.length t.cells)):=by
  intro j blk hi hg;simp only[qJ,aVb] at hi;subst hi;simp only[qZ,qH,aWz,aUT] at hg;exact⟨rfl,hg.symm⟩
 have perm: ∀j blk b o,j∈qJ [(i,qD.cells u z (qZ (yF k c1.length) (wG toks c1.length t.cells)))]->qH (qZ [(i,qD.cells u z (qZ (yF k c1.length) (wG toks c1.length t.cells)))] H) j=some blk->sG g j blk b o->w.heap.size<=b\/tE g H (qJ [(i,qD.cells u z (qZ (yF k c1.length) (wG toks c1.length t.cells)))]) b o:=by
  intro j blk b o hi hg ho;obtain⟨rfl,rfl⟩:=get j blk hi hg;exact .inr (hofI b o ho)
 refine⟨⟨le,⟨trivial,trivial⟩,hH.upd le fr perm gho (fun j blk hi hg=> ?_) (fun i j bi bj b o hi hj hij hgi hgj _ _=>hij ((get i bi hi hgi).1.trans (get j bj hj hgj).1.symm)) (fun b o h=>by rw[hsz];exact hH.sl b o h),fr,perm,gho,fun j u' y' us h=>by
  simp only[qZ,qH] at h;split at h
  .rename_i e1;subst e1;simp only[aUT,qD.cells.injEq] at h;obtain⟨rfl,_⟩:=h;exact .inl ⟨x,toks,hb⟩
  .exact .inl ⟨y',us,h⟩⟩,hthere⟩
 obtain⟨rfl,rfl⟩:=get j blk hi hg;refine⟨p,_,hp,y4 le hz,fun q v hq=> ?_,⟨fun q hq=> ?_,fun h0 s hs=>(RF _ _ _ _ _).trans (hth.2 h0 s hs)⟩,hns,?_⟩
 .by_cases h1:q<c1.length
  .rw[hout _ _ (fun _=> .inl pI)];refine hra q v ?_;rw[aU0,aVf h1] at hq|-;exact hq
  .by_cases h2:q<c1.length+cy.length
   .have:=aWs p.1 cy (p.2+c1.length) w (fun j hj=>(hthere j hj).1) (q-c1.length) pI;rw[show p.2+c1.length+(q-c1.length)=p.2+q from by omega] at this;rw[this];rw[aU0,aVa pI,aVf pI] at hq;rw[<-hq,aU5 pI]
   .rw[hout _ _ (fun _=> .inr pI)];refine hra q v ?_;rw[aU0,aVa pI,aVa pI] at hq|-;rw[hl2];rw[hyl] at hq;exact hq
 .have hh:=hth.1 q hq;refine⟨?_,by rw[World.frozen?_setCells];exact hh.2⟩;by_cases h1:q<c1.length\/c1.length+cy.length<=q
  .rw[hout _ _ (fun _=>by omega)];exact hh.1
  .have:=aWs p.1 cy (p.2+c1.length) w (fun j hj=>(hthere j hj).1) (q-c1.length) pI;rw[show p.2+c1.length+(q-c1.length)=p.2+q from by omega] at this;rw[this];rfl
 .intro q kk hm;have hsplit:(q,kk)∈yF k c1.length\/(q,kk)∈wG toks c1.length t.cells:=by
   cases k with
   |none=>exact .inr (by simpa[yF,qZ] using hm)
   |some k=>
    simp only[yF,qZ,aU9] at hm;rcases hm with hm|hm
    .exact .inl (by simp [yF,hm])
    .exact .inr hm
  rcases hsplit with hm|hm
  .cases k with
   |none=>simp [yF] at hm
   |some k=>
    simp only[yF,aVb,aVs] at hm;obtain⟨rfl,rfl⟩:=hm;cases t with
    |list t=>
     obtain rfl:=hv rfl;exact⟨t,y,v,aL6 hH rfl hset,by simp,hk⟩
    |pair a b=>cases hk2 a b rfl
    |_=>exact hk.elim
  .obtain⟨h1,h2⟩:=a1k hH hm;obtain⟨v',l,v1,g1,g2,g3⟩:=htk q kk h1;refine⟨v',l,v1,aCw hH hset g1 h2,?_,g3⟩;rcases aV8 q c1.length with h3|h3
   .rw[aU0,aVf h3] at g2|-;exact g2
   .have h4:c1.length+t.cells<=q:=by omega
    rw[aU0,aVa pI,aVa pI] at g2|-;rw[hyl];rw[hl2] at g2;exact g2
theorem A5.openS {side:List Prop}{rds:pS}{i:Nat}{u u0:Ty}{el:Nat}{kn:pQ}{x:u.den}{z: Σ t:Ty,t.den}{off:Nat}{toks:pN}{p:Pl}{cy:pP}(hb:qH H i=some (.cells u x toks)) (hp:g.J i=some p)
  (hset:yU el u0 kn u x off=some z) (hy:FX g kn cy) (hyl:cy.length=1) (hre:IW rds=true):
  A5 g w H ⟨side,(.any,none),[(i,.cells z.1 z.2 [])],rds⟩ g (w.setCells p.1 (p.2+off) cy) undef/\w.there p.1 (p.2+off) cy.length:=by
 obtain⟨p',cs,hp',hR,hra,hth,hns,htk⟩:=hH.blk i _ hb;rw[hp] at hp';obtain rfl:=aUZ hp';obtain⟨c1,c2,c3,hcs,hl1,hl2,hz⟩:=aLw hy hR hset;subst hcs;subst hl1;have hcl:=tC hR;have hcz:=aLv hset;simp only[aUW] at hcl;have hthere:w.there p.1 (p.2+c1.length) cy.length:=fun j hj=>by
  have:=hth.1 (c1.length+j) pI;rwa [<-aVF] at this
 have hout: ∀b o,(b=p.1->o<p.2+c1.length\/p.2+c1.length+cy.length<=o)->(w.setCells p.1 (p.2+c1.length) cy).cell? ⟨b,o,none⟩=w.cell? ⟨b,o,none⟩:=fun b o h=>World.cell?_setCells_out p.1 cy _ w ⟨b,o,none⟩ (fun e _=>h e);have hin: ∀b o,b=p.1->p.2+c1.length<=o->o<p.2+c1.length+cy.length->sG g i (.cells u x toks) b o:=fun b o e h1 h2=>⟨p,hp,e,pI,pI⟩;have hsz:(w.setCells p.1 (p.2+c1.length) cy).heap.size=w.heap.size:=by
  have: ∀(l:pP) (o:Nat) (w:pT),(w.setCells p.1 o l).heap.size=w.heap.size:=by
   intro l
   induction l with
   |nil=>intro o w;rfl
   |cons v l ih=>intro o w;rw[World.setCells,ih];simp [World.setCell]
  exact this _ _ _
 have hbk: ∀b,b≠p.1->(w.setCells p.1 (p.2+c1.length) cy).heap[b]? =w.heap[b]? :=by
  intro b hb;have: ∀(l:pP) (o:Nat) (w:pT),(w.setCells p.1 o l).heap[b]? =w.heap[b]? :=by
   intro l
   induction l with
   |nil=>intro o w;rfl
   |cons v l ih=>intro o w;rw[World.setCells,ih];exact Below.heap_setCell _ _ _ _ hb
  exact this _ _ _
 have hos:(w.setCells p.1 (p.2+c1.length) cy).os=w.os/\(w.setCells p.1 (p.2+c1.length) cy).tape=w.tape/\(w.setCells p.1 (p.2+c1.length) cy).output=w.output:=by
  have: ∀(l:pP) (o:Nat) (w:pT),(w.setCells p.1 o l).os=w.os/\(w.setCells p.1 o l).tape=w.tape/\(w.setCells p.1 o l).output=w.output:=by
   intro l
   induction l with
   |nil=>intro o w;exact⟨rfl,rfl,rfl⟩
   |cons v l ih=>intro o w;rw[World.setCells];exact ih _ _
  exact this _ _ _
 have hiS: ∀b o,g.S b o->¬(b=p.1/\p.2<=o/\o<p.2+u.cells):=fun b o hs ⟨e,h1,h2⟩=>hns (o-p.2) pI (by rw[show p.2+(o-p.2)=o from by omega,<-e];exact hs);have le:Le g w g (w.setCells p.1 (p.2+c1.length) cy):=⟨fun _ _ h=>h,fun b o h=>hout b o (fun e=>by
  have:=hiS b o h;rcases aV8 o (p.2+c1.length) with h1|h1
  .exact .inl h1
  .rcases aV8 o (p.2+c1.length+cy.length) with h2|h2
   .exact absurd ⟨e,pI,pI⟩ this
   .exact .inr h2),fun _ _ h=>h,fun _ _ _ h=>h⟩
 have hofI: ∀b o,sG g i (.cells u x toks) b o->tE g H (qJ [(i,qD.cells z.1 z.2 [])]) b o:=fun b o h=>⟨i,_,by simp [qJ],hb,h⟩;have fr:Fr (tE g H (qJ [(i,qD.cells z.1 z.2 [])])) w (w.setCells p.1 (p.2+c1.length) cy) g.S g.S:=by
  refine⟨hos.1,hos.2.1,hos.2.2,aWx hsz.symm,fun b hb' hno=> ?_,fun b o hb' hno=>⟨hout b o (fun e=> ?_),World.frozen?_setCells _ _ _ _ _⟩,fun b o h=> .inl h,fun b s hs=> .inl ((RF _ _ _ _ _).trans hs)⟩
  .by_cases e:b=p.1
   .cases hcy:cy with
    |nil=>rfl
    |cons q l=>exact absurd (hofI b (p.2+c1.length) (hin b _ e (aVi _) (by rw[hcy];simp))) (hno _)
   .exact hbk b e
  .rcases aV8 o (p.2+c1.length) with h1|h1
   .exact .inl h1
   .rcases aV8 o (p.2+c1.length+cy.length) with h2|h2
    .exact absurd (hofI b o (hin b o e h1 h2)) hno
    .exact .inr h2
 have gho: ∀j,j∉qJ [(i,qD.cells z.1 z.2 [])]->g.J j=g.J j/\g.cur j=g.cur j:=fun _ _=>⟨rfl,rfl⟩;have get: ∀j blk,j∈qJ [(i,qD.cells z.1 z.2 [])]->qH (qZ [(i,qD.cells z.1 z.2 [])] H) j=some blk->j=i/\blk= .cells z.1 z.2 []:=by
  intro j blk hi hg;simp only[qJ,aVb] at hi;subst hi;simp only[qZ,qH,aWz,aUT] at hg;exact⟨rfl,hg.symm⟩
 have perm: ∀j blk b o,j∈qJ [(i,qD.cells z.1 z.2 [])]->qH (qZ [(i,qD.cells z.1 z.2 [])] H) j=some blk->sG g j blk b o->w.heap.size<=b\/tE g H (qJ [(i,qD.cells z.1 z.2 [])]) b o:=by
  intro j blk b o hi hg ho;obtain⟨rfl,rfl⟩:=get j blk hi hg;obtain⟨q,hq,e1,e2,e3⟩:=ho;rw[hcz] at e3;exact .inr (hofI b o ⟨q,hq,e1,e2,e3⟩)
 refine⟨⟨le,⟨trivial,trivial⟩,hH.upd le fr perm gho (fun j blk hi hg=> ?_) (fun i j bi bj b o hi hj hij hgi hgj _ _=>hij ((get i bi hi hgi).1.trans (get j bj hj hgj).1.symm)) (fun b o h=>by rw[hsz];exact hH.sl b o h),fr,perm,gho,fun h=>by rw[hre] at h;cases h⟩,hthere⟩;obtain⟨rfl,rfl⟩:=get j blk hi hg;refine⟨p,_,hp,y4 le hz,fun q v hq=> ?_,⟨fun q hq=> ?_,fun h0 s hs=>(RF _ _ _ _ _).trans (hth.2 (by rw[<-hcz];exact h0) s hs)⟩,fun q hq=>hns q (by rw[<-hcz];exact hq),fun _ _ hm=>by cases hm⟩
 .by_cases h1:q<c1.length
  .rw[hout _ _ (fun _=> .inl pI)];refine hra q v ?_;rw[aU0,aVf h1] at hq|-;exact hq
  .by_cases h2:q<c1.length+cy.length
   .have:=aWs p.1 cy (p.2+c1.length) w (fun j hj=>(hthere j hj).1) (q-c1.length) pI;rw[show p.2+c1.length+(q-c1.length)=p.2+q from by omega] at this;rw[this];rw[aU0,aVa pI,aVf pI] at hq;rw[<-hq,aU5 pI]
   .rw[hout _ _ (fun _=> .inr pI)];refine hra q v ?_;rw[aU0,aVa pI,aVa pI] at hq|-;rw[hl2];rw[hyl] at hq;exact hq
 .have hh:=hth.1 q (by rw[<-hcz];exact hq);refine⟨?_,by rw[World.frozen?_setCells];exact hh.2⟩;by_cases h1:q<c1.length\/c1.length+cy.length<=q
  .rw[hout _ _ (fun _=>by omega)];exact hh.1
  .have:=aWs p.1 cy (p.2+c1.length) w (fun j hj=>(hthere j hj).1) (q-c1.length) pI;rw[show p.2+c1.length+(q-c1.length)=p.2+q from by omega] at this;rw[this];rfl
end
def zQ (g:Gh) (base:Nat) (e:qU):Prop:= ∀i,i∈qJ e.upd->base<=i->g.J i=none/\∀n,g.cur i n=none
section
variable {P:Program}{o:Oper}{a:Act}{g:Gh}{w:pT}{H:sD}{T:sY}(hT:y5 P T) (hH:sM g w H)
include hT hH
theorem aCx {x:Operand}(ho:o.op= .move x\/o.op= .assign x) {sx:qE}(hx:rX g w sx (a.eval x)) {base:Nat}{e:qU}(hr:a0q base (s0 T o.type) sx=some e) (hf:zQ g base e):rL P o a g w H e:=by
 have hrun:(execOp a.eval o).run P w= .ok (.value (a.eval x)) w:=by rcases ho with ho|ho<;>simp [execOp,ho]
 generalize hst:s0 T o.type=ot at hr;unfold a0q at hr;split at hr
 .cases hr;have hv:a.eval x= .slice none 0 0:=hx.1;have hfr:=(hf base (by simp [qJ]) (aVi _)).2;refine rL.value (v:= .slice none 0 0) (by rw[hrun,hv]) (sH.row (v:= .slice none 0 0) (xs:=[]) hH rfl (World.ownsRow_nil w 0 _ _) rfl (fun m _=>hfr m) (fun u hu=>by rw[hfr] at hu;cases hu) (.inl ⟨rfl,rfl,rfl,aVi _,fun _ _ _=>rfl⟩) (fun _ _ _=>rfl) (fun b hb=>by cases hb) (fun b hb=>by cases hb) ⟨⟨by simp [Gh.tok],.inl ⟨rfl,rfl⟩⟩,trivial⟩)
 .cases hr;have hv:a.eval x= .slice none 0 0:=hx.1;refine rL.value (v:= .slice none 0 0) (by rw[hrun,hv]) (sH.nilTok hH rfl (hf base (by simp [qJ]) (aVi _)).2)
 .cases hr
 .cases hr;exact rL.value hrun (.pure hH hx)
theorem aL7 {u:Ty}{y:List u.den}{k:pR}{v:pU}{cs:pP}(h:DK g (.list u) y v k) (hc:cs=[v]):HC g (.list u) y cs (yF k 0):=by
 intro q kk hm;cases k with
 |none=>simp [yF] at hm
 |some k=>
  simp only[yF,aVb,aVs] at hm;obtain⟨rfl,rfl⟩:=hm;exact⟨u,y,v,by unfold rJ;simp [v7],by rw[hc];rfl,h⟩
omit hT hH in
theorem NY {α:Type}: ∀(l m n:List α),qZ (qZ l m) n=qZ l (qZ m n)
 |[],_,_=>rfl
 |x::l,m,n=>by simp only[qZ,NY l m n]
omit hT hH in
theorem EM {i:Nat}: ∀{l m:List (Nat×qD)},i∈qJ (qZ l m)↔i∈qJ l\/i∈qJ m
 |[],m=>by simp [qZ,qJ]
 |(k,b)::l,m=>by simp only[qZ,qJ,aU9,EM (l:=l),or_assoc]
omit hT hH in
theorem sH.trans {H:sD}{e1 e2:qU}{g1 g2:Gh}{w1 w2:pT}{v1 v2:pU}{side:List Prop}{rds:pS}(h:sH g w H e1 g1 w1 v1) (k:sH g1 w1 (qZ e1.upd H) e2 g2 w2 v2):sH g w H ⟨side,e2.slot,qZ e2.upd e1.upd,rds⟩ g2 w2 v2:=by
 have hB: ∀b o,tE g1 (qZ e1.upd H) (qJ e2.upd) b o->w.heap.size<=b\/tE g H (qJ (qZ e2.upd e1.upd)) b o:=by
  rintro b o ⟨i,blk,hi,hg,ho⟩;by_cases h1:i∈qJ e1.upd
  .refine(h.perm i blk b o h1 hg ho).imp id fun⟨j,bj,hj,q⟩=>⟨j,bj,EM.2 (.inr hj),q⟩
  .exact .inr ⟨i,blk,EM.2 (.inl hi),(CY h1).symm.trans hg,(A6 (h.gho i h1).1 (h.gho i h1).2).1 ho⟩
 have mono: ∀b o,tE g H (qJ e1.upd) b o->tE g H (qJ (qZ e2.upd e1.upd)) b o:=fun b o ⟨j,bj,hj,q⟩=>⟨j,bj,EM.2 (.inr hj),q⟩;refine⟨h.le.trans k.le,k.slot,by simp only[NY];exact k.heap,?_,fun i blk b o hi hg ho=> ?_,fun i hi=> ?_,fun i u y us hg=> ?_⟩
 .have h1:Fr (tE g H (qJ (qZ e2.upd e1.upd))) w w1 g.S g1.S:=⟨h.fr.os,h.fr.tape,h.fr.output,h.fr.size,fun b hb hn=>h.fr.blk b hb (fun o ho=>hn o (mono b o ho)),fun b o hb hn=>h.fr.cell b o hb (fun ho=>hn (mono b o ho)),fun b o hs=>(h.fr.new b o hs).imp id (Or.imp id (mono b o)),fun b s hs=>(h.fr.shape b s hs).imp id fun h o=>mono b o (h o)⟩;exact h1.trans k.fr hB
 .simp only[NY] at hg;by_cases h2:i∈qJ e2.upd
  .rcases k.perm i blk b o h2 hg ho with h3|h3
   .exact .inl (aVZ h.fr.size h3)
   .exact hB b o h3
  .have hi1:i∈qJ e1.upd:=(EM.1 hi).resolve_left h2;rw[CY h2] at hg;exact(h.perm i blk b o hi1 hg ((A6 (k.gho i h2).1 (k.gho i h2).2).1 ho)).imp id (mono b o)
 .have h2:i∉qJ e2.upd:=fun q=>hi (EM.2 (.inl q));have h1:i∉qJ e1.upd:=fun q=>hi (EM.2 (.inr q));exact⟨(k.gho i h2).1.trans (h.gho i h1).1,(k.gho i h2).2.trans (h.gho i h1).2⟩
 .simp only[NY] at hg;rcases k.ty i u y us hg with⟨x,ts,h3⟩ |⟨h3,h4⟩
  .exact h.ty i u x ts h3
  .right;refine⟨?_,fun n=> ?_⟩
   .cases hj:g.J i with
    |none=>rfl
    |some p=>rw[h.le.J i p hj] at h3;cases h3
   .cases hj:g.cur i n with
    |none=>rfl
    |some p=>rw[<-h4 n,h.le.cur i n p hj]
omit hT hH in
theorem sH.congrH {H H':sD}{e:qU}{g':Gh}{w':pT}{v:pU}(h:sH g w H e g' w' v) (hH:H=H'):sH g w H' e g' w' v:=hH▸h
omit hT hH in
theorem a1l {w:pT}: ∀(ls:List (Nat×TypeId×Nat)) (i:Nat) (g:Gh) (H:sD),sM g w H->(∀j,i<=j->j<i+ls.length->∀n,g.cur j n=none)->
  ∃g1,sH g w H ⟨[],(.any,none),EG ls i,[]⟩ g1 w undef/\g1.J=g.J/\(∀o k,(o,k)∈CR ls i->g1.cur k 0=some (.slice none 0 0))/\(∀k,k<i->g1.cur k=g.cur k)
 |[],i,g,H,hH,_=>⟨g,.pure hH ⟨trivial,trivial⟩,rfl,fun _ _ h=>by simp [CR] at h,fun _ _=>rfl⟩
 |(o,e,c)::r,i,g,H,hH,hf=>by
  have e1:=sH.nilTok (side:=[]) (d:= .val (.list .bool) []) (rds:=[]) (base:=i) (e:=e) (c:=c) (u:= .bool) hH rfl (hf i (aVi _) pK);have hc1: ∀k n,k≠i->(g.tok i 0 (.slice none 0 0)).cur k n=g.cur k n:=fun k n hk=>by
   show (if k=i/\n=0 then _ else _)=_;rw[aUX (fun h=>hk h.1)]
  obtain⟨g1,k1,k2,k3,k4⟩:=a1l r (i+1) (g.tok i 0 (.slice none 0 0)) (qZ [(i,qD.grow e c 0)] H) e1.heap (fun j h1 h2 n=>by rw[hc1 j n pI];exact hf j pI (by simp only[aUY];omega) n);refine⟨g1,e1.trans k1,k2.trans rfl,fun o' k hm=> ?_,fun k hk=> ?_⟩
  .simp only[CR,aU9,aVs] at hm;rcases hm with⟨rfl,rfl⟩ |hm
   .rw[k4 _ pI];show (if k=k/\0=0 then _ else _)=_;simp
   .exact k3 o' k hm
  .rw[k4 k pI];funext n;exact hc1 k n pI
omit hT hH in
theorem a1m: ∀{ls:List (Nat×TypeId×Nat)}{i o k:Nat},(o,k)∈CR ls i->∃q∈ls,q.1=o
 |[],_,_,_,h=>by simp [CR] at h
 |(o',e,c)::r,i,o,k,h=>by
  simp only[CR,aU9,aVs] at h;rcases h with⟨h1,_⟩ |h
  .exact⟨(o',e,c),by simp,h1.symm⟩
  .obtain⟨q,h1,h2⟩:=a1m h;exact⟨q,by simp [h1],h2⟩
omit hT hH in
theorem a1n {t:Ty}: ∀{ls:List (Nat×TypeId×Nat)},FV t ls=true->∀q∈ls,FU t q.1=true
 |[],_,_,h=>by cases h
 |(o,e,c)::r,h,q,hq=>by
  simp only[FV,aU6] at h;rcases aU9.1 hq with rfl|hq
  .exact h.1
  .exact a1n h.2 q hq
omit hT hH in
theorem RG: ∀(ls:List (Nat×TypeId×Nat)) (i j:Nat),j∈qJ (EG ls i)↔i<=j/\j<i+ls.length
 |[],i,j=>by simp only[EG,qJ,aWv,aU7,false_iff];omega
 |(o,e,c)::r,i,j=>by
  simp only[EG,EM,RG r (i+1) j,qJ,aVb,aUY];omega
omit hT hH in
theorem aCy {w:pT}: ∀(R:List (Nat×Nat×Ty)) (i:Nat) (g:Gh) (H:sD),sM g w H->(∀j,i<=j->j<i+R.length->∀n,g.cur j n=none)->
  ∃g1,sH g w H ⟨[],(.any,none),L8 R i,[]⟩ g1 w undef/\g1.J=g.J/\(∀j,j<R.length->g1.cur (i+j) 0=some (.slice none 0 0))/\(∀k,k<i->g1.cur k=g.cur k)
 |[],i,g,H,hH,_=>⟨g,.pure hH ⟨trivial,trivial⟩,rfl,fun _ h=>by simp at h,fun _ _=>rfl⟩
 |(o,e,u)::r,i,g,H,hH,hf=>by
  have hfr:=hf i (aVi _) pK;have e1:=sH.row (side:=[]) (rds:=[]) (k:=i) (e:=e) (t:=u) (l:=[]) (n:=0) (s:=(.any,none)) (val:=undef) (v:= .slice none 0 0) (xs:=[]) hH rfl (World.ownsRow_nil w 0 _ _) rfl (fun m _=>hfr m) (fun u hu=>by rw[hfr] at hu;cases hu) (.inl ⟨rfl,rfl,rfl,aVi _,fun _ _ _=>rfl⟩) (fun _ _ _=>rfl) (fun b hb=>by cases hb) (fun b hb=>by cases hb) ⟨trivial,trivial⟩;have hc1: ∀k n,k≠i->(g.tok i 0 (.slice none 0 0)).cur k n=g.cur k n:=fun k n hk=>by
   show (if k=i/\n=0 then _ else _)=_;rw[aUX (fun h=>hk h.1)]
  obtain⟨g1,k1,k2,k3,k4⟩:=aCy r (i+1) (g.tok i 0 (.slice none 0 0)) (qZ [(i,qD.row e u [] 0)] H) e1.heap (fun j h1 h2 n=>by rw[hc1 j n pI];exact hf j pI (by simp only[aUY];omega) n);refine⟨g1,e1.trans k1,k2.trans rfl,fun j hj=> ?_,fun k hk=> ?_⟩
  .cases j with
   |zero=>
    rw[aVU,k4 _ pI];show (if i=i/\0=0 then _ else _)=_;simp
   |succ j=>
    have:=k3 j (by simpa using hj);rwa [show i+1+j=i+(j+1) by omega] at this
  .rw[k4 k pI];funext n;exact hc1 k n pI
omit hT hH in
theorem aCz: ∀(R:List (Nat×Nat×Ty)) (i j:Nat),j∈qJ (L8 R i)↔i<=j/\j<i+R.length
 |[],i,j=>by simp only[L8,qJ,aWv,aU7,false_iff];omega
 |(o,e,c)::r,i,j=>by
  simp only[L8,EM,aCz r (i+1) j,qJ,aVb,aUY];omega
omit hT hH in
theorem a1o {α:Type}: ∀l:List α,QQ l=l.length
 |[]=>rfl
 |_::l=>by simp only[QQ,a1o l,aUY]
omit hT hH in
theorem RH {α:Type}{x:α}: ∀{l m:List α},x∈qZ l m↔x∈l\/x∈m
 |[],m=>by simp [qZ]
 |y::l,m=>by simp only[qZ,aU9,RH (l:=l),or_assoc]
omit hT hH in
theorem aL8 {g:Gh}{w:pT}: ∀{t:Ty}{x:t.den}{cs:pP}{o:Nat},Rd g w t x cs->∀q∈FW t x o,o<=q.1/\cs[q.1-o]? =some (.slice none 0 0):=by
 intro t
 induction t with
 |pair a b iha ihb=>
  intro x cs o r q hq;obtain⟨c1,c2,rfl,r1,r2⟩:=r;simp only[FW,RH] at hq;have hl:=tC r1;rcases hq with hq|hq
  .obtain⟨h1,h2⟩:=iha r1 q hq;exact⟨h1,by rw[aVf (aVd.1 h2).1];exact h2⟩
  .obtain⟨h1,h2⟩:=ihb r2 q hq;refine⟨pI,?_⟩;rw[aVa pI,hl,show q.1-o-a.cells=q.1- (o+a.cells) by omega];exact h2
 |rl e u=>
  intro x cs o r q hq;cases x with
  |none=>
   simp only[FW,a0s,aVb] at hq;subst hq;refine⟨aVi _,?_⟩;rw[show cs=[.slice none 0 0] from r];simp
  |some z=>simp [FW,a0s] at hq
 |_=>intro x cs o r q hq;simp [FW] at hq
omit hT hH in
theorem aL9 {g:Gh}{w:pT}: ∀{t:Ty}{x:t.den}{cs:pP}{o:Nat},Rd g w t x cs->∀q∈H7 t x o,o<=q/\cs[q-o]? =some (.pointer none):=by
 intro t
 induction t with
 |pair a b iha ihb=>
  intro x cs o r q hq;obtain⟨c1,c2,rfl,r1,r2⟩:=r;simp only[H7,RH] at hq;have hl:=tC r1;rcases hq with hq|hq
  .obtain⟨h1,h2⟩:=iha r1 q hq;exact⟨h1,by rw[aVf (aVd.1 h2).1];exact h2⟩
  .obtain⟨h1,h2⟩:=ihb r2 q hq;refine⟨pI,?_⟩;rw[aVa pI,hl,show q-o-a.cells=q- (o+a.cells) by omega];exact h2
 |mref=>
  intro x cs o r q hq;cases x with
  |none=>
   simp only[H7,a0t,aVb] at hq;subst hq;refine⟨aVi _,?_⟩;rw[show cs=[.pointer none] from r];simp
  |some z=>simp [H7,a0t] at hq
 |_=>intro x cs o r q hq;simp [H7] at hq
omit hT hH in
theorem aCA {g:Gh}{w:pT}{t u:Ty}{x z:t.den}{y:u.den}{cs:pP}{o:Nat}{v:pU}(h:t8 u y t x o=some z) (hy:Rd g w u y [v]) (hR:Rd g w t x cs) (hv:cs[o]? =some v):Rd g w t z cs:=by
 obtain⟨c1,c2,c3,rfl,rfl,h2,h3⟩:=WJ hy hR h;have hu:=tC hy;simp only[aWo] at hu;rw[<-hu] at h2;obtain⟨v',rfl⟩:=aWm.1 h2;have:(c1++[v']++c3)[c1.length]? =some v':=by simp
 rw[this] at hv;obtain rfl:=aUZ hv;exact h3
omit hT hH in
theorem aCB {g:Gh}{w:pT}{t:Ty}{cs:pP}: ∀{R:List (Nat×Nat×Ty)}{i:Nat}{x z:t.den},L7 t i R (some x)=some z->Rd g w t x cs->(∀q∈R,cs[q.1]? =some (.slice none 0 0))->(∀j,j<R.length->g.cur (i+j) 0=some (.slice none 0 0))->Rd g w t z cs
 |[],i,x,z,h,hR,_,_=>by simp only[L7,aUT] at h;exact h▸hR
 |(o,e,u)::r,i,x,z,h,hR,hc,hg=>by
  simp only[L7] at h;cases hs:t8 (.rl e u) (some (i,0)) t x o with
  |none=>rw[hs] at h;cases r<;>simp [L7] at h
  |some x'=>
   rw[hs] at h;refine aCB h (aCA (v:= .slice none 0 0) hs ⟨_,by simpa using hg 0 pK,rfl,.inl ⟨rfl,rfl⟩⟩ hR (hc _ aU2)) (fun q hq=>hc q (aU3 _ hq)) (fun j hj=> ?_);have:=hg (j+1) (by simpa using hj);rwa [show i+(j+1)=i+1+j by omega] at this
omit hT hH in
theorem aCC {g:Gh}{w:pT}{t:Ty}{cs:pP}{i:Nat}{p:Pl}(hp:g.J i=some p) (hp2:p.2=0): ∀{M:pS}{x z:t.den},J0 t i M (some x)=some z->Rd g w t x cs->(∀q∈M,cs[q]? =some (.pointer none)/\a00 p.3 q)->Rd g w t z cs
 |[],x,z,h,hR,_=>by simp only[J0,aUT] at h;exact h▸hR
 |q::r,x,z,h,hR,hc=>by
  simp only[J0] at h;cases hs:t8 .mref (some (i,q)) t x q with
  |none=>rw[hs] at h;cases r<;>simp [J0] at h
  |some x'=>
   rw[hs] at h;exact aCC hp hp2 h (aCA (v:= .pointer none) hs ⟨p,hp,by rw[hp2,aVx];exact(hc _ aU2).2,.inl rfl⟩ hR (hc _ aU2).1) (fun q hq=>hc q (aU3 _ hq))
omit hT hH in
theorem WR {k:Nat}: ∀{ls:List (Nat×TypeId×Nat)}{q:Nat×TypeId×Nat},q∈CS k ls->q.1+1≠k
 |[],_,h=>by cases h
 |(o,e,c)::r,q,h=>by
  simp only[CS] at h;split at h
  .exact WR h
  .rename_i hne;rcases aU9.1 h with rfl|h
   .exact hne
   .exact WR h
omit hT in
theorem aCD {t:Ty}{y:t.den}{ls:List (Nat×TypeId×Nat)}{base:Nat}{e:qU}{cs:pP}{el:TypeId}(hr:VB base el t y ls (FV t ls)=some e) (hf:zQ g base e) (hR:Rd g w t y cs) (hn: ∀q∈ls,∃k,yK k t 0 cs/\q.1+1≠k):
  ∃g',sH g w H e g' (w.alloc (.cells cs.toArray el)) (.pointer (some ⟨w.heap.size,0,none⟩)):=by
 cases hl:FV t ls with
 |false=>rw[hl] at hr;cases hr
 |true=>
  rw[hl] at hr;simp only[VB,a1o] at hr;have cR:=fun q hq=>aL8 (o:=0) hR q hq;have cM: ∀q∈VA el t y,cs[q]? =some (.pointer none)/\a00 (some (el,cs.length)) q:=by
   intro q hq;unfold VA at hq;split at hq
   .rename_i hb;have h0:=fun q hq=>aL9 (o:=0) hR q hq;have hl:=tC hR;generalize H7 t y 0=M at hq h0;rw[<-hl] at hq;unfold aBD at hq;split at hq
    .rename_i h2;simp only[aVb] at hq;subst hq;exact⟨by simpa using(h0 0 pK).2,rfl,el,hb,by rw[h2]⟩
    .cases hq
   .cases hq
  generalize FW t y 0=R at hr cR;generalize VA el t y=M at hr cM;cases hz1:L7 t (base+1+ls.length) R (some y) with
  |none=>
   rw[hz1] at hr;have:J0 t base M none=none:=by cases M<;>rfl
   rw[this] at hr;cases hr
  |some z1=>
   rw[hz1] at hr;cases hz2:J0 t base M (some z1) with
   |none=>rw[hz2] at hr;cases hr
   |some z=>
    rw[hz2] at hr;simp only[aBE,a1o] at hr;obtain rfl:=(aUZ hr);have hfr: ∀j,base+1<=j->j<base+1+ls.length+R.length->g.J j=none/\∀n,g.cur j n=none:=fun j h1 h2=>hf j (by
     simp only[qJ,aU9];right;rw[EM];by_cases h3:j<base+1+ls.length
     .exact .inr ((RG ls (base+1) j).2 ⟨h1,h3⟩)
     .exact .inl ((aCz R (base+1+ls.length) j).2 ⟨pI,h2⟩)) pI
    have hf0:=hf base (by simp [qJ]) (aVi _);obtain⟨g1,k1,k2,k3,k4⟩:=a1l ls (base+1) g H hH (fun j h1 h2=>(hfr j h1 pI).2);have hfr1: ∀j,base+1+ls.length<=j->j<base+1+ls.length+R.length->∀n,g1.cur j n=none:=by
     intro j h1 h2 n;have:=(k1.gho j (by simp only;rw[RG];omega)).2;rw[this];exact(hfr j pI h2).2 n
    obtain⟨g2,m1,m2,m3,m4⟩:=aCy R (base+1+ls.length) g1 _ k1.heap hfr1;have hJ:(g2.var base w.heap.size (some (el,cs.length))).J base=some ⟨w.heap.size,0,some (el,cs.length)⟩:=by simp [Gh.var]
    have hle:Le g w (g2.var base w.heap.size (some (el,cs.length))) w:=by
     refine((k1.le.trans m1.le).trans ⟨fun _ _ h=>h,fun _ _ _=>rfl,fun i p h=> ?_,fun _ _ _ h=>h⟩);show (if i=base then _ else _)=_;rw[aUX (fun e1=>by rw[e1,m2,k2,hf0.1] at h;cases h)];exact h
    have hRz:Rd (g2.var base w.heap.size (some (el,cs.length))) w t z cs:=aCC hJ rfl hz2 (aCB hz1 (y4 hle hR) (fun q hq=>by simpa using(cR q hq).2) (fun j hj=>m3 j hj)) cM;have htk:HC g2 t z cs (CR ls (base+1)):=by
     intro o k hm;obtain⟨q,hq,rfl⟩:=a1m hm;obtain⟨kx,hx1,hx2⟩:=hn q hq;obtain⟨u,h1,h2⟩:=aCk hx1 hRz (a1n hl q hq) pI;exact⟨u,[],_,h1,h2,m1.le.cur _ _ _ (k3 _ _ hm)⟩
    have e3:=sH.newVarJ (side:=[]) (rds:=[]) (base:=base) (toks:=CR ls (base+1)) (e:=el) m1.heap hRz htk (by rw[m2,k2];exact hf0.1) (by rw[m4 base pI,k4 base pI];exact funext hf0.2);have e4:=sH.trans (side:=[]) (rds:=[]) k1 m1;exact⟨_,sH.trans (side:=[]) (rds:=[]) e4 (e3.congrH (H':=qZ (qZ (L8 R (base+1+ls.length)) (EG ls (base+1))) H) (by simp only[NY]))⟩
theorem a1p {t:Ty}{y:t.den}{k:pR}{v:pU}(h:rX g w (.val t y,k) v):tT g w t y v/\DK g t y v k:=by
 refine⟨h.1,?_⟩;cases k with
 |none=>trivial
 |some k=>exact h.2
theorem aMa {t:TypeId}{x:Operand}(ho:o.op= .box t x) {sx:qE}(hx:rX g w sx (a.eval x)) {base:Nat}{e:qU}(hr:a0u base t (s0 T t) sx=some e) (hf:zQ g base e):rL P o a g w H e:=by
 generalize hst:s0 T t=ot at hr;have hrun:(execOp a.eval o).run P w= .ok (.value (.pointer (some ⟨w.heap.size,0,none⟩))) (w.alloc (.cells (a.eval x).cells.toList.toArray t)):=by
  unfold execOp;rw[ho];simp only[Instr.box,Go.newVar,newRow,aVe,run_newObj,aU4,aVm,aWr];rfl
 have one: ∀{u:Ty}{y:u.den},tT g w u y (a.eval x)->u.isRow=false->(a.eval x).cells.toList=[a.eval x]:=fun hv hrow=>by
  have h1:=BD (BE hrow hv) _ (aVb.2 rfl);cases h:a.eval x<;>first|rfl|(rw[h] at h1;simp [Value.oneCell'] at h1)
 unfold a0u at hr;split at hr
 .rename_i ti u y k;split at hr
  .obtain⟨hv,hk⟩:=a1p hT hH hx;have hR:=FY hv;unfold aBF at hr;split at hr
   .rename_i a' b' y' k' _;have hn:yK k' (.pair a' b') 0 (a.eval x).cells.toList:=hk;obtain⟨g',h⟩:=aCD (el:=t) hH hr hf hR (fun q hq=>⟨k',hn,WR hq⟩);exact rL.value hrun h
   .rename_i u' y' k';cases hr;have hfr:=hf base (by simp [qJ]) (aVi _);exact rL.value hrun (sH.newVar hH hR (aL7 hT hH hk (one hv rfl)) hfr.1 (funext hfr.2))
   .cases hr;have hfr:=hf base (by simp [qJ]) (aVi _);exact rL.value hrun (sH.newVar hH hR (fun q k hm=>by cases hm) hfr.1 (funext hfr.2))
  .cases hr
 .cases hr
theorem aCE {t:TypeId}(run: ∀ti,s0 T t=some ti->(execOp a.eval o).run P w= .ok (.value (.pointer (some ⟨w.heap.size,0,none⟩))) (w.alloc (.cells (uR ti.ty).toArray t))) {base:Nat}{e:qU}(hr:QR base t (s0 T t)=some e) (hf:zQ g base e):rL P o a g w H e:=by
 generalize hst:s0 T t=ot at hr;unfold QR at hr;split at hr
 .rename_i u el by' ar ls_;cases hr;have hf0:=hf base (by simp [qJ]) (aVi _);have hf1:=hf (base+1) (by simp [qJ]) pI;have hty:=tM hT hst;have e1:=sH.nilTok (side:=[]) (d:= .val (.list u) []) (rds:=[]) (base:=base+1) (e:=el) (c:=u.cells) (u:=u) hH rfl hf1.2;have hH1:=e1.heap;have htk:HC (g.tok (base+1) 0 (.slice none 0 0)) (.list u) [] [.slice none 0 0] [(0,base+1)]:=by
   intro q kk hm;simp only[aVb,aVs] at hm;obtain⟨rfl,rfl⟩:=hm;exact⟨u,[],.slice none 0 0,by unfold rJ;simp [v7],rfl,by simp [Gh.tok]⟩
  have e2:=sH.newVar (side:=[]) (rds:=[]) (base:=base) (toks:=[(0,base+1)]) (e:=t) hH1 (EK (g.tok (base+1) 0 (.slice none 0 0)) w (.list u)) htk hf0.1 (by
   funext n;show (if base=base+1/\n=0 then _ else _)=_;rw[aUX pI];exact hf0.2 n)
  exact rL.value (run _ hst) (sH.trans (side:=[]) (rds:=[]) e1 e2)
 .rename_i ti hno;obtain⟨g',h⟩:=aCD (el:=t) hH hr hf (EK g w ti.ty) (fun q _=>⟨0,WN _ _,pI⟩);exact rL.value (run _ hst) h
 .cases hr
theorem aMb {t:TypeId}(ho:o.op= .alloc t) {base:Nat}{e:qU}(hr:QR base t (s0 T t)=some e) (hf:zQ g base e):rL P o a g w H e:=by
 have run: ∀ti,s0 T t=some ti->(execOp a.eval o).run P w= .ok (.value (.pointer (some ⟨w.heap.size,0,none⟩))) (w.alloc (.cells (uR ti.ty).toArray t)):=by
  intro ti hti;obtain⟨i,hi,hsz,hz⟩:=EL (tM hT hti);have hc:(x4 ti.ty).cells=(uR ti.ty).toArray:=by
   have:=FY (LK g w ti.ty);unfold x4;cases h:ti.ty<;>simp [Ty.isRow,uR,Value.cells]
  unfold execOp;rw[ho];simp only[Instr.alloc,zeroValue,typeInfo,Go.newVar,newRow,aVe,aV1,hi,hz,hc,run_newObj,aU4,aVm];rfl
 exact aCE hT hH run hr hf
theorem aMc {t:TypeId}{x:Operand}(ho:o.op= .box t x) {sx:qE}(hx:rX g w sx (a.eval x)) (hfix: ∀ti:Option TI,rX g w (N8 ti sx) (a.eval x)) {base:Nat}{e:qU}(hr:a0v base t (s0 T t) sx=some e) (hf:zQ g base e):rL P o a g w H e:=by
 generalize hst:s0 T t=ot at hr;unfold a0v at hr;split at hr
 .rename_i u el by' ar ls_ k;rw[<-hst] at hr;refine aCE hT hH (fun ti hti=> ?_) hr hf;rw[hst] at hti;cases hti;have hv:a.eval x= .slice none 0 0:=hx.1;unfold execOp;rw[ho];simp only[Instr.box,Go.newVar,newRow,aVe,run_newObj,aU4,aVm,hv];rfl
 .rw[<-hst] at hr;exact aMa hT hH ho (hfix _) hr hf
omit hT hH in
theorem aMd {t:Ty}{y:t.den}{k:pR}{v:pU}(h:DK g t y v k):DK g t y v (FS t k):=by
 cases t with
 |list u=>exact h
 |_=>trivial
omit hT hH in
theorem aCF {off:Nat}: ∀{l:pN}{o k:Nat},(o,k)∈NF off l->∃q,o=off+q/\(q,k)∈l
 |[],_,_,h=>by cases h
 |(q,k')::r,o,k,h=>by
  simp only[NF,aU9,aVs] at h;rcases h with⟨rfl,rfl⟩ |h
  .exact⟨q,rfl,aU2⟩
  .obtain⟨q',h1,h2⟩:=aCF h;exact⟨q',h1,aU3 _ h2⟩
omit hT hH in
theorem aCG {v t:Ty}{y:t.den}: ∀{u:Ty}{x z:u.den}{o q:Nat}{l:(Ty.list v).den},t8 t y u x o=some z->rJ (.list v) t y q=some l->q<t.cells->rJ (.list v) u z (o+q)=some l:=by
 intro u
 induction u with
 |pair a b iha ihb=>
  intro x z o q l h g hq;by_cases hu:o=0/\t= .pair a b
  .obtain⟨rfl,rfl⟩:=hu;unfold t8 at h;rw[aW0 rfl] at h;simp only[v7,aUT] at h;subst h;simpa using g
  .have keyh:(if o<a.cells then(t8 t y a x.1 o).map (fun q=>(q,x.2)) else(t8 t y b x.2 (o-a.cells)).map (fun q=>(x.1,q)))=some z:=by
    cases o with
    |zero=>
     unfold t8 at h;rw[aWB (fun e=>hu ⟨rfl,e⟩)] at h;simpa using h
    |succ o=>simpa[t8] using h
   have keyg: ∀m,rJ (.list v) (.pair a b) z m=(if m<a.cells then rJ (.list v) a z.1 m else rJ (.list v) b z.2 (m-a.cells)):=by
    intro m;cases m with
    |zero=>
     conv=>lhs;unfold rJ
     rw[aWB (by intro e;cases e),Nat.zero_sub]
    |succ m=>simp [rJ]
   rw[keyg];by_cases ho:o<a.cells
   .rw[aUU ho] at keyh;obtain⟨z',hz',rfl⟩:=aU1.1 keyh;have hfit:o+t.cells<=a.cells:=by
     have: ∀{u:Ty}{x z:u.den}{o:Nat},t8 t y u x o=some z->o+t.cells<=u.cells:=by
      intro u
      induction u with
      |pair a b iha ihb=>
       intro x z o h;have key: ∀o,(if o<a.cells then(t8 t y a x.1 o).map (fun q=>(q,x.2)) else(t8 t y b x.2 (o-a.cells)).map (fun q=>(x.1,q)))=some z->o+t.cells<=a.cells+b.cells:=by
        intro o h;by_cases ho:o<a.cells
        .rw[aUU ho] at h;obtain⟨z',hz',_⟩:=aU1.1 h;have:=iha hz';omega
        .rw[aUX ho] at h;obtain⟨z',hz',_⟩:=aU1.1 h;have:=ihb hz';omega
       cases o with
       |zero=>
        unfold t8 at h;split at h
        .rename_i e;subst e;simp
        .exact key 0 (by simpa using h)
       |succ o=>exact key (o+1) (by simpa[t8] using h)
      |_=>
       intro x z o h;cases o with
       |zero=>
        unfold t8 at h;split at h
        .rename_i e;subst e;simp
        .simp at h
       |succ o=>simp [t8] at h
     exact this hz'
    rw[aUU pI];exact iha hz' g hq
   .rw[aUX ho] at keyh;obtain⟨z',hz',rfl⟩:=aU1.1 keyh;rw[aUX pI,show o+q-a.cells=o-a.cells+q from by omega];exact ihb hz' g hq
 |_=>
  intro x z o q l h g hq;cases o with
  |zero=>
   unfold t8 at h;split at h
   .rename_i e;subst e;simp only[v7,aUT] at h
    try subst h
    simpa using g
   .simp at h
  |succ o=>simp [t8] at h
omit hT hH in
theorem aCH {v:Ty}: ∀{t:Ty}{x:t.den}{q:Nat}{l:(Ty.list v).den},rJ (.list v) t x q=some l->q<t.cells:=by
 intro t
 induction t with
 |pair s t ihs iht=>
  intro x q l g;have key: ∀q,(if q<s.cells then rJ (.list v) s x.1 q else rJ (.list v) t x.2 (q-s.cells))=some l->q<s.cells+t.cells:=by
   intro q g;by_cases h:q<s.cells
   .omega
   .rw[aUX h] at g;have:=iht g;omega
  cases q with
  |zero=>
   unfold rJ at g;rw[aWB (by intro e;cases e)] at g;exact key 0 (by simpa using g)
  |succ q=>exact key (q+1) (by simpa[rJ] using g)
 |unit=>
  intro x q l g;cases q with
  |zero=>unfold rJ at g;rw[aWB (by intro e;cases e)] at g;cases g
  |succ q=>simp [rJ] at g
 |_=>
  intro x q l g;cases q with
  |zero=>simp [Ty.cells]
  |succ q=>simp [rJ] at g
omit hT in
theorem sH.retok {i:Nat}{u:Ty}{z:u.den}{toks nt:pN}{p:Pl}(hb:qH H i=some (.cells u z toks)) (hp:g.J i=some p)
  (hn: ∀cs,Rd g w u z cs->w.rangeAt p.1 p.2 cs->HC g u z cs nt):sH g w H ⟨[],(.any,none),[(i,.cells u z (qZ nt toks))],[]⟩ g w undef:=by
 obtain⟨p',cs,hp',hR,hra,hth,hns,htk⟩:=hH.blk i _ hb;rw[hp] at hp';obtain rfl:=aUZ hp';have get: ∀j blk,j∈qJ [(i,qD.cells u z (qZ nt toks))]->qH (qZ [(i,qD.cells u z (qZ nt toks))] H) j=some blk->j=i/\blk= .cells u z (qZ nt toks):=by
  intro j blk hi hg;simp only[qJ,aVb] at hi;subst hi;simp only[qZ,qH,aWz,aUT] at hg;exact⟨rfl,hg.symm⟩
 have perm: ∀j blk b o,j∈qJ [(i,qD.cells u z (qZ nt toks))]->qH (qZ [(i,qD.cells u z (qZ nt toks))] H) j=some blk->sG g j blk b o->w.heap.size<=b\/tE g H (qJ [(i,qD.cells u z (qZ nt toks))]) b o:=by
  intro j blk b o hi hg ho;obtain⟨rfl,rfl⟩:=get j blk hi hg;exact .inr ⟨j,_,hi,hb,ho⟩
 have le:Le g w g w:=⟨fun _ _ h=>h,fun _ _ _=>rfl,fun _ _ h=>h,fun _ _ _ h=>h⟩;have fr:Fr (tE g H (qJ [(i,qD.cells u z (qZ nt toks))])) w w g.S g.S:=⟨rfl,rfl,rfl,aVi _,fun _ _ _=>rfl,fun _ _ _ _=>⟨rfl,rfl⟩,fun _ _ h=> .inl h,fun _ _ h=> .inl h⟩;refine⟨le,⟨trivial,trivial⟩,hH.upd le fr perm (fun _ _=>⟨rfl,rfl⟩) (fun j blk hi hg=> ?_) (fun i j bi bj b o hi hj hij hgi hgj _ _=>hij ((get i bi hi hgi).1.trans (get j bj hj hgj).1.symm)) (fun b o h=>hH.sl b o h),fr,perm,fun _ _=>⟨rfl,rfl⟩,fun j u' y' us h=> ?_⟩
 .obtain⟨rfl,rfl⟩:=get j blk hi hg;refine⟨p,cs,hp,hR,hra,hth,hns,fun q kk hm=> ?_⟩;rcases(RH.1 hm) with hm|hm
  .exact hn cs hR hra q kk hm
  .exact htk q kk hm
 .simp only[qZ,qH] at h;split at h
  .rename_i e1;subst e1;simp only[aUT,qD.cells.injEq] at h;obtain⟨rfl,_⟩:=h;exact .inl ⟨z,toks,hb⟩
  .exact .inl ⟨y',us,h⟩
omit hT hH in
theorem aMe {g:Gh}{t a b:Ty}{y:t.den}{v:pU}{k:pR}(h:k.isSome=true) (ht:t= .pair a b) (hk:DK g t y v k): ∃m,k=some m/\yK m t 0 v.cells.toList:=by
 subst ht;cases k with
 |none=>cases h
 |some k=>exact⟨k,rfl,hk⟩
omit hT hH in
theorem aMf {base i off:Nat}{b:Option qD}{ls:List (Nat×TypeId×Nat)}{t:Ty}{y:t.den}{k:pR}{e:qU}(h:VM base i off b ls t y k=some e):
  (∃(s:Ty) (x:s.den) (toks:pN) (z:s.den),b=some (.cells s x toks)/\t8 t y s x off=some z/\k.isSome=true/\(∃a c,t= .pair a c)/\∃m,k=some m/\FV t (CS m ls)=true/\
   e=⟨[],(.any,none),(i,.cells s z (qZ (NF off (CR (CS m ls) base)) (wG toks off t.cells)))::qZ (EG (CS m ls) base) [(i,.cells s z (wG toks off t.cells))],[i]⟩)\/VK t y k i off b=some e:=by
 unfold VM at h;split at h
 .rename_i q r a c y' k';cases hok:FV (.pair a c) (CS k' (q::r)) with
  |false=>rw[hok] at h;unfold VL at h;split at h<;>first|cases h|(rename_i h2;cases h2)
  |true=>
   rw[hok] at h;unfold VL at h;split at h
   .rename_i s x toks _;cases hset:t8 (.pair a c) y' s x off with
    |none=>rw[hset] at h;cases h
    |some z=>
     rw[hset] at h;exact .inl ⟨s,x,toks,z,rfl,hset,rfl,⟨a,c,rfl⟩,_,rfl,hok,(aUZ h).symm⟩
   .cases h
 .exact .inr h
omit hT hH in
theorem aCI {i off k n el:Nat}{u v:Ty}{x:v.den}{y:Option qU}{e:qU}(h:orO i off k n el u v x y=some e):y=some e\/a0H i (yU el u (some (k,n)) v x off)=some e:=by
 cases y with
 |some r=>exact .inl h
 |none=>exact .inr h
theorem aMg {t:TypeId}{x y:Operand}(ho:o.op= .store t x y) {sx sy:qE}(hx:rX g w sx (a.eval x)) (hy:rX g w sy (a.eval y)) {base:Nat}{e:qU}(hr:VO base H (s0 T t) sx sy=some e) (hside: ∀p∈e.side,p) (hf:zQ g base e):rL P o a g w H e:=by
 generalize hst:s0 T t=ot at hr;unfold VO at hr;split at hr
 .rename_i ti i off k kk n k2;generalize hb:qH H i=ob at hr;unfold a0I at hr;split at hr
  .rename_i u el _ _ _ v x' toks;rcases aCI hr with hr|hr
   case inr=>
    generalize hset:yU el u (some (kk,n)) v x' off=oz at hr;cases oz with
    |none=>cases hr
    |some z'=>
     cases hr;have hty:=tM hT hst;obtain⟨p,hp,hv⟩:=A7 hx.1;obtain⟨h1,h2⟩:=hy.1;have hR:Rd g w (.rl el u) (some (kk,n)) [a.eval y]:=⟨_,h1,rfl,h2⟩;obtain⟨heff,hth⟩:=A5.openS (side:=[]) (rds:=[1000000000,i]) hH hb hp hset hR rfl rfl;have hce:(a.eval y).cells= #[a.eval y]:=by rcases h2 with⟨h2,_⟩ |⟨_,_,h2,_⟩<;>(rw[h2];rfl)
     refine rL.skipW (w':=w.setCells p.1 (p.2+off) [a.eval y]) ?_ heff;obtain⟨inf,hi,hsz,_⟩:=EL hty;have hcells:=run_storeCells_cells (P:=P) p.1 (p.2+off) [a.eval y] 0 w (fun j hj=>by simpa using(hth j hj).1) (fun j hj=>by simpa using(hth j hj).2) (fun v hv=>BD hR v hv);simp only[aVU] at hcells;have hs2:(a.eval y).cells.size=inf.size:=by rw[hsz,hce];rfl
     have hcl:(a.eval y).cells.toList=[a.eval y]:=by rw[hce]
     simp only[execOp,ho,hv,Instr.storeAt,Instr.sureAddr,storeVar,aVe,aVm,aU4,sizeOf,typeInfo,aV1,hi,hs2,ne_eq,not_true_eq_false,aW4,hcl,hcells]
   generalize hset:t8 (.rl el u) (some (kk,n)) v x' off=oz at hr;cases oz with
   |none=>cases hr
   |some z'=>
    cases hr;have hty:=tM hT hst;obtain⟨p,hp,hv⟩:=A7 hx.1;obtain⟨h1,h2⟩:=hy.1;have hR:Rd g w (.rl el u) (some (kk,n)) [a.eval y]:=⟨_,h1,rfl,h2⟩;obtain⟨heff,hth⟩:=sH.store (side:=[]) (rds:=[i]) (k:=none) (v:=a.eval y) hH hb hp hset hR trivial (fun _ _ _=>rfl) (fun _=>rfl);have hce:(a.eval y).cells= #[a.eval y]:=by rcases h2 with⟨h2,_⟩ |⟨_,_,h2,_⟩<;>(rw[h2];rfl)
    refine rL.skip (w':=w.setCells p.1 (p.2+off) [a.eval y]) ?_ heff;obtain⟨inf,hi,hsz,_⟩:=EL hty;have hcells:=run_storeCells_cells (P:=P) p.1 (p.2+off) [a.eval y] 0 w (fun j hj=>by simpa using(hth j hj).1) (fun j hj=>by simpa using(hth j hj).2) (fun v hv=>BD hR v hv);simp only[aVU] at hcells;have hs2:(a.eval y).cells.size=inf.size:=by rw[hsz,hce];rfl
    have hcl:(a.eval y).cells.toList=[a.eval y]:=by rw[hce]
    simp only[execOp,ho,hv,Instr.storeAt,Instr.sureAddr,storeVar,aVe,aVm,aU4,sizeOf,typeInfo,aV1,hi,hs2,ne_eq,not_true_eq_false,aW4,hcl,hcells]
  .cases hr
 .rename_i ti k n c i o' _ u z kk;split at hr
  .rename_i hu;subst hu;generalize hk:qH H k=ob at hr;unfold VN at hr;split at hr
   .rename_i e' t' l m;split at hr
    .rename_i hc;generalize hset:t8 ti.ty z t' (qR t' l i) o'=oz at hr;cases oz with
     |none=>cases hr
     |some z'=>
      cases hr;have hnm:=hside _ (aVb.2 rfl);obtain⟨b,cap,xs,c1,c2,c3,hv,hcur,hown,hF,hl,hi,h0,e1,e2,e3,e4⟩:=aCp hT hH hx.1 hk hnm hc;subst hnm;have hty:=tM hT hst;obtain⟨hvy,hky⟩:=a1p hT hH hy;have hR:=FY hvy;have hRl:=tC hR;obtain⟨d1,d2,d3,f1,f2,f3,f4⟩:=WJ hR e4 hset;obtain⟨_,_,_,_,hv0,hown0,_,hnone,hseal⟩: ∃(_:True) (_:True) (v0:pU) (xs0:pP),g.cur k n=some v0/\w.ownsRow 0 e' t'.cells v0 n xs0/\uI (Rd g w t') t'.cells l xs0/\(∀m,n<m->g.cur k m=none)/\∀b,v0.ownBlock=some b->∀o,¬g.S b o:=by
       obtain⟨_,v0,xs0,q1,q2,q3,q4,q5⟩:=hH.blk k _ hk;exact⟨trivial,trivial,v0,xs0,q1,q2,q3,q4,q5⟩
      rw[hcur] at hv0;obtain rfl:=aUZ hv0;rcases hown.2 with⟨h5,_⟩ |⟨q,cap',cur,h5,_,hg,hnc,hcm,hcs,htake⟩
      .cases h5
      simp only[aWW,aUT,Addr.mk.injEq,and_true,true_and] at h5;obtain⟨rfl,rfl⟩:=h5;have hxl:=hown.1;have hnew:=tC f4;simp only[aUW] at hnew;have hc2l:c2.length=t'.cells:=by rw[e3,hc]
      have hd:d1.length+d2.length+d3.length=t'.cells:=by rw[<-hc2l,f1];simp only[aUW]
      have hx1:c1.length+c2.length+c3.length=n*t'.cells:=by rw[<-hxl,e1];simp only[aUW]
      have hall:cur.toList=(c1++(d1++d2++d3)++c3)++cur.toList.drop (n*t'.cells):=by
       conv=>lhs;rw[<-aWi (n*t'.cells) cur.toList,htake,e1,f1]
      obtain⟨D,hD⟩: ∃D,D=cur.toList.drop (n*t'.cells):=⟨_,rfl⟩;rw[<-hD] at hall;have hall2:cur.toList=(c1++d1)++(d2++(d3++c3++D)):=by rw[hall];simp only[aU0]
      have hpos:i.toNat*c+o'=(c1++d1).length:=by rw[aUW,e2,f2]
      have hD2:(a.eval y).cells.toList.length=d2.length:=by rw[hRl,f3]
      have hfit:i.toNat*c+o'+0+(a.eval y).cells.toList.length<=cur.size:=by
       have:cur.size=cur.toList.length:=by simp
       rw[this,hall2,aVU,hpos,hD2];simp only[aUW];omega
      have hst2:=run_storeCells_at P b (i.toNat*c+o') e' (a.eval y).cells.toList 0 cur w hg hfit (fun v hv=>BD hR v hv);have hrow:cur.toList.take (i.toNat*c+o'+0)++(a.eval y).cells.toList++cur.toList.drop (i.toNat*c+o'+0+(a.eval y).cells.toList.length)=(c1++(d1++(a.eval y).cells.toList++d3)++c3)++D:=by
       rw[aVU,hpos,hD2,hall2,aVS,List.drop_append,List.drop_of_length_le pI,List.nil_append,aVK,aWk];simp only[aU0]
      rw[hrow] at hst2;obtain⟨inf,hinf,hsz,_⟩:=EL hty;have hs2:(a.eval y).cells.size=inf.size:=by rw[hsz,<-hRl,aVy]
      have hnewlen:((c1++(d1++(a.eval y).cells.toList++d3)++c3)++D).length=cur.size:=by
       have:cur.size=cur.toList.length:=by simp
       rw[this,hall];simp only[aUW];omega
      have hxs':(c1++(d1++(a.eval y).cells.toList++d3)++c3).length=n*t'.cells:=by
       rw[<-hx1];simp only[aUW];rw[f1];simp only[aUW];omega
      have hown':(w.setRow b ((c1++(d1++(a.eval y).cells.toList++d3)++c3)++D).toArray).ownsRow 0 e' t'.cells (.slice (some ⟨b,0,none⟩) n cap) n (c1++(d1++(a.eval y).cells.toList++d3)++c3):=
       ⟨hxs',.inr ⟨b,cap,_,rfl,aV4 _,aWP w b cur _ e' _ hg,hnc,hcm,by rw[aVP,hnewlen,hcs],by rw[<-hxs'];exact aVS⟩⟩
      have hF':uI (Rd g w t') t'.cells (l.set i.toNat z') (c1++(d1++(a.eval y).cells.toList++d3)++c3):=by
       obtain⟨q1,q2,q3,r1,r2,r3,r4⟩:=a1h hF f4 (tC f4) hi;have s1:q1=c1/\q2=c2/\q3=c3:=by
        have h6:q1++(q2++q3)=c1++(c2++c3):=by rw[<-aU0,<-r1,e1,aU0]
        obtain⟨h7,h8⟩:=aWU h6 (by rw[r2,e2,hc]);obtain⟨h9,h10⟩:=aWU h8 (by rw[r3,e3,hc]);exact⟨h7,h9,h10⟩
       obtain⟨rfl,rfl,rfl⟩:=s1;exact r4
      have hownk: ∀o,tE g H [k] b o:=fun o=>⟨k,_,by simp,hk,_,hcur,rfl⟩;refine rL.skip (w':=w.setRow b ((c1++(d1++(a.eval y).cells.toList++d3)++c3)++D).toArray) ?_ (sH.row (v:= .slice (some ⟨b,0,none⟩) n cap) hH (by rw[List.length_set];exact hl) hown' hF' hnone (fun u hu=>by rw[hcur] at hu;exact(aUZ hu).symm)
       (.inr ⟨some b,⟨rfl,rfl,rfl,by simp,fun q _ hq=>aWu w b q _ (fun e=>hq (by rw[e]))⟩,fun b' hb' o=>by cases hb';exact hownk o⟩) (fun b' o hS=> ?_) hseal (fun b' hb'=>by cases hb';exact .inr hownk) ⟨trivial,trivial⟩)
      .simp only[execOp,ho,hv,Instr.storeAt,Instr.sureAddr,storeVar,aVe,aVm,aU4,sizeOf,typeInfo,aV1,hinf,hs2,ne_eq,not_true_eq_false,aW4,hst2]
      .have hne:b'≠b:=fun e=>hseal b rfl o (e▸hS);exact aVl (a:=⟨b',o,none⟩) (aWu w b b' _ hne)
    .cases hr
   .cases hr
  .cases hr
 .rename_i ti i off k u z kk;split at hr
  .rename_i hu;subst hu;generalize hb:qH H i=ob at hr;have hty:=tM hT hst;obtain⟨p,hp,hv⟩:=A7 hx.1;obtain⟨hvy,hky⟩:=a1p hT hH hy;have hR:=FY hvy;have hone:ti.ty.isRow=false->(a.eval y).cells.toList=[a.eval y]:=fun hrow=>by
    have h1:=BD (BE hrow hvy) _ (aVb.2 rfl);cases h:a.eval y<;>first|rfl|(rw[h] at h1;simp [Value.oneCell'] at h1)
   have hrun:w.there p.1 (p.2+off) (a.eval y).cells.toList.length->(execOp a.eval o).run P w= .ok .skip (w.setCells p.1 (p.2+off) (a.eval y).cells.toList):=by
    intro hth;obtain⟨inf,hi,hsz,_⟩:=EL hty;have hlen:=tC hR;have hcells:=run_storeCells_cells (P:=P) p.1 (p.2+off) (a.eval y).cells.toList 0 w (fun j hj=>by simpa using(hth j hj).1) (fun j hj=>by simpa using(hth j hj).2) (fun v hv=>BD hR v hv);simp only[aVU] at hcells;have hs2:(a.eval y).cells.size=inf.size:=by rw[hsz,<-hlen,aVy]
    simp only[execOp,ho,hv,Instr.storeAt,Instr.sureAddr,storeVar,aVe,aVm,aU4,sizeOf,typeInfo,aV1,hi,hs2,ne_eq,not_true_eq_false,aW4,hcells]
   rcases aMf hr with⟨s,x',toks,z',hb',hset,hsome,⟨pa,pb,hpair⟩,mk_,hmk,hok,rfl⟩ |hr
   .rw[hb'] at hb;have hn:yK mk_ ti.ty 0 (a.eval y).cells.toList:=by
     obtain⟨m',e1,e2⟩:=aMe hsome hpair hky;rw[hmk] at e1;obtain rfl:=aUZ e1;exact e2
    have hlx:=fun q hq=>WR (k:=mk_) (ls:=ti.ls) (q:=q) hq;generalize CS mk_ ti.ls=lsm at hf hok hlx|-;obtain⟨heff,hth⟩:=sH.store (side:=[]) (rds:=[i]) (k:=none) (v:=undef) hH hb hp hset hR trivial (fun _ _ _=>rfl) (fun h=>by rw[hpair] at h;cases h);have hfr: ∀j,base<=j->j<base+lsm.length->∀n,g.cur j n=none:=fun j h1 h2=>(hf j (by
     simp only[qJ,aU9];right;rw[EM];exact .inl ((RG _ base j).2 ⟨h1,h2⟩)) h1).2
    obtain⟨g1,k1,k2,k3,k4⟩:=a1l lsm base g _ heff.heap hfr;have e2:=sH.trans (side:=[]) (rds:=[]) heff k1;have hib:i<base:=by
     rcases aV8 i base with h|h
     .exact h
     .have:=(hf i (by simp [qJ]) h).1;rw[hp] at this;cases this
    have hiN:i∉qJ (EG lsm base):=fun h=>by
     have:=(RG _ base i).1 h;omega
    have hb3:qH (qZ (qZ (EG lsm base) [(i,qD.cells s z' (wG toks off ti.ty.cells))]) H) i=some (.cells s z' (wG toks off ti.ty.cells)):=by
     rw[NY,CY hiN];simp [qZ,qH]
    have hyl:=tC hR;have e3:=sH.retok (p:=p) (nt:=NF off (CR lsm base)) e2.heap hb3 (by rw[k2];exact hp) (fun cs hRz hra o k hm=>by
     obtain⟨q,rfl,hq⟩:=aCF hm;obtain⟨en,he,rfl⟩:=a1m hq;obtain⟨u,h1,h2⟩:=aCk hn hR (a1n hok en he) (by have:=hlx en he;omega);have hql:en.1<(a.eval y).cells.toList.length:=(aVd.1 h2).1;have h3:=aCG hset h1 pI;refine⟨u,[],.slice none 0 0,h3,?_,k3 _ _ hq⟩;have hlen:=tC hRz;have hlt:=aCH h3;have hc:cs[off+en.1]? =some cs[off+en.1]:=aU5 pI;have hr1:=hra _ _ hc;have hr2:=aWs p.1 (a.eval y).cells.toList (p.2+off) w (fun j hj=>(hth j hj).1) en.1 hql;rw[aVF] at hr2;rw[hr2] at hr1;rw[hc,<-hr1,<-h2,aU5 hql])
    exact rL.skip (w':=w.setCells p.1 (p.2+off) (a.eval y).cells.toList) (hrun hth) (sH.trans (side:=[]) (rds:=[i]) e2 e3)
   .unfold VK at hr;split at hr
    .rename_i s q toks _;generalize hset:t8 ti.ty z s q off=oz at hr;cases oz with
     |none=>cases hr
     |some z'=>
      cases hr;obtain⟨heff,hth⟩:=sH.store (side:=[]) (rds:=[i]) hH hb hp hset hR (aMd hky) (fun a b e=>by rw[e];rfl) hone;exact rL.skip (w':=w.setCells p.1 (p.2+off) (a.eval y).cells.toList) (hrun hth) heff
    .cases hr
  .cases hr
 .cases hr
theorem aCJ {t:Ty}{n:Nat}{ev:Operand->pU}{ρ:Operand->qE}: ∀(ps:List (Nat×Operand)) (l z:List t.den) (cs:pP),uI (Rd g w t) t.cells l cs->l.length=n->(∀q∈ps,rX g w (ρ q.2) (ev q.2))->BT t n (some l) (v8 ρ ps)=some z->
  ∃cs',Instr.fill (fun i=>some (i*t.cells,t.cells)) cs.toArray (ps.map fun q=>(q.1,ev q.2))=some cs'.toArray/\uI (Rd g w t) t.cells z cs'/\z.length=n
 |[],l,z,cs,r,hl,_,h=>by
  simp only[v8,BT,aUT] at h;subst h;exact⟨cs,rfl,r,hl⟩
 |(i,q)::ps,l,z,cs,r,hl,hq,h=>by
  have h0:=hq (i,q) pK;generalize hs:ρ q=s at h0;simp only[v8,hs] at h;obtain⟨d,k⟩:=s;cases d with
  |val u y=>
   simp only[BT,aBs] at h;by_cases hc:u=t/\i<n
   .rw[aW0 hc] at h;obtain⟨rfl,hi⟩:=hc;simp only[v7] at h;have hR:=FY h0.1;obtain⟨c1,c2,c3,rfl,h2,h3,h4⟩:=a1h (i:=i) r hR (tC hR) pI;obtain⟨cs',k1,k2,k3⟩:=aCJ ps (l.set i y) z _ h4 (by simpa using hl) (fun q hq'=>hq q (by simp [hq'])) h;refine⟨cs',?_,k2,k3⟩;simp only[aV0];rw[aCj rfl (by have:=tC hR;simpa using this) (c1:=c1) (c2:=c2) (c3:=c3) pK h2 h3];exact k1
   .rw[aWB hc] at h;cases ps with
    |nil=>simp [v8,BT] at h
    |cons p ps=>simp [v8,BT] at h
  |_=>simp [BT] at h
theorem a1q {t:TypeId}{n:Nat}{ps:Array (Nat×Operand)}(ho:o.op= .buildSlice t n ps) {ρ:Operand->qE}(hρ: ∀q∈ps.toList,rX g w (ρ q.2) (a.eval q.2)) {u:Ty}{el:TypeId}{by':Nat}{ar:Bool}{ls:List (Nat×TypeId×Nat)}(hst:s0 T t=some ⟨.list u,el,by',ar,ls⟩) {l:List u.den}
  (hb:BT u n (some (DI u n)) (v8 ρ ps.toList)=some l) (hn:n<=16777216/\n*u.cells<=16777216):
  ∃cs':pP,uI (Rd g w u) u.cells l cs'/\l.length=n/\(execOp a.eval o).run P w= .ok (.value (.slice (some ⟨w.heap.size,0,none⟩) n n)) (w.alloc (.cells cs'.toArray el)):=by
    obtain⟨h2,h3,_⟩:=(tM hT hst).2;obtain⟨ei,hei,hz⟩:=aU1.1 h3;simp only[aVs] at hz;obtain⟨cs',k1,k2,k3⟩:=aCJ hT hH ps.toList (DI u n) l _ (aCu n) (aCv u n) hρ hb;refine⟨cs',k2,k3,?_⟩;have hzc:(x4 u).cells=(uR u).toArray:=by
     unfold x4;cases h:u<;>simp [Ty.isRow,uR,Value.cells]
    have hmap:(ps.map fun(q:Nat×Operand)=>(q.1,a.eval q.2)).toList=ps.toList.map fun q=>(q.1,a.eval q.2):=by simp
    have hzl:(uR u).length=u.cells:=tC (EK g w u);have hrow: ∀z:Array pU,(n*u.cells≠0->z=(uR u).toArray)->(Array.range (n*u.cells)).map (fun i=>z[i%z.size]!)=(List.flatten (List.replicate n (uR u))).toArray:=by
     intro z hz0;by_cases h0:n*u.cells=0
     .rw[h0];have:List.flatten (List.replicate n (uR u))=[]:=aVu (by simp [hzl,h0]);rw[this];simp
     .rw[hz0 h0];have hpos:0<u.cells:=Nat.pos_of_ne_zero (fun h=>h0 (by rw[h];simp));apply aV6.1;apply List.ext_getElem?;intro j;have key: ∀(m j:Nat),j<m*u.cells->(List.flatten (List.replicate m (uR u)))[j]? =(uR u)[j%u.cells]? :=by
       intro m
       induction m with
       |zero=>intro j h;simp at h
       |succ m ih=>
        intro j h;rw[List.replicate_succ,aVQ];by_cases hj:j<u.cells
        .rw[aVf pI,Nat.mod_eq_of_lt hj]
        .rw[aVa pI,hzl,ih (j-u.cells) (by rw[aV7] at h;omega)];congr 1
         conv=>rhs;rw[<-Nat.sub_add_cancel (Nat.le_of_not_lt hj),Nat.add_mod_right]
      by_cases hj:j<n*u.cells
      .have hm:j%u.cells<(uR u).length:=by rw[hzl];exact Nat.mod_lt _ hpos
       simp only[Array.toList_map,Array.toList_range,List.getElem?_map,List.getElem?_range hj,Option.map_some,aVP,hzl];rw[key n j hj,aU5 hm];simp [getElem!_pos,hm]
      .rw[aWp pL,aWp (by simp [hzl];omega)]
    have hlim: ¬(n*u.cells>2^24):=by have:=hn.2;omega
    by_cases h0:n*u.cells=0
    .simp only[execOp,ho,Instr.buildSlice,aVe,aVh h2,aU4,sizeOf,typeInfo,aV1,hei,hz.1,aVm,aUX hlim,aUU h0];rw[hrow #[] (fun h=>absurd h0 h),hmap,k1];simp only[newRow,aVe,run_newObj,aU4,aVm];rfl
    .simp only[execOp,ho,Instr.buildSlice,aVe,aVh h2,aU4,sizeOf,typeInfo,aV1,hei,hz.1,aVm,aUX hlim,aUX h0,zeroValue,hz.2.2,hzc];rw[hrow (uR u).toArray (fun _=>rfl),hmap,k1];simp only[newRow,aVe,run_newObj,aU4,aVm];rfl
theorem aMh {t:TypeId}{n:Nat}{ps:Array (Nat×Operand)}(ho:o.op= .buildSlice t n ps) {ρ:Operand->qE}(hρ: ∀q∈ps.toList,rX g w (ρ q.2) (a.eval q.2)) {base:Nat}{e:qU}(hr:a0z base n (v8 ρ ps.toList) (s0 T t)=some e) (hf:zQ g base e):rL P o a g w H e:=by
 generalize hst:s0 T t=ot at hr;unfold a0z at hr;split at hr
 .rename_i u el by' ls_;split at hr
  .rename_i hn0;generalize hb:BT u n (some (DI u n)) (v8 ρ ps.toList)=ol at hr;cases ol with
   |none=>cases hr
   |some l=>
    simp only[aBG] at hr;split at hr
    .rename_i hn;cases hr;obtain⟨cs',k2,k3,hrun⟩:=a1q hT hH ho hρ hst hb hn.2;have hfr:=(hf base (by simp [qJ]) (aVi _)).2;have hlen:=J9 k2;have hown:(w.alloc (.cells cs'.toArray el)).ownsRow 0 el u.cells (.slice (some ⟨w.heap.size,0,none⟩) n n) n cs':=⟨by rw[hlen,k3],.inr ⟨w.heap.size,n,cs'.toArray,rfl,aV4 _,aWX w _,aVi _,by unfold maxLen;omega,by simp [hlen,k3],by simp [<-k3,<-hlen]⟩⟩;refine rL.value hrun (sH.row (v:= .slice (some ⟨w.heap.size,0,none⟩) n n) (xs:=cs') hH k3 hown k2 (fun m _=>hfr m) (fun u hu=>by rw[hfr] at hu;cases hu) (.inl (World.grownBy_alloc w _ _)) (fun b o h=>aVl (a:=⟨b,o,none⟩) (aVv _ _ _ (hH.sl b o h))) (fun b hb o hs=> ?_) (fun b hb=> ?_) ⟨⟨by simp [Gh.tok],.inr ⟨_,_,rfl,aVi _⟩⟩,trivial⟩)
     .cases hb;exact aWw _ (hH.sl _ _ hs)
     .cases hb;exact .inl (aVi _)
    .cases hr
  .rename_i hn0;generalize hb:BT u n (some (DI u n)) (v8 ρ ps.toList)=ol at hr;cases ol with
   |none=>cases hr
   |some l=>
    simp only[VE] at hr;split at hr
    .rename_i hn;cases hr;obtain⟨cs',k2,k3,hrun⟩:=a1q hT hH ho hρ hst hb hn;have hfr:=hf base (by simp [qJ]) (aVi _);exact rL.value (v:= .slice (some ⟨w.heap.size,0,none⟩) n n) (w':=w.alloc (.cells cs'.toArray el)) hrun (sH.lit hH rfl k3 k2 (by unfold maxLen;omega) hfr.2)
    .cases hr
 .rename_i u el by' ls_;generalize hb:BT u n (some (DI u n)) (v8 ρ ps.toList)=ol at hr;cases ol with
  |none=>cases hr
  |some l=>
   simp only[VE] at hr;split at hr
   .rename_i hn;cases hr;obtain⟨cs',k2,k3,hrun⟩:=a1q hT hH ho hρ hst hb hn;have hfr:=hf base (by simp [qJ]) (aVi _);exact rL.value (v:= .slice (some ⟨w.heap.size,0,none⟩) n n) (w':=w.alloc (.cells cs'.toArray el)) hrun (sH.lit hH rfl k3 k2 (by unfold maxLen;omega) hfr.2)
   .cases hr
 .cases hr
theorem aMi {args:Array Operand}{tys:Array TypeId}(ho:o.op= .call ⟨.builtin .append,args,tys⟩) {ρ:Operand->qE}(hρ: ∀x∈args.toList,rX g w (ρ x) (a.eval x)) {e:qU}
  {t:TypeId}(htt:tys= #[t,t]) (hr:VV H (s0 T t) (wH ρ args.toList)=some e) (hs: ∀p∈e.side,p):rL P o a g w H e:=by
 subst htt;generalize hst:s0 T t=ot at hr;generalize hss:wH ρ args.toList=ss at hr;unfold VV at hr;split at hr
 .rename_i u el by' ar ls_ k n _ b1 r _;split at hr
  .rename_i hbu;subst hbu;generalize hk:qH H k=ob at hr;unfold VU at hr;split at hr
   .rename_i e' t' l m;split at hr
    .rename_i hbt;subst hbt;split at hr
     .rename_i hec;obtain⟨rfl,hpos,hb1⟩:=hec;simp only[v7] at hr;cases hr;have hnm:=hs _ (by simp:(n=m)∈_);subst hnm;have hby:=hs _ (by simp:((n+List.length r)*by'<=140737488355328)∈_);obtain⟨v,vr,hv,hs1,hs2⟩:=WP hT hH hρ hss;obtain⟨h2,h3,_⟩:=(tM hT hst).2;obtain⟨ei,hei,hz⟩:=aU1.1 h3;simp only[aVs] at hz;obtain⟨cs,hx⟩:=HD (a:=a) hT hH ho;obtain⟨hl,v0,xs,hv0,hown,hF0,hnone,hseal⟩:=hH.blk k _ hk;obtain⟨hcur,hshape⟩:=hs1.1;rw[hv0] at hcur;obtain rfl:=aUZ hcur;obtain⟨adr,capr,hvr,hler,hlr⟩:=DN hs2.1;have hlen2:(l++r).length=n+List.length r:=by rw[aUW,hl]
      rw[hlen2];have hownk: ∀q,v0.ownBlock=some q->∀o,tE g H [k] q o:=fun q hq o=>⟨k,_,by simp,hk,v0,hv0,hq⟩;by_cases hm:List.length r=0
      .obtain rfl:r=[]:=aVu hm;refine rL.value (v:=v0) (w':=w) ?_ (sH.row (v:=v0) (xs:=xs) hH hlen2 hown (by rw[List.append_nil];exact hF0) hnone (fun u hu=>by
        have h5:g.cur k n=some u:=hu;rw[hv0] at h5;exact(aUZ h5).symm) (.inl ⟨rfl,rfl,rfl,aVi _,fun _ _ _=>rfl⟩) (fun _ _ _=>rfl) hseal (fun q hq=> .inr (hownk q hq)) ⟨⟨by simp [Gh.tok],hshape⟩,trivial⟩)
       obtain⟨adl,capl,hvl,hlel⟩: ∃adl capl,v0= .slice adl n capl/\n<=capl:=by
        rcases hshape with⟨h,rfl⟩ |⟨b,cap,h,h'⟩
        .exact⟨_,_,h,aVi _⟩
        .exact⟨_,_,h,h'⟩
       rw[hx,hv,hvr,hvl];have ha0:(#[Value.slice adl n capl,Value.slice adr (List.length ([]:List b1.den)) capr]:Array pU)[0]? =some (.slice adl n capl):=rfl;have ha1:(#[Value.slice adl n capl,Value.slice adr (List.length ([]:List b1.den)) capr]:Array pU)[1]? =some (.slice adr 0 capr):=rfl;have ht0:(#[t,t]:Array TypeId)[0]? =some t:=rfl;have ht1:(#[t,t]:Array TypeId)[1]? =some t:=rfl;simp only[builtin,Builtin.append_,ht0,ht1,ha0,ha1,aVe,aVh h2,aU4,aVm,sizeOf,typeInfo,aV1,hei];cases adr<;>cases adl<;>simp [Builtin.lenOf,Builtin.firstCells,loadCells,loadCellsFrom,storeCells,hlel]
      .obtain⟨b,off,rfl,hL⟩: ∃b o,adr=some ⟨b,o,none⟩/\zH (Rd g w b1) w g.S b1.cells b o r:=by
        rcases hlr with rfl|h
        .exact absurd rfl hm
        .exact h
       obtain⟨news,hF,hra,_⟩:=NX hL;obtain⟨q,cap,w',hrun,hown',hq,hg,hcap,hcell⟩:=a1i (P:=P) w t o.type e' ei (x4 b1) b1.cells by' h2 hei hz.2.2 hz.1 hz.2.1 (by
        have:=tC (FY (LK g w b1));simpa using this) v0 n xs hown ⟨b,off,none⟩ (List.length r) capr news (J9 hF) (fun j u hu=>by rw[aWj];exact hra j u hu) (RE (fun _ _ h=>BD h) hF) pI
        (by
         have:=Nat.mul_le_mul_left (n+List.length r) hb1;unfold maxLen;omega) hby
       refine rL.value (v:= .slice (some ⟨q,0,none⟩) (n+List.length r) cap) (w':=w') ?_ (sH.row (v:= .slice (some ⟨q,0,none⟩) (n+List.length r) cap) (xs:=xs++news) hH hlen2 hown' (R7 hF0 hF) (fun m hm'=>hnone m pI) (fun u hu=>by
        rw[hnone _ pI] at hu;cases hu) (.inr ⟨v0.ownBlock,hg,fun b hb o=>hownk b hb o⟩) (fun b o hS=>hcell b o (hH.sl b o hS) (fun hb=>absurd hS (hseal b hb o))) (fun b hb o hS=> ?_) (fun b hb=> ?_) ⟨⟨by simp [Gh.tok],.inr ⟨q,cap,rfl,hcap⟩⟩,trivial⟩)
       .rw[hx,hv,hvr];simp only[builtin,aVe,hrun,aU4,aVm]
       .cases hb;rcases hq with h|h
        .rw[h] at hS;exact aWw _ (hH.sl _ _ hS)
        .exact hseal _ h o hS
       .cases hb;rcases hq with h|h
        .exact .inl (aWx h.symm)
        .exact .inr (hownk _ h)
     .cases hr
    .cases hr
   .cases hr
  .cases hr
 .rename_i u el by' ar ls_ a1 l k b1 r k2;split at hr
  .rename_i hab;obtain⟨rfl,rfl⟩:=hab;simp only[v7] at hr;generalize hk:qH H k=ob at hr;unfold VT at hr;split at hr
   .rename_i e' c n;split at hr
    .rename_i hec;obtain⟨rfl,hcc,hpos,hb1⟩:=hec;cases hr;rw[aUW];have hln:=hs _ (by simp:(List.length l=n)∈_);have hby:=hs _ (by simp:((List.length l+List.length r)*by'<=140737488355328)∈_);obtain⟨v,vr,hv,hs1,hs2⟩:=WP hT hH hρ hss;obtain⟨h2,h3,_⟩:=(tM hT hst).2;obtain⟨ei,hei,hz⟩:=aU1.1 h3;simp only[aVs] at hz;obtain⟨cs,hx⟩:=HD (a:=a) hT hH ho;obtain⟨v0,xs,hv0,hown,hnone,hseal⟩:=hH.blk k _ hk;have hcur:g.cur k (List.length l)=some v:=hs1.2;rw[hln,hv0] at hcur;obtain rfl:=aUZ hcur;obtain⟨adr,capr,hvr,hler,hlr⟩:=DN hs2.1;obtain⟨adl,capl,hvl,hlel,hll⟩:=DN hs1.1;by_cases hm:List.length r=0
     ·
      obtain rfl:r=[]:=aVu hm;have hlr:List.length l+List.length ([]:List b1.den)=n:=by rw[hln];rfl
      have hget: ∀i,qH (qZ [(k,qD.grow e' c (List.length l+List.length ([]:List b1.den)))] H) i=qH H i:=by
       intro i;simp only[qZ,qH];by_cases hi:k=i
       .subst hi;rw[aUU rfl,hlr];exact hk.symm
       .rw[aUX hi]
      have hkeep:sH g w H ⟨[List.length l=n,(List.length l+List.length ([]:List b1.den))*by'<=140737488355328],(.val (.list b1) (l++[]),some k),[(k,.grow e' c (List.length l+List.length ([]:List b1.den)))],[k]⟩ g w v0:=by
       refine⟨.refl _ _,?_,⟨fun i b h=>hH.blk i b ((hget i).symm.trans h),fun i j bi bj b o' hij h1 h2=>hH.dis i j bi bj b o' hij ((hget i).symm.trans h1) ((hget j).symm.trans h2),hH.sl,hH.tab.1,fun i blk b o' h ho'=>hH.tab.2 i blk b o' ((hget i).symm.trans h) ho'⟩,.refl _ _ _,fun i blk b o' hi hg ho'=> .inr ⟨i,blk,hi,(hget i).symm.trans hg,ho'⟩,fun _ _=>⟨rfl,rfl⟩,fun i u' y us h=> .inl ⟨y,us,(hget i).symm.trans h⟩⟩;rw[List.append_nil];exact hs1
      refine rL.value (v:=v0) (w':=w) ?_ hkeep;rw[hx,hv,hvr,hvl];have ha0:(#[Value.slice adl (List.length l) capl,Value.slice adr (List.length ([]:List b1.den)) capr]:Array pU)[0]? =some (.slice adl (List.length l) capl):=rfl;have ha1:(#[Value.slice adl (List.length l) capl,Value.slice adr (List.length ([]:List b1.den)) capr]:Array pU)[1]? =some (.slice adr 0 capr):=rfl;have ht0:(#[t,t]:Array TypeId)[0]? =some t:=rfl;have ht1:(#[t,t]:Array TypeId)[1]? =some t:=rfl;simp only[builtin,Builtin.append_,ht0,ht1,ha0,ha1,aVe,aVh h2,aU4,aVm,sizeOf,typeInfo,aV1,hei];cases adr<;>cases adl<;>simp [Builtin.lenOf,Builtin.firstCells,loadCells,loadCellsFrom,storeCells,hlel]
     .obtain⟨b,off,rfl,hL⟩: ∃b o,adr=some ⟨b,o,none⟩/\zH (Rd g w b1) w g.S b1.cells b o r:=by
       rcases hlr with rfl|h
       .exact absurd rfl hm
       .exact h
      obtain⟨news,hF,hra,_⟩:=NX hL;have hxs:uI (Rd g w b1) b1.cells l xs:=by
       by_cases h0:List.length l=0
       .obtain rfl:l=[]:=aVu h0;have:xs=[]:=aVu (by rw[hown.1,<-hln];simp);exact this
       .rcases hll with rfl|⟨b0,off0,rfl,hL0⟩
        .exact absurd rfl h0
        .obtain⟨ls,hF0,hra0,_⟩:=NX hL0;rcases hown.2 with⟨e1,e2⟩ |⟨q,cap,cur,e1,e2⟩
         .exact absurd (hln.trans e2) h0
         .rw[hvl] at e1;simp only[aWW,aUT,Addr.mk.injEq] at e1;obtain⟨⟨rfl,rfl,_⟩,_,rfl⟩:=e1;have hvn:v0= .slice (some ⟨b0,0,none⟩) n capl:=by rw[hvl,hln]
          have hrx:=a1j (hvn▸hown);have:ls=xs:=by
           have hl1:=J9 hF0;have hl2:=hown.1;apply List.ext_getElem?;intro j;by_cases hj:j<ls.length
           .have h1:=hra0 j ls[j] (aU5 hj);have hj':j<xs.length:=by rw[hl2,hcc,<-hln,<-hl1];exact hj
            have h2:=hrx j xs[j] (aU5 hj');rw[h1] at h2;rw[aU5 hj,aU5 hj',aUZ h2]
           .rw[aWp pI,aWp (by rw[hl2,hcc,<-hln,<-hl1];omega)]
          rw[<-this];exact hF0
      obtain⟨q,cap,w',hrun,hown',hq,hg,hcap,hcell⟩:=a1i (P:=P) w t o.type e' ei (x4 b1) c by' h2 hei hz.2.2 (by rw[hz.1,hcc]) hz.2.1 (by
       have:=tC (FY (LK g w b1));rw[hcc];simpa using this) v0 n xs hown ⟨b,off,none⟩ (List.length r) capr news (by rw[J9 hF,hcc]) (fun j u hu=>by rw[aWj];exact hra j u hu) (RE (fun _ _ h=>BD h) hF) pI
       (by
        have:=Nat.mul_le_mul_left (List.length l+List.length r) hb1;unfold maxLen;omega) (by rw[<-hln];exact hby)
      refine rL.value (v:= .slice (some ⟨q,0,none⟩) (n+List.length r) cap) (w':=w') ?_ (by
       have:=sH.append (side:=[List.length l=n,(List.length l+List.length r)*by'<=140737488355328]) (rds:=[k]) hH hk hcc hln hv0 hown hnone hseal (hcc▸hxs) (hcc▸hF) pI hown' hq hg hcap hcell;rw[hln];rw[hln] at this;exact this)
      rw[hx,hv,hvr];simp only[builtin,aVe,hrun,aU4,aVm]
    .cases hr
   .cases hr
  .cases hr
 .cases hr
end
end Go.Proofs.YtkpflnijijccpaaGreatDoor.Vc
