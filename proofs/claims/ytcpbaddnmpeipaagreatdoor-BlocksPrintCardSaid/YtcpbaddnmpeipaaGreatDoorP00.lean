/- Packed by a program of mine (wip/tools/pack.py): the same texts with short names and few blanks. -/
import Derived.Below
import Derived.Calls
import Derived.Deep.MidRow
import Derived.Deep.Upon
import Derived.Laws.AppendOwn
import Derived.Laws.BitsLemmas
import Derived.Laws.OwnMore
import Derived.Shelf.Unicode.DecodeSlow
import Derived.Still
import Derived.WalkKit
set_option linter.defProp false
set_option linter.unusedVariables false
set_option linter.unusedSimpArgs false
set_option linter.unusedSectionVars false
set_option maxRecDepth 100000
set_option maxHeartbeats 4000000
namespace Go.Proofs
abbrev pE:=List UInt8
abbrev pF:=List pE
def aRV:=@_root_.Option.some.injEq
def aRW:=@_root_.Option.isSome_iff_exists
def aRX:=@_root_.List.length_append
def aRY:=@_root_.Option.some.inj
def aRZ:=@_root_.if_pos
def aR0:=@_root_.Go.Result.andThen_ok
def aR1:=@_root_.List.length_cons
def aR2:=@_root_.Option.bind_some
def aR3:=@_root_.List.getElem?_eq_getElem
def aR4:=@_root_.if_neg
def aR5:=@_root_.List.getElem?_append_right
def aR6:=@_root_.Go.Sem.run_bind
def aR7:=@_root_.List.getElem?_eq_some_iff
def aR8:=@_root_.Option.map_eq_some_iff
def aR9:=@_root_.List.append_assoc
def aSa:=@_root_.List.mem_cons
def aSb:=@_root_.List.mem_cons_of_mem
def aSc:=@_root_.List.getElem?_append_left
def aSd:=@_root_.List.mem_singleton
def aSe:=@_root_.List.length_nil
def aSf:=@_root_.List.mem_cons_self
def aSg:=@_root_.Go.run_underlying
def aSh:=@_root_.Go.World.cell?_of_block
def aSi:=@_root_.decide_eq_true_eq
def aSj:=@_root_.Bool.and_eq_true
def aSk:=@_root_.congrArg
def aSl:=@_root_.Nat.le_refl
def aSm:=@_root_.Go.Sem.run_pure
def aSn:=@_root_.Array.getElem?_eq_some_iff
def aSo:=@_root_.List.getD_eq_getElem?_getD
def aSp:=@_root_.Prod.mk.injEq
def aSq:=@_root_.List.eq_nil_of_length_eq_zero
def aSr:=@_root_.Go.RowKit.Below.heap_alloc
def aSs:=@_root_.Array.getD_eq_getD_getElem?
def aSt:=@_root_.List.getElem?_cons_zero
def aSu:=@_root_.Nat.zero_add
def aSv:=@_root_.Nat.lt_of_lt_of_le
def aSw:=@_root_.List.reverse_cons
def aSx:=@_root_.List.getElem?_cons_succ
def aSy:=@_root_.List.cons.injEq
def aSz:=@_root_.Nat.add_assoc
def aSA:=@_root_.Go.World.frozen?_of_block
def aSB:=@_root_.Nat.add_sub_cancel_left
def aSC:=@_root_.List.drop_eq_getElem_cons
def aSD:=@_root_.of_decide_eq_true
def aSE:=@_root_.Bool.not_eq_true'
def aSF:=@_root_.Array.length_toList
def aSG:=@_root_.List.getElem?_take_of_lt
def aSH:=@_root_.Go.run_program
def aSI:=@_root_.List.size_toArray
def aSJ:=@_root_.Array.getElem?_toList
def aSK:=@_root_.Array.getElem?_modify
def aSL:=@_root_.Nat.le_trans
def aSM:=@_root_.Nat.add_zero
def aSN:=@_root_.List.length_take
def aSO:=@_root_.Array.toList_inj
def aSP:=@_root_.Int.toNat_natCast
def aSQ:=@_root_.Nat.lt_or_ge
def aSR:=@_root_.Nat.succ_mul
def aSS:=@_root_.Go.Addr.add_mid
def aST:=@_root_.List.length_eq_zero_iff
def aSU:=@_root_.Array.getElem?_setIfInBounds_ne
def aSV:=@_root_.List.length_eq_one_iff
def aSW:=@_root_.List.mem_append
def aSX:=@_root_.List.getElem_mem
def aSY:=@_root_.Nat.le_of_ble_eq_true
def aSZ:=@_root_.List.flatMap_cons
def aS0:=@_root_.List.map_cons
def aS1:=@_root_.List.length_drop
def aS2:=@_root_.List.all_eq_true
def aS3:=@_root_.Nat.zero_le
def aS4:=@_root_.Go.World.cell?_alloc_new
def aS5:=@_root_.List.length_singleton
def aS6:=@_root_.List.getElem?_eq_none
def aS7:=@_root_.Bool.or_eq_true
def aS8:=@_root_.dif_neg
def aS9:=@_root_.decide_eq_decide
def aTa:=@_root_.List.not_mem_nil
def aTb:=@_root_.List.drop_length
def aTc:=@_root_.Array.toArray_toList
def aTd:=@_root_.decide_eq_false_iff_not
def aTe:=@_root_.Go.World.cell?_setCells_in
def aTf:=@_root_.if_true
def aTg:=@_root_.Nat.le_of_eq
def aTh:=@_root_.List.take_append_drop
def aTi:=@_root_.Classical.choose_spec
def aTj:=@_root_.Nat.mul_le_mul_right
def aTk:=@_root_.Go.Value.slice.injEq
def aTl:=@_root_.List.append_inj
def aTm:=@_root_.Bool.eq_iff_iff
def aTn:=@_root_.Go.wpIn_mono
def aTo:=@_root_.List.range'_succ
def aTp:=@_root_.List.take_left
def aTq:=@_root_.Bool.false_eq_true
def aTr:=@_root_.Array.getElem?_setIfInBounds
def aTs:=@_root_.Go.setRow_other
def aTt:=@_root_.Nat.sub_self
def aTu:=@_root_.Nat.mul_one
def aTv:=@_root_.Nat.lt_irrefl
def aTw:=@_root_.Int.tmod_eq_emod_of_nonneg
def aTx:=@_root_.List.drop_zero
def aTy:=@_root_.Array.getElem?_eq_getElem
def aTz:=@_root_.List.mem_toArray
def aTA:=@_root_.Go.IntKind.wrap_i64
def aTB:=@_root_.List.length_pos_iff
def aTC:=@_root_.Int.le_refl
def aTD:=@_root_.Array.getElem?_push_size
def aTE:=@_root_.dif_pos
def aTF:=@_root_.Array.foldl_toList
def aTG:=@_root_.List.flatten_cons
def aTH:=@_root_.decide_eq_true
def aTI:=@_root_.Option.getD_some
def aTJ:=@_root_.Bool.or_eq_false_iff
def aTK:=@_root_.if_false
def aTL:=@_root_.List.length_map
def aTM:=@_root_.List.getElem_of_mem
def aTN:=@_root_.List.findIdx?_cons
def aTO:=@_root_.Go.heap_alloc_new
def aTP:=@_root_.beq_iff_eq
def aTQ:=@_root_.Array.size_append
def aTR:=@_root_.Bool.not_eq_true
def aTS:=@_root_.Go.setRow_heap
theorem pI{p:Prop}(h:p:=by omega):p:=h
theorem pJ{p:Prop}(h:p:=by decide):p:=h
theorem pK{p:Prop}(h:p:=by simp):p:=h
theorem pL{p:Prop}(h:p:=by simp;omega):p:=h
theorem pV{p:Prop}(h:p:=by first|rfl|trivial):p:=h
theorem pW{p:Prop}(h:p:=by kernel_rfl):p:=h
theorem pX{p:Prop}(h:p:=by rfl):p:=h
theorem pY{p:Prop}(h:p:=by first|rfl|(simp only[go_sem];done)|(simp only[go_sem];rfl)):p:=h
theorem pG{a:Type}{p q r:a->Prop}(k:a)(h1:p k:=by rfl)(h2:q k:=by rfl)(h3:r k:=by rfl): ∃k,p k/\q k/\r k:=⟨k,h1,h2,h3⟩
theorem pH{a:Type}{p q r:a->Prop}(k:a)(h1:p k:=by first|rfl|(simp only[go_sem];done)|(simp only[go_sem];rfl))(h2:q k:=by first|rfl|(simp only[go_sem];done)|(simp only[go_sem];rfl))(h3:r k:=by first|rfl|(simp only[go_sem];done)|(simp only[go_sem];rfl)): ∃k,p k/\q k/\r k:=⟨k,h1,h2,h3⟩
abbrev pM:=List (pE×Bool)
abbrev pN:=List (Nat×Nat)
abbrev pO:=List Int
abbrev pP:=List Value
abbrev pQ:=Option (Nat×Nat)
abbrev pR:=Option Nat
abbrev pS:=List Nat
abbrev pT:=World
abbrev pU:=Value
end Go.Proofs
namespace Go.Proofs.YtcpbaddnmpeipaaGreatDoor.Vc
def NG:Nat:=6
def a8V:Nat:=82
def FF:Nat:=188
def FG:Nat:=155
def DP:Nat:=98
def HR:Nat:=32
abbrev aIl:Nat:=6
abbrev aIm:Nat:=7
def a8W:List (Nat×Nat×pU):=[(5,15,.int .u8 4)]
def aIn (w:pT):Prop:= ∀x∈a8W,x.1<NG/\w.cell? ⟨x.1,x.2.1,none⟩=some x.2.2
def CP (w:pT):Prop:=NG<=w.heap.size/\Lib.Utf8Tabs 1 2 w/\(∃m,w.cell? ⟨0,0,none⟩=some (.int .i64 m))/\aIn w
theorem FH {w w':pT}(h:CP w) (hs:w.heap.size<=w'.heap.size) (hb: ∀b,b<NG->w'.heap[b]? =w.heap[b]?):CP w':=by
 obtain⟨h0,⟨h1,h2⟩,⟨m,h3⟩,h4⟩:=h;have hc: ∀b o,b<NG->w'.cell? ⟨b,o,none⟩=w.cell? ⟨b,o,none⟩:=fun b o h=>aSh (a:=⟨b,o,none⟩) (hb b h);refine⟨aSL h0 hs,⟨fun c hc'=>?_,fun i hi=>⟨?_,?_⟩⟩,⟨m,?_⟩,fun x hx=>⟨(h4 x hx).1,(hc _ _ (h4 x hx).1).trans (h4 x hx).2⟩⟩
 .rw[hc _ _ pJ];exact h1 c hc'
 .rw[hc _ _ pJ];exact(h2 i hi).1
 .rw[hc _ _ pJ];exact(h2 i hi).2
 rw[hc _ _ pJ];exact h3
attribute [go_sem] a8V FG DP HR
inductive Ty where
 |bool|int (k:IntKind) |str|list (t:Ty) |unit|pair (a b:Ty) |ref|clo|mp|rl (e:Nat) (t:Ty) |mref|fn|ap
 deriving DecidableEq
@[go_sem] abbrev rR:Ty:= .pair .bool (.pair .str .unit)
@[go_sem] abbrev rM:Ty:= .pair .str (.pair .str .unit)
abbrev Ty.den:Ty->Type
 | .bool=>Bool
 | .int _=>Int
 | .str=>pE
 | .list t=>List t.den
 | .unit=>Unit
 | .pair a b=>a.den×b.den
 | .ref=>pQ
 | .clo=>Option (Nat×pN)
 | .mp=>pR
 | .rl _ _=>pQ
 | .fn=>pR
 | .mref=>pQ
 | .ap=>Nat×Nat×(Nat×Nat)×(Nat×Nat)
@[go_sem] def Ty.cells:Ty->Nat
 | .unit=>0
 | .pair a b=>a.cells+b.cells
 | .bool| .int _| .str| .list _| .ref| .clo| .mp| .rl _ _| .mref| .fn| .ap=>1
@[go_sem] def Ty.zero:(t:Ty)->t.den
 | .bool=>false
 | .int _=>(0:Int)
 | .str=>[]
 | .list _=>[]
 | .unit=>()
 | .pair a b=>(a.zero,b.zero)
 | .ref=>none
 | .clo=>none
 | .mp=>none
 | .rl _ _=>none
 | .fn=>none
 | .mref=>none
 | .ap=>(0,0,(0,0),(0,0))
@[go_sem] def Ty.isRow:Ty->Bool
 | .unit| .pair _ _=>true
 | .bool| .int _| .str| .list _| .ref| .clo| .mp| .rl _ _| .mref| .fn| .ap=>false
@[go_sem] def Ty.pure:Ty->Bool
 | .ref| .clo| .mp| .rl _ _| .mref| .ap=>false
 | .list t=>t.pure
 | .pair a b=>a.pure&&b.pure
 | .bool| .int _| .str| .unit| .fn=>true
def qR (t:Ty) (l:List t.den) (i:Int):t.den:=l.getD i.toNat t.zero
def rY (l:pE) (i:Int):Int:=((l.getD i.toNat 0).toNat:Int)
def tJ {t u:Ty}(h:t=u) (x:t.den):u.den:=h▸x
@[go_sem] theorem KN {t:Ty}(x:t.den):tJ (rfl:t=t) x=x:=rfl
@[go_sem] def qZ (u:Ty):(t:Ty)->t.den->Nat->Option u.den
 |t,x,0=>if h:t=u then some (tJ h x) else match t,x with
  | .pair a b,x=>if 0<a.cells then qZ u a x.1 0 else qZ u b x.2 0
  |_,_=>none
 | .pair a b,x,o+1=>if o+1<a.cells then qZ u a x.1 (o+1) else qZ u b x.2 (o+1-a.cells)
 |_,_,_=>none
@[go_sem] def sD (u:Ty) (y:u.den):(t:Ty)->t.den->Nat->Option t.den
 |t,x,0=>if h:u=t then some (tJ h y) else match t,x with
  | .pair a b,x=>if 0<a.cells then(sD u y a x.1 0).map (fun z=>(z,x.2)) else(sD u y b x.2 0).map (fun z=>(x.1,z))
  |_,_=>none
 | .pair a b,x,o+1=>if o+1<a.cells then(sD u y a x.1 (o+1)).map (fun z=>(z,x.2)) else(sD u y b x.2 (o+1-a.cells)).map (fun z=>(x.1,z))
 |_,_,_=>none
@[go_sem] def Ty.proj:(t:Ty)->t.den->Nat->Option (Σ u:Ty,u.den)
 | .pair a _,x,0=>some ⟨a,x.1⟩
 | .pair _ b,x,i+1=>b.proj x.2 i
 |_,_,_=>none
@[go_sem] def Ty.offs:Ty->Nat->pR
 | .pair _ _,0=>some 0
 | .pair a b,i+1=>(b.offs i).map fun o=>a.cells+o
 |_,_=>none
@[go_sem] def Ty.fld:Ty->Nat->Option Ty
 | .pair a _,0=>some a
 | .pair _ b,i+1=>b.fld i
 |_,_=>none
@[go_sem] def Ty.setPart (u:Ty) (y:u.den):(t:Ty)->t.den->Nat->Option t.den
 | .pair a b,x,0=>if h:u=a then some (tJ h y,x.2) else none
 | .pair a b,x,i+1=>(Ty.setPart u y b x.2 i).map fun z=>(x.1,z)
 |_,_,_=>none
inductive DV where
 |any
 |nilS
 |val (t:Ty) (x:t.den)
 |at (t:Ty) (x:t.den)
 |tup (l:List ((Σ t:Ty,t.den)×pR))
 |cond (p:Bool) (d:DV)
 |flag (p q:Prop)
 |own (k n:Nat)
 |elt (k n c:Nat) (i:Int) (o:Nat)
 |apd (d:DV)
 |nxt (b:Bool) (p c:Int)
abbrev qC:=DV×pR
inductive qB where
 |cells (t:Ty) (x:t.den) (toks:pN)
 |grow (e:TypeId) (c:Nat) (n:Nat)
 |row (e:TypeId) (t:Ty) (l:List t.den) (n:Nat)
 |map (k v:Ty) (l:List (k.den×v.den))
 |iter (s:pE) (p:Nat)
 |dead
structure St where
 env:List (Nat×qC)
 H:List (Nat×qB)
 nb:Nat
 N:Nat
 np:Nat:=0
@[go_sem] def lk:List (Nat×qC)->Nat->qC
 |[],_=>(.any,none)
 |(k,s)::r,t=>if k=t then s else lk r t
@[go_sem] def qE:List (Nat×qB)->Nat->Option qB
 |[],_=>none
 |(k,s)::r,t=>if k=t then some s else qE r t
structure TI where
 ty:Ty
 elem:TypeId:=0
 bytes:Nat:=0
 arr:Bool:=false
 ls:List (Nat×TypeId×Nat):=[]
abbrev sG:=List (Nat×TI)
@[go_sem] def rS:sG->TypeId->Option TI
 |[],_=>none
 |(k,s)::r,t=>if k=t then some s else rS r t
inductive PK where
 |v|own|p (t:Ty) (os:pS) |m|r|f (ks:List (Ty×pS)) |q
structure qJ where
 side:List Prop
 ret:List qC
 H:List qB
structure r7 where
 ps:List PK
 C:List qC->List qB->Option qJ
 gs:List (Nat×Nat×PK):=[]
 same:pS:=[]
 row:Option ((t:Ty)->List t.den->Option (List t.den)):=none
abbrev sS:=Nat->Option r7
structure qP where
 side:List Prop
 slot:qC
 upd:List (Nat×qB)
 rds:pS
abbrev VX:Nat:=900000000
@[go_sem] def FI:pS->Bool
 |[]=>false
 |i::_=>if i=1000000000 then true else false
@[go_sem] def orE:Option qP->Option qP->Option qP
 |some r,_=>some r
 |none,r=>r
@[go_sem] def yU:Option (List Prop×DV)->Option qP
 |some (p,d)=>some ⟨p,(d,none),[],[]⟩
 |none=>none
@[go_sem] def VY:pU->DV
 | .bool b=> .val .bool b
 | .int k n=> .val (.int k) n
 | .string s=> .val .str s.data.toList
 | .slice none 0 0=> .nilS
 | .pointer none=> .val .ref none
 | .nilFunc=> .val .clo none
 | .map none=> .val .mp none
 |_=> .any
@[go_sem] def tE (env:List (Nat×qC)):Operand->qC
 | .tmp t=>lk env t
 | .const v=>(VY v,none)
 | .func f=>(.val .clo (some (f,[])),none)
 | .global _=>(.any,none)
@[go_sem] def KO:Option TI->qC->qC
 |some ⟨.list t,_,_,_,_⟩,(.nilS,_)=>(.val (.list t) [],none)
 |some ⟨.ap,_,_,_,_⟩,(.val .clo none,_)=>(.val .ap (0,0,(0,0),(0,0)),none)
 |_,s=>s
@[go_sem] def HS:IntKind->Int->List Prop×DV
 | .i64,n=>([-9223372036854775808<=n/\n<=9223372036854775807],.val (.int .i64) n)
 |k,n=>([],.val (.int k) (k.wrap n))
@[go_sem] def qT {α:Type}:List α->List α->List α
 |[],m=>m
 |x::l,m=>x::qT l m
@[go_sem] def AA:(t:Ty)->t.den->t.den->Option Bool
 | .bool,a,b=>some (a==b)
 | .int _,a,b=>some (decide ((a:Int)=b))
 | .str,a,b=>some (decide ((a:pE)=b))
 | .unit,_,_=>some true
 | .pair s t,a,b=>eqAnd (AA s a.1 b.1) (AA t a.2 b.2)
 |_,_,_=>none
where
 eqAnd:Option Bool->Option Bool->Option Bool
  |some x,some y=>some (x&&y)
  |_,_=>none
attribute [go_sem] AA.eqAnd
@[go_sem] def VZ (k:IntKind) (a b:Int):BinOp->Option (List Prop×DV)
 | .add=>some (HS k (a+b))
 | .sub=>some (HS k (a-b))
 | .mul=>some (HS k (a*b))
 | .eql=>some ([],.val .bool (decide (a=b)))
 | .neq=>some ([],.val .bool (!decide (a=b)))
 | .lss=>some ([],.val .bool (decide (a<b)))
 | .leq=>some ([],.val .bool (decide (a<=b)))
 | .gtr=>some ([],.val .bool (decide (b<a)))
 | .geq=>some ([],.val .bool (decide (b<=a)))
 | .quo=>some ([b≠0],.val (.int k) (k.wrap (Int.tdiv a b)))
 | .rem=>some ([b≠0],.val (.int k) (Int.tmod a b))
 | .and=>some ([],.val (.int k) (bits .and k a b))
 | .or=>some ([],.val (.int k) (bits .or k a b))
 | .xor=>some ([],.val (.int k) (bits .xor k a b))
 | .andNot=>some ([],.val (.int k) (bits .andNot k a b))
 |_=>none
def W3 (k:IntKind) (a b:Int):Int:=k.wrap (a*2^min b.toNat k.bits)
def yV (k:IntKind) (a b:Int):Int:=a.fdiv (2^min b.toNat k.bits)
@[go_sem] def a8Y (k:IntKind) (a:Int) (k':IntKind) (b:Int):BinOp->Option (List Prop×DV)
 | .shl=>some ([0<=b],.val (.int k) (W3 k a b))
 | .shr=>some ([0<=b],.val (.int k) (yV k a b))
 |op=>if k=k' then VZ k a b op else none
@[go_sem] def W4 (a b:pE):BinOp->Option (List Prop×DV)
 | .add=>some ([((a++b).length:Int)<=9223372036854775807],.val .str (a++b))
 | .eql=>some ([],.val .bool (decide (a=b)))
 | .neq=>some ([],.val .bool (!decide (a=b)))
 | .lss=>some ([],.val .bool (Op.bytesLess a b))
 | .leq=>some ([],.val .bool (Op.bytesLess a b||decide (a=b)))
 | .gtr=>some ([],.val .bool (!(Op.bytesLess a b||decide (a=b))))
 | .geq=>some ([],.val .bool (!Op.bytesLess a b))
 |_=>none
@[go_sem] def KP:BinOp->Option Bool->Option (List Prop×DV)
 | .eql,some r=>some ([],.val .bool r)
 | .neq,some r=>some ([],.val .bool (!r))
 |_,_=>none
@[go_sem] def QW (op:BinOp):qC->qC->Option (List Prop×DV)
 |(.val (.int k) a,_),(.val (.int k') b,_)=>a8Y k a k' b op
 |(.val .str a,_),(.val .str b,_)=>W4 a b op
 |_,_=>none
@[go_sem] def a8Z (k:IntKind) (a b:Int):BinOp->Option (List Prop×DV)
 | .add=>some ([],.val (.int k) (k.wrap (a+b)))
 | .sub=>some ([],.val (.int k) (k.wrap (a-b)))
 | .mul=>some ([],.val (.int k) (k.wrap (a*b)))
 |_=>none
@[go_sem] def QX (op:BinOp):Option TI->qC->qC->Option (List Prop×DV)
 |some ⟨.int _,_,_,true,_⟩,(.val (.int k) a,_),(.val (.int k') b,_)=>if k=k' then a8Z k a b op else none
 |_,_,_=>none
@[go_sem] def a80 (u:Ty) (b:Nat) (op:BinOp) (t t':Ty) (x:t.den) (y:t'.den):Option (List Prop×DV):=
 if h:t'=t then(if t=u/\(t= .bool\/(t.isRow=true/\b=1)) then KP op (AA t x (tJ h y)) else none) else none
@[go_sem] def QY {α:Type}(l:List α):BinOp->Option (List Prop×DV)
 | .eql=>some ([],.flag (l=[]) True)
 | .neq=>some ([],.flag True (l=[]))
 |_=>none
@[go_sem] def MY {α:Type}:Option α->Bool
 |none=>true
 |some _=>false
@[go_sem] def W5:Option TI->BinOp->qC->qC->Option (List Prop×DV)
 |some ⟨.list _,_,_,_,_⟩,op,(.val (.list _) l,_),(.nilS,_)=>QY l op
 |some ⟨.list _,_,_,_,_⟩,op,(.nilS,_),(.val (.list _) l,_)=>QY l op
 |some ⟨.ap,_,_,_,_⟩,op,(.val .ap x,_),(.val .clo none,_)=>KP op (some (decide (x.1=0)))
 |some ⟨.clo,_,_,_,_⟩,op,(.val .fn x,_),(.val .clo none,_)=>KP op (some (MY x))
 |some ⟨u,_,b,_,_⟩,op,(.val t x,_),(.val t' y,_)=>a80 u b op t t' x y
 |_,_,_,_=>none
@[go_sem] def W6:Option (List Prop×DV)->Option (List Prop×DV)->Option (List Prop×DV)
 |some r,_=>some r
 |none,r=>r
@[go_sem] def W7:UnOp->qC->Option (List Prop×DV)
 | .not,(.val .bool b,_)=>some ([],.val .bool (!b))
 | .neg,(.val (.int k) n,_)=>some (HS k (-(n:Int)))
 |_,_=>none
def sV (l:pO):pE:=l.map fun n=>UInt8.ofNat n.toNat
def tX (s:pE):pO:=s.map fun b=>(b.toNat:Int)
@[go_sem] def QZ:Option TI->Option TI->qC->Option (List Prop×DV)
 |some _,some ⟨.int k,_,_,_,_⟩,(.val (.int _) n,_)=>some ([],.val (.int k) (k.wrap n))
 |some _,some ⟨.str,_,_,_,_⟩,(.val .str s,_)=>some ([],.val .str s)
 |_,_,_=>none
@[go_sem] def a81 (l:pO):Option TI->Option (List Prop×DV)
 |some ⟨.int .u8,_,_,_,_⟩=>some ([],.val .str (sV l))
 |_=>none
@[go_sem] def W8 (T:sG):Option TI->Option TI->qC->Option (List Prop×DV)
 |some ⟨.list (.int .u8),e,_,_,_⟩,some ⟨.str,_,_,_,_⟩,(.val (.list (.int .u8)) l,_)=>a81 l (rS T e)
 |_,_,_=>none
def sH {α:Type}(l:List α) (lo hi:Int):List α:=(l.drop lo.toNat).take (hi.toNat-lo.toNat)
@[go_sem] def BO:Option qC->Int->Option Int
 |none,d=>some d
 |some (.val (.int _) n,_),_=>some n
 |_,_=>none
@[go_sem] def R0 (t:Ty) (n:Nat) (f:Int->Int->t.den):Option Int->Option Int->Option (List Prop×DV)
 |some a,some b=>some ([0<=a/\a<=b/\b<=(n:Int)],.val t (f a b))
 |_,_=>none
@[go_sem] def W9:Option TI->qC->Option qC->Option qC->Option (List Prop×DV)
 |some ⟨.str,_,_,_,_⟩,(.val .str l,_),lo,hi=>R0 .str (List.length l) (sH l) (BO lo 0) (BO hi (List.length l))
 |some ⟨.list u,_,_,_,_⟩,(.val (.list t) l,_),lo,hi=>if t=u then R0 (.list t) (List.length l) (sH l) (BO lo 0) (BO hi (List.length l)) else none
 |_,_,_,_=>none
@[go_sem] def R1 (t:Ty) (x:t.den) (i:Nat):Option Ty->Option t.den
 |some (.list u)=>Ty.setPart (.list u) [] t x i
 |_=>none
@[go_sem] def yW (t:Ty):Option t.den->List (Nat×qC)->Option t.den
 |some x,[]=>some x
 |some x,(i,(.val u y,_))::r=>yW t (Ty.setPart u y t x i) r
 |some x,(i,(.nilS,_))::r=>yW t (R1 t x i (t.fld i)) r
 |_,_=>none
@[go_sem] def B8 (t:Ty):Nat->List t.den
 |0=>[]
 |n+1=>t.zero::B8 t n
@[go_sem] def a82 (t:Ty) (n:Nat) (l:List t.den) (i:Nat) (u:Ty) (y:u.den):Option (List t.den):=if h:u=t/\i<n then some (l.set i (tJ h.1 y)) else none
@[go_sem] def zS (t:Ty) (n:Nat):Option (List t.den)->List (Nat×qC)->Option (List t.den)
 |some l,[]=>some l
 |some l,(i,(.val u y,_))::r=>zS t n (a82 t n l i u y) r
 |_,_=>none
attribute [go_sem] List.set_cons_zero List.set_cons_succ
@[go_sem] def HT:List qC->Option pN
 |[]=>some []
 |(.val .ref (some p),_)::r=>(HT r).map (p:: ·)
 |_=>none
@[go_sem] def w6:pN->Nat->pR
 |[],_=>none
 |(o,k)::r,a=>if o=a then some k else w6 r a
@[go_sem] def wJ:pR->Nat->pN
 |some k,o=>[(o,k)]
 |none,_=>[]
@[go_sem] def t6:pN->Nat->Nat->pN
 |[],_,_=>[]
 |(q,k)::r,o,n=>if o<=q/\q<o+n then t6 r o n else(q,k)::t6 r o n
@[go_sem] def CQ:Ty->pR->pR
 | .list _,k=>k
 |_,_=>none
@[go_sem] def xH {α:Type}:List α->List α->List α
 |[],acc=>acc
 |x::l,acc=>xH l (x::acc)
inductive rQ where
 |box (id:Nat) (u:Ty) (x:u.den) (toks:pN) (o:Nat)
 |tok (id:Nat)
@[go_sem] def rQ.id:rQ->Nat
 | .box i _ _ _ _=>i
 | .tok k=>k
@[go_sem] def yG:Nat->pS->Bool
 |_,[]=>false
 |i,j::r=>if i=j then true else yG i r
@[go_sem] def sC:List rQ->pS
 |[]=>[]
 |w::r=>w.id::sC r
structure sN where
 args:List qC
 H:List qB
 ws:List rQ
 n:Nat
@[go_sem] def HU:pS->Nat->pN
 |[],_=>[]
 |q::qs,n=>(q,n)::HU qs (n+1)
@[go_sem] def AB (k:Nat):Option qB->Option sN->Option sN
 |some (.grow e c m),some a=>if yG k (sC a.ws)=true then none else some ⟨a.args,.grow e c m::a.H,.tok k::a.ws,a.n+1⟩
 |_,_=>none
@[go_sem] def xW (H:List (Nat×qB)):pR->Option sN->Option sN
 |some k,a=>AB k (qE H k) a
 |none,_=>none
@[go_sem] def xC (H:List (Nat×qB)) (toks:pN) (o:Nat):pS->Option sN->Option sN
 |[],a=>a
 |q::qs,a=>xC H toks o qs (xW H (w6 toks (o+q)) a)
@[go_sem] def KQ (n:Nat):pS->Bool
 |[]=>true
 |q::qs=>decide (q<n)&&KQ n qs
@[go_sem] def CR (H:List (Nat×qB)) (t:Ty) (os:pS) (i o:Nat) (u:Ty) (x:u.den) (toks:pN) (a:sN):Option t.den->Option sN
 |some y=>if (KQ t.cells os&& !yG i (sC a.ws))=true then xC H toks o os (some ⟨(.val .ref (some (a.n,0)),none)::a.args,.cells t y (HU os (a.n+1))::a.H,.box i u x toks o::a.ws,a.n+1⟩) else none
 |none=>none
@[go_sem] def uV (H:List (Nat×qB)) (t:Ty) (os:pS) (i o:Nat) (a:sN):Option qB->Option sN
 |some (.cells u x toks)=>CR H t os i o u x toks a (qZ t u x o)
 |_=>none
@[go_sem] def AC (t:Ty) (x:t.den) (k:Nat) (a:sN):Option qB->Option sN
 |some (.grow e c m)=>if (t.pure&& !yG k (sC a.ws))=true then some ⟨(.val t x,some a.n)::a.args,.grow e c m::a.H,.tok k::a.ws,a.n+1⟩ else none
 |_=>none
@[go_sem] def R2 (t:Ty) (x:t.den) (a:sN):Option sN:=
 if t.pure=true then some ⟨(.val t x,none)::a.args,a.H,a.ws,a.n⟩ else none
@[go_sem] def R3 (f:FuncId) (a:sN):Option sN:=some ⟨(.val .clo (some (f,[])),none)::a.args,a.H,a.ws,a.n⟩
@[go_sem] def R4 (a:sN):Option sN:=some ⟨(.nilS,none)::a.args,a.H,a.ws,a.n⟩
@[go_sem] def AD (i:Nat) (a:sN):Option qB->Option sN
 |some (.map k v l)=>if (k.pure&&v.pure&& !yG i (sC a.ws))=true then some ⟨(.val .mp (some a.n),none)::a.args,.map k v l::a.H,.tok i::a.ws,a.n+1⟩ else none
 |_=>none
def wK (k n:Nat) (a:sN):Option qB->Option sN
 |some (.row e t l m)=>if (t.pure&& !yG k (sC a.ws))=true then some ⟨(.own a.n n,none)::a.args,.row e t l m::a.H,.tok k::a.ws,a.n+1⟩ else none
 |some (.grow e c m)=>if (!yG k (sC a.ws))=true then some ⟨(.own a.n n,none)::a.args,.grow e c m::a.H,.tok k::a.ws,a.n+1⟩ else none
 |_=>none
attribute [go_sem] wK.eq_1 wK.eq_2 wK.eq_3
@[go_sem] def wL (H:List (Nat×qB)) (f:FuncId) (args:List qC):List (Ty×pS)->pN->pN->Option sN->Option sN
 |[],[],ids,some a=>some ⟨(.val .clo (some (f,xH ids [])),none)::args,a.H,a.ws,a.n⟩
 |(t,os)::ks,(i,o)::cs,ids,some a=>wL H f args ks cs ((a.n,0)::ids) (uV H t os i o a (qE H i))
 |_,_,_,_=>none
@[go_sem] def B9 (i o:Nat):List rQ->Nat->pQ
 |[],_=>none
 | .box j _ _ _ oc::r,c=>if j=i/\oc<=o then some (c,o-oc) else B9 i o r (c+1)
 | .tok _::r,c=>B9 i o r (c+1)
@[go_sem] def MZ (a:sN):pQ->Option sN
 |some p=>some ⟨(.val .ref (some p),none)::a.args,a.H,a.ws,a.n⟩
 |none=>none
@[go_sem] def wM (H:List (Nat×qB)) (a:sN):PK->qC->Option sN
 | .v,(.val .clo (some (f,[])),_)=>R3 f a
 | .v,(.val t x,_)=>R2 t x a
 | .v,(.nilS,_)=>R4 a
 | .own,(.val (.list t) x,some k)=>AC (.list t) x k a (qE H k)
 | .p t os,(.val .ref (some (i,o)),_)=>uV H t os i o a (qE H i)
 | .m,(.val .mp (some i),_)=>AD i a (qE H i)
 | .r,(.own k n,_)=>wK k n a (qE H k)
 | .f ks,(.val .clo (some (f,cs)),_)=>wL H f a.args ks cs [] (some a)
 | .q,(.val .ref (some (i,o)),_)=>MZ a (B9 i o (xH a.ws []) 0)
 |_,_=>none
@[go_sem] def wN (H:List (Nat×qB)):List PK->List qC->Option sN->Option sN
 |_,_,none=>none
 |[],[],some a=>some a
 |p::ps,s::ss,some a=>wN H ps ss (wM H a p s)
 |_,_,some _=>none
@[go_sem] def aIo:Option pQ->qC
 |some (some p)=>(.val .ref (some p),none)
 |_=>(.any,none)
@[go_sem] def aIp:Option pR->qC
 |some (some i)=>(.val .mp (some i),none)
 |_=>(.any,none)
@[go_sem] def aIq:Option pQ->qC
 |some (some (k,n))=>(.own k n,none)
 |_=>(.any,none)
@[go_sem] def AE:(t:Ty)->t.den->Nat->Option pQ
 | .rl _ _,x,0=>some x
 | .pair a b,x,o=>if o<a.cells then AE a x.1 o else AE b x.2 (o-a.cells)
 |_,_,_=>none
@[go_sem] def HV (q:Nat):PK->Option qB->qC
 | .r,some (.cells t y _)=>aIq (AE t y q)
 | .p _ _,some (.cells t y _)=>aIo (qZ .ref t y q)
 | .m,some (.cells t y _)=>aIp (qZ .mp t y q)
 |_,_=>(.any,none)
@[go_sem] def FJ:List qB->Nat->Option qB
 |[],_=>none
 |b::_,0=>some b
 |_::r,n+1=>FJ r n
@[go_sem] def KR (l:List qC):Option sN->Option sN
 |some a=>some ⟨l,a.H,a.ws,a.n⟩
 |none=>none
@[go_sem] def zT (H:List (Nat×qB)):List (Nat×Nat×PK)->Option sN->Option sN
 |_,none=>none
 |[],some a=>some a
 |(c,q,pk)::r,some a=>zT H r (KR a.args (wM H a pk (HV q pk (FJ a.H (a.n-1-c)))))
@[go_sem] def uW (i:Nat):List rQ->Nat->pR
 |[],_=>none
 | .tok j::r,c=>if j=i then some c else uW i r (c+1)
 | .box _ _ _ _ _::r,c=>uW i r (c+1)
@[go_sem] def CS {α β:Type}:Option α->Option β->Option (α×β)
 |some a,some b=>some (a,b)
 |_,_=>none
@[go_sem] def R5 (W:List rQ):pQ->Option pQ
 |none=>some none
 |some (i,o)=>(B9 i o W 0).map some
@[go_sem] def a83 (W:List rQ):pR->Option pR
 |none=>some none
 |some i=>(uW i W 0).map some
@[go_sem] def a84 (W:List rQ):pQ->Option pQ
 |none=>some none
 |some (k,n)=>(uW k W 0).map fun c=>some (c,n)
@[go_sem] def N0:Option (Nat×pN)->Option (Option (Nat×pN))
 |none=>some none
 |some (f,[])=>some (some (f,[]))
 |_=>none
@[go_sem] def R6 (c n3 n4:Nat):pQ->pR->pR->Option (Nat×Nat×(Nat×Nat)×(Nat×Nat))
 |some (i,0),some k3,some k4=>some (c,i,(k3,n3),(k4,n4))
 |_,_,_=>none
@[go_sem] def a85 (W:List rQ):Nat×Nat×(Nat×Nat)×(Nat×Nat)->Option (Nat×Nat×(Nat×Nat)×(Nat×Nat))
 |(c,i,(k3,n3),(k4,n4))=>R6 c n3 n4 (B9 i 0 W 0) (uW k3 W 0) (uW k4 W 0)
@[go_sem] def AF (W:List rQ):(t:Ty)->t.den->Option t.den
 | .ref,x=>R5 W x
 | .clo,x=>N0 x
 | .mp,x=>a83 W x
 | .pair a b,x=>CS (if a.pure=true then some x.1 else AF W a x.1) (if b.pure=true then some x.2 else AF W b x.2)
 | .list t,x=>if t.pure=true then some x else none
 | .bool,x=>some x
 | .int _,x=>some x
 | .str,x=>some x
 | .unit,x=>some x
 | .rl _ _,x=>a84 W x
 | .fn,x=>some x
 | .mref,x=>R5 W x
 | .ap,x=>a85 W x
@[go_sem] def WA:Option qB->Option (List qB)->Option (List qB)
 |some b,some l=>some (b::l)
 |_,_=>none
@[go_sem] def aIr (t:Ty) (ts:pN):Option t.den->Option qB
 |some y=>some (.cells t y ts)
 |none=>none
def HW (W:List rQ):qB->Option qB
 | .cells t y ts=>if t.pure=true then some (.cells t y ts) else aIr t ts (AF W t y)
 |b=>some b
attribute [go_sem] HW.eq_1 HW.eq_2
@[go_sem] def FK (W:List rQ):List qB->Option (List qB)
 |[]=>some []
 |b::r=>WA (HW W b) (FK W r)
@[go_sem] def xI:List rQ->Nat->Option rQ
 |[],_=>none
 |w::_,0=>some w
 |_::r,n+1=>xI r n
@[go_sem] def KS (n:Nat) (c:Nat):Option rQ->Bool
 |some _=>false
 |none=>decide (c<n)
@[go_sem] def xX (base n c:Nat):Option rQ->pR
 |some (.box _ _ _ _ _)=>none
 |some (.tok k)=>some k
 |none=>if c<n then some (base+c) else none
@[go_sem] def a86 (base n c o:Nat):Option rQ->qC
 |some (.box i _ _ _ o')=>(.val .ref (some (i,o'+o)),none)
 |wh=>if KS n c wh=true then(.val .ref (some (base+c,o)),none) else(.any,none)
@[go_sem] def HY (base n:Nat) (W:List rQ):pR->pR
 |some c=>xX base n c (xI W c)
 |none=>none
@[go_sem] def aIs (m:Nat):pR->qC
 |some k=>(.own k m,none)
 |none=>(.any,none)
@[go_sem] def aIt:pR->qC
 |some k=>(.val .mp (some k),none)
 |none=>(.any,none)
@[go_sem] def N1 (base n c o:Nat):Option rQ->pQ
 |some (.box i _ _ _ o')=>some (i,o'+o)
 |wh=>if KS n c wh=true then some (base+c,o) else none
@[go_sem] def aIu:pQ->Option pN->Option pN
 |some p,some l=>some (p::l)
 |_,_=>none
@[go_sem] def KT (base n:Nat) (W:List rQ):pN->Option pN
 |[]=>some []
 |(c,o)::r=>aIu (N1 base n c o (xI W c)) (KT base n W r)
@[go_sem] def aIv (f:Nat):Option pN->qC
 |some l=>(.val .clo (some (f,l)),none)
 |none=>(.any,none)
@[go_sem] def R7 (base n:Nat) (W:List rQ):qC->qC
 |(.own c m,_)=>aIs m (HY base n W (some c))
 |(.val .ref (some (c,o)),_)=>a86 base n c o (xI W c)
 |(.val .ref none,_)=>(.val .ref none,none)
 |(.val .mp (some c),_)=>aIt (HY base n W (some c))
 |(.val .mp none,_)=>(.val .mp none,none)
 |(.val .clo (some (f,cs)),_)=>aIv f (KT base n W cs)
 |(.val t x,k)=>if t.pure=true then(.val t x,HY base n W (CQ t k)) else(.any,none)
 |_=>(.any,none)
@[go_sem] def aIw (q:Nat):pR->pN->pN
 |some k,r=>(q,k)::r
 |none,r=>r
@[go_sem] def BP (base n:Nat) (W:List rQ) (o:Nat):pN->pN
 |[]=>[]
 |(q,c)::r=>aIw (o+q) (xX base n c (xI W c)) (BP base n W o r)
@[go_sem] def HZ (base n:Nat) (W:List rQ):pQ->Option pQ
 |none=>some none
 |some (c,o)=>back2 c o (xI W c)
where
 back2 (c o:Nat):Option rQ->Option pQ
  |some (.box i _ _ _ o')=>some (some (i,o'+o))
  |wh=>if KS n c wh=true then some (some (base+c,o)) else none
attribute [go_sem] HZ.back2
@[go_sem] def a87 (base n:Nat) (W:List rQ):pR->Option pR
 |none=>some none
 |some c=>(xX base n c (xI W c)).map some
@[go_sem] def a88 (base n:Nat) (W:List rQ):pQ->Option pQ
 |none=>some none
 |some (c,q)=>(xX base n c (xI W c)).map fun k=>some (k,q)
@[go_sem] def a89 (base n:Nat) (W:List rQ):Nat×Nat×(Nat×Nat)×(Nat×Nat)->Option (Nat×Nat×(Nat×Nat)×(Nat×Nat))
 |(c,i,(k3,n3),(k4,n4))=>R6 c n3 n4 (N1 base n i 0 (xI W i)) (xX base n k3 (xI W k3)) (xX base n k4 (xI W k4))
@[go_sem] def zU (base n:Nat) (W:List rQ):(t:Ty)->t.den->Option t.den
 | .ref,x=>HZ base n W x
 | .clo,x=>N0 x
 | .mp,x=>a87 base n W x
 | .pair a b,x=>CS (if a.pure=true then some x.1 else zU base n W a x.1) (if b.pure=true then some x.2 else zU base n W b x.2)
 | .list t,x=>if t.pure=true then some x else none
 | .bool,x=>some x
 | .int _,x=>some x
 | .str,x=>some x
 | .unit,x=>some x
 | .rl _ _,x=>a88 base n W x
 | .fn,x=>some x
 | .mref,x=>HZ base n W x
 | .ap,x=>a89 base n W x
@[go_sem] def R8 (i o:Nat) (u t:Ty) (toks ts:pN):Option u.den->Option (Nat×qB)
 |some z=>some (i,.cells u z (qT ts (t6 toks o t.cells)))
 |none=>none
@[go_sem] def a9a (i:Nat) (t:Ty) (ts:pN):Option t.den->Option (Nat×qB)
 |some y=>some (i,.cells t y ts)
 |none=>none
def wY (base n c:Nat) (W:List rQ):qB->Option (Nat×qB)
 | .cells t y ts=>if t.pure=true then some (base+c,.cells t y (BP base n W 0 ts)) else a9a (base+c) t (BP base n W 0 ts) (zU base n W t y)
 | .grow e m k=>some (base+c,.grow e m k)
 | .row e t l n=>if t.pure=true then some (base+c,.row e t l n) else none
 | .map k v l=>if (k.pure&&v.pure)=true then some (base+c,.map k v l) else none
 | .iter _ _=>none
 | .dead=>some (base+c,.dead)
attribute [go_sem] wY.eq_1 wY.eq_2 wY.eq_3 wY.eq_4 wY.eq_5 wY.eq_6
def vH (k:Nat):qB->Option (Nat×qB)
 | .cells _ _ _=>none
 | .grow e m n=>some (k,.grow e m n)
 | .row e t l n=>if t.pure=true then some (k,.row e t l n) else none
 | .map s v l=>if (s.pure&&v.pure)=true then some (k,.map s v l) else none
 | .iter _ _=>none
 | .dead=>some (k,.dead)
attribute [go_sem] vH.eq_1 vH.eq_2 vH.eq_3 vH.eq_4 vH.eq_5 vH.eq_6
@[go_sem] def a9b (i o:Nat) (u t:Ty) (toks ts:pN) (x:u.den):Option t.den->Option (Nat×qB)
 |some y=>R8 i o u t toks ts (sD t y u x o)
 |none=>none
@[go_sem] def wO (base n i o:Nat) (W:List rQ) (u:Ty) (x:u.den) (toks:pN):qB->Option (Nat×qB)
 | .cells t y ts=>if t.pure=true then R8 i o u t toks (BP base n W o ts) (sD t y u x o) else a9b i o u t toks (BP base n W o ts) x (zU base n W t y)
 | .dead=>some (i,.dead)
 | .grow _ _ _=>none
 | .row _ _ _ _=>none
 | .map _ _ _=>none
 | .iter _ _=>none
@[go_sem] def N2:Option (Nat×qB)->Option (List (Nat×qB))->Option (List (Nat×qB))
 |some q,some r=>some (q::r)
 |_,_=>none
@[go_sem] def zV (base n:Nat) (W:List rQ):Nat->List rQ->List qB->Option (List (Nat×qB))
 |_,[],[]=>some []
 |c,[],b::L=>N2 (wY base n c W b) (zV base n W (c+1) [] L)
 |c,.box i u x toks o::ws,b::L=>N2 (wO base n i o W u x toks b) (zV base n W (c+1) ws L)
 |c,.tok k::ws,b::L=>N2 (vH k b) (zV base n W (c+1) ws L)
 |_,_::_,[]=>none
@[go_sem] def DQ:List qC->Option (List ((Σ t:Ty,t.den)×pR))
 |[]=>some []
 |(.val t x,k)::r=>(DQ r).map ((⟨t,x⟩,k):: ·)
 |(.own k n,_)::r=>(DQ r).map ((⟨.rl 0 .unit,some (k,n)⟩,none):: ·)
 |_=>none
@[go_sem] def aIx:Option (List ((Σ t:Ty,t.den)×pR))->qC
 |some q=>(.tup q,none)
 |none=>(.any,none)
@[go_sem] def KU:List qC->Option qC
 |[]=>some (.tup [],none)
 |[s]=>some s
 |s::s'::l=>some (aIx (DQ (s::s'::l)))
@[go_sem] def WB (W:List rQ):pS->pS
 |[]=>[]
 |c::r=>sameId (xI W c) (WB W r)
where
 sameId:Option rQ->pS->pS
  |some w,r=>w.id::r
  |none,r=>r
attribute [go_sem] WB.sameId
@[go_sem] def N3 (side:List Prop) (rds:pS):Option (List (Nat×qB))->Option qC->Option qP
 |some H,some s=>some ⟨side,s,H,rds⟩
 |_,_=>none
@[go_sem] def N4 (base n:Nat) (W:List rQ):List qC->List qC
 |[]=>[]
 |s::r=>R7 base n W s::N4 base n W r
@[go_sem] def qW:List qB->Nat
 |[]=>0
 |_::r=>qW r+1
@[go_sem] def R9 (base:Nat) (W:List rQ) (sm:pS):Option qJ->Option qP
 |some r=>N3 r.side (qT (sC W) (WB W sm)) (zV base (qW r.H) W 0 W r.H) (KU (N4 base (qW r.H) W r.ret))
 |none=>none
@[go_sem] def RA (C:List qC->List qB->Option qJ) (sm:pS) (base:Nat) (W:List rQ) (args:List qC):Option (List qB)->Option qP
 |some L=>R9 base W sm (C args L)
 |none=>none
@[go_sem] def N5 (C:List qC->List qB->Option qJ) (sm:pS) (base:Nat):Option sN->Option qP
 |some a=>RA C sm base (xH a.ws []) (xH a.args []) (FK (xH a.ws []) (xH a.H []))
 |none=>none
@[go_sem] def DR (H:List (Nat×qB)) (base:Nat) (args:List qC):Option r7->Option qP
 |some g=>N5 g.C g.same base (zT H g.gs (wN H g.ps args (some ⟨[],[],[],0⟩)))
 |none=>none
@[go_sem] def N6:List PK->List qC->pR
 | .r::ps,_::ss=>N6 ps ss
 |_::_,(.own k _,_)::_=>some k
 |_::ps,_::ss=>N6 ps ss
 |_,_=>none
@[go_sem] def a9c (k:Nat) (t:Ty) (l:List t.den):qC->qC
 |(.own j m,x)=>if j=k then(.val (.list t) l,none) else(.own j m,x)
 |s=>s
@[go_sem] def N7 (k:Nat) (t:Ty) (l:List t.den):List qC->List qC
 |[]=>[]
 |s::r=>a9c k t l s::N7 k t l r
@[go_sem] def I0 (k n:Nat):List qC->List Prop
 |[]=>[]
 |(.own j m,_)::r=>(j=k->m=n)::I0 k n r
 |_::r=>I0 k n r
@[go_sem] def DS:Ty->Bool
 | .list _=>false
 | .pair a b=>DS a&&DS b
 | .bool| .int _| .str| .unit| .fn=>true
 | .ref| .clo| .mp| .rl _ _| .mref| .ap=>false
@[go_sem] def qH:List (Nat×qB)->pS
 |[]=>[]
 |(i,_)::r=>i::qH r
@[go_sem] def KV:List (Nat×qB)->Bool
 |[]=>true
 |(_,.cells t _ [])::r=>DS t&&KV r
 |_=>false
@[go_sem] def RB:List ((Σ t:Ty,t.den)×pR)->Bool
 |[]=>true
 |(⟨t,_⟩,_)::r=>DS t&&RB r
@[go_sem] def WC:List ((Σ t:Ty,t.den)×pR)->List ((Σ t:Ty,t.den)×pR)
 |[]=>[]
 |(q,_)::r=>(q,none)::WC r
@[go_sem] def RC:qC->Option qC
 |(.val t x,_)=>if DS t=true then some (.val t x,none) else none
 |(.tup l,_)=>if RB l=true then some (.tup (WC l),none) else none
 |_=>none
@[go_sem] def WD (sd:List Prop) (k:Nat) (side:List Prop) (U:List (Nat×qB)) (rds:pS):Option qC->Option qP
 |some s=>if (KV U&& !yG k (qH U))=true then some ⟨qT sd side,s,U,k::rds⟩ else none
 |none=>none
@[go_sem] def WE (sd:List Prop) (k:Nat):Option qP->Option qP
 |some ⟨side,s,U,rds⟩=>WD sd k side U rds (RC s)
 |none=>none
@[go_sem] def N8 (H:List (Nat×qB)) (base:Nat) (args:List qC) (g:r7) (k:Nat):Option qB->Option qP
 |some (.row _ t l m)=>WE (I0 k m args) k (DR ((k,.dead)::H) base (N7 k t l args) (some g))
 |_=>none
@[go_sem] def a9d (H:List (Nat×qB)) (base:Nat) (args:List qC) (g:r7):pR->Option qP
 |some k=>N8 H base args g k (qE H k)
 |none=>DR H base args (some g)
@[go_sem] def a9e (k n m e:Nat) (t:Ty):Option (List t.den)->Option qP
 |some l=>some ⟨[n=m,m<4611686018427387904],(.tup [],none),[(k,.row e t l m)],[k]⟩
 |none=>none
@[go_sem] def WF (F:(t:Ty)->List t.den->Option (List t.den)) (k n:Nat):Option qB->Option qP
 |some (.row e t l m)=>a9e k n m e t (F t l)
 |_=>none
@[go_sem] def RD (H:List (Nat×qB)) (F:(t:Ty)->List t.den->Option (List t.den)):List qC->Option qP
 |[(.own k n,_)]=>WF F k n (qE H k)
 |_=>none
@[go_sem] def WG (base:Nat):Option TI->qC->Option qP
 |some ⟨.list u,e,_,true,_⟩,(.nilS,_)=>some ⟨[],(.own base 0,none),[(base,.row e u [] 0)],[]⟩
 |some ⟨.list u,e,_,false,_⟩,(.nilS,_)=>some ⟨[],(.val (.list u) [],some base),[(base,.grow e u.cells 0)],[]⟩
 |_,(.nilS,_)=>none
 |_,s=>some ⟨[],s,[],[]⟩
@[go_sem] def CT:Ty->Nat->Bool
 | .list _,0=>true
 | .pair a b,o=>if o<a.cells then CT a o else CT b (o-a.cells)
 |_,_=>false
@[go_sem] def CU (t:Ty):List (Nat×TypeId×Nat)->Bool
 |[]=>true
 |(o,_,_)::r=>CT t o&&CU t r
@[go_sem] def AG:List (Nat×TypeId×Nat)->Nat->pN
 |[],_=>[]
 |(o,_,_)::r,i=>(o,i)::AG r (i+1)
@[go_sem] def BQ:List (Nat×TypeId×Nat)->Nat->List (Nat×qB)
 |[],_=>[]
 |(_,e,c)::r,i=>qT (BQ r (i+1)) [(i,.grow e c 0)]
@[go_sem] def WH (e:Nat):Bool:=if e=82 then true else if e=a8V then true else false
@[go_sem] def WI (e:Nat) (u:Ty) (o:Nat):pQ->List (Nat×Nat×Ty)
 |none=>[(o,e,u)]
 |some _=>[]
@[go_sem] def xY:(t:Ty)->t.den->Nat->List (Nat×Nat×Ty)
 | .rl e u,x,o=>WI e u o x
 | .pair a b,x,o=>qT (xY a x.1 o) (xY b x.2 (o+a.cells))
 |_,_,_=>[]
@[go_sem] def WJ (o:Nat):pQ->pS
 |none=>[o]
 |some _=>[]
@[go_sem] def DT:(t:Ty)->t.den->Nat->pS
 | .mref,x,o=>WJ o x
 | .pair a b,x,o=>qT (DT a x.1 o) (DT b x.2 (o+a.cells))
 |_,_,_=>[]
@[go_sem] def a9f:Nat->pS->pS
 |2,[0]=>[0]
 |_,_=>[]
@[go_sem] def RE (el:Nat) (t:Ty) (y:t.den):pS:=if WH el=true then a9f t.cells (DT t y 0) else[]
@[go_sem] def zW (t:Ty):Nat->List (Nat×Nat×Ty)->Option t.den->Option t.den
 |_,[],x=>x
 |i,(o,e,u)::r,some x=>zW t (i+1) r (sD (.rl e u) (some (i,0)) t x o)
 |_,_::_,none=>none
@[go_sem] def FL (t:Ty) (i:Nat):pS->Option t.den->Option t.den
 |[],x=>x
 |q::r,some x=>FL t i r (sD .mref (some (i,q)) t x q)
 |_::_,none=>none
@[go_sem] def CV:List (Nat×Nat×Ty)->Nat->List (Nat×qB)
 |[],_=>[]
 |(_,e,u)::r,i=>qT (CV r (i+1)) [(i,.row e u [] 0)]
@[go_sem] def N9 {α:Type}:List α->Nat
 |[]=>0
 |_::r=>N9 r+1
@[go_sem] def a9g (base:Nat) (t:Ty) (ls:List (Nat×TypeId×Nat)) (R:List (Nat×Nat×Ty)):Option t.den->Option qP
 |some z=>some ⟨[],(.val .ref (some (base,0)),none),(base,.cells t z (AG ls (base+1)))::qT (CV R (base+1+N9 ls)) (BQ ls (base+1)),[]⟩
 |none=>none
@[go_sem] def NA (base el:Nat) (t:Ty) (y:t.den) (ls:List (Nat×TypeId×Nat)):Bool->Option qP
 |true=>a9g base t ls (xY t y 0) (FL t base (RE el t y) (zW t (base+1+N9 ls) (xY t y 0) (some y)))
 |false=>none
@[go_sem] def AH (k:Nat):List (Nat×TypeId×Nat)->List (Nat×TypeId×Nat)
 |[]=>[]
 |(o,e,c)::r=>if o+1=k then AH k r else(o,e,c)::AH k r
@[go_sem] def a9h (base el:Nat) (ls:List (Nat×TypeId×Nat)):(t:Ty)->t.den->pR->Option qP
 | .pair a b,y,some k=>NA base el (.pair a b) y (AH k ls) (CU (.pair a b) (AH k ls))
 | .list u,y,k=>some ⟨[],(.val .ref (some (base,0)),none),[(base,.cells (.list u) y (wJ k 0))],[]⟩
 |t,y,_=>some ⟨[],(.val .ref (some (base,0)),none),[(base,.cells t y [])],[]⟩
@[go_sem] def NB (base el:Nat):Option TI->Option qP
 |some ⟨.list u,e,_,_,_⟩=>some ⟨[],(.val .ref (some (base,0)),none),[(base,.cells (.list u) [] [(0,base+1)]),(base+1,.grow e u.cells 0)],[]⟩
 |some ti=>NA base el ti.ty ti.ty.zero ti.ls (CU ti.ty ti.ls)
 |none=>none
@[go_sem] def WK (base el:Nat):Option TI->qC->Option qP
 |some ti,(.val t y,k)=>if t=ti.ty then a9h base el ti.ls t y k else none
 |_,_=>none
@[go_sem] def WL (base el:Nat):Option TI->qC->Option qP
 |some ⟨.list u,e,_,true,_⟩,(.nilS,_)=>NA base el (.rl e u) none [] true
 |some ⟨.list u,e,b,a,ls⟩,(.nilS,_)=>NB base el (some ⟨.list u,e,b,a,ls⟩)
 |ti,s=>WK base el ti (KO ti s)
@[go_sem] def I1:Ty->Bool
 | .list _=>true
 | .pair a b=>I1 a||I1 b
 | .bool| .int _| .str| .unit| .ref| .clo| .mp| .rl _ _| .mref| .fn| .ap=>false
@[go_sem] def RF:pR->pR->pR
 |some o,some m=>if m=0 then some (o+1) else none
 |_,_=>none
@[go_sem] def WM:Ty->Bool
 | .list _=>true
 | .pair _ _| .bool| .int _| .str| .unit| .ref| .clo| .mp| .rl _ _| .mref| .fn| .ap=>false
@[go_sem] def RG (u:Ty) (o m:pR):Bool->Bool->pR
 |false,_=>m
 |true,true=>RF o m
 |true,false=>none
@[go_sem] def yX (t:Ty):List (Nat×qC)->pR
 |[]=>some 0
 |(_,(.nilS,_))::r=>yX t r
 |(i,(.val u _,_))::r=>RG u (t.offs i) (yX t r) (I1 u) (WM u)
 |_=>none
@[go_sem] def WN:Ty->pR->pR
 | .pair _ _,m=>m
 |_,_=>none
@[go_sem] def aIy (t:Ty) (k:pR):Option t.den->Option qP
 |some x=>some ⟨[],(.val t x,k),[],[]⟩
 |none=>none
@[go_sem] def WO (sl:List (Nat×qC)):Option TI->Option qP
 |some ti=>if ti.ty.isRow=true then aIy ti.ty (WN ti.ty (yX ti.ty sl)) (yW ti.ty (some ti.ty.zero) sl) else none
 |none=>none
@[go_sem] def RH (base e c n:Nat) (t:Ty):Option (List t.den)->Option qP
 |some l=>if n<=16777216/\n*c<=16777216 then some ⟨[],(.val (.list t) l,some base),[(base,.grow e c n)],[]⟩ else none
 |none=>none
@[go_sem] def a9i (base e n:Nat) (t:Ty):Option (List t.den)->Option qP
 |some l=>if t.pure=true/\n<=16777216/\n*t.cells<=16777216 then some ⟨[],(.own base n,none),[(base,.row e t l n)],[]⟩ else none
 |none=>none
@[go_sem] def WP (base n:Nat) (sl:List (Nat×qC)):Option TI->Option qP
 |some ⟨.list u,e,_,true,_⟩=>if n=0 then a9i base e n u (zS u n (some (B8 u n)) sl) else RH base e u.cells n u (zS u n (some (B8 u n)) sl)
 |some ⟨.list u,e,_,false,_⟩=>RH base e u.cells n u (zS u n (some (B8 u n)) sl)
 |_=>none
@[go_sem] def a9j (t:Ty) (k:pR) (i:Nat):Option t.den->Option qP
 |some y=>some ⟨[],(.val t y,k),[],[i]⟩
 |none=>none
@[go_sem] def NC (t:Ty) (i off:Nat):Option qB->Option qP
 |some (.cells u x toks)=>a9j t (CQ t (w6 toks off)) i (qZ t u x off)
 |_=>none
@[go_sem] def a9k (u:Ty) (k n m:Nat):Option u.den->Option qP
 |some y=>some ⟨[n=m],(.val u y,none),[],[k]⟩
 |none=>none
@[go_sem] def ND (u:Ty) (k n c:Nat) (i:Int) (o:Nat):Option qB->Option qP
 |some (.row _ t l m)=>if c=t.cells then a9k u k n m (qZ u t (qR t l i) o) else none
 |_=>none
@[go_sem] def WQ (i:Nat):Option pQ->Option qP
 |some (some (k,n))=>some ⟨[],(.own k n,none),[],[i]⟩
 |_=>none
@[go_sem] def RI (i off:Nat):TI->Option qB->Option qP
 |⟨.list u,e,_,_,_⟩,some (.cells v x _)=>WQ i (qZ (.rl e u) v x off)
 |_,_=>none
@[go_sem] def WR:pQ->pQ->pQ
 |some p,_=>some p
 |none,q=>q
@[go_sem] def zX:(t:Ty)->t.den->pQ
 | .rl _ _,x=>x
 | .pair a b,x=>WR (zX a x.1) (zX b x.2)
 |_,_=>none
@[go_sem] def WS (u0:Ty) (l:List u0.den) (u:Ty):pQ->Option (Σ t:Ty,t.den)
 |some _=>if u=u0 then some ⟨.list u0,l⟩ else none
 |none=>none
@[go_sem] def I2 (a b:Ty) (x:a.den) (y:b.den):pQ->Option (Σ t:Ty,t.den)->Option (Σ t:Ty,t.den)->Option (Σ t:Ty,t.den)
 |some _,some ⟨a',x'⟩,_=>some ⟨.pair a' b,(x',y)⟩
 |some _,none,_=>none
 |none,_,some ⟨b',y'⟩=>some ⟨.pair a b',(x,y')⟩
 |none,_,none=>none
@[go_sem] def xZ (u0:Ty) (l:List u0.den):(t:Ty)->t.den->Option (Σ t:Ty,t.den)
 | .rl _ u,x=>WS u0 l u x
 | .pair a b,x=>I2 a b x.1 x.2 (zX a x.1) (xZ u0 l a x.1) (xZ u0 l b x.2)
 |_,_=>none
@[go_sem] def WT (t:Ty) (i k:Nat) (sd:Prop) (e:TypeId) (c n:Nat) (v:Ty) (x:v.den):Option t.den->Option qP
 |some y=>some ⟨[sd],(.val t y,none),[(i,.cells v x []),(k,.grow e c n)],[1000000000,i,k]⟩
 |none=>none
@[go_sem] def WU (t:Ty) (i off k:Nat) (sd:Prop) (e:TypeId) (c n:Nat):Option (Σ t:Ty,t.den)->Option qP
 |some ⟨v,x⟩=>WT t i k sd e c n v x (qZ t v x off)
 |none=>none
@[go_sem] def RJ (t:Ty) (i off k n0:Nat) (v:Ty) (x:v.den):Option qB->Option qP
 |some (.row e u0 l m)=>WU t i off k (n0=m) e u0.cells (List.length l) (xZ u0 l v x)
 |_=>none
@[go_sem] def RK (H:List (Nat×qB)) (t:Ty) (i off:Nat) (v:Ty) (x:v.den):pQ->Option qP
 |some (k,n0)=>RJ t i off k n0 v x (qE H k)
 |none=>none
@[go_sem] def FM (H:List (Nat×qB)) (t:Ty) (i off:Nat):Option qB->Option qP
 |some (.cells v x _)=>RK H t i off v x (zX v x)
 |_=>none
@[go_sem] def DU:Ty->Ty
 | .rl _ u=> .list u
 | .pair a b=> .pair (DU a) (DU b)
 | .bool=> .bool
 | .int k=> .int k
 | .str=> .str
 | .list t=> .list t
 | .unit=> .unit
 | .ref=> .ref
 | .clo=> .clo
 | .mp=> .mp
 | .mref=> .mref
 | .fn=> .fn
 | .ap=> .ap
@[go_sem] def a9l (u:Ty):Option qB->Option (List u.den)
 |some (.row _ t l _)=>if h:t=u then some (tJ (t:= .list t) (u:= .list u) (by rw[h]) l) else none
 |_=>none
@[go_sem] def WV (H:List (Nat×qB)) (u:Ty):pQ->Option (List u.den)
 |some (k,_)=>a9l u (qE H k)
 |none=>some []
@[go_sem] def yY (H:List (Nat×qB)):(t:Ty)->t.den->Option (DU t).den
 | .rl _ u,x=>WV H u x
 | .pair a b,x=>CS (yY H a x.1) (yY H b x.2)
 | .bool,x=>some x
 | .int _,x=>some x
 | .str,x=>some x
 | .list _,x=>some x
 | .unit,x=>some x
 | .ref,x=>some x
 | .clo,x=>some x
 | .mp,x=>some x
 | .mref,x=>some x
 | .fn,x=>some x
 | .ap,x=>some x
@[go_sem] def WW:pQ->pN
 |some p=>[p]
 |none=>[]
@[go_sem] def yZ:(t:Ty)->t.den->pN
 | .rl _ _,x=>WW x
 | .pair a b,x=>qT (yZ a x.1) (yZ b x.2)
 |_,_=>[]
@[go_sem] def RL (k n:Nat):Option qB->Option (Prop×qB)
 |some (.row e t _ m)=>some (n=m,.grow e t.cells m)
 |_=>none
@[go_sem] def I3 (k:Nat):Option (Prop×qB)->Option (List Prop×List (Nat×qB))->Option (List Prop×List (Nat×qB))
 |some (p,b),some (ps,bs)=>some (p::ps,(k,b)::bs)
 |_,_=>none
@[go_sem] def NE (k:Nat):pN->Bool
 |[]=>false
 |(j,_)::r=>if j=k then true else NE k r
@[go_sem] def zY (H:List (Nat×qB)):pN->Option (List Prop×List (Nat×qB))
 |[]=>some ([],[])
 |(k,n)::r=>if NE k r=true then none else I3 k (RL k n (qE H k)) (zY H r)
@[go_sem] def RM (t:Ty) (i:Nat):Option (List Prop×List (Nat×qB))->Option t.den->Option qP
 |some (ps,bs),some y=>some ⟨ps,(.val t y,none),bs,i::qH bs⟩
 |_,_=>none
@[go_sem] def RN (H:List (Nat×qB)) (t:Ty) (i off:Nat) (v:Ty) (x:v.den):Option (DU v).den->Option qP
 |some z=>RM t i (zY H (yZ v x)) (qZ t (DU v) z off)
 |none=>none
@[go_sem] def I4 (H:List (Nat×qB)) (t:Ty) (i off:Nat):Option qB->Option qP
 |some (.cells v x _)=>RN H t i off v x (yY H v x)
 |_=>none
@[go_sem] def orS (H:List (Nat×qB)) (t:Ty) (i off:Nat) (b:Option qB):Option qP->Option qP
 |some r=>some r
 |none=>FM H t i off b
@[go_sem] def RO (H:List (Nat×qB)):Option TI->qC->Option qP
 |some ti,(.elt k n c i o,_)=>ND ti.ty k n c i o (qE H k)
 |some ti,(.at u x,_)=>if u=ti.ty then some ⟨[],(.val u x,none),[],[]⟩ else none
 |some ti,(.val .ref (some (i,off)),_)=>if ti.elem=VX then I4 H ti.ty i off (qE H i) else orS H ti.ty i off (qE H i) (orE (NC ti.ty i off (qE H i)) (RI i off ti (qE H i)))
 |_,_=>none
@[go_sem] def KW (u:Ty) (i:Nat) (toks:pN):Option u.den->Option qP
 |some z=>some ⟨[],(.any,none),[(i,.cells u z toks)],[i]⟩
 |none=>none
@[go_sem] def RP (t:Ty) (y:t.den) (k:pR) (i off:Nat):Option qB->Option qP
 |some (.cells u x toks)=>KW u i (qT (wJ (CQ t k) off) (t6 toks off t.cells)) (sD t y u x off)
 |_=>none
@[go_sem] def KX (off:Nat):pN->pN
 |[]=>[]
 |(o,k)::r=>(off+o,k)::KX off r
@[go_sem] def a9n (u:Ty) (i:Nat) (nt toks:pN) (bs:List (Nat×qB)):Option u.den->Option qP
 |some z=>some ⟨[],(.any,none),(i,.cells u z (qT nt toks))::qT bs [(i,.cells u z toks)],[i]⟩
 |none=>none
@[go_sem] def RQ (t:Ty) (y:t.den) (ls:List (Nat×TypeId×Nat)) (base i off:Nat):Option qB->Bool->Option qP
 |some (.cells u x toks),true=>a9n u i (KX off (AG ls base)) (t6 toks off t.cells) (BQ ls base) (sD t y u x off)
 |_,_=>none
@[go_sem] def DW (base i off:Nat) (b:Option qB):List (Nat×TypeId×Nat)->(t:Ty)->t.den->pR->Option qP
 |q::r,.pair a c,y,some k=>RQ (.pair a c) y (AH k (q::r)) base i off b (CU (.pair a c) (AH k (q::r)))
 |_,t,y,k=>RP t y k i off b
@[go_sem] def I5:Ty->Bool
 | .rl _ _=>true
 | .pair a b=>I5 a||I5 b
 |_=>false
@[go_sem] def RR (base:Nat) (sd:List Prop) (s:qC) (i:Nat) (v:Ty) (ts:pN) (U:List (Nat×qB)) (R:List (Nat×Nat×Ty)):Option v.den->Option qP
 |some z=>some ⟨sd,s,(i,.cells v z ts)::qT (CV R base) U,[i]⟩
 |none=>none
@[go_sem] def RS (n:Nat):List (Nat×qB)->Bool
 |[]=>true
 |(i,_)::r=>if i<n then RS n r else false
@[go_sem] def NF (base:Nat):Option qP->Option qP
 |some ⟨sd,s,(i,.cells v z ts)::U,_⟩=>if RS base ((i,.cells v z ts)::U)=true then RR base sd s i v ts ((i,.cells v z ts)::U) (xY v z 0) (zW v base (xY v z 0) (some z)) else none
 |_=>none
@[go_sem] def WX (base:Nat) (e:Option qP):Bool->Option qP
 |true=>NF base e
 |false=>e
@[go_sem] def RT (i k n m e:Nat) (u v:Ty) (l:List u.den) (ts:pN):Option v.den->Option qP
 |some z=>some ⟨[n=m],(.any,none),[(i,.cells v z ts),(k,.grow e u.cells m)],[i,k]⟩
 |none=>none
@[go_sem] def NH (i off k n:Nat) (u v:Ty) (x:v.den) (ts:pN):Option qB->Option qP
 |some (.row e t l m)=>if h:t=u then RT i k n m e t v l ts (sD (.list t) l v x off) else none
 |_=>none
@[go_sem] def RU:Option pQ->Nat×Nat
 |some (some p)=>p
 |_=>(0,0)
@[go_sem] def a9o (i j o:Nat) (r3 r4:Nat×Nat):Option (List Prop×(Nat×Nat×(Nat×Nat)×(Nat×Nat))):=
 if j=i then(if o=6 then some ([],(1,i,r3,r4)) else if o=7 then some ([],(2,i,r3,r4)) else none) else none
@[go_sem] def a9p (i k n c o:Nat) (ix:Int) (r3 r4:Nat×Nat):Option (List Prop×(Nat×Nat×(Nat×Nat)×(Nat×Nat))):=
 if c=1 then(if o=0 then(if k=r3.1 then some ([n=r3.2,ix+1=(n:Int)],(3,i,(k,r3.2),r4)) else none) else none)
 else if c=2 then(if o=1 then(if k=r4.1 then some ([n=r4.2,ix+1=(n:Int)],(4,i,r3,(k,r4.2))) else none) else none) else none
@[go_sem] def RV (i:Nat):DV->Nat×Nat->Nat×Nat->Option (List Prop×(Nat×Nat×(Nat×Nat)×(Nat×Nat)))
 | .val .ref (some (j,o)),r3,r4=>a9o i j o r3 r4
 | .elt k n c ix o,r3,r4=>a9p i k n c o ix r3 r4
 |_,_,_=>none
@[go_sem] def WY (i off:Nat) (v:Ty) (ts:pN) (sd:List Prop):Option v.den->Option qP
 |some z=>some ⟨sd,(.any,none),[(i,.cells v z (t6 ts off 1))],[i]⟩
 |none=>none
@[go_sem] def WZ (i off:Nat) (v:Ty) (x:v.den) (ts:pN):Option (List Prop×(Nat×Nat×(Nat×Nat)×(Nat×Nat)))->Option qP
 |some (sd,y)=>WY i off v ts sd (sD .ap y v x off)
 |none=>none
@[go_sem] def X0 (i off:Nat) (d:DV):Ty->Option qB->Option qP
 | .ap,some (.cells v x ts)=>WZ i off v x ts (RV i d (RU (AE v x 8)) (RU (AE v x 11)))
 |_,_=>none
@[go_sem] def a9q (k n m:Nat) (e:TypeId) (t:Ty) (l:List t.den) (i:Int):Option t.den->Option qP
 |some z=>some ⟨[n=m],(.any,none),[(k,.row e t (l.set i.toNat z) m)],[k]⟩
 |none=>none
@[go_sem] def RW (u:Ty) (y:u.den) (k n c:Nat) (i:Int) (o:Nat):Option qB->Option qP
 |some (.row e t l m)=>if c=t.cells then a9q k n m e t l i (sD u y t (qR t l i) o) else none
 |_=>none
@[go_sem] def X1 (b:Ty) (y:b.den):Option (Σ t:Ty,t.den)->Option (Σ t:Ty,t.den)
 |some ⟨a,x⟩=>some ⟨.pair a b,(x,y)⟩
 |none=>none
@[go_sem] def X2 (a:Ty) (x:a.den):Option (Σ t:Ty,t.den)->Option (Σ t:Ty,t.den)
 |some ⟨b,y⟩=>some ⟨.pair a b,(x,y)⟩
 |none=>none
@[go_sem] def wZ (e:Nat) (u:Ty) (kn:pQ):(t:Ty)->t.den->Nat->Option (Σ t:Ty,t.den)
 | .list v,_,0=>if v=u then some ⟨.rl e u,kn⟩ else none
 | .pair a b,x,o=>if o<a.cells then X1 b x.2 (wZ e u kn a x.1 o) else X2 a x.1 (wZ e u kn b x.2 (o-a.cells))
 |_,_,_=>none
@[go_sem] def X3 (i:Nat):Option (Σ t:Ty,t.den)->Option qP
 |some ⟨v,z⟩=>some ⟨[],(.any,none),[(i,.cells v z [])],[1000000000,i]⟩
 |none=>none
@[go_sem] def a9r (H:List (Nat×qB)) (i off k n e:Nat) (u v:Ty) (x:v.den) (ts:pN):List (Nat×TypeId×Nat)->Option qP
 |[]=>X3 i (wZ e u (some (k,n)) v x off)
 |_::_=>NH i off k n u v x (t6 ts off 1) (qE H k)
@[go_sem] def X4 (H:List (Nat×qB)) (i off k n e:Nat) (u v:Ty) (x:v.den) (ts:pN) (ls:List (Nat×TypeId×Nat)):Option qP->Option qP
 |some r=>some r
 |none=>a9r H i off k n e u v x ts ls
@[go_sem] def KY (H:List (Nat×qB)) (i off k n:Nat):TI->Option qB->Option qP
 |⟨.list u,e,_,_,ls⟩,some (.cells v x toks)=>X4 H i off k n e u v x toks ls (KW v i (t6 toks off 1) (sD (.rl e u) (some (k,n)) v x off))
 |_,_=>none
@[go_sem] def RX (base:Nat) (H:List (Nat×qB)):Option TI->qC->qC->Option qP
 |some ti,(.val .ref (some (i,off)),_),(.own k n,_)=>KY H i off k n ti (qE H i)
 |some ti,(.val .ref (some (i,off)),_),(.apd d,_)=>X0 i off d ti.ty (qE H i)
 |some ti,(.elt k n c i o,_),(.val t y,_)=>if t=ti.ty then RW t y k n c i o (qE H k) else none
 |some ti,(.val .ref (some (i,off)),_),(.val t y,k)=>if t=ti.ty then WX (base+16) (DW base i off (qE H i) ti.ls t y k) (I5 t) else none
 |_,_,_=>none
@[go_sem] def X5:qC->Option qP
 |(.val .ref (some p),_)=>some ⟨[],(.val .ref (some p),none),[],[]⟩
 |(.at t x,_)=>some ⟨[],(.at t x,none),[],[]⟩
 |(.elt k n c i o,_)=>some ⟨[],(.elt k n c i o,none),[],[]⟩
 |_=>none
@[go_sem] def a9s (f:FuncId):Option pN->Option qP
 |some l=>some ⟨[],(.val .clo (some (f,l)),none),[],[]⟩
 |none=>none
@[go_sem] def aIz (f:FuncId) (l:Option pN):List Operand->Option qP
 |[]=>a9s f l
 |_=>none
@[go_sem] def RY (side:List Prop):Option (Σ t:Ty,t.den)->Option qP
 |some ⟨t,x⟩=>if 0<t.cells then some ⟨side,(.at t x,none),[],[]⟩ else none
 |none=>none
@[go_sem] def RZ (side:List Prop) (i off:Nat):pR->Option Ty->Option qP
 |some o,some u=>if 0<u.cells then some ⟨side,(.val .ref (some (i,off+o)),none),[],[]⟩ else none
 |_,_=>none
@[go_sem] def a9t (k n c:Nat) (i:Int) (o:Nat):pR->Option Ty->Option qP
 |some q,some u=>if 0<u.cells then some ⟨[],(.elt k n c i (o+q),none),[],[]⟩ else none
 |_,_=>none
@[go_sem] def X6 (f:Nat):Option TI->qC->Option qP
 |some ⟨t,_,_,false,_⟩,(.elt k n c i o,_)=>a9t k n c i o (t.offs f) (t.fld f)
 |some ⟨t,_,_,false,_⟩,(.at u y,_)=>if u=t then RY [] (u.proj y f) else none
 |some ⟨t,_,_,false,_⟩,(.val .ref (some (i,off)),_)=>RZ [] i off (t.offs f) (t.fld f)
 |_,_=>none
@[go_sem] def aIA:Option (Σ t:Ty,t.den)->Option qP
 |some ⟨t,x⟩=>some ⟨[],(.val t x,none),[],[]⟩
 |none=>none
@[go_sem] def X7 (f:Nat):Option TI->qC->Option qP
 |some ⟨t,_,_,false,_⟩,(.val u y,_)=>if u=t then aIA (u.proj y f) else none
 |_,_=>none
@[go_sem] def X8:Option TI->qC->qC->Option qP
 |some ⟨.list t',_,_,_,_⟩,(.own k n,_),(.val (.int _) i,_)=>if 0<t'.cells then some ⟨[0<=i/\i<(n:Int)],(.elt k n t'.cells i 0,none),[],[]⟩ else none
 |some ⟨.list t',_,_,_,_⟩,(.val (.list t) l,_),(.val (.int _) i,_)=>if t=t' then some ⟨[0<=i/\i<(List.length l:Int)],(.at t (qR t l i),none),[],[]⟩ else none
 |some ⟨.pair a b,_,_,true,_⟩,(.val .ref (some (i,off)),_),(.val (.int _) n,_)=>RZ [(0:Int)<=n] i off ((Ty.pair a b).offs (Int.toNat n)) ((Ty.pair a b).fld (Int.toNat n))
 |some ⟨.pair a b,_,_,true,_⟩,(.at u x,_),(.val (.int _) n,_)=>if u= .pair a b then RY [(0:Int)<=n] (u.proj x (Int.toNat n)) else none
 |_,_,_=>none
@[go_sem] def X9:Option TI->qC->qC->Option qP
 |some ⟨.str,_,_,_,_⟩,(.val .str l,_),(.val (.int _) i,_)=>some ⟨[0<=i/\i<(List.length l:Int)],(.val (.int .u8) (rY l i),none),[],[]⟩
 |_,_,_=>none
@[go_sem] def aIB (e:Nat) (u:Ty):pQ->qC
 |some (k,n)=>(.own k n,none)
 |none=>(.val (.rl e u) none,none)
@[go_sem] def aIC:(t:Ty)->t.den->pR->qC
 | .rl e u,x,_=>aIB e u x
 | .bool,x,k=>(.val .bool x,k)
 | .int i,x,k=>(.val (.int i) x,k)
 | .str,x,k=>(.val .str x,k)
 | .list u,x,k=>(.val (.list u) x,k)
 | .unit,x,k=>(.val .unit x,k)
 | .pair a b,x,k=>(.val (.pair a b) x,k)
 | .ref,x,k=>(.val .ref x,k)
 | .clo,x,k=>(.val .clo x,k)
 | .mp,x,k=>(.val .mp x,k)
 | .mref,x,k=>(.val .mref x,k)
 | .ap,x,k=>(.val .ap x,k)
 | .fn,x,k=>(.val .fn x,k)
@[go_sem] def S0:List ((Σ t:Ty,t.den)×pR)->Nat->Option qP
 |[],_=>none
 |(⟨t,x⟩,k)::_,0=>some ⟨[],aIC t x k,[],[]⟩
 |_::r,n+1=>S0 r n
@[go_sem] def a9u (b:Bool) (p c:Int):Nat->Option qP
 |0=>some ⟨[],(.val .bool b,none),[],[]⟩
 |1=>some ⟨[b=true],(.val (.int .i64) p,none),[],[]⟩
 |2=>some ⟨[b=true],(.val (.int .i32) c,none),[],[]⟩
 |_=>none
@[go_sem] def XA (i:Nat):qC->Option qP
 |(.tup l,_)=>S0 l i
 |(.nxt b p c,_)=>a9u b p c i
 |_=>none
@[go_sem] def S1 (i:Nat):Option qB->Option qP
 |some (.map _ _ l)=>some ⟨[],(.val (.int .i64) (List.length l:Int),none),[],[i]⟩
 |_=>none
@[go_sem] def XB (H:List (Nat×qB)):Option TI->List qC->Option qP
 |some ⟨.mp,_,_,_,_⟩,[(.val .mp (some i),_)]=>S1 i (qE H i)
 |some ⟨.str,_,_,_,_⟩,[(.val .str l,_)]=>some ⟨[],(.val (.int .i64) (List.length l:Int),none),[],[]⟩
 |some ⟨.list _,_,_,_,_⟩,[(.val (.list _) l,_)]=>some ⟨[],(.val (.int .i64) (List.length l:Int),none),[],[]⟩
 |some ⟨.list _,_,_,_,_⟩,[(.own _ n,_)]=>some ⟨[],(.val (.int .i64) (n:Int),none),[],[]⟩
 |_,_=>none
@[go_sem] def S2 (a:Ty) (l r:List a.den) (k e' by':Nat):Option qB->Option qP
 |some (.grow e c n)=>if e=e'/\c=a.cells/\0<c/\0<by' then some ⟨[List.length l=n,(List.length l+List.length r)*by'<=140737488355328],(.val (.list a) (l++r),some k),[(k,.grow e c (List.length (l++r)))],[k]⟩ else none
 |_=>none
@[go_sem] def S3 (b:Ty) (r:List b.den) (k n e' by':Nat):Option qB->Option qP
 |some (.row e t l m)=>if h:b=t then(if e=e'/\0<t.cells/\0<by' then some ⟨[n=m,(n+List.length r)*by'<=140737488355328],(.own k (List.length (l++tJ (t:= .list b) (u:= .list t) (by rw[h]) r)),none),[(k,.row e t (l++tJ (t:= .list b) (u:= .list t) (by rw[h]) r) (List.length (l++tJ (t:= .list b) (u:= .list t) (by rw[h]) r)))],[k]⟩ else none) else none
 |_=>none
@[go_sem] def S4 (H:List (Nat×qB)):Option TI->List qC->Option qP
 |some ⟨.list u,e,by',_,_⟩,[(.own k n,_),(.val (.list b) r,_)]=>if b=u then S3 b r k n e by' (qE H k) else none
 |some ⟨.list u,e,by',_,_⟩,[(.val (.list a) l,some k),(.val (.list b) r,_)]=>if h:b=a/\a=u then S2 a l (tJ (t:= .list b) (u:= .list a) (by rw[h.1]) r) k e by' (qE H k) else none
 |_,_=>none
@[go_sem] def S5 (mx:Bool):List qC->Option (List Prop×DV)
 |[(.val (.int k) a,_),(.val (.int k') b,_)]=>if k=k' then some ([],.val (.int k) (if mx then max (a:Int) b else min (a:Int) b)) else none
 |_=>none
@[go_sem] def XC:pN->List qC
 |[]=>[]
 |c::r=>(.val .ref (some c),none)::XC r
@[go_sem] def S6 (H:List (Nat×qB)) (base:Nat) (args:List qC) (g:r7):Option ((t:Ty)->List t.den->Option (List t.den))->Option qP
 |some F=>RD H F args
 |none=>a9d H base args g (N6 g.ps args)
@[go_sem] def I6 (H:List (Nat×qB)) (base:Nat) (args:List qC):Option r7->Option qP
 |some g=>S6 H base args g g.row
 |none=>none
@[go_sem] def FN (Γ:sS) (f:Nat):Option r7:=if f<1000000000 then Γ f else none
@[go_sem] def I7 (Γ:sS) (H:List (Nat×qB)) (base:Nat) (args:List qC):qC->Option qP
 |(.val .clo (some (f,caps)),_)=>I6 H base (args++XC caps) (FN Γ f)
 |(.val .fn (some f),_)=>I6 H base args (FN Γ f)
 |_=>none
@[go_sem] def zZ (T:sG) (ρ:Operand->qC):List Operand->List TypeId->List qC
 |x::xs,t::ts=>KO (rS T t) (ρ x)::zZ T ρ xs ts
 |_,_=>[]
@[go_sem] def uO (ρ:Operand->qC):List Operand->List qC
 |[]=>[]
 |x::xs=>ρ x::uO ρ xs
@[go_sem] def tP (ρ:Operand->qC):List (Nat×Operand)->List (Nat×qC)
 |[]=>[]
 |(i,x)::xs=>(i,ρ x)::tP ρ xs
@[go_sem] def y5 (ρ:Operand->qC):Option Operand->Option qC
 |some x=>some (ρ x)
 |none=>none
@[go_sem] def S7 (T:sG) (H:List (Nat×qB)) (ss:List qC):List TypeId->Option qP
 |t::_=>XB H (rS T t) ss
 |[]=>none
@[go_sem] def S8 (l:pO) (s:pE) (k e':Nat):Option qB->Option qP
 |some (.grow e c n)=>if e=e'/\c=1 then some ⟨[List.length l=n,List.length l+List.length s<=140737488355328],(.val (.list (.int .u8)) (l++tX s),some k),[(k,.grow e c (List.length (l++tX s)))],[k]⟩ else none
 |_=>none
@[go_sem] def XD (H:List (Nat×qB)):Option TI->Option TI->List qC->Option qP
 |some ⟨.list (.int .u8),e,1,_,_⟩,some ⟨.str,_,_,_,_⟩,[(.val (.list (.int .u8)) l,some k),(.val .str s,_)]=>S8 l s k e (qE H k)
 |_,_,_=>none
@[go_sem] def S9 (T:sG) (H:List (Nat×qB)) (ss:List qC):List TypeId->Option qP
 |[t,u]=>if t=u then S4 H (rS T t) ss else XD H (rS T t) (rS T u) ss
 |_=>none
@[go_sem] def I8:List Operand->List TypeId->Bool
 |[],[]=>true
 |_::xs,_::ts=>I8 xs ts
 |_,_=>false
@[go_sem] def XE:List qC->Option TI->Option qP
 |[(.val .ref (some p),_)],some ⟨.ap,_,_,_,_⟩=>some ⟨[],(.apd (.val .ref (some p)),none),[],[]⟩
 |[(.elt k n c ix o,_)],some ⟨.ap,_,_,_,_⟩=>some ⟨[],(.apd (.elt k n c ix o),none),[],[]⟩
 |_,_=>none
@[go_sem] def a9v (args:List qC) (ti:Option TI):pN->Option qP
 |[]=>XE args ti
 |_=>none
@[go_sem] def NI (c:Nat) (y1 y2 y3 y4:pE):pE:=if c=1 then y1 else if c=2 then y2 else if c=3 then y3 else y4
@[go_sem] def NJ (b:Bool) (z y:pE):pE:=if b=true then z else y
abbrev DX:Ty:= .pair .str (.pair .str .unit)
def FO (l:pF):pE:=l.getD (l.length-1) []
def KZ (l:List (pE×pE×Unit)):pE:=(l.getD (l.length-1) ([],[],())).2.1
def FP (b:Bool) (z:pE) (l:pF):pF:=if b=true then l.set (l.length-1) z else l
def I9 (b:Bool) (z:pE) (l:List (pE×pE×Unit)):List (pE×pE×Unit):=if b=true then l.set (l.length-1) ((l.getD (l.length-1) ([],[],())).1,z,()) else l
@[go_sem] def XF (c i k3 n3 k4 n4:Nat) (u:Ty) (ts:pN) (e3:Nat) (l3:pF) (m3 e4:Nat) (l4:List (pE×pE×Unit)) (m4:Nat) (z:pE) (b:Bool) (sd:List Prop):Option u.den->Option qP
 |some x=>some ⟨(c≠0)::(n3=m3)::(n4=m4)::((z.length:Int)<=9223372036854775807)::sd,(.val .bool b,none),[(i,.cells u x (t6 (t6 ts 6 1) 7 1)),(k3,.row e3 .str (FP (b&&decide (c=3)) z l3) m3),(k4,.row e4 DX (I9 (b&&decide (4<=c)) z l4) m4)],[i,k3,k4]⟩
 |none=>none
@[go_sem] def a9w {u:Ty}(b:Bool) (z:pE) (o:Nat) (x:u.den):Option pE->Option u.den
 |some y=>sD .str (NJ b z y) u x o
 |none=>none
@[go_sem] def L1 {u:Ty}(b:Bool) (z:pE) (o:Nat):Option u.den->Option u.den
 |some x=>a9w b z o x (qZ .str u x o)
 |none=>none
@[go_sem] def XG (c i k3 n3 k4 n4:Nat) (u:Ty) (x:u.den) (ts:pN) (e3:Nat) (l3:pF) (m3 e4:Nat) (l4:List (pE×pE×Unit)) (m4:Nat) (z:pE):Option qJ->Option qP
 |some ⟨sd,[(.val .bool b,none)],[]⟩=>XF c i k3 n3 k4 n4 u ts e3 l3 m3 e4 l4 m4 z b sd (L1 (b&&decide (c=2)) z 7 (L1 (b&&decide (c=1)) z 6 (some x)))
 |_=>none
@[go_sem] def XH (Γ:sS) (c i k3 n3 k4 n4:Nat) (s:pE) (u:Ty) (x:u.den) (ts:pN) (e3:Nat) (l3:pF) (m3 e4:Nat) (l4:List (pE×pE×Unit)) (m4:Nat):Option r7->Option pE->Option pE->Option qP
 |some g,some y1,some y2=>XG c i k3 n3 k4 n4 u x ts e3 l3 m3 e4 l4 m4 (NI c y1 y2 (FO l3) (KZ l4)++s) (g.C [(.val .str (NI c y1 y2 (FO l3) (KZ l4)++s),none)] [])
 |_,_,_=>none
@[go_sem] def XI (Γ:sS) (c i k3 n3 k4 n4:Nat) (s:pE) (u:Ty) (x:u.den) (ts:pN):Option qB->Option qB->Option qP
 |some (.row e3 .str l3 m3),some (.row e4 (.pair .str (.pair .str .unit)) l4 m4)=>XH Γ c i k3 n3 k4 n4 s u x ts e3 l3 m3 e4 l4 m4 (FN Γ DP) (qZ .str u x 6) (qZ .str u x 7)
 |_,_=>none
@[go_sem] def XJ (i k3 k4:Nat):Bool:=if i=k3 then false else if i=k4 then false else if k3=k4 then false else true
@[go_sem] def SA (Γ:sS) (H:List (Nat×qB)) (c i k3 n3 k4 n4:Nat) (s:pE):Option qB->Bool->Option qP
 |some (.cells u x ts),true=>XI Γ c i k3 n3 k4 n4 s u x ts (qE H k3) (qE H k4)
 |_,_=>none
@[go_sem] def IA (Γ:sS) (H:List (Nat×qB)):Nat×Nat×(Nat×Nat)×(Nat×Nat)->List qC->Option TI->Option qP
 |(c,i,(k3,n3),(k4,n4)),[(.val .str s,_)],some ⟨.ap,_,_,_,_⟩=>SA Γ H c i k3 n3 k4 n4 s (qE H i) (XJ i k3 k4)
 |_,_,_=>none
@[go_sem] def XK (T:sG) (Γ:sS) (base:Nat) (H:List (Nat×qB)) (args:List qC) (f:Nat) (caps:pN):Option qP:=
 if f=FG then a9v args (rS T HR) caps else I7 Γ H base args (.val .clo (some (f,caps)),none)
@[go_sem] def L2 (T:sG) (Γ:sS) (base:Nat) (H:List (Nat×qB)) (args:List qC):qC->Option qP
 |(.val .ap x,_)=>IA Γ H x args (rS T HR)
 |(.val .clo (some (f,caps)),_)=>XK T Γ base H args f caps
 |s=>I7 Γ H base args s
@[go_sem] def XL (T:sG) (Γ:sS) (ρ:Operand->qC) (base:Nat) (H:List (Nat×qB)) (args:List Operand) (tys:List TypeId) (f:qC):Bool->Option qP
 |true=>L2 T Γ base H (zZ T ρ args tys) f
 |false=>none
@[go_sem] def IB (T:sG) (Γ:sS) (ρ:Operand->qC) (base:Nat) (H:List (Nat×qB)) (args:Array Operand) (tys:Array TypeId):Callee->Option qP
 | .builtin .len=>S7 T H (uO ρ args.toList) tys.toList
 | .builtin .append=>S9 T H (uO ρ args.toList) tys.toList
 | .builtin .max=>yU (S5 true (uO ρ args.toList))
 | .builtin .min=>yU (S5 false (uO ρ args.toList))
 | .value f=>XL T Γ ρ base H args.toList tys.toList (ρ f) (I8 args.toList tys.toList)
 |_=>none
@[go_sem] def BR:Ty->Bool
 | .int _| .str| .bool=>true
 |_=>false
def DY:(k:Ty)->k.den->k.den->Bool
 | .int _,a,b=>decide ((a:Int)=b)
 | .str,a,b=>decide ((a:pE)=b)
 | .bool,a,b=>a==b
 |_,_,_=>false
def uA (k v:Ty):List (k.den×v.den)->k.den->v.den
 |[],_=>v.zero
 |(x,y)::r,a=>if DY k a x=true then y else uA k v r a
def CW (k v:Ty):List (k.den×v.den)->k.den->Bool
 |[],_=>false
 |(x,_)::r,a=>if DY k a x=true then true else CW k v r a
def tU (k v:Ty) (a:k.den) (b:v.den):List (k.den×v.den)->List (k.den×v.den)
 |[]=>[(a,b)]
 |(x,y)::r=>if DY k a x=true then(a,b)::r else(x,y)::tU k v a b r
@[go_sem] def a9x (base:Nat):Option TI->Option TI->Option qP
 |some k,some v=>if BR k.ty=true then some ⟨[],(.val .mp (some base),none),[(base,.map k.ty v.ty [])],[]⟩ else none
 |_,_=>none
@[go_sem] def XM (T:sG) (base:Nat):Option TI->Option Operand->Option qP
 |some ⟨.mp,e,f,_,_⟩,none=>a9x base (rS T e) (rS T f)
 |_,_=>none
@[go_sem] def SB (k:Ty) (a:k.den) (u:Ty) (i:Nat) (ok:Bool):Option qB->Option qP
 |some (.map k' v l)=>if h:k=k'/\v=u then(if BR k=true then(match ok with
   |true=>some ⟨[],(.tup [(⟨v,uA k' v l (tJ h.1 a)⟩,none),(⟨.bool,CW k' v l (tJ h.1 a)⟩,none)],none),[],[i]⟩
   |false=>some ⟨[],(.val v (uA k' v l (tJ h.1 a)),none),[],[i]⟩) else none) else none
 |_=>none
@[go_sem] def XN (H:List (Nat×qB)) (ok:Bool) (i:Nat):Option TI->Option TI->qC->Option qP
 |some kt,some vt,(.val k a,_)=>if k=kt.ty then SB k a vt.ty i ok (qE H i) else none
 |_,_,_=>none
@[go_sem] def a9y (ok:Bool):Option TI->Option TI->qC->Option qP
 |some kt,some vt,(.val k _,_)=>if k=kt.ty then(if BR k=true then(match ok with
   |true=>some ⟨[],(.tup [(⟨vt.ty,vt.ty.zero⟩,none),(⟨.bool,false⟩,none)],none),[],[]⟩
   |false=>some ⟨[],(.val vt.ty vt.ty.zero,none),[],[]⟩) else none) else none
 |_,_,_=>none
@[go_sem] def SC (T:sG) (H:List (Nat×qB)) (ok:Bool):Option TI->qC->qC->Option qP
 |some ⟨.mp,e,f,_,_⟩,(.val .mp (some i),_),s=>XN H ok i (rS T e) (rS T f) s
 |some ⟨.mp,e,f,_,_⟩,(.val .mp none,_),s=>a9y ok (rS T e) (rS T f) s
 |_,_,_=>none
@[go_sem] def L3 (k:Ty) (a:k.den) (u:Ty) (b:u.den) (i:Nat):Option qB->Option qP
 |some (.map k' v l)=>if h:k=k'/\u=v then(if BR k=true then some ⟨[],(.any,none),[(i,.map k' v (tU k' v (tJ h.1 a) (tJ h.2 b) l))],[i]⟩ else none) else none
 |_=>none
@[go_sem] def SD (H:List (Nat×qB)) (i:Nat):Option TI->qC->qC->Option qP
 |some kt,(.val k a,_),(.val u b,_)=>if k=kt.ty then L3 k a u b i (qE H i) else none
 |_,_,_=>none
@[go_sem] def a9z:Option TI->qC->qC
 |some ⟨.fn,_,_,_,_⟩,(.val .clo (some (f,[])),_)=>(.val .fn (some f),none)
 |_,s=>s
@[go_sem] def SE (T:sG):Option TI->qC->qC
 |some ⟨.mp,_,f,_,_⟩,s=>a9z (rS T f) s
 |_,s=>s
@[go_sem] def L4 (T:sG) (H:List (Nat×qB)):Option TI->qC->qC->qC->Option qP
 |some ⟨.mp,e,_,_,_⟩,(.val .mp (some i),_),s,x=>SD H i (rS T e) s x
 |_,_,_,_=>none
def w7 (s:pE) (p:Nat):Int:=((Utf8.decode ⟨s.toArray⟩ p).1:Int)
def XO (s:pE) (p:Nat):Nat:=(Utf8.decode ⟨s.toArray⟩ p).2
def z6 (s:pE) (p:Nat):Nat:=if p<s.length then p+XO s p else p
@[go_sem] def XP (base:Nat):Option TI->qC->Option qP
 |some ⟨.str,_,_,_,_⟩,(.val .str s,_)=>some ⟨[],(.val .ref (some (base,0)),none),[(base,.iter s 0)],[]⟩
 |_,_=>none
@[go_sem] def XQ (i:Nat):Option qB->Option qP
 |some (.iter s p)=>some ⟨[],(.nxt (decide (p<List.length s)) ((p:Nat):Int) (w7 s p),none),[(i,.iter s (z6 s p))],[i]⟩
 |_=>none
@[go_sem] def SF (H:List (Nat×qB)):Bool->qC->Option qP
 |true,(.val .ref (some (i,0)),_)=>XQ i (qE H i)
 |_,_=>none
@[go_sem] def tQ (T:sG) (Γ:sS) (ty:TypeId) (ρ:Operand->qC) (base:Nat) (H:List (Nat×qB)):Op->Option qP
 | .move x| .assign x=>WG base (rS T ty) (ρ x)
 | .alloc e=>NB base e (rS T e)
 | .box e x=>WL base e (rS T e) (ρ x)
 | .build t ps=>WO (tP ρ ps.toList) (rS T t)
 | .buildSlice t n ps=>WP base n (tP ρ ps.toList) (rS T t)
 | .load t a=>RO H (rS T t) (ρ a)
 | .store t a x=>RX base H (rS T t) (ρ a) (KO (rS T t) (ρ x))
 | .nilCheck x=>X5 (ρ x)
 | .binOp op t x y _=>yU (W6 (QX op (rS T t) (ρ x) (ρ y)) (W6 (QW op (ρ x) (ρ y)) (W5 (rS T t) op (ρ x) (ρ y))))
 | .unOp op _ x=>yU (W7 op (ρ x))
 | .convert src dst x=>yU (W6 (QZ (rS T src) (rS T dst) (ρ x)) (W8 T (rS T src) (rS T dst) (ρ x)))
 | .makeFunc (.func f) first caps=>aIz f (HT (uO ρ caps.toList)) first.toList
 | .slice t x lo hi none=>yU (W9 (rS T t) (ρ x) (y5 ρ lo) (y5 ρ hi))
 | .fieldAddr t x f=>X6 f (rS T t) (ρ x)
 | .field t x f=>X7 f (rS T t) (ρ x)
 | .indexAddr t x ix=>X8 (rS T t) (ρ x) (ρ ix)
 | .index t x ix=>X9 (rS T t) (ρ x) (ρ ix)
 | .extract x i=>XA i (ρ x)
 | .makeMap t r=>XM T base (rS T t) r
 | .range t x=>XP base (rS T t) (ρ x)
 | .next x b=>SF H b (ρ x)
 | .lookup t x i ok=>SC T H ok (rS T t) (ρ x) (ρ i)
 | .mapUpdate t m k x=>L4 T H (rS T t) (ρ m) (ρ k) (SE T (rS T t) (ρ x))
 | .insert t m k x=>L4 T H (rS T t) (ρ m) (ρ k) (SE T (rS T t) (ρ x))
 | .call c=>IB T Γ ρ base H c.args c.argTypes c.callee
 |_=>none
@[go_sem] def wP:qC->qC
 |(.cond _ d,_)=>(d,none)
 |s=>s
@[go_sem] def xJ (G:Bool):List qC->List Prop
 |[]=>[]
 |(.cond p _,_)::r=>(G=true->p=true)::xJ G r
 |_::r=>xJ G r
@[go_sem] def a9A (b:Bool):qC->Option Bool
 |(.val .bool c,_)=>some (c==b)
 |(.cond p (.val .bool c),_)=>some (p&&(c==b))
 |_=>none
@[go_sem] def yH:List Oper->Nat->Option Tmp
 |[],_=>none
 |o::_,0=>o.dst
 |_::r,n+1=>yH r n
@[go_sem] def DZ (env:List (Nat×qC)) (b:Bool):Option Tmp->Option Bool
 |some t=>a9A b (lk env t)
 |none=>none
@[go_sem] def a9B (b:Bool):qC->Bool
 |(.val .bool c,_)=>c==b
 |(.cond p (.val .bool c),_)=>p&&(c==b)
 |(.cond p .any,_)=>p
 |_=>true
@[go_sem] def IC (env:List (Nat×qC)) (b:Bool):Option Tmp->Bool
 |some t=>a9B b (lk env t)
 |none=>true
@[go_sem] def SG (j:Nat) (b:Bool):Nat:=1000000000+(2*j+if b=true then 1 else 0)
@[go_sem] theorem aPJ (x y:Bool):cond x y false=(x&&y):=by cases x<;>rfl
@[go_sem] theorem aPK (x y:Bool):cond x true y=(x||y):=by cases x<;>rfl
@[go_sem] def a9C (x:Bool):qC->qC->Option qP
 |(.val .bool y,_),(.val .bool z,_)=>some ⟨[],(.val .bool (cond x y z),none),[],[]⟩
 |(.cond p (.val .bool y),_),(.val .bool z,_)=>some ⟨[x=true->p=true],(.val .bool (cond x y z),none),[],[]⟩
 |(.val .bool y,_),(.cond p (.val .bool z),_)=>some ⟨[x=false->p=true],(.val .bool (cond x y z),none),[],[]⟩
 |(.cond q (.val .bool y),_),(.cond p (.val .bool z),_)=>some ⟨[x=true->q=true,x=false->p=true],(.val .bool (cond x y z),none),[],[]⟩
 |(.val .bool y,_),(.cond _ .any,_)=>some ⟨[x=true],(.val .bool y,none),[],[]⟩
 |(.cond q (.val .bool y),_),(.cond _ .any,_)=>some ⟨[x=true,q=true],(.val .bool y,none),[],[]⟩
 |(.cond _ .any,_),(.val .bool z,_)=>some ⟨[x=false],(.val .bool z,none),[],[]⟩
 |(.cond _ .any,_),(.cond p (.val .bool z),_)=>some ⟨[x=false,p=true],(.val .bool z,none),[],[]⟩
 |_,_=>none
@[go_sem] def NK:qC->qC->qC->Option qP
 |(.val .bool x,_),a,b=>a9C x a b
 |_,_,_=>none
@[go_sem] def sF:Op->List Operand
 | .move x| .assign x| .box _ x| .load _ x| .nilCheck x| .unOp _ _ x| .convert _ _ x| .fieldAddr _ x _| .field _ x _| .extract x _=>[x]
 | .build _ ps| .buildSlice _ _ ps=>parts ps.toList
 | .store _ a v| .binOp _ _ a v _| .indexAddr _ a v| .index _ a v=>[a,v]
 | .lookup _ a v _=>[a,v]
 | .range _ x| .next x _=>[x]
 | .mapUpdate _ m k x=>[m,k,x]
 | .insert _ m k x=>[m,k,x]
 | .makeFunc _ _ caps=>caps.toList
 | .slice _ x l h _=>x::qT (opt l) (opt h)
 | .call ⟨.value f,args,_⟩=>f::args.toList
 | .call ⟨_,args,_⟩=>args.toList
 |_=>[]
where
 parts:List (Nat×Operand)->List Operand
  |[]=>[]
  |(_,x)::r=>x::parts r
 opt:Option Operand->List Operand
  |some x=>[x]
  |none=>[]
attribute [go_sem] sF.parts sF.opt
@[go_sem] def L5 (l:List Prop):Option qP->Option qP
 |some e=>some ⟨qT l e.side,e.slot,e.upd,e.rds⟩
 |none=>none
@[go_sem] def NL (G:Bool):List Prop->List Prop
 |[]=>[]
 |p::r=>(G=true->p)::NL G r
@[go_sem] def FQ (G:Bool) (l:List Prop):Option qP->Option qP
 |some ⟨side,(d,_),[],rds⟩=>some ⟨qT l (NL G side),(.cond G d,none),[],rds⟩
 |some ⟨side,s,u::us,rds⟩=>some ⟨(G=true)::qT l (NL G side),s,u::us,rds⟩
 |none=>none
@[go_sem] def AI (env:List (Nat×qC)):List Operand->List qC
 |[]=>[]
 |x::r=>tE env x::AI env r
@[go_sem] def L6 (T:sG) (Γ:sS) (o:Oper) (s:St):Option Bool->Op->Option qP
 |some G,.pick c a b=>FQ G (xJ G [tE s.env c]) (NK (wP (tE s.env c)) (tE s.env a) (tE s.env b))
 |some G,op=>FQ G (xJ G (AI s.env (sF op))) (tQ T Γ o.type (fun x=>wP (tE s.env x)) s.nb s.H op)
 |none,_=>none
@[go_sem] def a9D:Op->Bool
 | .defer _=>true
 |_=>false
@[go_sem] def a9E (up:Bool):Bool->Option qP
 |true=>none
 |false=>some ⟨[up=false],(.cond false .any,none),[],[]⟩
@[go_sem] def NM (T:sG) (Γ:sS) (o:Oper) (s:St) (up:Bool) (g:Option Bool) (op:Op):Option r7->Option qP
 |some _=>a9E up (a9D op)
 |none=>L6 T Γ o s g op
@[go_sem] def L7 (T:sG) (Γ:sS) (o:Oper) (s:St):Op->Option qP
 | .pick c a b=>NK (tE s.env c) (tE s.env a) (tE s.env b)
 |op=>L5 (xJ true (AI s.env (sF op))) (tQ T Γ o.type (fun x=>wP (tE s.env x)) s.nb s.H op)
@[go_sem] def FR (np:Nat):List (Nat×qB)->Bool
 |[]=>true
 |(i,.cells _ _ _)::r=>if np<=i then FR np r else false
 |_::r=>FR np r
@[go_sem] def a9F (np:Nat) (e:qP):Bool->Option qP
 |true=>if FR np e.upd=true then some e else none
 |false=>some e
@[go_sem] def XR (np:Nat):Option qP->Option qP
 |some e=>a9F np e (FI e.rds)
 |none=>none
@[go_sem] def L8 (T:sG) (Γ:sS) (ops:List Oper) (o:Oper) (s:St):Option qP:=
 match o.guard with
 |none=>L7 T Γ o s o.op
 |some (j,b)=>NM T Γ o s (IC s.env b (yH ops j)) (DZ s.env b (yH ops j)) o.op (Γ (SG j b))
@[go_sem] def y6 (T:sG) (Γ:sS) (ops:List Oper) (o:Oper) (s:St):Option qP:=XR s.np (L8 T Γ ops o s)
@[go_sem] def tK:Option Tmp->qC->List (Nat×qC)->List (Nat×qC)
 |some d,s,env=>(d,s)::env
 |none,_,env=>env
structure uX where
 s:St
 side:List Prop
 es:List qP
@[go_sem] def FS (N:Nat):Option Tmp->Bool
 |some d=>decide (d<N)
 |none=>true
@[go_sem] def FT (n:Nat):List (Nat×qB)->Bool
 |[]=>true
 |(i,_)::r=>decide (i<n)&&FT n r
@[go_sem] def AJ (i:Nat):pS->Bool
 |[]=>false
 |j::r=>if j=i then yG i r else AJ i r
@[go_sem] def ID (H U:List (Nat×qB)) (rds:pS):List (Nat×qB)->List Prop
 |[]=>[]
 |(i,_)::r=>if AJ i rds=true then(qE U i=qE H i)::ID H U rds r else ID H U rds r
@[go_sem] def FU (rds:pS):List (Nat×qB)->List (Nat×qB)
 |[]=>[]
 |(i,b)::r=>if AJ i rds=true then FU rds r else(i,b)::FU rds r
@[go_sem] def wQ (e:qP):List (Nat×qB):=FU e.rds e.upd
@[go_sem] def SH (o:Oper) (a:uX):Option qP->Option uX
 |some e=>if (FS a.s.N o.dst&&FT (a.s.nb+32) e.upd)=true then some ⟨⟨tK o.dst e.slot a.s.env,qT e.upd a.s.H,a.s.nb+32,a.s.N,a.s.np⟩,qT a.side (qT (ID a.s.H e.upd e.rds e.upd) e.side),e::a.es⟩ else none
 |none=>none
@[go_sem] def tY (T:sG) (Γ:sS) (ops:List Oper):List Oper->Option uX->Option uX
 |[],a=>a
 |o::r,some a=>tY T Γ ops r (SH o a (y6 T Γ ops o a.s))
 |_::_,none=>none
@[go_sem] def NN:List (Nat×qB)->pS->Bool
 |[],_=>false
 |(i,_)::r,l=>l.contains i||NN r l
@[go_sem] def E5 (a b:qP):Bool:= !NN (wQ a) (qT b.rds (qH b.upd))&& !NN (wQ b) a.rds
def IE (lo:Nat):List (Nat×qB)->Bool
 |[]=>true
 |(i,_)::r=>(decide (i<lo)||decide (lo+32<=i))&&IE lo r
def SI (i0 j0:Nat) (ops:Array Oper) (bs:pS) (nb i:Nat) (o:Oper) (e:qP):List Oper->List qP->Nat->Bool
 |p::ps,f::fs,j=>((bs.getD j 0).testBit i||(o.apart ops p&&(E5 e f||(decide (i=i0)&&decide (j=j0)))&&IE (nb+32*i) f.upd))&&SI i0 j0 ops bs nb i o e ps fs (j+1)
 |_,_,_=>true
def SJ (i0 j0:Nat) (ops:Array Oper) (bs:pS) (nb:Nat):List Oper->List qP->Nat->Bool
 |o::os,e::es,i=>SI i0 j0 ops bs nb i o e os es (i+1)&&SJ i0 j0 ops bs nb os es (i+1)
 |_,_,_=>true
def SK:List Oper->Nat->Bool
 |[],_=>true
 |o::r,i=>o.after.toList.all (fun e=> !Region.binds .any e||decide (e.on<i))&&SK r (i+1)
def SL (i0 j0:Nat) (ops:Array Oper) (nb:Nat) (es:List qP):Bool:=SK ops.toList 0&&SJ i0 j0 ops (Region.before ops).toList nb ops.toList es 0
def IF (ops:Array Oper) (nb:Nat) (es:List qP):Bool:=SL ops.size 0 ops nb es
@[go_sem] def a9G (ops:Array Oper) (nb:Nat):Option uX->Option uX
 |some a=>if IF ops nb a.es.reverse then some a else none
 |none=>none
@[go_sem] def NO (T:sG) (Γ:sS) (ops:Array Oper) (s:St):Bool->Option uX
 |true=>a9G ops s.nb (tY T Γ ops.toList ops.toList (some ⟨s,[],[]⟩))
 |false=>tY T Γ ops.toList ops.toList (some ⟨s,[],[]⟩)
inductive Ex where
 |normal|exit (id:Nat) |ret
structure vI where
 slots:pS
 ids:pN:=[]
@[go_sem] def vC:pN->Nat->pR
 |[],_=>none
 |(n,o)::r,k=>if o=k then some n else vC r k
@[go_sem] def a9H (m:pN):pQ->pQ
 |some (i,o)=>(vC m i).map fun j=>(j,o)
 |none=>none
@[go_sem] def AK (m:pN):pN->Option pN
 |[]=>some []
 |(i,o)::r=>renCons (vC m i) o (AK m r)
where
 renCons:pR->Nat->Option pN->Option pN
  |some j,o,some r=>some ((j,o)::r)
  |_,_,_=>none
attribute [go_sem] AK.renCons
@[go_sem] def a9I (m:pN):pR->pR
 |some k=>vC m k
 |none=>none
@[go_sem] def aID (n:Nat):pR->qC
 |some k=>(.own k n,none)
 |none=>(.any,none)
@[go_sem] def a9J (m:pN):Option (Nat×pN)->Option (Option (Nat×pN))
 |none=>some none
 |some (f,l)=>(AK m l).map fun l'=>some (f,l')
@[go_sem] def SM (m:pN):pQ->Option pQ
 |none=>some none
 |some (i,o)=>(vC m i).map fun j=>some (j,o)
@[go_sem] def a9K (m:pN):pR->Option pR
 |none=>some none
 |some i=>(vC m i).map some
@[go_sem] def a9L (m:pN):pQ->Option pQ
 |none=>some none
 |some (k,n)=>(vC m k).map fun j=>some (j,n)
@[go_sem] def XS (c n3 n4:Nat):pR->pR->pR->Option (Nat×Nat×(Nat×Nat)×(Nat×Nat))
 |some i,some k3,some k4=>some (c,i,(k3,n3),(k4,n4))
 |_,_,_=>none
@[go_sem] def a9M (m:pN):Nat×Nat×(Nat×Nat)×(Nat×Nat)->Option (Nat×Nat×(Nat×Nat)×(Nat×Nat))
 |(c,i,(k3,n3),(k4,n4))=>XS c n3 n4 (vC m i) (vC m k3) (vC m k4)
@[go_sem] def xK (m:pN):(t:Ty)->t.den->Option t.den
 | .ref,x=>SM m x
 | .clo,x=>a9J m x
 | .mp,x=>a9K m x
 | .pair a b,x=>CS (if a.pure=true then some x.1 else xK m a x.1) (if b.pure=true then some x.2 else xK m b x.2)
 | .list t,x=>if t.pure=true then some x else none
 | .bool,x=>some x
 | .int _,x=>some x
 | .str,x=>some x
 | .unit,x=>some x
 | .rl _ _,x=>a9L m x
 | .fn,x=>some x
 | .mref,x=>SM m x
 | .ap,x=>a9M m x
@[go_sem] def yI (m:pN):qC->qC
 |(.own k n,_)=>aID n (vC m k)
 |(.val .ref none,_)=>(.val .ref none,none)
 |(.val .ref (some p),_)=>refSlot (a9H m (some p))
 |(.val .clo (some (f,l)),_)=>cloSlot f (AK m l)
 |(.val .mp (some i),_)=>mpSlot (vC m i)
 |(.val t x,k)=>if t.pure then(.val t x,a9I m (CQ t k)) else valSlot t (xK m t x)
 |(.at t x,_)=>if t.pure then(.at t x,none) else(.any,none)
 |(.nilS,_)=>(.nilS,none)
 |_=>(.any,none)
where
 refSlot:pQ->qC
  |some p=>(.val .ref (some p),none)
  |none=>(.any,none)
 cloSlot (f:Nat):Option pN->qC
  |some l=>(.val .clo (some (f,l)),none)
  |none=>(.any,none)
 valSlot (t:Ty):Option t.den->qC
  |some y=>(.val t y,none)
  |none=>(.any,none)
 mpSlot:pR->qC
  |some j=>(.val .mp (some j),none)
  |none=>(.any,none)
attribute [go_sem] yI.refSlot yI.cloSlot yI.mpSlot yI.valSlot
@[go_sem] def SN (q j:Nat):pN->pN
 |[]=>[(q,j)]
 |(a,b)::r=>if q<=a then(q,j)::(a,b)::r else(a,b)::SN q j r
@[go_sem] def IG (m:pN):pN->pN
 |[]=>[]
 |(q,k)::r=>renTok1 q (vC m k) (IG m r)
where
 renTok1 (q:Nat):pR->pN->pN
  |some j,r=>SN q j r
  |none,r=>r
attribute [go_sem] IG.renTok1
@[go_sem] def XT (t:Ty) (toks:pN):Option t.den->qB
 |some y=> .cells t y toks
 |none=> .dead
def xL (m:pN):Option qB->qB
 |some (.cells t x toks)=>if t.pure then .cells t x (IG m toks) else XT t (IG m toks) (xK m t x)
 |some (.grow e c n)=> .grow e c n
 |some (.row e t l n)=>if t.pure then .row e t l n else .dead
 |some (.map k v l)=>if k.pure&&v.pure then .map k v l else .dead
 |some (.iter s p)=> .iter s p
 |_=> .dead
attribute [go_sem] xL.eq_1 xL.eq_2 xL.eq_3 xL.eq_4 xL.eq_5 xL.eq_6
@[go_sem] def NP (m:pN) (env:List (Nat×qC)):pS->List (Nat×qC)
 |[]=>[]
 |t::r=>(t,yI m (lk env t))::NP m env r
@[go_sem] def SO (m:pN) (H:List (Nat×qB)):pN->List (Nat×qB)
 |[]=>[]
 |(n,o)::r=>(n,xL m (qE H o))::SO m H r
@[go_sem] def SP:pN->Nat
 |[]=>0
 |(n,_)::r=>max (n+1) (SP r)
@[go_sem] def L9 (n o:Nat):pN->Bool
 |[]=>false
 |(n',o')::r=>decide (n'=n)||decide (o'=o)||L9 n o r
@[go_sem] def vT (np:Nat):pN->Bool
 |[]=>true
 |(n,o)::r=>(decide (np<=n)||decide (n=o))&& !L9 n o r&&vT np r
@[go_sem] def NQ (s:St) (k:vI):Bool->St
 |true=>⟨NP k.ids s.env k.slots,SO k.ids s.H k.ids,max s.np (SP k.ids),s.N,s.np⟩
 |false=>⟨[],[],s.nb,s.N,s.np⟩
@[go_sem] def St.keep (s:St) (k:vI):St:=NQ s k (vT s.np k.ids)
@[go_sem] def r9:List Prop->Prop
 |[]=>True
 |[p]=>p
 |p::q::r=>p/\r9 (q::r)
@[go_sem] def a9N (Q:Ex->St->Prop):Option uX->Prop
 |some a=>r9 a.side/\Q .normal a.s
 |none=>False
@[go_sem] def a9O (A B:Prop):qC->Prop
 |(.val .bool x,_)=>(x=true->A)/\(x=false->B)
 |(.flag p q,_)=>(p->A)/\(q->B)
 |_=>False
@[go_sem] def NR (f:St->Prop) (Q:Ex->St->Prop):Ex->St->Prop
 | .normal,s=>f s
 | .exit j,s=>Q (.exit j) s
 | .ret,s=>Q .ret s
@[go_sem] def IH (id:Nat) (Q:Ex->St->Prop):Ex->St->Prop
 | .normal,s=>Q .normal s
 | .exit j,s=>if j=id then Q .normal s else Q (.exit j) s
 | .ret,s=>Q .ret s
@[go_sem] def aIE (I:St->Prop) (μ:St->Nat) (m:Nat) (Q:Ex->St->Prop):Ex->St->Prop
 | .normal,s=> ∃k:vI,I (s.keep k)/\μ (s.keep k)<m
 | .exit j,s=>Q (.exit j) s
 | .ret,s=>Q .ret s
def vJ (T:sG) (Γ:sS):Code->St->(Ex->St->Prop)->Prop
 | .skip,s,Q=>Q .normal s
 | .label _,s,Q=>Q .normal s
 | .region _ ops draw,s,Q=>a9N Q (NO T Γ ops s draw)
 | .seq a b,s,Q=>vJ T Γ a s (NR (fun s'=>vJ T Γ b s' Q) Q)
 | .cond c a b,s,Q=>a9O (vJ T Γ a s Q) (vJ T Γ b s Q) (tE s.env c)
 | .block id c,s,Q=>vJ T Γ c s (IH id Q)
 | .loop c,s,Q=> ∃(k:vI) (I:St->Prop) (μ:St->Nat),I (s.keep k)/\∀s,I s->vJ T Γ c s (aIE I μ (μ s) Q)
 | .exit id,s,Q=>Q (.exit id) s
 | .ret,s,Q=>Q .ret s
 |_,_,_=>False
attribute [go_sem] Ty.list.injEq Ty.pair.injEq Ty.int.injEq
section
variable {T:sG}{Γ:sS}{s:St}{Q:Ex->St->Prop}
theorem aIF {id:Nat}{ops:Array Oper}{a:uX}(h:tY T Γ ops.toList ops.toList (some ⟨s,[],[]⟩)=some a) (hp:r9 a.side) (hq:Q .normal a.s):vJ T Γ (.region id ops false) s Q:=by
 unfold vJ NO;rw[h];exact⟨hp,hq⟩
theorem aIG {id:Nat}{ops:Array Oper}{a:uX}(h:tY T Γ ops.toList ops.toList (some ⟨s,[],[]⟩)=some a) (hf:IF ops s.nb a.es.reverse=true) (hp:r9 a.side) (hq:Q .normal a.s):vJ T Γ (.region id ops true) s Q:=by
 unfold vJ NO;rw[h];show a9N Q (if IF ops s.nb a.es.reverse=true then some a else none);rw[aRZ hf];exact⟨hp,hq⟩
end
end Go.Proofs.YtcpbaddnmpeipaaGreatDoor.Vc
namespace Go.Proofs.YtcpbaddnmpeipaaGreatDoor.Vc
open Go.RowKit
abbrev rZ:=List (Nat×qB)
structure Pl where
 b:Nat
 o:Nat
 k:Option (TypeId×Nat):=none
structure Gh where
 S:Nat->Nat->Prop
 J:Nat->Option Pl
 cur:Nat->Nat->Option pU
def x4 {α:Type}(R:α->pP->Prop) (w:pT) (S:Nat->Nat->Prop) (c b:Nat):Nat->List α->Prop
 |_,[]=>True
 |o,x::xs=>(∃cs,cs.length=c/\w.rangeAt b o cs/\(∀j,j<c->S b (o+j))/\R x cs)/\x4 R w S c b (o+c) xs
def x5 (g:Gh):pN->pP->Prop
 |[],vs=>vs=[]
 |(i,o)::l,vs=> ∃p vs',g.J i=some p/\vs= .pointer (some ⟨p.1,p.2+o,none⟩)::vs'/\x5 g l vs'
def NS (g:Gh):pQ->pP->Prop
 |none,cs=>cs=[.pointer none]
 |some (i,o),cs=> ∃p,g.J i=some p/\cs=[.pointer (some ⟨p.1,p.2+o,none⟩)]
def FV (g:Gh):Option (Nat×pN)->pP->Prop
 |none,cs=>cs=[.nilFunc]
 |some (f,l),cs=> ∃vs,x5 g l vs/\cs=[.func (.func f) #[] vs.toArray]
def II (g:Gh):pR->pP->Prop
 |none,cs=>cs=[.map none]
 |some i,cs=> ∃p,g.J i=some p/\cs=[.map (some p.1)]
def XU (k:Option (TypeId×Nat)) (o:Nat):Prop:=o=0/\∃e,WH e=true/\k=some (e,2)
def A0 (g:Gh):pQ->pP->Prop
 |none,cs=>cs=[.slice none 0 0]
 |some (k,n),cs=> ∃v,g.cur k n=some v/\cs=[v]/\((v= .slice none 0 0/\n=0)\/∃b cap,v= .slice (some ⟨b,0,none⟩) n cap/\n<=cap)
def NT (g:Gh):pQ->pP->Prop
 |none,cs=>cs=[.pointer none]
 |some (i,o),cs=> ∃p,g.J i=some p/\XU p.3 (p.2+o)/\(cs=[.pointer none]\/cs=[.pointer (some ⟨p.1,p.2+o,none⟩)])
def CX (g:Gh) (w:pT):Nat×Nat×(Nat×Nat)×(Nat×Nat)->pP->Prop
 |(c,i,(k3,n3),(k4,n4)),cs=>(c=0/\cs=[.nilFunc])\/(c≠0/\∃b α,cs=[.func (.func FF) #[] #[.pointer (some ⟨b,0,none⟩)]]/\g.S b 0/\w.cell? ⟨b,0,none⟩=some (.pointer (some α))/\
   (c=1->∃p,g.J i=some p/\α=⟨p.1,p.2+aIl,none⟩)/\(c=2->∃p,g.J i=some p/\α=⟨p.1,p.2+aIm,none⟩)/\
   (c=3->∃bb cap,g.cur k3 n3=some (.slice (some ⟨bb,0,none⟩) n3 cap)/\0<n3/\α=⟨bb,n3-1,none⟩)/\
   (4<=c->∃bb cap,g.cur k4 n4=some (.slice (some ⟨bb,0,none⟩) n4 cap)/\0<n4/\α=⟨bb,(n4-1)*2+1,none⟩))
def SQ:pR->pP->Prop
 |none,cs=>cs=[.nilFunc]
 |some f,cs=>cs=[.func (.func f) #[] #[]]
def Rd (g:Gh) (w:pT):(t:Ty)->t.den->pP->Prop
 | .bool,x,cs=>cs=[.bool x]
 | .int k,n,cs=>cs=[.int k n]
 | .str,l,cs=>cs=[.string ⟨List.toArray l⟩]
 | .list t,l,cs=> ∃a cap,cs=[.slice a (List.length l) cap]/\List.length l<=cap/\(l=[]\/∃b o,a=some ⟨b,o,none⟩/\x4 (Rd g w t) w g.S t.cells b o l)
 | .unit,_,cs=>cs=[]
 | .pair s t,x,cs=> ∃c1 c2,cs=c1++c2/\Rd g w s x.1 c1/\Rd g w t x.2 c2
 | .ref,x,cs=>NS g x cs
 | .clo,x,cs=>FV g x cs
 | .mp,x,cs=>II g x cs
 | .rl _ _,x,cs=>A0 g x cs
 | .fn,x,cs=>SQ x cs
 | .mref,x,cs=>NT g x cs
 | .ap,x,cs=>CX g w x cs
def sR (g:Gh) (w:pT) (t:Ty) (x:t.den) (v:pU):Prop:=
 (t.isRow=true/\∃cs:pP,v= .agg cs.toArray/\Rd g w t x cs)\/(t.isRow=false/\Rd g w t x [v])
def wR (k:Nat):Ty->Nat->pP->Prop
 | .list _,o,cs=>o+1=k\/cs=[.slice none 0 0]
 | .pair a b,o,cs=> ∃c1 c2,cs=c1++c2/\c1.length=a.cells/\wR k a o c1/\wR k b (o+a.cells) c2
 |_,_,_=>True
def BA (g:Gh) (t:Ty) (x:t.den) (v:pU):pR->Prop
 |none=>True
 |some k=>match t,x with
  | .list _,l=>g.cur k (List.length l)=some v
  | .pair a b,_=>wR k (.pair a b) 0 v.cells.toList
  |_,_=>False
def FW (g:Gh) (w:pT):List ((Σ t:Ty,t.den)×pR)->pP->Prop
 |[],vs=>vs=[]
 |(⟨t,x⟩,k)::l,vs=> ∃v vs',vs=v::vs'/\sR g w t x v/\BA g t x v k/\FW g w l vs'
def xD (g:Gh) (w:pT):DV->pU->Prop
 | .any,_=>True
 | .nilS,v=>v= .slice none 0 0
 | .val t x,v=>sR g w t x v
 | .at t x,v=> ∃b o cs,v= .pointer (some ⟨b,o,none⟩)/\w.rangeAt b o cs/\(∀j,j<t.cells->g.S b (o+j))/\Rd g w t x cs
 | .tup l,v=> ∃vs:pP,v= .tuple vs.toArray/\FW g w l vs
 | .cond p d,v=>(p=true->xD g w d v)/\(p=false->v=undef)
 | .flag p q,v=> ∃b,v= .bool b/\(b=true->p)/\(b=false->q)
 | .own k n,v=>g.cur k n=some v/\((v= .slice none 0 0/\n=0)\/∃b cap,v= .slice (some ⟨b,0,none⟩) n cap/\n<=cap)
 | .nxt b p c,v=>(b=true->v= .tuple #[.bool true,.int .i64 p,.int .i32 c])/\(b=false->v= .tuple #[.bool false])
 | .elt k n c i o,v=> ∃b cap,g.cur k n=some (.slice (some ⟨b,0,none⟩) n cap)/\0<=i/\i<(n:Int)/\v= .pointer (some ⟨b,i.toNat*c+o,none⟩)
 | .apd d,v=> ∃b u,v= .func (.func FF) #[] #[.pointer (some ⟨b,0,none⟩)]/\g.S b 0/\w.cell? ⟨b,0,none⟩=some u/\xD g w d u
def rN (g:Gh) (w:pT) (s:qC) (v:pU):Prop:=
 xD g w s.1 v/\match s with
  |(_,none)=>True
  |(.val t x,some k)=>BA g t x v (some k)
  |(_,some _)=>False
structure Le (g:Gh) (w:pT) (g':Gh) (w':pT):Prop where
 S: ∀b o,g.S b o->g'.S b o
 cell: ∀b o,g.S b o->w'.cell? ⟨b,o,none⟩=w.cell? ⟨b,o,none⟩
 J: ∀i p,g.J i=some p->g'.J i=some p
 cur: ∀k n v,g.cur k n=some v->g'.cur k n=some v
def Le.refl (g:Gh) (w:pT):Le g w g w:=⟨fun _ _ h=>h,fun _ _ _=>rfl,fun _ _ h=>h,fun _ _ _ h=>h⟩
def Le.trans {g g' g'':Gh}{w w' w'':pT}(h:Le g w g' w') (k:Le g' w' g'' w''):Le g w g'' w'':=
 ⟨fun b o x=>k.S b o (h.S b o x),fun b o x=>(k.cell b o (h.S b o x)).trans (h.cell b o x),fun i p x=>k.J i p (h.J i p x),fun i n v x=>k.cur i n v (h.cur i n v x)⟩
def XV {g g':Gh}(hJ: ∀i p,g.J i=some p->g'.J i=some p): ∀{l:pN}{vs:pP},x5 g l vs->x5 g' l vs
 |[],_,h=>h
 |(_,_)::_,_,⟨p,vs',h1,h2,h3⟩=>⟨p,vs',hJ _ _ h1,h2,XV hJ h3⟩
def aIH {g g':Gh}(hJ: ∀i p,g.J i=some p->g'.J i=some p): ∀{x:pQ}{cs:pP},NS g x cs->NS g' x cs
 |none,_,h=>h
 |some (_,_),_,⟨p,h1,h2⟩=>⟨p,hJ _ _ h1,h2⟩
def aII {g g':Gh}(hJ: ∀i p,g.J i=some p->g'.J i=some p): ∀{x:Option (Nat×pN)}{cs:pP},FV g x cs->FV g' x cs
 |none,_,h=>h
 |some (_,_),_,⟨vs,h1,h2⟩=>⟨vs,XV hJ h1,h2⟩
def aIJ {g g':Gh}(hJ: ∀i p,g.J i=some p->g'.J i=some p): ∀{x:pR}{cs:pP},II g x cs->II g' x cs
 |none,_,h=>h
 |some _,_,⟨p,h1,h2⟩=>⟨p,hJ _ _ h1,h2⟩
def aIK {g g':Gh}(hc: ∀k n v,g.cur k n=some v->g'.cur k n=some v): ∀{x:pQ}{cs:pP},A0 g x cs->A0 g' x cs
 |none,_,h=>h
 |some (_,_),_,⟨v,h1,h2⟩=>⟨v,hc _ _ _ h1,h2⟩
def aIL {g g':Gh}(hJ: ∀i p,g.J i=some p->g'.J i=some p): ∀{x:pQ}{cs:pP},NT g x cs->NT g' x cs
 |none,_,h=>h
 |some (_,_),_,⟨p,h1,h2⟩=>⟨p,hJ _ _ h1,h2⟩
def aIM {g g':Gh}{w w':pT}(h:Le g w g' w'): ∀{x:Nat×Nat×(Nat×Nat)×(Nat×Nat)}{cs:pP},CX g w x cs->CX g' w' x cs
 |(_,_,(_,_),(_,_)),_,.inl r=> .inl r
 |(_,_,(_,_),(_,_)),_,.inr ⟨h0,b,α,e,hS,hc,h1,h2,h3,h4⟩=> .inr ⟨h0,b,α,e,h.S _ _ hS,(h.cell _ _ hS).trans hc,fun q=>let ⟨p,a1,a2⟩:=h1 q;⟨p,h.J _ _ a1,a2⟩,fun q=>let ⟨p,a1,a2⟩:=h2 q;⟨p,h.J _ _ a1,a2⟩,fun q=>let ⟨bb,cap,a1,a2⟩:=h3 q;⟨bb,cap,h.cur _ _ _ a1,a2⟩,fun q=>let ⟨bb,cap,a1,a2⟩:=h4 q;⟨bb,cap,h.cur _ _ _ a1,a2⟩⟩
def XW {α:Type}{R R':α->pP->Prop}{w w':pT}{S S':Nat->Nat->Prop}{c b:Nat}(hR: ∀x cs,R x cs->R' x cs) (hS: ∀o,S b o->S' b o)
  (hc: ∀o,S b o->w'.cell? ⟨b,o,none⟩=w.cell? ⟨b,o,none⟩): ∀{l:List α}{o:Nat},x4 R w S c b o l->x4 R' w' S' c b o l
 |[],_,_=>trivial
 |_::_,o,⟨⟨cs,h1,h2,h3,h4⟩,h5⟩=>⟨⟨cs,h1,fun j v hv=>by
   have hj:j<c:=h1▸(aR7.1 hv).1;rw[hc _ (h3 j hj)];exact h2 j v hv,fun j hj=>hS _ (h3 j hj),hR _ _ h4⟩,XW hR hS hc h5⟩
def vK {g g':Gh}{w w':pT}(h:Le g w g' w'): ∀{t:Ty}{x:t.den}{cs:pP},Rd g w t x cs->Rd g' w' t x cs
 | .bool,_,_,r=>r
 | .int _,_,_,r=>r
 | .str,_,_,r=>r
 | .unit,_,_,r=>r
 | .ref,_,_,r=>aIH h.J r
 | .clo,_,_,r=>aII h.J r
 | .mp,_,_,r=>aIJ h.J r
 | .rl _ _,_,_,r=>aIK h.cur r
 | .fn,_,_,r=>r
 | .mref,_,_,r=>aIL h.J r
 | .ap,_,_,r=>aIM h r
 | .pair _ _,_,_,⟨c1,c2,e,r1,r2⟩=>⟨c1,c2,e,vK h r1,vK h r2⟩
 | .list _,_,_,⟨a,cap,e,hle,hl⟩=>⟨a,cap,e,hle,hl.imp id fun⟨b,o,ea,hr⟩=>⟨b,o,ea,XW (fun _ _=>vK h) (fun _=>h.S _ _) (fun _=>h.cell _ _) hr⟩⟩
def sJ {g:Gh}{w:pT}: ∀{t:Ty}{x:t.den}{cs:pP},Rd g w t x cs->cs.length=t.cells
 | .bool,_,_,r=>by cases r;rfl
 | .int _,_,_,r=>by cases r;rfl
 | .str,_,_,r=>by cases r;rfl
 | .unit,_,_,r=>by cases r;rfl
 | .ref,none,_,r=>by cases r;rfl
 | .ref,some (_,_),_,⟨_,_,e⟩=>by cases e;rfl
 | .clo,none,_,r=>by cases r;rfl
 | .clo,some (_,_),_,⟨_,_,e⟩=>by cases e;rfl
 | .mp,none,_,r=>by cases r;rfl
 | .mp,some _,_,⟨_,_,e⟩=>by cases e;rfl
 | .fn,none,_,r=>by cases r;rfl
 | .fn,some _,_,r=>by cases r;rfl
 | .rl _ _,none,_,r=>by cases r;rfl
 | .rl _ _,some (_,_),_,⟨_,_,e,_⟩=>by cases e;rfl
 | .mref,none,_,r=>by cases r;rfl
 | .mref,some (_,_),_,⟨_,_,_,e⟩=>by rcases e with e|e<;>(cases e;rfl)
 | .ap,(_,_,(_,_),(_,_)),_,.inl ⟨_,e⟩=>by cases e;rfl
 | .ap,(_,_,(_,_),(_,_)),_,.inr ⟨_,_,_,e,_⟩=>by cases e;rfl
 | .pair _ _,_,_,⟨c1,c2,e,r1,r2⟩=>by rw[e,aRX,sJ r1,sJ r2];rfl
 | .list _,_,_,⟨_,_,e,_,_⟩=>by cases e;rfl
def SR {g g':Gh}{w w':pT}(h:Le g w g' w') {t:Ty}{x:t.den}{v:pU}(r:sR g w t x v):sR g' w' t x v:=
 r.imp (fun⟨a,cs,e,q⟩=>⟨a,cs,e,vK h q⟩) (fun⟨a,q⟩=>⟨a,vK h q⟩)
def a9P {g g':Gh}{w w':pT}(h:Le g w g' w') {t:Ty}{x:t.den}{v:pU}{k:pR}(r:BA g t x v k):BA g' t x v k:=by
 cases k with
 |none=>trivial
 |some k=>
  cases t with
  |list u=>exact h.cur _ _ _ r
  |pair a b=>exact r
  |_=>exact r.elim
def a9Q {g g':Gh}{w w':pT}(h:Le g w g' w'): ∀{l:List ((Σ t:Ty,t.den)×pR)}{vs:pP},FW g w l vs->FW g' w' l vs
 |[],_,r=>r
 |(⟨_,_⟩,_)::_,_,⟨v,vs',e,r1,r2,r3⟩=>⟨v,vs',e,SR h r1,a9P h r2,a9Q h r3⟩
def NU {g g':Gh}{w w':pT}(h:Le g w g' w'): ∀{d:DV}{v:pU},xD g w d v->xD g' w' d v
 | .any,_,r=>r
 | .nilS,_,r=>r
 | .val _ _,_,r=>SR h r
 | .at t _,_,⟨b,o,cs,e,h1,h2,h3⟩=>⟨b,o,cs,e,fun j v hv=>by
   by_cases hj:j<t.cells
   .rw[h.cell _ _ (h2 j hj)];exact h1 j v hv
   .exact absurd (aR7.1 hv).1 (by rw[sJ h3];exact hj),fun j hj=>h.S _ _ (h2 j hj),vK h h3⟩
 | .tup _,_,⟨vs,e,r⟩=>⟨vs,e,a9Q h r⟩
 | .cond _ _,_,⟨r1,r2⟩=>⟨fun p=>NU h (r1 p),r2⟩
 | .flag _ _,_,r=>r
 | .own _ _,_,⟨h1,h2⟩=>⟨h.cur _ _ _ h1,h2⟩
 | .nxt _ _ _,_,r=>r
 | .elt _ _ _ _ _,_,⟨b,cap,h1,h2⟩=>⟨b,cap,h.cur _ _ _ h1,h2⟩
 | .apd _,_,⟨b,u,e,hS,hc,r⟩=>⟨b,u,e,h.S _ _ hS,(h.cell _ _ hS).trans hc,NU h r⟩
def BB {g g':Gh}{w w':pT}(h:Le g w g' w') {s:qC}{v:pU}(r:rN g w s v):rN g' w' s v:=by
 obtain⟨d,k⟩:=s;refine⟨NU h r.1,?_⟩;have r2:=r.2;cases k with
 |none=>trivial
 |some k=>
  cases d with
  |val t x=>exact a9P h r2
  |_=>exact r2.elim
def yJ {g:Gh}{w:pT}: ∀{t:Ty}{x:t.den}{cs:pP},Rd g w t x cs->∀v∈cs,v.oneCell'=true
 | .bool,_,_,r=>by cases r;intro v hv;simp at hv;subst hv;rfl
 | .int _,_,_,r=>by cases r;intro v hv;simp at hv;subst hv;rfl
 | .str,_,_,r=>by cases r;intro v hv;simp at hv;subst hv;rfl
 | .unit,_,_,r=>by cases r;intro v hv;simp at hv
 | .ref,none,_,r=>by cases r;intro v hv;simp at hv;subst hv;rfl
 | .ref,some (_,_),_,⟨_,_,e⟩=>by cases e;intro v hv;simp at hv;subst hv;rfl
 | .clo,none,_,r=>by cases r;intro v hv;simp at hv;subst hv;rfl
 | .clo,some (_,_),_,⟨_,_,e⟩=>by cases e;intro v hv;simp at hv;subst hv;rfl
 | .mp,none,_,r=>by cases r;intro v hv;simp at hv;subst hv;rfl
 | .mp,some _,_,⟨_,_,e⟩=>by cases e;intro v hv;simp at hv;subst hv;rfl
 | .fn,none,_,r=>by cases r;intro v hv;simp at hv;subst hv;rfl
 | .fn,some _,_,r=>by cases r;intro v hv;simp at hv;subst hv;rfl
 | .rl _ _,none,_,r=>by cases r;intro v hv;simp at hv;subst hv;rfl
 | .rl _ _,some (_,_),_,⟨_,_,e,hs⟩=>by
  cases e;intro v hv;simp at hv;subst hv;rcases hs with⟨rfl,_⟩ |⟨_,_,rfl,_⟩<;>rfl
 | .mref,none,_,r=>by cases r;intro v hv;simp at hv;subst hv;rfl
 | .mref,some (_,_),_,⟨_,_,_,e⟩=>by rcases e with e|e<;>(cases e;intro v hv;simp at hv;subst hv;rfl)
 | .ap,(_,_,(_,_),(_,_)),_,.inl ⟨_,e⟩=>by cases e;intro v hv;simp at hv;subst hv;rfl
 | .ap,(_,_,(_,_),(_,_)),_,.inr ⟨_,_,_,e,_⟩=>by cases e;intro v hv;simp at hv;subst hv;rfl
 | .pair _ _,_,_,⟨c1,c2,e,r1,r2⟩=>by
  subst e;intro v hv;rcases aSW.1 hv with h|h
  .exact yJ r1 v h
  .exact yJ r2 v h
 | .list _,_,_,⟨_,_,e,_,_⟩=>by cases e;intro v hv;simp at hv;subst hv;rfl
def uY {g g':Gh}{w:pT}(hS:g'.S=g.S): ∀{t:Ty}{x:t.den}{cs:pP},t.pure=true->Rd g w t x cs->Rd g' w t x cs
 | .bool,_,_,_,r=>r
 | .int _,_,_,_,r=>r
 | .str,_,_,_,r=>r
 | .unit,_,_,_,r=>r
 | .ref,_,_,h,_=>by simp [Ty.pure] at h
 | .clo,_,_,h,_=>by simp [Ty.pure] at h
 | .mp,_,_,h,_=>by simp [Ty.pure] at h
 | .rl _ _,_,_,h,_=>by simp [Ty.pure] at h
 | .fn,_,_,_,r=>r
 | .mref,_,_,h,_=>by simp [Ty.pure] at h
 | .ap,_,_,h,_=>by simp [Ty.pure] at h
 | .pair _ _,_,_,h,⟨c1,c2,e,r1,r2⟩=>by
  simp only[Ty.pure,aSj] at h;exact⟨c1,c2,e,uY hS h.1 r1,uY hS h.2 r2⟩
 | .list _,_,_,h,⟨a,cap,e,hle,hl⟩=>by
  simp only[Ty.pure] at h;exact⟨a,cap,e,hle,hl.imp id fun⟨b,o,ea,hr⟩=>⟨b,o,ea,XW (fun _ _ r=>uY hS h r) (fun _ q=>by rw[hS];exact q) (fun _ _=>rfl) hr⟩⟩
def BS (g:Gh) (w:pT) (k v:Ty):List (k.den×v.den)->List MapEntry->Prop
 |[],es=>es=[]
 |(a,b)::l,es=> ∃e es',es=e::es'/\sR g w k a e.key/\sR g w v b e.val/\BS g w k v l es'
def XX {g g':Gh}{w w':pT}(h:Le g w g' w') {k v:Ty}: ∀{l:List (k.den×v.den)}{es:List MapEntry},BS g w k v l es->BS g' w' k v l es
 |[],_,r=>r
 |_::_,_,⟨e,es',h1,h2,h3,h4⟩=>⟨e,es',h1,SR h h2,SR h h3,XX h h4⟩
def a9R {g g':Gh}{w:pT}(hS:g'.S=g.S) {t:Ty}{x:t.den}{v:pU}(hp:t.pure=true) (r:sR g w t x v):sR g' w t x v:=
 r.imp (fun⟨a,cs,e,q⟩=>⟨a,cs,e,uY hS hp q⟩) (fun⟨a,q⟩=>⟨a,uY hS hp q⟩)
def NV {g g':Gh}{w:pT}(hS:g'.S=g.S) {k v:Ty}(hk:k.pure=true) (hv:v.pure=true): ∀{l:List (k.den×v.den)}{es:List MapEntry},BS g w k v l es->BS g' w k v l es
 |[],_,r=>r
 |_::_,_,⟨e,es',h1,h2,h3,h4⟩=>⟨e,es',h1,a9R hS hk h2,a9R hS hv h3,NV hS hk hv h4⟩
def tG {α:Type}(R:α->pP->Prop) (c:Nat):List α->pP->Prop
 |[],cs=>cs=[]
 |x::xs,cs=> ∃c1 c2,cs=c1++c2/\c1.length=c/\R x c1/\tG R c xs c2
def IJ {α:Type}{R:α->pP->Prop}{c:Nat}: ∀{l:List α}{cs:pP},tG R c l cs->cs.length=l.length*c
 |[],_,h=>by rw[h];simp
 |_::l,_,⟨c1,c2,e,h1,_,h3⟩=>by rw[e,aRX,h1,IJ h3,aR1,aSR];omega
def XY {α:Type}{R:α->pP->Prop}{c:Nat}: ∀{l m:List α}{cs ds:pP},tG R c l cs->tG R c m ds->tG R c (l++m) (cs++ds)
 |[],_,_,_,h,k=>by rw[h];exact k
 |_::_,_,_,_,⟨c1,c2,e,h1,h2,h3⟩,k=>⟨c1,c2++_,by rw[e,aR9],h1,h2,XY h3 k⟩
def AL {α:Type}{R R':α->pP->Prop}{c:Nat}(hR: ∀x cs,R x cs->R' x cs): ∀{l:List α}{cs:pP},tG R c l cs->tG R' c l cs
 |[],_,h=>h
 |_::_,_,⟨c1,c2,e,h1,h2,h3⟩=>⟨c1,c2,e,h1,hR _ _ h2,AL hR h3⟩
def A1 {g:Gh}{w:pT}{u:Ty}: ∀{t:Ty}{x:t.den}{cs:pP}{o:Nat}{y:u.den},Rd g w t x cs->qZ u t x o=some y->
  ∃c1 c2 c3,cs=c1++c2++c3/\c1.length=o/\Rd g w u y c2:=by
 intro t
 induction t with
 |pair a b iha ihb=>
  intro x cs o y r h;obtain⟨c1,c2,e,r1,r2⟩:=r;have key: ∀o,(if o<a.cells then qZ u a x.1 o else qZ u b x.2 (o-a.cells))=some y->∃d1 d2 d3,cs=d1++d2++d3/\d1.length=o/\Rd g w u y d2:=by
   intro o h;by_cases ho:o<a.cells
   .rw[aRZ ho] at h;obtain⟨d1,d2,d3,e',hl,hr⟩:=iha r1 h;exact⟨d1,d2,d3++c2,by rw[e,e'];simp,hl,hr⟩
   rw[aR4 ho] at h;obtain⟨d1,d2,d3,e',hl,hr⟩:=ihb r2 h;refine⟨c1++d1,d2,d3,by rw[e,e'];simp,?_,hr⟩;rw[aRX,hl,sJ r1];omega
  cases o with
  |zero=>
   unfold qZ at h;by_cases hu:Ty.pair a b=u
   .rw[aTE hu] at h;subst hu;simp only[tJ,aRV] at h;subst h;exact⟨[],cs,[],by simp,rfl,⟨c1,c2,e,r1,r2⟩⟩
   .rw[aS8 hu] at h;refine key 0 ?_;simpa using h
  |succ o=>exact key (o+1) (by simpa[qZ] using h)
 |_=>
  intro x cs o y r h;cases o with
  |zero=>
   unfold qZ at h;split at h
   .rename_i hu;subst hu;simp only[tJ,aRV] at h
    try subst h
    exact⟨[],cs,[],by simp,rfl,r⟩
   .simp at h
  |succ o=>simp [qZ] at h
def NW {g:Gh}{w:pT}{u:Ty}{y:u.den}{cy:pP}(hy:Rd g w u y cy): ∀{t:Ty}{x z:t.den}{cs:pP}{o:Nat},Rd g w t x cs->sD u y t x o=some z->
  ∃c1 c2 c3,cs=c1++c2++c3/\c1.length=o/\c2.length=u.cells/\Rd g w t z (c1++cy++c3):=by
 intro t
 induction t with
 |pair a b iha ihb=>
  intro x z cs o r h;obtain⟨c1,c2,e,r1,r2⟩:=r;have key: ∀o,(if o<a.cells then(sD u y a x.1 o).map (fun q=>(q,x.2)) else(sD u y b x.2 (o-a.cells)).map (fun q=>(x.1,q)))=some z->
    ∃d1 d2 d3,cs=d1++d2++d3/\d1.length=o/\d2.length=u.cells/\Rd g w (.pair a b) z (d1++cy++d3):=by
   intro o h;by_cases ho:o<a.cells
   .rw[aRZ ho] at h;obtain⟨q,hq,rfl⟩:=aR8.1 h;obtain⟨d1,d2,d3,e',hl,hl2,hr⟩:=iha r1 hq;exact⟨d1,d2,d3++c2,by rw[e,e'];simp,hl,hl2,⟨d1++cy++d3,c2,by simp,hr,r2⟩⟩
   rw[aR4 ho] at h;obtain⟨q,hq,rfl⟩:=aR8.1 h;obtain⟨d1,d2,d3,e',hl,hl2,hr⟩:=ihb r2 hq;refine⟨c1++d1,d2,d3,by rw[e,e'];simp,?_,hl2,⟨c1,d1++cy++d3,by simp,r1,hr⟩⟩;rw[aRX,hl,sJ r1];omega
  cases o with
  |zero=>
   unfold sD at h;by_cases hu:u=Ty.pair a b
   .rw[aTE hu] at h;subst hu;simp only[tJ,aRV] at h;subst h;exact⟨[],cs,[],by simp,rfl,sJ (t:= .pair a b) (x:=x) ⟨c1,c2,e,r1,r2⟩,by simpa using hy⟩
   .rw[aS8 hu] at h;refine key 0 ?_;simpa using h
  |succ o=>exact key (o+1) (by simpa[sD] using h)
 |_=>
  intro x z cs o r h;cases o with
  |zero=>
   unfold sD at h;split at h
   .rename_i hu;subst hu;simp only[tJ,aRV] at h
    try subst h
    exact⟨[],cs,[],by simp,rfl,sJ r,by simpa using hy⟩
   .simp at h
  |succ o=>simp [sD] at h
def aIN {e:Nat}{u:Ty}{kn:pQ}: ∀{t:Ty}{x:t.den}{o:Nat}{q: Σ t:Ty,t.den},wZ e u kn t x o=some q->q.1.cells=t.cells:=by
 intro t
 induction t with
 |pair a b iha ihb=>
  intro x o q h;unfold wZ at h;split at h
  .cases hq:wZ e u kn a x.1 o with
   |none=>rw[hq] at h;cases h
   |some r=>
    obtain⟨a',x'⟩:=r;rw[hq] at h;simp only[X1,aRV] at h;subst h;have:=iha hq;simp only[Ty.cells] at this|-;omega
  .cases hq:wZ e u kn b x.2 (o-a.cells) with
   |none=>rw[hq] at h;cases h
   |some r=>
    obtain⟨b',y'⟩:=r;rw[hq] at h;simp only[X2,aRV] at h;subst h;have:=ihb hq;simp only[Ty.cells] at this|-;omega
 |list v=>
  intro x o q h;cases o with
  |zero=>
   simp only[wZ] at h;split at h
   .simp only[aRV] at h;subst h;rfl
   .cases h
  |succ o=>simp [wZ] at h
 |_=>intro x o q h;cases o<;>simp [wZ] at h
def aIO {g:Gh}{w:pT}{e:Nat}{u:Ty}{kn:pQ}{cy:pP}(hy:A0 g kn cy): ∀{t:Ty}{x:t.den}{cs:pP}{o:Nat}{q: Σ t:Ty,t.den},Rd g w t x cs->wZ e u kn t x o=some q->
  ∃c1 c2 c3,cs=c1++c2++c3/\c1.length=o/\c2.length=1/\Rd g w q.1 q.2 (c1++cy++c3):=by
 intro t
 induction t with
 |pair a b iha ihb=>
  intro x cs o q r h;obtain⟨c1,c2,e1,r1,r2⟩:=r;unfold wZ at h;split at h
  .cases hq:wZ e u kn a x.1 o with
   |none=>rw[hq] at h;cases h
   |some z=>
    obtain⟨a',x'⟩:=z;rw[hq] at h;simp only[X1,aRV] at h;subst h;obtain⟨d1,d2,d3,e',hl,hl2,hr⟩:=iha r1 hq;exact⟨d1,d2,d3++c2,by rw[e1,e'];simp,hl,hl2,⟨d1++cy++d3,c2,by simp,hr,r2⟩⟩
  .cases hq:wZ e u kn b x.2 (o-a.cells) with
   |none=>rw[hq] at h;cases h
   |some z=>
    obtain⟨b',y'⟩:=z;rw[hq] at h;simp only[X2,aRV] at h;subst h;obtain⟨d1,d2,d3,e',hl,hl2,hr⟩:=ihb r2 hq;refine⟨c1++d1,d2,d3,by rw[e1,e'];simp,?_,hl2,⟨c1,d1++cy++d3,by simp,r1,hr⟩⟩;rw[aRX,hl,sJ r1];omega
 |list v=>
  intro x cs o q r h;cases o with
  |zero=>
   simp only[wZ] at h;split at h
   .simp only[aRV] at h;subst h;exact⟨[],cs,[],by simp,rfl,sJ r,by rw[List.nil_append,List.append_nil];exact hy⟩
   .cases h
  |succ o=>simp [wZ] at h
 |_=>intro x cs o q r h;cases o<;>simp [wZ] at h
def E6 (g:Gh) (t:Ty) (x:t.den) (cs:pP) (toks:pN):Prop:=
 ∀o k,(o,k)∈toks->∃(u:Ty) (l:List u.den) (v:pU),qZ (.list u) t x o=some l/\cs[o]? =some v/\g.cur k l.length=some v
def aIP (w:pT) (p:Pl) (n:Nat):Prop:=w.there p.1 p.2 n/\(0<n->∀s,p.3=some s->w.shape? p.1=some s)
def A2 {w:pT}{b:Nat}{s:TypeId×Nat}(h:w.shape? b=some s):b<w.heap.size:=by
 unfold World.shape? at h;cases hb:w.heap[b]? with
 |none=>rw[hb] at h;cases h
 |some x=>exact(aSn.1 hb).1
def A3 {w w':pT}{b:Nat}(h:w'.heap[b]? =w.heap[b]?):w'.shape? b=w.shape? b:=by
 unfold World.shape?;rw[h]
def yK (g:Gh) (w:pT) (i:Nat):qB->Prop
 | .cells t x toks=> ∃p cs,g.J i=some p/\Rd g w t x cs/\w.rangeAt p.1 p.2 cs/\aIP w p t.cells/\(∀j,j<t.cells->¬g.S p.1 (p.2+j))/\E6 g t x cs toks
 | .grow e c n=> ∃v xs,g.cur i n=some v/\w.ownsRow 0 e c v n xs/\(∀m,n<m->g.cur i m=none)/\∀b,v.ownBlock=some b->∀o,g.S b o->o<n*c
 | .row e t l n=>l.length=n/\∃v xs,g.cur i n=some v/\w.ownsRow 0 e t.cells v n xs/\tG (Rd g w t) t.cells l xs/\(∀m,n<m->g.cur i m=none)/\∀b,v.ownBlock=some b->∀o,¬g.S b o
 | .map k v l=> ∃p es clock,g.J i=some p/\p.2=0/\w.heap[p.1]? =some (.map es clock)/\BS g w k v l es.toList/\∀o,¬g.S p.1 o
 | .iter s n=> ∃p,g.J i=some p/\p.2=0/\w.heap[p.1]? =some (.stringIter ⟨s.toArray⟩ n)/\∀o,¬g.S p.1 o
 | .dead=>True
def s6 (g:Gh) (i:Nat):qB->Nat->Nat->Prop
 | .cells t _ _,b,o=> ∃p,g.J i=some p/\b=p.1/\p.2<=o/\o<p.2+t.cells
 | .grow _ _ n,b,_=> ∃v,g.cur i n=some v/\v.ownBlock=some b
 | .row _ _ _ n,b,_=> ∃v,g.cur i n=some v/\v.ownBlock=some b
 | .map _ _ _,b,_=> ∃p,g.J i=some p/\b=p.1
 | .iter _ _,b,_=> ∃p,g.J i=some p/\b=p.1
 | .dead,_,_=>False
structure sA (g:Gh) (w:pT) (H:rZ):Prop where
 blk: ∀i b,qE H i=some b->yK g w i b
 dis: ∀i j bi bj b o,i≠j->qE H i=some bi->qE H j=some bj->s6 g i bi b o->s6 g j bj b o->False
 sl: ∀b o,g.S b o->b<w.heap.size
 tab:CP w/\∀i blk b o,qE H i=some blk->s6 g i blk b o->NG<=b
def sI (g:Gh) (H:rZ) (ids:pS) (b o:Nat):Prop:= ∃i blk,i∈ids/\qE H i=some blk/\s6 g i blk b o
structure Fr (A:Nat->Nat->Prop) (w w':pT) (S S':Nat->Nat->Prop):Prop where
 os:w'.os=w.os
 tape:w'.tape=w.tape
 output:w'.output=w.output
 size:w.heap.size<=w'.heap.size
 blk: ∀b,b<w.heap.size->(∀o,¬A b o)->w'.heap[b]? =w.heap[b]?
 cell: ∀b o,b<w.heap.size->¬A b o->w'.cell? ⟨b,o,none⟩=w.cell? ⟨b,o,none⟩/\w'.frozen? ⟨b,o,none⟩=w.frozen? ⟨b,o,none⟩
 new: ∀b o,S' b o->S b o\/w.heap.size<=b\/A b o
 shape: ∀b s,w.shape? b=some s->w'.shape? b=some s\/∀o,A b o
def Fr.refl (A:Nat->Nat->Prop) (w:pT) (S:Nat->Nat->Prop):Fr A w w S S:=
 ⟨rfl,rfl,rfl,aSl _,fun _ _ _=>rfl,fun _ _ _ _=>⟨rfl,rfl⟩,fun _ _ h=> .inl h,fun _ _ h=> .inl h⟩
def Fr.trans {A B:Nat->Nat->Prop}{w w' w'':pT}{S S' S'':Nat->Nat->Prop}(h:Fr A w w' S S') (k:Fr B w' w'' S' S'') (hB: ∀b o,B b o->w.heap.size<=b\/A b o):Fr A w w'' S S'':=by
 refine⟨k.os.trans h.os,k.tape.trans h.tape,k.output.trans h.output,aSL h.size k.size,fun b hb hA=>?_,fun b o hb hA=>?_,fun b o hs=>?_,fun b s hs=>?_⟩
 .refine(k.blk b (aSv hb h.size) fun o ho=>?_).trans (h.blk b hb hA);rcases hB b o ho with h1|h1
  .omega
  exact hA o h1
 .have h1:=h.cell b o hb hA;have h2:=k.cell b o (aSv hb h.size) (fun ho=>by
   rcases hB b o ho with h1|h1
   .omega
   exact hA h1)
  exact⟨h2.1.trans h1.1,h2.2.trans h1.2⟩
 .rcases k.new b o hs with h1|h1|h1
  .exact h.new b o h1
  .exact .inr (.inl (aSL h.size h1))
  exact .inr (hB b o h1)
 rcases h.shape b s hs with h1|h1
 .rcases k.shape b s h1 with h2|h2
  .exact .inl h2
  refine .inr fun o=>(hB b o (h2 o)).resolve_left ?_;have:=A2 hs;omega
 exact .inr h1
structure rJ (g:Gh) (w:pT) (H:rZ) (e:qP) (g':Gh) (w':pT) (v:pU):Prop where
 le:Le g w g' w'
 slot:rN g' w' e.slot v
 heap:sA g' w' (qT e.upd H)
 fr:Fr (sI g H (qH e.upd)) w w' g.S g'.S
 perm: ∀i blk b o,i∈qH e.upd->qE (qT e.upd H) i=some blk->s6 g' i blk b o->w.heap.size<=b\/sI g H (qH e.upd) b o
 gho: ∀i,i∉qH e.upd->g'.J i=g.J i/\g'.cur i=g.cur i
 ty: ∀i u y us,qE (qT e.upd H) i=some (.cells u y us)->(∃x ts,qE H i=some (.cells u x ts))\/(g.J i=none/\∀n,g.cur i n=none)
structure y7 (g:Gh) (w:pT) (H:rZ) (e:qP) (g':Gh) (w':pT) (v:pU):Prop where
 le:Le g w g' w'
 slot:rN g' w' e.slot v
 heap:sA g' w' (qT e.upd H)
 fr:Fr (sI g H (qH e.upd)) w w' g.S g'.S
 perm: ∀i blk b o,i∈qH e.upd->qE (qT e.upd H) i=some blk->s6 g' i blk b o->w.heap.size<=b\/sI g H (qH e.upd) b o
 gho: ∀i,i∉qH e.upd->g'.J i=g.J i/\g'.cur i=g.cur i
 ty:FI e.rds=false->∀i u y us,qE (qT e.upd H) i=some (.cells u y us)->(∃x ts,qE H i=some (.cells u x ts))\/(g.J i=none/\∀n,g.cur i n=none)
def rJ.w {g:Gh}{w:pT}{H:rZ}{e:qP}{g':Gh}{w':pT}{v:pU}(h:rJ g w H e g' w' v):y7 g w H e g' w' v:=⟨h.le,h.slot,h.heap,h.fr,h.perm,h.gho,fun _=>h.ty⟩
def IK {w:pT}{B:Nat}{e:TypeId}{c n:Nat}{v:pU}{xs:pP}(h:w.ownsRow B e c v n xs) {b:Nat}(hb:v.ownBlock=some b):b<w.heap.size:=(h.lt b hb).2
def NX {w:pT}{b o:Nat}{v:pU}(h:w.cell? ⟨b,o,none⟩=some v):b<w.heap.size:=by
 have:=World.block_lt_of_cell? w ⟨b,o,none⟩ h;exact this
def IL {g:Gh}{w:pT}{i:Nat}{blk:qB}(h:yK g w i blk) {b o:Nat}(ho:s6 g i blk b o):b<w.heap.size:=by
 cases blk with
 |cells t x toks=>
  obtain⟨p,cs,hp,_,_,ht,_⟩:=h;obtain⟨q,hq,rfl,h1,h2⟩:=ho;rw[hp] at hq;obtain rfl:=aRY hq;have:=(ht.1 (o-p.2) pI).1;obtain⟨v,hv⟩:=aRW.1 this;exact NX hv
 |grow e c n=>
  obtain⟨v,xs,hv,hr,_⟩:=h;obtain⟨v',hv',hb⟩:=ho;rw[hv] at hv';obtain rfl:=aRY hv';exact IK hr hb
 |row e t l n=>
  obtain⟨_,v,xs,hv,hr,_⟩:=h;obtain⟨v',hv',hb⟩:=ho;rw[hv] at hv';obtain rfl:=aRY hv';exact IK hr hb
 |map k v l=>
  obtain⟨p,es,cl,hp,_,hh,_,_⟩:=h;obtain⟨q,hq,rfl⟩:=ho;rw[hp] at hq;obtain rfl:=aRY hq;exact(aSn.1 hh).1
 |iter s n=>
  obtain⟨p,hp,_,hh,_⟩:=h;obtain⟨q,hq,rfl⟩:=ho;rw[hp] at hq;obtain rfl:=aRY hq;exact(aSn.1 hh).1
 |dead=>exact ho.elim
def a9S {g g':Gh}(hc: ∀k n v,g.cur k n=some v->g'.cur k n=some v) {t:Ty}{x:t.den}{cs:pP}{toks:pN}(h:E6 g t x cs toks):E6 g' t x cs toks:=
 fun o k hm=>let ⟨u,l,v,h1,h2,h3⟩:=h o k hm;⟨u,l,v,h1,h2,hc _ _ _ h3⟩
def FX {g g':Gh}{w w':pT}{i:Nat}{blk:qB}(h:yK g w i blk) (le:Le g w g' w') (hJ:g'.J i=g.J i) (hcur:g'.cur i=g.cur i)
  (hc: ∀b o,s6 g i blk b o->w'.cell? ⟨b,o,none⟩=w.cell? ⟨b,o,none⟩/\w'.frozen? ⟨b,o,none⟩=w.frozen? ⟨b,o,none⟩)
  (hb: ∀b,(∀o,s6 g i blk b o)->w'.heap[b]? =w.heap[b]?) (hS: ∀b o,s6 g i blk b o->g'.S b o->g.S b o) (hsh: ∀b o s,s6 g i blk b o->w.shape? b=some s->w'.shape? b=some s):yK g' w' i blk:=by
 cases blk with
 |cells t x toks=>
  obtain⟨p,cs,hp,hr,hra,ht,hs,htk⟩:=h;have ho: ∀j,j<t.cells->s6 g i (.cells t x toks) p.1 (p.2+j):=fun j hj=>⟨p,hp,rfl,pI,pI⟩;refine⟨p,cs,hJ.trans hp,vK le hr,fun j v hv=>?_,⟨fun j hj=>?_,fun h0 s hs3=>hsh _ _ _ (ho 0 h0) (ht.2 h0 s hs3)⟩,fun j hj hs'=>hs j hj (hS _ _ (ho j hj) hs'),a9S le.cur htk⟩
  .have hj:j<t.cells:=sJ hr▸(aR7.1 hv).1;rw[(hc _ _ (ho j hj)).1];exact hra j v hv
  .rw[(hc _ _ (ho j hj)).1,(hc _ _ (ho j hj)).2];exact ht.1 j hj
 |grow e c n=>
  obtain⟨v,xs,hv,hr,hn,hs⟩:=h;have hbl: ∀b,v.ownBlock=some b->∀o,s6 g i (.grow e c n) b o:=fun b hb o=>⟨v,hv,hb⟩;refine⟨v,xs,by rw[hcur];exact hv,⟨hr.1,?_⟩,fun m hm=>by rw[hcur];exact hn m hm,fun b hvb o hs'=>hs b hvb o (hS _ _ (hbl b hvb o) hs')⟩;rcases hr.2 with h0|⟨q,cap,cur,e1,e2,e3,e4⟩
  .exact .inl h0
  .subst e1;exact .inr ⟨q,cap,cur,rfl,e2,by rw[hb q (hbl q rfl)];exact e3,e4⟩
 |row e t l n=>
  obtain⟨hl,v,xs,hv,hr,hF,hn,hs⟩:=h;have hbl: ∀b,v.ownBlock=some b->∀o,s6 g i (.row e t l n) b o:=fun b hb o=>⟨v,hv,hb⟩;refine⟨hl,v,xs,by rw[hcur];exact hv,⟨hr.1,?_⟩,AL (fun _ _ h=>vK le h) hF,fun m hm=>by rw[hcur];exact hn m hm,fun b hvb o hs'=>hs b hvb o (hS _ _ (hbl b hvb o) hs')⟩;rcases hr.2 with h0|⟨q,cap,cur,e1,e2,e3,e4⟩
  .exact .inl h0
  .subst e1;exact .inr ⟨q,cap,cur,rfl,e2,by rw[hb q (hbl q rfl)];exact e3,e4⟩
 |map k v l=>
  obtain⟨p,es,cl,hp,h0,hh,hM,hs⟩:=h;have hbl: ∀o,s6 g i (.map k v l) p.1 o:=fun o=>⟨p,hp,rfl⟩;exact⟨p,es,cl,hJ.trans hp,h0,(hb _ hbl).trans hh,XX le hM,fun o hs'=>hs o (hS _ _ (hbl o) hs')⟩
 |iter s n=>
  obtain⟨p,hp,h0,hh,hs⟩:=h;have hbl: ∀o,s6 g i (.iter s n) p.1 o:=fun o=>⟨p,hp,rfl⟩;exact⟨p,hJ.trans hp,h0,(hb _ hbl).trans hh,fun o hs'=>hs o (hS _ _ (hbl o) hs')⟩
 |dead=>trivial
def w8 {g g':Gh}{i:Nat}{blk:qB}(hJ:g'.J i=g.J i) (hcur:g'.cur i=g.cur i) {b o:Nat}:s6 g' i blk b o↔s6 g i blk b o:=by
 cases blk<;>simp [s6,hJ,hcur]
def yM {i:Nat}: ∀{u:List (Nat×qB)}{H:rZ},i∉qH u->qE (qT u H) i=qE H i
 |[],_,_=>rfl
 |(k,b)::r,H,h=>by
  simp only[qH,aSa,not_or] at h;simp only[qT,qE];rw[aR4 (Ne.symm h.1)];exact yM h.2
def sA.upd {g g':Gh}{w w':pT}{H:rZ}{u:List (Nat×qB)}(h:sA g w H) (le:Le g w g' w') (fr:Fr (sI g H (qH u)) w w' g.S g'.S)
  (perm: ∀i blk b o,i∈qH u->qE (qT u H) i=some blk->s6 g' i blk b o->w.heap.size<=b\/sI g H (qH u) b o)
  (gho: ∀i,i∉qH u->g'.J i=g.J i/\g'.cur i=g.cur i)
  (hb: ∀i blk,i∈qH u->qE (qT u H) i=some blk->yK g' w' i blk)
  (hd: ∀i j bi bj b o,i∈qH u->j∈qH u->i≠j->qE (qT u H) i=some bi->qE (qT u H) j=some bj->s6 g' i bi b o->s6 g' j bj b o->False)
  (sl: ∀b o,g'.S b o->b<w'.heap.size):sA g' w' (qT u H):=by
 have out: ∀i blk,i∉qH u->qE H i=some blk->∀b o,s6 g i blk b o->b<w.heap.size/\¬sI g H (qH u) b o:=fun i blk hi hg b o ho=>
  ⟨IL (h.blk i blk hg) ho,fun⟨j,bj,hj,hgj,hoj⟩=>h.dis i j blk bj b o (fun e=>hi (e▸hj)) hg hgj ho hoj⟩
 refine⟨fun i blk hg=>?_,fun i j bi bj b o hij hgi hgj hoi hoj=>?_,sl,FH h.tab.1 fr.size (fun b hb=>fr.blk b (aSv hb h.tab.1.1) (fun o ⟨j,bj,_,k1,k2⟩=>Nat.not_lt.2 (h.tab.2 j bj b o k1 k2) hb)),fun i blk b o hg ho=>?_⟩
 rotate_right
 .by_cases hi:i∈qH u
  .rcases perm i blk b o hi hg ho with h1|⟨j,bj,_,k1,k2⟩
   .exact aSL h.tab.1.1 h1
   exact h.tab.2 j bj b o k1 k2
  exact h.tab.2 i blk b o ((yM hi).symm.trans hg) ((w8 (gho i hi).1 (gho i hi).2).1 ho)
 .by_cases hi:i∈qH u
  .exact hb i blk hi hg
  have hg0:=(yM hi).symm.trans hg;have hk:=gho i hi;refine FX (h.blk i blk hg0) le hk.1 hk.2 (fun b o ho=>?_) (fun b ho=>?_) (fun b o ho hs=>?_) (fun b o s ho hs=>(fr.shape b s hs).resolve_right fun h1=>(out i blk hi hg0 b o ho).2 (h1 o))
  .exact fr.cell b o (out i blk hi hg0 b o ho).1 (out i blk hi hg0 b o ho).2
  .exact fr.blk b (out i blk hi hg0 b 0 (ho 0)).1 (fun o=>(out i blk hi hg0 b o (ho o)).2)
  rcases fr.new b o hs with h1|h1|h1
  .exact h1
  .have:=(out i blk hi hg0 b o ho).1;omega
  exact absurd h1 (out i blk hi hg0 b o ho).2
 by_cases hi:i∈qH u<;>by_cases hj:j∈qH u
 .exact hd i j bi bj b o hi hj hij hgi hgj hoi hoj
 .have hg0:=(yM hj).symm.trans hgj;have ho0:=(w8 (gho j hj).1 (gho j hj).2).1 hoj;rcases perm i bi b o hi hgi hoi with h1|h1
  .have:=(out j bj hj hg0 b o ho0).1;omega
  exact(out j bj hj hg0 b o ho0).2 h1
 .have hg0:=(yM hi).symm.trans hgi;have ho0:=(w8 (gho i hi).1 (gho i hi).2).1 hoi;rcases perm j bj b o hj hgj hoj with h1|h1
  .have:=(out i bi hi hg0 b o ho0).1;omega
  exact(out i bi hi hg0 b o ho0).2 h1
 exact h.dis i j bi bj b o hij ((yM hi).symm.trans hgi) ((yM hj).symm.trans hgj) ((w8 (gho i hi).1 (gho i hi).2).1 hoi) ((w8 (gho j hj).1 (gho j hj).2).1 hoj)
def rJ.pure {g:Gh}{w:pT}{H:rZ}{side:List Prop}{s:qC}{rds:pS}{v:pU}(h:sA g w H) (hs:rN g w s v):rJ g w H ⟨side,s,[],rds⟩ g w v:=
 ⟨.refl _ _,hs,h,.refl _ _ _,fun _ _ _ _ hi=>(by cases hi),fun _ _=>⟨rfl,rfl⟩,fun _ _ y us h=> .inl ⟨y,us,h⟩⟩
def y7.pure {g:Gh}{w:pT}{H:rZ}{side:List Prop}{s:qC}{rds:pS}{v:pU}(h:sA g w H) (hs:rN g w s v):y7 g w H ⟨side,s,[],rds⟩ g w v:=(rJ.pure h hs).w
def IM {α:Type}: ∀(l m n:List α),qT (qT l m) n=qT l (qT m n)
 |[],_,_=>rfl
 |x::l,m,n=>by simp only[qT,IM l m n]
def AM {i:Nat}: ∀{l m:List (Nat×qB)},i∈qH (qT l m)↔i∈qH l\/i∈qH m
 |[],m=>by simp [qT,qH]
 |(k,b)::l,m=>by simp only[qT,qH,aSa,AM (l:=l),or_assoc]
def rJ.trans {g:Gh}{w:pT}{H:rZ}{e1 e2:qP}{g1 g2:Gh}{w1 w2:pT}{v1 v2:pU}{side:List Prop}{rds:pS}(h:rJ g w H e1 g1 w1 v1) (k:rJ g1 w1 (qT e1.upd H) e2 g2 w2 v2):rJ g w H ⟨side,e2.slot,qT e2.upd e1.upd,rds⟩ g2 w2 v2:=by
 have hB: ∀b o,sI g1 (qT e1.upd H) (qH e2.upd) b o->w.heap.size<=b\/sI g H (qH (qT e2.upd e1.upd)) b o:=by
  rintro b o ⟨i,blk,hi,hg,ho⟩;by_cases h1:i∈qH e1.upd
  .refine(h.perm i blk b o h1 hg ho).imp id fun⟨j,bj,hj,q⟩=>⟨j,bj,AM.2 (.inr hj),q⟩
  exact .inr ⟨i,blk,AM.2 (.inl hi),(yM h1).symm.trans hg,(w8 (h.gho i h1).1 (h.gho i h1).2).1 ho⟩
 have mono: ∀b o,sI g H (qH e1.upd) b o->sI g H (qH (qT e2.upd e1.upd)) b o:=fun b o ⟨j,bj,hj,q⟩=>⟨j,bj,AM.2 (.inr hj),q⟩;refine⟨h.le.trans k.le,k.slot,by simp only[IM];exact k.heap,?_,fun i blk b o hi hg ho=>?_,fun i hi=>?_,fun i u y us hg=>?_⟩
 .have h1:Fr (sI g H (qH (qT e2.upd e1.upd))) w w1 g.S g1.S:=⟨h.fr.os,h.fr.tape,h.fr.output,h.fr.size,fun b hb hn=>h.fr.blk b hb (fun o ho=>hn o (mono b o ho)),fun b o hb hn=>h.fr.cell b o hb (fun ho=>hn (mono b o ho)),fun b o hs=>(h.fr.new b o hs).imp id (Or.imp id (mono b o)),fun b s hs=>(h.fr.shape b s hs).imp id fun h o=>mono b o (h o)⟩;exact h1.trans k.fr hB
 .simp only[IM] at hg;by_cases h2:i∈qH e2.upd
  .rcases k.perm i blk b o h2 hg ho with h3|h3
   .exact .inl (aSL h.fr.size h3)
   exact hB b o h3
  have hi1:i∈qH e1.upd:=(AM.1 hi).resolve_left h2;rw[yM h2] at hg;exact(h.perm i blk b o hi1 hg ((w8 (k.gho i h2).1 (k.gho i h2).2).1 ho)).imp id (mono b o)
 .have h2:i∉qH e2.upd:=fun q=>hi (AM.2 (.inl q));have h1:i∉qH e1.upd:=fun q=>hi (AM.2 (.inr q));exact⟨(k.gho i h2).1.trans (h.gho i h1).1,(k.gho i h2).2.trans (h.gho i h1).2⟩
 simp only[IM] at hg;rcases k.ty i u y us hg with⟨x,ts,h3⟩ |⟨h3,h4⟩
 .exact h.ty i u x ts h3
 right;refine⟨?_,fun n=>?_⟩
 .cases hj:g.J i with
  |none=>rfl
  |some p=>rw[h.le.J i p hj] at h3;cases h3
 cases hj:g.cur i n with
 |none=>rfl
 |some p=>rw[<-h4 n,h.le.cur i n p hj]
def rJ.congrH {g:Gh}{w:pT}{H H':rZ}{e:qP}{g':Gh}{w':pT}{v:pU}(h:rJ g w H e g' w' v) (hH:H=H'):rJ g w H' e g' w' v:=hH▸h
def E7 {α:Type}{x:α}: ∀{l m:List α},x∈qT l m↔x∈l\/x∈m
 |[],m=>by simp [qT]
 |y::l,m=>by simp only[qT,aSa,E7 (l:=l),or_assoc]
def rJ.slot' {g:Gh}{w:pT}{H:rZ}{sd sd2:List Prop}{s s2:qC}{U:List (Nat×qB)}{r r2:pS}{g':Gh}{w':pT}{v v2:pU}(h:rJ g w H ⟨sd,s,U,r⟩ g' w' v) (hs:rN g' w' s2 v2):rJ g w H ⟨sd2,s2,U,r2⟩ g' w' v2:=
 ⟨h.le,hs,h.heap,h.fr,h.perm,h.gho,h.ty⟩
def sA.ext0 {g:Gh}{w:pT}{H H':rZ}(h:sA g w H) (e: ∀i,qE H i=qE H' i):sA g w H':=
 ⟨fun i b hb=>h.blk i b (by rw[e];exact hb),fun i j bi bj b o hij h1 h2=>h.dis i j bi bj b o hij (by rw[e];exact h1) (by rw[e];exact h2),h.sl,h.tab.1,fun i b bb oo hb ho=>h.tab.2 i b bb oo (by rw[e];exact hb) ho⟩
def rJ.more {g:Gh}{w:pT}{H:rZ}{sd sd2:List Prop}{s:qC}{U U2:List (Nat×qB)}{r r2:pS}{g':Gh}{w':pT}{v:pU}(h:rJ g w H ⟨sd,s,U,r⟩ g' w' v) (hg: ∀i,qE (qT U2 H) i=qE (qT U H) i) (hm: ∀i,i∈qH U->i∈qH U2):rJ g w H ⟨sd2,s,U2,r2⟩ g' w' v:=by
 have mono: ∀b o,sI g H (qH U) b o->sI g H (qH U2) b o:=fun b o ⟨j,bj,hj,q⟩=>⟨j,bj,hm j hj,q⟩;refine⟨h.le,h.slot,h.heap.ext0 (fun i=>(hg i).symm),⟨h.fr.os,h.fr.tape,h.fr.output,h.fr.size,fun b hb hn=>h.fr.blk b hb (fun o ho=>hn o (mono b o ho)),fun b o hb hn=>h.fr.cell b o hb (fun ho=>hn (mono b o ho)),fun b o hs=>(h.fr.new b o hs).imp id (Or.imp id (mono b o)),fun b s hs=>(h.fr.shape b s hs).imp id fun h o=>mono b o (h o)⟩,fun i blk b o hi hg2 ho=>?_,fun i hi=>h.gho i (fun q=>hi (hm i q)),fun i u y us hg2=>h.ty i u y us ((hg i).symm.trans hg2)⟩;rw[hg] at hg2;by_cases h1:i∈qH U
 .exact(h.perm i blk b o h1 hg2 ho).imp id (mono b o)
 exact .inr ⟨i,blk,hi,(yM h1).symm.trans hg2,(w8 (h.gho i h1).1 (h.gho i h1).2).1 ho⟩
def tM:Ty->pP
 | .bool=>[.bool false]
 | .int k=>[.int k 0]
 | .str=>[.string ⟨#[]⟩]
 | .list _=>[.slice none 0 0]
 | .unit=>[]
 | .pair a b=>tM a++tM b
 | .ref=>[.pointer none]
 | .clo=>[.nilFunc]
 | .mp=>[.map none]
 | .rl _ _=>[.slice none 0 0]
 | .fn=>[.nilFunc]
 | .mref=>[.pointer none]
 | .ap=>[.nilFunc]
def wS (t:Ty):pU:=if t.isRow then .agg (tM t).toArray else(tM t).headD undef
def LA (P:Program):Ty->Nat->List Field->Prop
 | .unit,_,[]=>True
 | .pair a b,o,f::r=>f.offset=o/\(P.info? f.type).map (·.size)=some a.cells/\(P.underlying f.type).map (·.isRow)=some a.isRow/\LA P b (o+a.cells) r
 |_,_,_=>False
def NY (P:Program) (e:TypeId):Ty->Nat->Prop
 | .unit,0=>True
 | .pair a b,n+1=>(P.info? e).map (·.size)=some a.cells/\(P.underlying e).map (·.isRow)=some a.isRow/\NY P e b n
 |_,_=>False
inductive XZ where
 |ty (t:TypeId) |fs (o:Nat) (l:List Field) |el (e:TypeId) (i m:Nat)
inductive xE (P:Program):Nat->XZ->Ty->Prop
 |bool {h t}:P.underlying t=some .bool->xE P h (.ty t) .bool
 |int {h t k}:P.underlying t=some (.int k)->xE P h (.ty t) (.int k)
 |str {h t}:P.underlying t=some .string->xE P h (.ty t) .str
 |struct {h t fs ty}:ty.isRow=true->P.underlying t=some (.struct fs)->P.stoodInHeld t=false->xE P h (.fs 0 fs.toList) ty->xE P (h+1) (.ty t) ty
 |arr {h t e n ty}:ty.isRow=true->P.underlying t=some (.array n e)->(P.info? e).isSome=true->xE P h (.el e 0 n) ty->xE P (h+1) (.ty t) ty
 |nil {h o}:xE P h (.fs o []) .unit
 |cons {h o}{f:Field}{r a b}:f.name≠ "_" ->f.offset=o->(P.info? f.type).map (·.size)=some a.cells->(P.underlying f.type).map (·.isRow)=some a.isRow->xE P h (.ty f.type) a->xE P h (.fs (o+a.cells) r) b->xE P h (.fs o (f::r)) (.pair a b)
 |anil {h e i}:xE P h (.el e i 0) .unit
 |acons {h e i m a b}:(P.info? e).map (·.size)=some a.cells->(P.underlying e).map (·.isRow)=some a.isRow->xE P h (.ty e) a->xE P h (.el e (i+1) m) b->xE P h (.el e i (m+1)) (.pair a b)
def a9T (P:Program):Prop:=
 (∀(w:pT) (p:Option Addr),Calls P FG #[.pointer p] w fun e w'=> ∃b,e= .returned (.func (.func FF) #[] #[.pointer (some ⟨b,0,none⟩)])/\w.heap.size<=b/\b<w'.heap.size/\w'.cell? ⟨b,0,none⟩=some (.pointer p)/\Below w.heap.size w w')/\
 (∀args w,(callFunc FG args).run P w= .ok (.enter FG args) w)/\(∀args w,(callFunc FF args).run P w= .ok (.enter FF args) w)/\
 ∀(w:pT) (b:Nat) (α:Addr) (y s:pE) (ok:Bool),w.cell? ⟨b,0,none⟩=some (.pointer (some α))->w.cell? α=some (.string ⟨y.toArray⟩)->w.frozen? α=false->α.spot=none->((y++s).length:Int)<=9223372036854775807->
  (∀w1,Below w.heap.size w w1->Calls P DP #[.string ⟨(y++s).toArray⟩] w1 fun e w'=>e= .returned (.bool ok)/\Below w1.heap.size w1 w')->
  Calls P FF #[.string ⟨s.toArray⟩,.pointer (some ⟨b,0,none⟩)] w fun e w'=>e= .returned (.bool ok)/\∃w1,Below w.heap.size w w1/\w'=if ok=true then w1.setCells α.block α.off [.string ⟨(y++s).toArray⟩] else w1
def w9 (P:Program) (t:TypeId) (ti:TI):Prop:=
 match ti.ty with
 | .bool=>P.underlying t=some .bool
 | .int k=>P.underlying t=some (.int k)
 | .str=>P.underlying t=some .string
 | .ref=> ∃e,P.underlying t=some (.pointer e)
 | .clo=> ∃a b c,P.underlying t=some (.func a b c)
 | .mp=>P.underlying t=some (.map ti.elem ti.bytes)
 | .rl _ _=> ∃e,P.underlying t=some (.slice e)
 | .fn=> ∃a b c,P.underlying t=some (.func a b c)
 | .mref=> ∃e,P.underlying t=some (.pointer e)
 | .ap=>(∃a b c,P.underlying t=some (.func a b c))/\a9T P
 | .list u=>P.underlying t=some (.slice ti.elem)/\(P.info? ti.elem).map (fun i=>(i.size,i.bytes,i.zero))=some (u.cells,ti.bytes,some (wS u))/\(P.underlying ti.elem).map (·.isRow)=some u.isRow
 |ty=>((ti.arr=false/\∃fs,P.underlying t=some (.struct fs)/\LA P ty 0 fs.toList)\/(ti.arr=true/\∃n e,P.underlying t=some (.array n e)/\NY P e ty n/\(P.info? e).isSome=true))/\(ti.bytes=1->P.eqGuardType P.depth t=false/\∃h,h<9000/\xE P h (.ty t) ty)
def sT (P:Program) (t:TypeId) (ti:TI):Prop:=(P.info? t).map (fun i=>(i.size,i.zero))=some (ti.ty.cells,some (wS ti.ty))/\w9 P t ti
def wA (P:Program):sG->Prop
 |[]=>True
 |(t,ti)::r=>sT P t ti/\wA P r
theorem sL {P:Program}: ∀{T:sG},wA P T->∀{t:TypeId}{ti:TI},rS T t=some ti->sT P t ti
 |[],_,_,_,h=>by simp [rS] at h
 |(k,ti)::r,hT,t,ti',h=>by
  simp only[rS] at h;by_cases hk:k=t
  .rw[aRZ hk] at h;subst hk;rw[<-aRY h];exact hT.1
  rw[aR4 hk] at h;exact sL hT.2 h
theorem BT (g:Gh) (w:pT): ∀t:Ty,Rd g w t t.zero (tM t)
 | .bool=>rfl
 | .int _=>rfl
 | .str=>rfl
 | .list _=>⟨none,0,rfl,aSl _,.inl rfl⟩
 | .unit=>rfl
 | .pair a b=>⟨_,_,rfl,BT g w a,BT g w b⟩
 | .ref=>rfl
 | .clo=>rfl
 | .mp=>rfl
 | .rl _ _=>rfl
 | .fn=>rfl
 | .mref=>rfl
 | .ap=> .inl ⟨rfl,rfl⟩
theorem IN (g:Gh) (w:pT) (t:Ty):sR g w t t.zero (wS t):=by
 unfold sR wS;by_cases h:t.isRow=true
 .left;rw[aRZ h];exact⟨h,_,rfl,BT g w t⟩
 right;rw[aR4 h];refine⟨by simpa using h,?_⟩;cases t<;>first|exact BT g w _|(simp [Ty.isRow] at h)
theorem CY {g:Gh}{w:pT}{t:Ty}{x:t.den}{v:pU}(h:sR g w t x v):Rd g w t x v.cells.toList:=by
 rcases h with⟨_,cs,rfl,r⟩ |⟨hr,r⟩
 .simpa[Value.cells] using r
 have h1:=yJ r v pK;have:v.cells= #[v]:=by cases v<;>first|rfl|(simp [Value.oneCell'] at h1)
 rw[this];exact r
theorem wB {g:Gh}{w:pT}{t:Ty}{x:t.den}{v:pU}(hr:t.isRow=false) (h:sR g w t x v):Rd g w t x [v]:=by
 rcases h with⟨h1,_⟩ |⟨_,r⟩
 .rw[hr] at h1;cases h1
 exact r
theorem uZ {g:Gh}{w:pT}{k:IntKind}{n:Int}{v:pU}(h:sR g w (.int k) n v):v= .int k n:=by
 have:=wB rfl h;simp only[Rd,aSy,and_true] at this;exact this
theorem uJ {g:Gh}{w:pT}{n:Bool}{v:pU}(h:sR g w .bool n v):v= .bool n:=by
 have:=wB rfl h;simp only[Rd,aSy,and_true] at this;exact this
theorem vM {g:Gh}{w:pT}{l:pE}{v:pU}(h:sR g w .str l v):v= .string ⟨l.toArray⟩:=by
 have:=wB rfl h;simp only[Rd,aSy,and_true] at this;exact this
theorem BU {g:Gh}{w:pT}{t:Ty}{l:List t.den}{v:pU}(h:sR g w (.list t) l v): ∃a cap,v= .slice a l.length cap/\l.length<=cap/\(l=[]\/∃b o,a=some ⟨b,o,none⟩/\x4 (Rd g w t) w g.S t.cells b o l):=by
 have:=wB rfl h;obtain⟨a,cap,e,h1,h2⟩:=this;simp only[aSy,and_true] at e;exact⟨a,cap,e,h1,h2⟩
theorem wC {g:Gh}{w:pT}{i o:Nat}{v:pU}(h:sR g w .ref (some (i,o)) v): ∃p,g.J i=some p/\v= .pointer (some ⟨p.1,p.2+o,none⟩):=by
 have:=wB rfl h;obtain⟨p,h1,e⟩:=this;simp only[aSy,and_true] at e;exact⟨p,h1,e⟩
theorem IP {g:Gh}{w:pT}{t:Ty}{x:t.den}{v:pU}(hr:t.isRow=true) (h:sR g w t x v): ∃cs:pP,v= .agg cs.toArray/\Rd g w t x cs:=by
 rcases h with⟨_,r⟩ |⟨h1,_⟩
 .exact r
 rw[hr] at h1;cases h1
theorem vD (g:Gh) (w:pT) (k:IntKind) (n:Int):sR g w (.int k) n (.int k n):= .inr ⟨rfl,rfl⟩
theorem uK (g:Gh) (w:pT) (b:Bool):sR g w .bool b (.bool b):= .inr ⟨rfl,rfl⟩
theorem AN (g:Gh) (w:pT) (l:pE):sR g w .str l (.string ⟨l.toArray⟩):= .inr ⟨rfl,rfl⟩
def rG (P:Program) (o:Oper) (a:Act) (g:Gh) (w:pT) (H:rZ) (e:qP):Prop:=
 ∀(K:Act->pT->Prop) (Q:Exit->Act->pT->Prop),(∀g' w' v,y7 g w H e g' w' v->K (a.put o.dst v) w')->o.wp P a w K Q
theorem rG.valueW {P:Program}{o:Oper}{a:Act}{g g':Gh}{w w':pT}{H:rZ}{e:qP}{v:pU}(hr:(execOp a.eval o).run P w= .ok (.value v) w') (h:y7 g w H e g' w' v):rG P o a g w H e:=by
 intro K Q hK;unfold Oper.wp;rw[hr];exact hK g' w' v h
theorem rG.skipW {P:Program}{o:Oper}{a:Act}{g g':Gh}{w w':pT}{H:rZ}{e:qP}(hr:(execOp a.eval o).run P w= .ok .skip w') (h:y7 g w H e g' w' undef):rG P o a g w H e:=by
 intro K Q hK;unfold Oper.wp;rw[hr];exact hK g' w' undef h
theorem rG.value {P:Program}{o:Oper}{a:Act}{g g':Gh}{w w':pT}{H:rZ}{e:qP}{v:pU}(hr:(execOp a.eval o).run P w= .ok (.value v) w') (h:rJ g w H e g' w' v):rG P o a g w H e:= .valueW hr h.w
theorem rG.skip {P:Program}{o:Oper}{a:Act}{g g':Gh}{w w':pT}{H:rZ}{e:qP}(hr:(execOp a.eval o).run P w= .ok .skip w') (h:rJ g w H e g' w' undef):rG P o a g w H e:= .skipW hr h.w
theorem rG.pure {P:Program}{o:Oper}{a:Act}{g:Gh}{w:pT}{H:rZ}{side:List Prop}{d:DV}{rds:pS}{v:pU}(hH:sA g w H) (hr:(execOp a.eval o).run P w= .ok (.value v) w) (h:xD g w d v):
  rG P o a g w H ⟨side,(d,none),[],rds⟩:= .value hr (.pure hH ⟨h,trivial⟩)
section
variable {P:Program}{o:Oper}{a:Act}{g:Gh}{w:pT}{H:rZ}
theorem SS {g:Gh}{w:pT}{k:IntKind}(q:Int) (hq: ∀p∈(HS k q).1,p):xD g w (HS k q).2 (.int k (k.wrap q)):=by
 cases k<;>simp only[HS] at hq|- <;>first|exact vD _ _ _ _|skip
 have h0:=hq _ (aSd.2 rfl);rw[show IntKind.i64.wrap q=q from IntWalk.i64_in q pI];exact vD _ _ _ _
theorem aIQ (g:Gh) {op:BinOp}{xt:TypeId}{x y:Operand}{k:IntKind}{m n:Int}{r:List Prop×DV}(hr:VZ k m n op=some r) (hs: ∀p∈r.1,p):
  ∃v,(do eqGuard op xt x y (.int k m) (.int k n);Go.binOp op xt (.int k m) (.int k n):Sem pU).run P w= .ok v w/\xD g w r.2 v:=by
 cases op<;>simp only[VZ,aRV,reduceCtorEq] at hr
 all_goals subst hr
 case add=>exact⟨.int k (k.wrap _),by simp [eqGuard,Go.binOp,Op.intArith],SS _ hs⟩
 case sub=>exact⟨.int k (k.wrap _),by simp [eqGuard,Go.binOp,Op.intArith],SS _ hs⟩
 case mul=>exact⟨.int k (k.wrap _),by simp [eqGuard,Go.binOp,Op.intArith],SS _ hs⟩
 case eql=>exact⟨.bool (decide (m=n)),by simp [eqGuard,Go.binOp,Op.intCmp];rfl,uK _ _ _⟩
 case neq=>exact⟨.bool (!decide (m=n)),by simp [eqGuard,Go.binOp,Op.intCmp,bne];rfl,uK _ _ _⟩
 case lss=>exact⟨.bool (decide _),by simp [eqGuard,Go.binOp,Op.intCmp],uK _ _ _⟩
 case leq=>exact⟨.bool (decide _),by simp [eqGuard,Go.binOp,Op.intCmp],uK _ _ _⟩
 case gtr=>exact⟨.bool (decide (n<m)),by simp [eqGuard,Go.binOp,Op.intCmp],uK _ _ _⟩
 case geq=>exact⟨.bool (decide (n<=m)),by simp [eqGuard,Go.binOp,Op.intCmp],uK _ _ _⟩
 case quo=>
  have h0:=hs _ (aSd.2 rfl);exact⟨.int k (k.wrap (Int.tdiv m n)),by simp [eqGuard,Go.binOp,Op.intDiv,h0],vD _ _ _ _⟩
 case rem=>
  have h0:=hs _ (aSd.2 rfl);exact⟨.int k (Int.tmod m n),by simp [eqGuard,Go.binOp,Op.intDiv,h0],vD _ _ _ _⟩
 case and=>exact⟨.int k (bits .and k m n),by simp [eqGuard,Go.binOp,intBits_and],vD _ _ _ _⟩
 case or=>exact⟨.int k (bits .or k m n),by simp [eqGuard,Go.binOp,intBits_or],vD _ _ _ _⟩
 case xor=>exact⟨.int k (bits .xor k m n),by simp [eqGuard,Go.binOp,intBits_xor],vD _ _ _ _⟩
 case andNot=>exact⟨.int k (bits .andNot k m n),by simp [eqGuard,Go.binOp,intBits_andNot],vD _ _ _ _⟩
theorem NZ (m n:pE):(m==n)=decide (m=n):=by rw[aTm];simp
theorem aIR (g:Gh) {op:BinOp}{xt:TypeId}{x y:Operand}{m n:pE}{r:List Prop×DV}(hr:W4 m n op=some r) (hs: ∀p∈r.1,p):
  ∃v,(do eqGuard op xt x y (.string ⟨m.toArray⟩) (.string ⟨n.toArray⟩);Go.binOp op xt (.string ⟨m.toArray⟩) (.string ⟨n.toArray⟩):Sem pU).run P w= .ok v w/\xD g w r.2 v:=by
 have hl: ∀l:pE,(⟨l.toArray⟩:ByteArray).size=l.length:=fun l=>by simp [ByteArray.size]
 cases op<;>simp only[W4,aRV,reduceCtorEq] at hr
 all_goals subst hr
 case add=>
  have h0:=hs _ (aSd.2 rfl);refine⟨.string ⟨(m++n).toArray⟩,?_,AN _ _ _⟩;rw[aRX] at h0;have h1: ¬(((⟨m.toArray⟩:ByteArray).size+(⟨n.toArray⟩:ByteArray).size:Nat):Int) >IntKind.i64.max:=by rw[hl,hl,show IntKind.i64.max=9223372036854775807 from by decide];omega
  simp only[eqGuard,Go.binOp,Op.stringOp,aR6,aR4 h1];simp;rfl
 case eql=>exact⟨.bool (decide (m=n)),by simp [eqGuard,Go.binOp,Op.stringOp,NZ],uK _ _ _⟩
 case neq=>exact⟨.bool (!decide (m=n)),by simp [eqGuard,Go.binOp,Op.stringOp,NZ],uK _ _ _⟩
 case lss=>exact⟨.bool (Op.bytesLess m n),by simp [eqGuard,Go.binOp,Op.stringOp],uK _ _ _⟩
 case leq=>exact⟨.bool (Op.bytesLess m n||decide (m=n)),by simp [eqGuard,Go.binOp,Op.stringOp,NZ],uK _ _ _⟩
 case gtr=>exact⟨.bool (!(Op.bytesLess m n||decide (m=n))),by simp [eqGuard,Go.binOp,Op.stringOp,NZ],uK _ _ _⟩
 case geq=>exact⟨.bool (!Op.bytesLess m n),by simp [eqGuard,Go.binOp,Op.stringOp],uK _ _ _⟩
theorem FY {r:Option (List Prop×DV)}{e:qP}(h:yU r=some e): ∃q,r=some q/\e=⟨q.1,(q.2,none),[],[]⟩:=by
 cases r with
 |none=>cases h
 |some q=>obtain⟨p,d⟩:=q;exact⟨(p,d),rfl,(aRY h).symm⟩
theorem aIS (hH:sA g w H) {op:BinOp}{xt yt:TypeId}{x y:Operand}(ho:o.op= .binOp op xt x y yt) {sx sy:qC}(hx:rN g w sx (a.eval x)) (hy:rN g w sy (a.eval y)) {e:qP}
  (hr:yU (QW op sx sy)=some e) (hs: ∀p∈e.side,p):rG P o a g w H e:=by
 obtain⟨q,hq,rfl⟩:=FY hr;have go: ∀{u v:pU},a.eval x=u->a.eval y=v->(∃z,(do eqGuard op xt x y u v;Go.binOp op xt u v:Sem pU).run P w= .ok z w/\xD g w q.2 z)->rG P o a g w H ⟨q.1,(q.2,none),[],[]⟩:=by
  rintro u v rfl rfl ⟨z,hz,hd⟩;refine rG.pure hH (v:=z) ?_ hd;unfold execOp;rw[ho];simp only[aR6,aSm] at hz|-;rw[hz];rfl
 obtain⟨dx,kx⟩:=sx;obtain⟨dy,ky⟩:=sy;replace hx:=hx.1;replace hy:=hy.1;unfold QW at hq;split at hq
 .rename_i k m k1 k' n k2 e1 e2;simp only[aSp] at e1 e2;obtain⟨rfl,-⟩:=e1;obtain⟨rfl,-⟩:=e2;unfold a8Y at hq;split at hq
  .cases hq;have h0:=hs _ (aSd.2 rfl);exact go (uZ hx) (uZ hy) ⟨.int k (W3 k m n),by simp [eqGuard,Go.binOp,Op.shift,W3,Int.not_lt.2 h0],vD _ _ _ _⟩
  .cases hq;have h0:=hs _ (aSd.2 rfl);exact go (uZ hx) (uZ hy) ⟨.int k (yV k m n),by simp [eqGuard,Go.binOp,Op.shift,yV,Int.not_lt.2 h0],vD _ _ _ _⟩
  by_cases hk:k=k'
  .subst hk;rw[aRZ rfl] at hq;exact go (uZ hx) (uZ hy) (aIQ g hq hs)
  rw[aR4 hk] at hq;cases hq
 .rename_i m k1 n k2 e1 e2;simp only[aSp] at e1 e2;obtain⟨rfl,-⟩:=e1;obtain⟨rfl,-⟩:=e2;exact go (vM hx) (vM hy) (aIR g hq hs)
 cases hq
theorem aIT (hH:sA g w H) {op:BinOp}{xt yt:TypeId}{x y:Operand}(ho:o.op= .binOp op xt x y yt) {ti:Option TI}{sx sy:qC}(hx:rN g w sx (a.eval x)) (hy:rN g w sy (a.eval y)) {e:qP}
  (hr:yU (QX op ti sx sy)=some e):rG P o a g w H e:=by
 obtain⟨q,hq,rfl⟩:=FY hr;unfold QX at hq;split at hq
 .rename_i k m _ k' n _;by_cases hk:k=k'
  .subst hk;rw[aRZ rfl] at hq;have hx1:=uZ hx.1;have hy1:=uZ hy.1;cases op<;>simp only[a8Z,aRV,reduceCtorEq] at hq
   all_goals subst hq
   all_goals refine rG.pure hH (v:= .int k (k.wrap _)) ?_ (vD _ _ _ _)
   all_goals
    unfold execOp;rw[ho];simp [hx1,hy1,eqGuard,Go.binOp,Op.intArith]
  rw[aR4 hk] at hq;cases hq
 cases hq
theorem aIU (hH:sA g w H) {op:UnOp}{xt:TypeId}{x:Operand}(ho:o.op= .unOp op xt x) {sx:qC}(hx:rN g w sx (a.eval x)) {e:qP}
  (hr:yU (W7 op sx)=some e) (hs: ∀p∈e.side,p):rG P o a g w H e:=by
 obtain⟨q,hq,rfl⟩:=FY hr;replace hx:=hx.1;unfold W7 at hq;split at hq
 .have:=uJ hx;cases hq;refine rG.pure hH (v:= .bool _) ?_ (uK _ _ _);simp [execOp,ho,this,Op.unary]
 .rename_i k n _;have:=uZ hx;cases hq;refine rG.pure hH (v:= .int k (k.wrap (-n))) ?_ (SS _ hs);simp [execOp,ho,this,Op.unary,Op.intArith]
 cases hq
theorem ST {t:TypeId}{ti:TI}(h:sT P t ti): ∃d,P.underlying t=some d/\d.isRow=ti.ty.isRow:=by
 have h2:=h.2;unfold w9 at h2;obtain⟨ty,el,by',ar,ls⟩:=ti;cases ty<;>simp only at h2
 case bool=>exact⟨_,h2,rfl⟩
 case int=>exact⟨_,h2,rfl⟩
 case str=>exact⟨_,h2,rfl⟩
 case list=>exact⟨_,h2.1,rfl⟩
 case ref=>obtain⟨e,h⟩:=h2;exact⟨_,h,rfl⟩
 case clo=>obtain⟨a,b,c,h⟩:=h2;exact⟨_,h,rfl⟩
 case mp=>exact⟨_,h2,rfl⟩
 case rl=>obtain⟨e,h⟩:=h2;exact⟨_,h,rfl⟩
 case fn=>obtain⟨a,b,c,h⟩:=h2;exact⟨_,h,rfl⟩
 case ap=>obtain⟨⟨a,b,c,h⟩,_⟩:=h2;exact⟨_,h,rfl⟩
 case mref=>obtain⟨e,h⟩:=h2;exact⟨_,h,rfl⟩
 all_goals
  rcases h2.1 with⟨_,fs,h,_⟩ |⟨_,n,e,h,_⟩
  .exact⟨_,h,rfl⟩
  exact⟨_,h,rfl⟩
theorem BV {t:TypeId}{ti:TI}(h:sT P t ti): ∃i,P.info? t=some i/\i.size=ti.ty.cells/\i.zero=some (wS ti.ty):=by
 obtain⟨i,hi,he⟩:=aR8.1 h.1;simp only[aSp] at he;exact⟨i,hi,he.1,he.2⟩
theorem aIV {T:sG}(hT:wA P T) (hH:sA g w H) {st dt:TypeId}{x:Operand}(ho:o.op= .convert st dt x) {sx:qC}(hx:rN g w sx (a.eval x)) {e:qP}
  (hr:yU (QZ (rS T st) (rS T dt) sx)=some e):rG P o a g w H e:=by
 obtain⟨q,hq,rfl⟩:=FY hr;replace hx:=hx.1;generalize hs:rS T st=os at hq;generalize hd:rS T dt=od at hq;unfold QZ at hq;split at hq
 .rename_i k' k _ _ _ _ k0 n _;obtain⟨d,hd1,_⟩:=ST (sL hT hs);have hd2:=(sL hT hd).2;simp only[w9] at hd2;have:=uZ hx;cases hq;refine rG.pure hH (v:= .int k (k.wrap n)) ?_ (vD _ _ _ _);simp [execOp,ho,this,Go.convert,aSg hd1,aSg hd2,Conv.intToInt]
 .rename_i k' _ _ _ _ s _;obtain⟨d,hd1,_⟩:=ST (sL hT hs);have hd2:=(sL hT hd).2;simp only[w9] at hd2;have:=vM hx;cases hq;refine rG.pure hH (v:= .string ⟨List.toArray s⟩) ?_ (AN _ _ _);simp [execOp,ho,this,Go.convert,aSg hd1,aSg hd2]
 cases hq
theorem IQ {α:Type}{R:α->pP->Prop}{w:pT}{S:Nat->Nat->Prop}{c b:Nat}: ∀{l:List α}{o i:Nat}{x:α},x4 R w S c b o l->l[i]? =some x->
  ∃cs,cs.length=c/\w.rangeAt b (o+i*c) cs/\(∀j,j<c->S b (o+i*c+j))/\R x cs
 |y::l,o,0,x,⟨⟨cs,h1,h2,h3,h4⟩,_⟩,h=>by
  simp only[aSt,aRV] at h;subst h;exact⟨cs,h1,by simpa using h2,by simpa using h3,h4⟩
 |y::l,o,i+1,x,⟨_,h5⟩,h=>by
  simp only[aSx] at h;obtain⟨cs,h1,h2,h3,h4⟩:=IQ h5 h;have e:o+c+i*c=o+(i+1)*c:=by rw[aSR];omega
  exact⟨cs,h1,by rw[<-e];exact h2,by rw[<-e];exact h3,h4⟩
theorem a9U {α:Type}{R:α->pP->Prop}{w:pT}{S:Nat->Nat->Prop}{c b:Nat}: ∀{l:List α}{o:Nat}(i:Nat),x4 R w S c b o l->i<=l.length->x4 R w S c b (o+i*c) (l.drop i)
 |_,o,0,h,_=>by simpa using h
 |[],o,i+1,_,h=>by simp at h
 |y::l,o,i+1,⟨_,h5⟩,h=>by
  have:=a9U i h5 (by simpa using h);have e:o+c+i*c=o+(i+1)*c:=by rw[aSR];omega
  rw[<-e];simpa using this
theorem a9V {α:Type}{R:α->pP->Prop}{w:pT}{S:Nat->Nat->Prop}{c b:Nat}: ∀{l:List α}{o:Nat}(i:Nat),x4 R w S c b o l->x4 R w S c b o (l.take i)
 |_,_,0,_=>by simp [x4]
 |[],_,_+1,_=>by simp [x4]
 |_::_,_,i+1,⟨h,h5⟩=>by simpa[x4] using⟨h,a9V i h5⟩
theorem Y0 {g:Gh}{w:pT}: ∀{t:Ty}{x:t.den}{cs:pP}{f:Nat}{u:Ty}{y:u.den},Rd g w t x cs->t.proj x f=some ⟨u,y⟩->
  ∃o c1 c2 c3,t.offs f=some o/\t.fld f=some u/\cs=c1++c2++c3/\c1.length=o/\Rd g w u y c2:=by
 intro t
 induction t with
 |pair a b _ ihb=>
  intro x cs f u y r h;obtain⟨c1,c2,e,r1,r2⟩:=r;cases f with
  |zero=>
   simp only[Ty.proj,aRV,Sigma.mk.injEq] at h;obtain⟨rfl,h2⟩:=h;obtain rfl:=eq_of_heq h2;exact⟨0,[],c1,c2,rfl,rfl,by simpa using e,rfl,r1⟩
  |succ f=>
   simp only[Ty.proj] at h;obtain⟨o,d1,d2,d3,h1,h2,h3,h4,h5⟩:=ihb r2 h;refine⟨a.cells+o,c1++d1,d2,d3,by simp [Ty.offs,h1],by simpa[Ty.fld] using h2,by rw[e,h3];simp,?_,h5⟩;rw[aRX,h4,sJ r1]
 |_=>intro x cs f u y r h;cases f<;>simp [Ty.proj] at h
theorem Y1 {P:Program}: ∀{ty:Ty}{off:Nat}{fs:List Field}{f o:Nat}{u:Ty},LA P ty off fs->ty.offs f=some o->ty.fld f=some u->
  ∃fd,fs[f]? =some fd/\fd.offset=off+o/\(P.info? fd.type).map (·.size)=some u.cells/\(P.underlying fd.type).map (·.isRow)=some u.isRow:=by
 intro ty
 induction ty with
 |pair a b _ ihb=>
  intro off fs f o u h ho hu;cases fs with
  |nil=>exact h.elim
  |cons fd fs=>
   obtain⟨h1,h2,h3,h4⟩:=h;cases f with
   |zero=>
    simp only[Ty.offs,aRV] at ho;simp only[Ty.fld,aRV] at hu;subst ho;subst hu;exact⟨fd,rfl,pI,h2,h3⟩
   |succ f=>
    simp only[Ty.offs,aR8] at ho;obtain⟨o',ho',rfl⟩:=ho;obtain⟨fd',k1,k2,k3,k4⟩:=ihb h4 ho' hu;exact⟨fd',by simpa using k1,pI,k3,k4⟩
 |_=>intro off fs f o u h ho hu;cases f<;>simp [Ty.offs] at ho
theorem Y2 {P:Program}{e:TypeId}: ∀{ty:Ty}{n f o:Nat}{u:Ty},NY P e ty n->ty.offs f=some o->ty.fld f=some u->
  f<n/\(P.info? e).map (·.size)=some u.cells/\(P.underlying e).map (·.isRow)=some u.isRow/\o=f*u.cells:=by
 intro ty
 induction ty with
 |pair a b _ ihb=>
  intro n f o u h ho hu;cases n with
  |zero=>exact h.elim
  |succ n=>
   obtain⟨h2,h3,h4⟩:=h;cases f with
   |zero=>
    simp only[Ty.offs,aRV] at ho;simp only[Ty.fld,aRV] at hu;subst ho;subst hu;exact⟨pI,h2,h3,by simp⟩
   |succ f=>
    simp only[Ty.offs,aR8] at ho;obtain⟨o',ho',rfl⟩:=ho;obtain⟨k1,k2,k3,k4⟩:=ihb h4 ho' hu;rw[h2] at k2;have hc:a.cells=u.cells:=aRY k2;exact⟨pI,by rw[h2,hc],k3,by rw[k4,hc,aSR];omega⟩
 |_=>intro n f o u h ho hu;cases f<;>simp [Ty.offs] at ho
theorem O0 {t:TypeId}{u:Ty}(hi:(P.info? t).map (·.size)=some u.cells) (hr:(P.underlying t).map (·.isRow)=some u.isRow) {y:u.den}{c1 c2 c3:pP}(h:Rd g w u y c2):
  ∃v,(part t (c1++c2++c3).toArray c1.length).run P w= .ok v w/\sR g w u y v:=by
 obtain⟨i,hi,hsz⟩:=aR8.1 hi;obtain⟨d,hd,hrow⟩:=aR8.1 hr;have hl:=sJ h;by_cases hu:u.isRow=true
 .refine⟨.agg c2.toArray,?_,.inl ⟨hu,c2,rfl,h⟩⟩;have hagg:(isAgg t).run P w= .ok true w:=by
   unfold isAgg;rw[aR6,aSg hd w];rw[hu] at hrow;cases d<;>simp_all [TypeDesc.isRow]
  simp only[part,aR6,hagg,aR0,aTf,sizeOf,typeInfo,aSH,hi,hsz,aSm];congr 2;apply aSO.1;simp [<-hl]
 have hu':u.isRow=false:=by simpa using hu
 have h1:u.cells=1:=by cases u<;>first|rfl|(simp [Ty.isRow] at hu')
 obtain⟨v,rfl⟩: ∃v,c2=[v]:=by
  rw[h1] at hl;exact aSV.1 hl
 refine⟨v,?_,.inr ⟨hu',h⟩⟩;have hagg:(isAgg t).run P w= .ok false w:=by
  unfold isAgg;rw[aR6,aSg hd w];rw[hu'] at hrow;cases d<;>simp_all [TypeDesc.isRow]
 simp only[part,aR6,hagg,aR0];simp
theorem Y3 {t:TypeId}{ti:TI}(h:sT P t ti) (hr:ti.ty.isRow=true):
  (ti.arr=false/\∃fs,P.underlying t=some (.struct fs)/\LA P ti.ty 0 fs.toList)\/(ti.arr=true/\∃n e,P.underlying t=some (.array n e)/\NY P e ti.ty n/\(P.info? e).isSome=true):=by
 have h2:=h.2;unfold w9 at h2;obtain⟨ty,el,by',ar,ls⟩:=ti;cases ty<;>simp only[Ty.isRow,aTq] at hr<;>exact h2.1
theorem a9W {t:TypeId}{ti:TI}(h:sT P t ti) (hr:ti.ty.isRow=true) (ha:ti.arr=false): ∃fs,P.underlying t=some (.struct fs)/\LA P ti.ty 0 fs.toList:=by
 rcases Y3 h hr with⟨_,h⟩ |⟨h,_⟩
 .exact h
 rw[ha] at h;cases h
theorem a9X {t:TypeId}{ti:TI}(h:sT P t ti) (hr:ti.ty.isRow=true) (ha:ti.arr=true): ∃n e,P.underlying t=some (.array n e)/\NY P e ti.ty n/\(P.info? e).isSome=true:=by
 rcases Y3 h hr with⟨h,_⟩ |⟨_,h⟩
 .rw[ha] at h;cases h
 exact h
theorem aIW {t:Ty}{x:t.den}{f:Nat}{q: Σ u:Ty,u.den}(h:t.proj x f=some q):t.isRow=true:=by
 cases t<;>first|rfl|(cases f<;>simp [Ty.proj] at h)
theorem aIX {t:Ty}{f o:Nat}(h:t.offs f=some o):t.isRow=true:=by
 cases t<;>first|rfl|(cases f<;>simp [Ty.offs] at h)
end
theorem aIY (l:pE) (n:Nat) (h:n<l.length):(⟨l.toArray⟩:ByteArray)[n]? =some l[n]:=by
 have:n<(⟨l.toArray⟩:ByteArray).size:=by simpa[ByteArray.size] using h
 rw[getElem?_pos (⟨l.toArray⟩:ByteArray) n this];rfl
theorem xM {i:Int}{n:Nat}(h0:0<=i) (h1:i<n):i.toNat<n:=by omega
theorem a9Y {i:Int}{n:Nat}(h0:0<=i) (h1:i.toNat<n):i<n:=by omega
section
variable {P:Program}{o:Oper}{a:Act}{g:Gh}{w:pT}{H:rZ}{T:sG}(hT:wA P T) (hH:sA g w H)
include hT hH
theorem aIZ {t:TypeId}{x:Operand}{f:Nat}(ho:o.op= .field t x f) {sx:qC}(hx:rN g w sx (a.eval x)) {e:qP}(hr:X7 f (rS T t) sx=some e):rG P o a g w H e:=by
 generalize hs:rS T t=ot at hr;replace hx:=hx.1;unfold X7 at hr;split at hr
 .rename_i ty el by' ls_ u y _;split at hr
  .rename_i hu;subst hu;have hty:=sL hT hs;generalize hp:u.proj y f=q at hr;cases q with
   |none=>cases hr
   |some q=>
    obtain⟨u,z⟩:=q;cases hr;have hrow:=aIW hp;obtain⟨cs,hv,hR⟩:=IP hrow hx;obtain⟨oo,c1,c2,c3,h1,h2,rfl,rfl,h5⟩:=Y0 hR hp;obtain⟨fs,hfs,hfe⟩:=a9W hty hrow rfl;obtain⟨fd,k1,k2,k3,k4⟩:=Y1 hfe h1 h2;obtain⟨v,hv1,hv2⟩:=O0 k3 k4 (P:=P) (c1:=c1) (c3:=c3) h5;refine rG.pure hH (v:=v) ?_ hv2;have k1':fs[f]? =some fd:=by simpa using k1
    simp only[execOp,ho,hv,Instr.field,aR6,aSg hfs,aR0,k1',asAgg,aSm,k2,aSu,hv1]
  cases hr
 cases hr
theorem Y4 {t:TypeId}{ti:TI}(hty:sT P t ti) (har:ti.arr=false) {f oo:Nat}{u:Ty}(h1:ti.ty.offs f=some oo) (h2:ti.ty.fld f=some u) (hpos:0<u.cells) (b off:Nat):
  (Instr.fieldAt t (.pointer (some ⟨b,off,none⟩)) f).run P w= .ok (.pointer (some ⟨b,off+oo,none⟩)) w:=by
 obtain⟨fs,hfs,hfe⟩:=a9W hty (aIX h1) har;obtain⟨fd,k1,k2,k3,k4⟩:=Y1 hfe h1 h2;obtain⟨i,hi,hsz⟩:=aR8.1 k3;have k1':fs[f]? =some fd:=by simpa using k1
 have hne: ¬(u.cells=0):=by omega
 simp only[Instr.fieldAt,aR6,aSg hfs,aR0,k1',Instr.sureAddr,aSm,fieldPlace,sizeOf,typeInfo,aSH,hi,hsz,aR4 hne,k2,aSu,aSS]
theorem aI0 {t:TypeId}{x:Operand}{f:Nat}(ho:o.op= .fieldAddr t x f) {sx:qC}(hx:rN g w sx (a.eval x)) {e:qP}(hr:X6 f (rS T t) sx=some e):rG P o a g w H e:=by
 generalize hs:rS T t=ot at hr;replace hx:=hx.1;unfold X6 at hr;split at hr
 .rename_i ty el by' ls_ k n c i o' _;have hty:=sL hT hs;generalize h1:ty.offs f=o1 at hr;generalize h2:ty.fld f=o2 at hr;unfold a9t at hr;split at hr
  .split at hr
   .rename_i oo u hpos;cases hr;obtain⟨b,cap,hc,hi0,hi1,hv⟩:=hx;refine rG.pure hH (v:= .pointer (some ⟨b,i.toNat*c+o'+oo,none⟩)) ?_ ⟨b,cap,hc,hi0,hi1,by rw[aSz]⟩;simp only[execOp,ho,hv,aR6,Y4 hT hH hty rfl h1 h2 hpos,aR0,aSm]
   cases hr
  cases hr
 .rename_i ty el by' ls_ u y _;split at hr
  .rename_i hu;subst hu;have hty:=sL hT hs;generalize hp:u.proj y f=q at hr;cases q with
   |none=>cases hr
   |some q=>
    obtain⟨u,z⟩:=q;simp only[RY] at hr;split at hr
    .rename_i hpos;cases hr;obtain⟨b,off,cs,hv,hra,hS,hR⟩:=hx;obtain⟨oo,c1,c2,c3,h1,h2,rfl,rfl,h5⟩:=Y0 hR hp;refine rG.pure hH (v:= .pointer (some ⟨b,off+c1.length,none⟩)) ?_ ⟨b,off+c1.length,c2,rfl,fun j v hj=>?_,fun j hj=>?_,h5⟩
     .simp only[execOp,ho,hv,aR6,Y4 hT hH hty rfl h1 h2 hpos,aR0,aSm]
     .have:=hra (c1.length+j) v (by
       have hj':=(aR7.1 hj).1;rw[aR9,aR5 pI,aSB,aSc hj'];exact hj)
      rw[aSz];exact this
     have:=hS (c1.length+j) (by
      have:=sJ hR;have h6:=sJ h5;simp only[aRX] at this;omega)
     rw[aSz];exact this
    cases hr
  cases hr
 .rename_i ty el by' ls_ i off _;have hty:=sL hT hs;generalize h1:ty.offs f=o1 at hr;generalize h2:ty.fld f=o2 at hr;unfold RZ at hr;split at hr
  .split at hr
   .rename_i oo u hpos;cases hr;obtain⟨p,hp,hv⟩:=wC hx;refine rG.pure hH (v:= .pointer (some ⟨p.1,p.2+off+oo,none⟩)) ?_ (.inr ⟨rfl,p,hp,by rw[aSz]⟩);simp only[execOp,ho,hv,aR6,Y4 hT hH hty rfl h1 h2 hpos,aR0,aSm]
   cases hr
  cases hr
 cases hr
theorem aI1 {x:Operand}{i:Nat}(ho:o.op= .extract x i) {sx:qC}(hx:rN g w sx (a.eval x)) {e:qP}(hr:XA i sx=some e) (hs: ∀p∈e.side,p):rG P o a g w H e:=by
 replace hx:=hx.1;unfold XA at hr;split at hr
 rotate_left
 .rename_i b p c _;have run: ∀(v:pU) (vs:Array pU),a.eval x= .tuple vs->vs[i]? =some v->(execOp a.eval o).run P w= .ok (.value v) w:=by
   intro v vs h1 h2;simp [execOp,ho,h1,Instr.extract,h2]
  obtain⟨h1,h2⟩:=hx;unfold a9u at hr;split at hr
  .cases hr;cases b with
   |true=>exact rG.pure hH (run (.bool true) _ (h1 rfl) rfl) (uK _ _ _)
   |false=>exact rG.pure hH (run (.bool false) _ (h2 rfl) rfl) (uK _ _ _)
  .cases hr;have hb:=hs (b=true) pK;exact rG.pure hH (run (.int .i64 p) _ (h1 hb) rfl) (vD _ _ _ _)
  .cases hr;have hb:=hs (b=true) pK;exact rG.pure hH (run (.int .i32 c) _ (h1 hb) rfl) (vD _ _ _ _)
  cases hr
 rotate_left
 .rename_i l _;obtain⟨vs,hv,hl⟩:=hx;have key: ∀(l:List ((Σ t:Ty,t.den)×pR)) (vs:pP) (i:Nat),FW g w l vs->S0 l i=some e->∃v,vs[i]? =some v/\rN g w e.slot v/\e.upd=[]/\e.rds=[]:=by
   intro l
   induction l with
   |nil=>intro vs i _ h;cases i<;>cases h
   |cons q l ih=>
    obtain⟨⟨t,x⟩,k⟩:=q;rintro vs i ⟨v,vs',rfl,r1,r2,r3⟩ h;cases i with
    |zero=>
     simp only[S0,aRV] at h;subst h;refine⟨v,rfl,?_,rfl,rfl⟩;have gen:rN g w (.val t x,k) v:=⟨r1,by
      cases k with
      |none=>trivial
      |some k=>exact r2⟩
     cases t with
     |rl e u=>
      cases x with
      |none=>exact⟨r1,trivial⟩
      |some q=>
       obtain⟨k',n⟩:=q;obtain⟨v',h1,h2,h3⟩:=wB rfl r1;simp only[aSy,and_true] at h2;subst h2;exact⟨⟨h1,h3⟩,trivial⟩
     |_=>exact gen
    |succ i=>
     obtain⟨v',h1,h2,h3,h4⟩:=ih vs' i r3 h;exact⟨v',by simpa using h1,h2,h3,h4⟩
  obtain⟨v,h1,h2,h3,h4⟩:=key l vs i hl hr;obtain⟨side,slot,upd,rds⟩:=e;simp only at h2 h3 h4;subst h3;refine rG.value (v:=v) (g':=g) (w':=w) ?_ (.pure hH h2);have:vs.toArray[i]? =some v:=by simpa using h1
  simp [execOp,ho,hv,Instr.extract,this]
 cases hr
theorem aI2 {x:Operand}(ho:o.op= .nilCheck x) {sx:qC}(hx:rN g w sx (a.eval x)) {e:qP}(hr:X5 sx=some e):rG P o a g w H e:=by
 replace hx:=hx.1;unfold X5 at hr;split at hr
 .rename_i p _;obtain⟨i,off⟩:=p;cases hr;obtain⟨p,hp,hv⟩:=wC hx;refine rG.pure hH (v:=a.eval x) ?_ hx;simp [execOp,ho,hv]
 .cases hr;obtain⟨b,off,cs,hv,h⟩:=hx;refine rG.pure hH (v:=a.eval x) ?_ ⟨b,off,cs,hv,h⟩;simp [execOp,ho,hv]
 .cases hr;obtain⟨b,cap,h1,h2,h3,hv⟩:=hx;refine rG.pure hH (v:=a.eval x) ?_ ⟨b,cap,h1,h2,h3,hv⟩;simp [execOp,ho,hv]
 cases hr
theorem aI3 {t:TypeId}{x ix:Operand}(ho:o.op= .index t x ix) {sx si:qC}(hx:rN g w sx (a.eval x)) (hi:rN g w si (a.eval ix)) {e:qP}(hr:X9 (rS T t) sx si=some e) (hs: ∀p∈e.side,p):rG P o a g w H e:=by
 generalize hst:rS T t=ot at hr;replace hx:=hx.1;replace hi:=hi.1;unfold X9 at hr;split at hr
 .rename_i _ _ _ _ l _ k i _;cases hr;have hb:=hs _ (aSd.2 rfl);have h2:=(sL hT hst).2;simp only[w9] at h2;have hv:=vM hx;have hvi:=uZ hi;have hlt:(Int.toNat i)<List.length l:=xM hb.1 hb.2;refine rG.pure hH (v:= .int .u8 (rY l i)) ?_ (vD _ _ _ _);have hget:(if (0:Int)<=i then(⟨List.toArray l⟩:ByteArray)[Int.toNat i]? else none)=some (l[Int.toNat i]):=by
   rw[aRZ hb.1];exact aIY l _ hlt
  have hbyte:rY l i=((l[Int.toNat i]).toNat:Int):=by
   unfold rY;rw[aSo,aR3 hlt];rfl
  simp only[execOp,ho,hv,hvi,Instr.index,asIntOf,aR6,aSm,aR0,aSg h2,hget,hbyte]
 cases hr
theorem aI4 {t:TypeId}{x ix:Operand}(ho:o.op= .indexAddr t x ix) {sx si:qC}(hx:rN g w sx (a.eval x)) (hi:rN g w si (a.eval ix)) {e:qP}(hr:X8 (rS T t) sx si=some e) (hs: ∀p∈e.side,p):rG P o a g w H e:=by
 generalize hst:rS T t=ot at hr;replace hx:=hx.1;replace hi:=hi.1;unfold X8 at hr;split at hr
 .rename_i t' el by' ar ls_ k n _ k' i _;split at hr
  .rename_i hpos;cases hr;have hb:=hs _ (aSd.2 rfl);obtain⟨h2,h3,_⟩:=(sL hT hst).2;obtain⟨ei,hei,hz⟩:=aR8.1 h3;simp only[aSp] at hz;have hvi:=uZ hi;obtain⟨hc,hv⟩:=hx;rcases hv with⟨_,rfl⟩ |⟨b,cap,hv,hcap⟩
   .exact absurd (Int.lt_of_le_of_lt hb.1 hb.2) (Int.lt_irrefl 0)
   refine rG.pure hH (v:= .pointer (some ⟨b,0+Int.toNat i*t'.cells,none⟩)) ?_ ⟨b,cap,by rw[<-hv];exact hc,hb.1,hb.2,by rw[aSu,aSM]⟩;simp only[execOp,ho,hv,hvi,Instr.indexAt,asIntOf,aR6,aSm,aR0,aSg h2,sizeOf,typeInfo,aSH,hei,hz.1,aRZ hb,aSS]
  cases hr
 .rename_i t' el by' ar ls_ t1 l _ k i _;split at hr
  .rename_i htt;subst htt;cases hr;have hb:=hs _ (aSd.2 rfl);obtain⟨h2,h3,_⟩:=(sL hT hst).2;obtain⟨ei,hei,hz⟩:=aR8.1 h3;simp only[aSp] at hz;have hvi:=uZ hi;obtain⟨ad,cap,hv,hle,hl⟩:=BU hx;have hlt:(Int.toNat i)<List.length l:=xM hb.1 hb.2;rcases hl with rfl|⟨b,off,rfl,hL⟩
   .simp at hlt
   have hnth:l[Int.toNat i]? =some (qR t1 l i):=by
    unfold qR;rw[aSo,aR3 hlt];rfl
   obtain⟨cs,hc1,hc2,hc3,hc4⟩:=IQ hL hnth;refine rG.pure hH (v:= .pointer (some ⟨b,off+Int.toNat i*t1.cells,none⟩)) ?_ ⟨b,_,cs,rfl,hc2,hc3,hc4⟩;simp only[execOp,ho,hv,hvi,Instr.indexAt,asIntOf,aR6,aSm,aR0,aSg h2,sizeOf,typeInfo,aSH,hei,hz.1,aRZ hb,aSS]
  cases hr
 .rename_i s u el by' ls_ i off _ k n _;have hty:=sL hT hst;generalize h1:(Ty.pair s u).offs (Int.toNat n)=o1 at hr;generalize h2:(Ty.pair s u).fld (Int.toNat n)=o2 at hr;unfold RZ at hr;split at hr
  .split at hr
   .rename_i oo v hpos;cases hr;have hn0:=hs _ (aSd.2 rfl);obtain⟨p,hp,hv⟩:=wC hx;have hvi:=uZ hi;obtain⟨len,el',hu,hel,_⟩:=a9X hty rfl rfl;obtain⟨k1,k2,k3,k4⟩:=Y2 hel h1 h2;obtain⟨ei,hei,hz⟩:=aR8.1 k2;have hb:(0:Int)<=n/\(n:Int)<(len:Int):=⟨hn0,a9Y hn0 k1⟩;refine rG.pure hH (v:= .pointer (some ⟨p.1,p.2+off+oo,none⟩)) ?_ (.inr ⟨rfl,p,hp,by rw[aSz]⟩);simp only[execOp,ho,hv,hvi,Instr.indexAt,Instr.sureAddr,asIntOf,aR6,aSm,aR0,aSg hu,sizeOf,typeInfo,aSH,hei,hz,aRZ hb,aSS,k4]
   cases hr
  cases hr
 .rename_i s u el by' ls_ u' y _ k n _;split at hr
  .rename_i hu';subst hu';have hty:=sL hT hst;generalize hp:(Ty.pair s u).proj y (Int.toNat n)=q at hr;cases q with
   |none=>cases hr
   |some q=>
    obtain⟨v,z⟩:=q;simp only[RY] at hr;split at hr
    .rename_i hpos;cases hr;have hn0:=hs _ (aSd.2 rfl);obtain⟨b,off,cs,hv,hra,hS,hR⟩:=hx;have hvi:=uZ hi;obtain⟨oo,c1,c2,c3,h1,h2,rfl,rfl,h5⟩:=Y0 hR hp;obtain⟨len,el',hu,hel,_⟩:=a9X hty rfl rfl;obtain⟨k1,k2,k3,k4⟩:=Y2 hel h1 h2;obtain⟨ei,hei,hz⟩:=aR8.1 k2;have hb:(0:Int)<=n/\(n:Int)<(len:Int):=⟨hn0,a9Y hn0 k1⟩;refine rG.pure hH (v:= .pointer (some ⟨b,off+c1.length,none⟩)) ?_ ⟨b,off+c1.length,c2,rfl,fun j v hj=>?_,fun j hj=>?_,h5⟩
     .simp only[execOp,ho,hv,hvi,Instr.indexAt,Instr.sureAddr,asIntOf,aR6,aSm,aR0,aSg hu,sizeOf,typeInfo,aSH,hei,hz,aRZ hb,aSS,<-k4]
     .have:=hra (c1.length+j) v (by
       have hj':=(aR7.1 hj).1;rw[aR9,aR5 pI,aSB,aSc hj'];exact hj)
      rw[aSz];exact this
     have:=hS (c1.length+j) (by
      have:=sJ hR;have h6:=sJ h5;simp only[aRX] at this;omega)
     rw[aSz];exact this
    cases hr
  cases hr
 cases hr
end
theorem a9Z (off:Nat): ∀(vl:pP) (k:Nat) (cs:Array pU) (c1 c2 c3:pP),cs.toList=c1++c2++c3->c1.length=off+k->c2.length=vl.length->
  ((vl.zipIdx k).foldl (fun(cs:Array pU) (p:pU×Nat)=>cs.setIfInBounds (off+p.2) p.1) cs).toList=c1++vl++c3
 |[],_,cs,c1,c2,c3,h,_,h2=>by
  have:c2=[]:=aSq (by simpa using h2);subst this;simpa using h
 |v::vl,k,cs,c1,c2,c3,h,h1,h2=>by
  cases c2 with
  |nil=>simp at h2
  |cons u c2=>
   simp only[List.zipIdx_cons,List.foldl_cons];have:=a9Z off vl (k+1) (cs.setIfInBounds (off+k) v) (c1++[v]) c2 c3 (by
    rw[Array.toList_setIfInBounds,h,<-h1];simp) pL (by simpa using h2)
   rw[this];simp
theorem aI5 (off:Nat) (vs cs:Array pU) (c1 c2 c3:pP) (h:cs.toList=c1++c2++c3) (h1:c1.length=off) (h2:c2.length=vs.size):
  (vs.zipIdx.foldl (fun(cs:Array pU) (x:pU×Nat)=>match x with|(c,j)=>cs.setIfInBounds (off+j) c) cs).toList=c1++vs.toList++c3:=by
 rw[<-aTF,Array.toList_zipIdx];exact a9Z off vs.toList 0 cs c1 c2 c3 h pI (by simpa using h2)
theorem a90 {place:Nat->pQ}{cells:Array pU}{i:Nat}{v:pU}{rest:List (Nat×pU)}{off size:Nat}{c1 c2 c3:pP}(hp:place i=some (off,size)) (hs:v.cells.size=size)
  (h:cells.toList=c1++c2++c3) (h1:c1.length=off) (h2:c2.length=size):
  Instr.fill place cells ((i,v)::rest)=Instr.fill place (c1++v.cells.toList++c3).toArray rest:=by
 have hsz:cells.size=c1.length+c2.length+c3.length:=by rw[<-aSF,h];simp;omega
 simp only[Instr.fill,hp];rw[aR4 (by simp [hs];omega)];congr 1;apply aSO.1;rw[aI5 off v.cells cells c1 c2 c3 h h1 pI]
theorem Y5 {k:Nat}: ∀{t:Ty}{o:Nat}{cs:pP},I1 t=false->cs.length=t.cells->wR k t o cs
 | .bool,_,_,_,_=>trivial
 | .int _,_,_,_,_=>trivial
 | .str,_,_,_,_=>trivial
 | .unit,_,_,_,_=>trivial
 | .ref,_,_,_,_=>trivial
 | .clo,_,_,_,_=>trivial
 | .mp,_,_,_,_=>trivial
 | .rl _ _,_,_,_,_=>trivial
 | .fn,_,_,_,_=>trivial
 | .mref,_,_,_,_=>trivial
 | .ap,_,_,_,_=>trivial
 | .list _,_,_,h,_=>by simp [I1] at h
 | .pair a b,_,cs,h,hl=>by
  simp only[I1,aTJ] at h;simp only[Ty.cells] at hl;exact⟨cs.take a.cells,cs.drop a.cells,by simp,by rw[aSN];omega,Y5 h.1 (by rw[aSN];omega),Y5 h.2 (by rw[aS1];omega)⟩
theorem Y6: ∀t:Ty,(tM t).length=t.cells
 | .bool=>rfl
 | .int _=>rfl
 | .str=>rfl
 | .unit=>rfl
 | .ref=>rfl
 | .clo=>rfl
 | .mp=>rfl
 | .rl _ _=>rfl
 | .fn=>rfl
 | .mref=>rfl
 | .ap=>rfl
 | .list _=>rfl
 | .pair a b=>by simp only[tM,aRX,Y6 a,Y6 b,Ty.cells]
theorem SU {k:Nat}: ∀(t:Ty) (o:Nat),wR k t o (tM t)
 | .bool,_=>trivial
 | .int _,_=>trivial
 | .str,_=>trivial
 | .unit,_=>trivial
 | .ref,_=>trivial
 | .clo,_=>trivial
 | .mp,_=>trivial
 | .rl _ _,_=>trivial
 | .fn,_=>trivial
 | .mref,_=>trivial
 | .ap,_=>trivial
 | .list _,_=> .inr rfl
 | .pair a b,_=>⟨tM a,tM b,rfl,Y6 a,SU a _,SU b _⟩
theorem a91 {g:Gh}{w:pT}{k:Nat}: ∀{t:Ty}{x:t.den}{cs:pP}{off o:Nat},wR k t off cs->Rd g w t x cs->CT t o=true->off+o+1≠k->∃(u:Ty),qZ (.list u) t x o=some []/\cs[o]? =some (.slice none 0 0):=by
 intro t
 induction t with
 |pair a b iha ihb=>
  intro x cs off o hn hr hl hk;obtain⟨c1,c2,e,h1,h2,h3⟩:=hn;obtain⟨d1,d2,e',r1,r2⟩:=hr;have hd:c1=d1/\c2=d2:=aTl (e.symm.trans e') (by rw[h1,sJ r1]);obtain⟨rfl,rfl⟩:=hd;have key: ∀(u:Ty) q,qZ (.list u) (.pair a b) x q=if q<a.cells then qZ (.list u) a x.1 q else qZ (.list u) b x.2 (q-a.cells):=by
   intro u q;cases q with
   |zero=>
    conv=>lhs;unfold qZ
    rw[aS8 (by intro e;cases e),Nat.zero_sub]
   |succ q=>simp [qZ]
  have hl':(if o<a.cells then CT a o else CT b (o-a.cells))=true:=by
   cases o<;>simpa[CT] using hl
  by_cases ho:o<a.cells
  .rw[aRZ ho] at hl';obtain⟨u,k1,k2⟩:=iha h2 r1 hl' hk;exact⟨u,by rw[key,aRZ ho];exact k1,by rw[e,aSc pI];exact k2⟩
  .rw[aR4 ho] at hl';obtain⟨u,k1,k2⟩:=ihb h3 r2 hl' pI;exact⟨u,by rw[key,aR4 ho];exact k1,by rw[e,aR5 pI,h1];exact k2⟩
 |list u=>
  intro x cs off o hn hr hl hk;cases o with
  |succ o=>simp [CT] at hl
  |zero=>
   obtain⟨a,cap,e,_,_⟩:=hr;have hn':cs=[.slice none 0 0]:=hn.resolve_left (by simpa using hk);rw[hn'] at e;simp only[aSy,aTk,and_true] at e;have:(x:List u.den)=[]:=aSq e.2.1.symm;subst this;exact⟨u,by unfold qZ;simp [tJ],by rw[hn'];rfl⟩
 |_=>intro x cs off o hn hr hl;cases o<;>simp [CT] at hl
theorem aI6 {g:Gh}{w:pT}{u:Ty}{y:u.den}{cy:pP}(hy:Rd g w u y cy): ∀{t:Ty}{x z:t.den}{cs:pP}{f:Nat},Rd g w t x cs->Ty.setPart u y t x f=some z->
  ∃o c1 c2 c3,t.offs f=some o/\t.fld f=some u/\cs=c1++c2++c3/\c1.length=o/\c2.length=u.cells/\Rd g w t z (c1++cy++c3)/\(∀k off,wR k t off cs->wR k u (off+o) cy->wR k t off (c1++cy++c3)):=by
 intro t
 induction t with
 |pair a b _ ihb=>
  intro x z cs f r h;obtain⟨c1,c2,e,r1,r2⟩:=r;cases f with
  |zero=>
   simp only[Ty.setPart] at h;split at h
   .rename_i hu;subst hu;simp only[tJ,aRV] at h;subst h;refine⟨0,[],c1,c2,rfl,rfl,by simpa using e,rfl,sJ r1,⟨cy,c2,by simp,hy,r2⟩,fun k off ⟨d1,d2,e',k1,_,k3⟩ hcy=>?_⟩;obtain⟨rfl,rfl⟩:=aTl (e'.symm.trans e) (by rw[k1,sJ r1]);exact⟨cy,d2,by simp,sJ hy,hcy,k3⟩
   .cases h
  |succ f=>
   simp only[Ty.setPart,aR8] at h;obtain⟨q,hq,rfl⟩:=h;obtain⟨o,d1,d2,d3,h1,h2,h3,h4,h5,h6,h7⟩:=ihb r2 hq;refine⟨a.cells+o,c1++d1,d2,d3,by simp [Ty.offs,h1],by simpa[Ty.fld] using h2,by rw[e,h3];simp,?_,h5,⟨c1,d1++cy++d3,by simp,r1,h6⟩,fun k off ⟨k1,k2,e',k3,k4,k5⟩ hcy=>by
    obtain⟨rfl,rfl⟩:=aTl (e'.symm.trans e) (by rw[k3,sJ r1]);exact⟨k1,d1++cy++d3,by simp,k3,k4,h7 k _ k5 (by rw[aSz];exact hcy)⟩⟩
   rw[aRX,h4,sJ r1]
 |_=>intro x z cs f r h;cases f<;>simp [Ty.setPart] at h
theorem Y7 {g:Gh}{w:pT}{t:Ty}{ev:Operand->pU}{ρ:Operand->qC}{place:Nat->pQ}(hp: ∀f o u,t.offs f=some o->t.fld f=some u->place f=some (o,u.cells)):
  ∀(ps:List (Nat×Operand)) (x z:t.den) (cs:pP),Rd g w t x cs->(∀q∈ps,rN g w (ρ q.2) (ev q.2))->yW t (some x) (tP ρ ps)=some z->
  ∃cs',Instr.fill place cs.toArray (ps.map fun q=>(q.1,ev q.2))=some cs'.toArray/\Rd g w t z cs'/\(∀m k,yX t (tP ρ ps)=some m->m=0\/m=k->wR k t 0 cs->wR k t 0 cs')
 |[],x,z,cs,r,_,h=>by
  simp only[tP,yW,aRV] at h;subst h;exact⟨cs,rfl,r,fun _ _ _ _ h=>h⟩
 |(i,q)::ps,x,z,cs,r,hq,h=>by
  have h0:=hq (i,q) pK;have step: ∀{u:Ty}{y:u.den}{z1:t.den},sR g w u y (ev q)->Ty.setPart u y t x i=some z1->yW t (some z1) (tP ρ ps)=some z->(∀m k,yX t (tP ρ ((i,q)::ps))=some m->m=0\/m=k->(∀o,t.offs i=some o->wR k u o (ev q).cells.toList)/\∃m',yX t (tP ρ ps)=some m'/\(m'=0\/m'=k))->
    ∃cs',Instr.fill place cs.toArray (((i,q)::ps).map fun q=>(q.1,ev q.2))=some cs'.toArray/\Rd g w t z cs'/\(∀m k,yX t (tP ρ ((i,q)::ps))=some m->m=0\/m=k->wR k t 0 cs->wR k t 0 cs'):=by
   intro u y z1 hv hset h hpl;obtain⟨o,c1,c2,c3,h1,h2,rfl,h4,h5,h6,h7⟩:=aI6 (CY hv) r hset;obtain⟨cs',hf,hr,hn⟩:=Y7 hp ps z1 z _ h6 (fun q hq'=>hq q (by simp [hq'])) h;refine⟨cs',?_,hr,fun m k hpp hm hcs=>?_⟩
   rotate_left
   .obtain⟨q1,m',q2,q3⟩:=hpl m k hpp hm;exact hn m' k q2 q3 (h7 k 0 hcs (by rw[aSu];exact q1 o h1))
   simp only[aS0];rw[a90 (hp i o u h1 h2) (by have:=sJ (CY hv);simpa using this) (c1:=c1) (c2:=c2) (c3:=c3) pK h4 h5];exact hf
  generalize hs:ρ q=s at h0;simp only[tP,hs] at h;obtain⟨d,k⟩:=s;cases d with
  |val u y=>
   simp only[yW] at h;generalize hset:Ty.setPart u y t x i=o1 at h;cases o1 with
   |none=>cases ps with
    |nil=>simp [tP,yW] at h
    |cons p ps=>simp [tP,yW] at h
   |some z1=>
    have hpl: ∀m k,yX t (tP ρ ((i,q)::ps))=some m->m=0\/m=k->(∀o,t.offs i=some o->wR k u o (ev q).cells.toList)/\∃m',yX t (tP ρ ps)=some m'/\(m'=0\/m'=k):=by
     intro m k hpp hm;simp only[tP,hs,yX] at hpp;cases hu:I1 u with
     |false=>
      rw[hu] at hpp;simp only[RG] at hpp;exact⟨fun o _=>Y5 hu (sJ (CY h0.1)),m,hpp,hm⟩
     |true=>
      rw[hu] at hpp;cases hu2:WM u with
      |false=>rw[hu2] at hpp;simp [RG] at hpp
      |true=>
       rw[hu2] at hpp;simp only[RG] at hpp;cases ho:t.offs i with
       |none=>rw[ho] at hpp;simp [RF] at hpp
       |some o=>
        rw[ho] at hpp;cases hm2:yX t (tP ρ ps) with
        |none=>rw[hm2] at hpp;simp [RF] at hpp
        |some m'=>
         rw[hm2] at hpp;simp only[RF] at hpp;split at hpp
         .rename_i hm0;subst hm0;simp only[aRV] at hpp;refine⟨fun o' ho'=>?_,0,rfl,.inl rfl⟩;obtain rfl:=aRY ho';cases u with
          |list u=>exact .inl pI
          |_=>simp [WM] at hu2
         cases hpp
    obtain⟨cs',k1,k2,k3⟩:=step h0.1 hset h hpl;exact⟨cs',k1,k2,k3⟩
  |nilS=>
   simp only[yW] at h;generalize hfl:t.fld i=fl at h;cases fl with
   |none=>cases ps<;>simp [R1,tP,yW] at h
   |some u=>
    cases u with
    |list u=>
     simp only[R1] at h;generalize hset:Ty.setPart (.list u) [] t x i=o1 at h;cases o1 with
     |none=>cases ps<;>simp [tP,yW] at h
     |some z1=>
      have hev:ev q= .slice none 0 0:=h0.1;refine step (u:= .list u) (y:=[]) ?_ hset h (fun m k hpp hm=>?_)
      .rw[hev];exact .inr ⟨rfl,none,0,rfl,aSl _,.inl rfl⟩
      .simp only[tP,hs,yX] at hpp;exact⟨fun o _=>by rw[hev];exact .inr rfl,m,hpp,hm⟩
    |_=>cases ps<;>simp [R1,tP,yW] at h
  |_=>simp [yW] at h
section
variable {P:Program}{o:Oper}{a:Act}{g:Gh}{w:pT}{H:rZ}{T:sG}(hT:wA P T) (hH:sA g w H)
include hT hH
theorem a92 {P:Program}(w:pT): ∀(fs:List Field),(∀f∈fs,∃n,(P.info? f.type).map (·.size)=some n)->
  (fs.mapM (fun f=>do pure (f.offset,<-sizeOf f.type):Field->Sem (Nat×Nat))).run P w= .ok (fs.map fun f=>(f.offset,((P.info? f.type).map (·.size)).getD 0)) w
 |[],_=>rfl
 |f::fs,h=>by
  obtain⟨n,hn⟩:=h f pK;obtain⟨i,hi,hsz⟩:=aR8.1 hn;rw[List.mapM_cons];simp only[aR6,sizeOf,typeInfo,aSH,hi,aR0,aSm];have:=a92 w fs (fun f hf=>h f (by simp [hf]));simp only[sizeOf,typeInfo,aR6,aSH] at this;rw[this];simp [hi]
theorem aI7 {P:Program}: ∀{ty:Ty}{off:Nat}{fs:List Field},LA P ty off fs->∀f∈fs,∃n,(P.info? f.type).map (·.size)=some n:=by
 intro ty
 induction ty with
 |pair a b _ ihb=>
  intro off fs h f hf;cases fs with
  |nil=>cases hf
  |cons fd fs=>
   obtain⟨_,h2,_,h4⟩:=h;rcases aSa.1 hf with rfl|hf
   .exact⟨_,h2⟩
   .exact ihb h4 f hf
 |unit=>intro off fs h f hf;cases fs with|nil=>cases hf|cons=>exact h.elim
 |_=>intro off fs h f hf;cases fs<;>exact h.elim
omit hT hH in
theorem a93 {t:Ty}{x:t.den}{cs:pP}{ps:List (Nat×qC)}(h: ∀m k,yX t ps=some m->m=0\/m=k->wR k t 0 (tM t)->wR k t 0 cs):match ((DV.val t x,WN t (yX t ps)):qC) with
  |(_,none)=>True
  |(.val t x,some k)=>BA g t x (.agg cs.toArray) (some k)
  |(_,some _)=>False:=by
 cases hp:yX t ps with
 |none=>cases t<;>trivial
 |some m=>
  cases t with
  |pair a b=>
   have:=h m m hp (.inr rfl) (SU _ _);simpa[WN,BA,Value.cells] using this
  |_=>trivial
omit hT in
theorem rG.pureS {s:qC}{v:pU}(hr:(execOp a.eval o).run P w= .ok (.value v) w) (hs:rN g w s v):rG P o a g w H ⟨[],s,[],[]⟩:=
 rG.value hr (.pure hH hs)
theorem aI8 {t:TypeId}{ps:Array (Nat×Operand)}(ho:o.op= .build t ps) {ρ:Operand->qC}(hρ: ∀q∈ps.toList,rN g w (ρ q.2) (a.eval q.2)) {e:qP}(hr:WO (tP ρ ps.toList) (rS T t)=some e):rG P o a g w H e:=by
 generalize hs:rS T t=ot at hr;cases ot with
 |none=>cases hr
 |some ti=>
  have hty:=sL hT hs;simp only[WO] at hr;by_cases hrow:ti.ty.isRow=true
  case neg=>rw[aR4 hrow] at hr;cases hr
  rw[aRZ hrow] at hr;generalize hb:yW ti.ty (some ti.ty.zero) (tP ρ ps.toList)=ox at hr;cases ox with
  |none=>cases hr
  |some x=>
   cases hr;obtain⟨i,hi,hsz,hz⟩:=BV hty;have hzv:wS ti.ty= .agg (tM ti.ty).toArray:=by unfold wS;rw[aRZ hrow]
   have hzr: ∀w,(zeroValue t).run P w= .ok (.agg (tM ti.ty).toArray) w:=by
    intro w;simp [zeroValue,typeInfo,hi,hz,hzv]
   have hmap:(ps.map fun(q:Nat×Operand)=>(q.1,a.eval q.2)).toList=ps.toList.map fun q=>(q.1,a.eval q.2):=by simp
   rcases Y3 hty hrow with⟨har,fs,hfs,hfe⟩ |⟨har,n,el,hu,hel,hsome⟩
   .have hpl:=a92 (P:=P) hT hH w fs.toList (aI7 hT hH hfe);obtain⟨cs',hf,hR,hN⟩:=Y7 (g:=g) (w:=w) (ev:=a.eval) (ρ:=ρ) (t:=ti.ty) (place:=fun j=>((fs.map fun f=>(f.offset,((P.info? f.type).map (·.size)).getD 0))[j]?)) (fun f oo u h1 h2=>by
     obtain⟨fd,k1,k2,k3,_⟩:=Y1 hfe h1 h2;have k1':fs[f]? =some fd:=by simpa using k1
     simp [k1',k2,k3]) ps.toList ti.ty.zero x (tM ti.ty) (BT g w ti.ty) hρ hb
    refine rG.pureS hH (v:= .agg cs'.toArray) ?_ ⟨.inl ⟨hrow,cs',rfl,hR⟩,a93 hN⟩;have hmp:(fs.mapM (fun f=>do pure (f.offset,<-sizeOf f.type):Field->Sem (Nat×Nat))).run P w= .ok (fs.map fun f=>(f.offset,((P.info? f.type).map (·.size)).getD 0)) w:=by
     rw[Array.mapM_eq_mapM_toList,Sem.run_map,hpl];simp only[aR0];congr 1;apply aSO.1;simp
    simp only[execOp,ho,Instr.build,aR6,hzr,aR0,aSg hfs,hmp,Value.cells];rw[hmap,hf];rfl
   obtain⟨cs',hf,hR,hN⟩:=Y7 (g:=g) (w:=w) (ev:=a.eval) (ρ:=ρ) (t:=ti.ty) (place:=fun j=>some (j*((P.info? el).map (·.size)).getD 0,((P.info? el).map (·.size)).getD 0)) (fun f oo u h1 h2=>by
    obtain⟨k1,k2,k3,k4⟩:=Y2 hel h1 h2;simp [k2,k4]) ps.toList ti.ty.zero x (tM ti.ty) (BT g w ti.ty) hρ hb
   refine rG.pureS hH (v:= .agg cs'.toArray) ?_ ⟨.inl ⟨hrow,cs',rfl,hR⟩,a93 hN⟩;obtain⟨ei,hei⟩:=aRW.1 hsome;simp only[hei,Option.map_some,aTI] at hf;simp only[execOp,ho,Instr.build,aR6,hzr,aR0,aSg hu,sizeOf,typeInfo,aSH,hei,aSm,Value.cells];rw[hmap,hf];rfl
theorem Y8 {ρ:Operand->qC}{ev:Operand->pU}: ∀{xs:List Operand}{ss:List qC},(∀x∈xs,rN g w (ρ x) (ev x))->uO ρ xs=ss->∃vs,xs.map ev=vs/\vs.length=ss.length/\∀(i:Nat) (s:qC) (v:pU),ss[i]? =some s->vs[i]? =some v->rN g w s v
 |[],_,_,h=>⟨[],rfl,by rw[<-h];rfl,fun i s v _ hv=>by simp at hv⟩
 |x::xs,ss,hx,h=>by
  subst h;obtain⟨vs,h1,h2,h3⟩:=Y8 (fun y hy=>hx y (by simp [hy])) rfl (xs:=xs);refine⟨ev x::vs,by simp [h1],by simp [uO,h2],fun i s v hs hv=>?_⟩;cases i with
  |zero=>
   simp only[uO,aSt,aRV] at hs hv;subst hs;subst hv;exact hx x pK
  |succ i=>
   simp only[uO,aSx] at hs hv;exact h3 i s v hs hv
theorem SV {ρ:Operand->qC}{ev:Operand->pU}{args:Array Operand}{s:qC}(hρ: ∀x∈args.toList,rN g w (ρ x) (ev x)) (h:uO ρ args.toList=[s]): ∃v,args.map ev= #[v]/\rN g w s v:=by
 obtain⟨vs,h1,h2,h3⟩:=Y8 hT hH hρ h;obtain⟨v,rfl⟩:=aSV.1 h2;exact⟨v,by apply aSO.1;simpa using h1,h3 0 s v rfl rfl⟩
theorem SW {ρ:Operand->qC}{ev:Operand->pU}{args:Array Operand}{s t:qC}(hρ: ∀x∈args.toList,rN g w (ρ x) (ev x)) (h:uO ρ args.toList=[s,t]): ∃v u,args.map ev= #[v,u]/\rN g w s v/\rN g w t u:=by
 obtain⟨vs,h1,h2,h3⟩:=Y8 hT hH hρ h
 match vs,h2 with
 |[v,u],_=>exact⟨v,u,by apply aSO.1;simpa using h1,h3 0 s v rfl rfl,h3 1 t u rfl rfl⟩
theorem E8 {b:Builtin}{args:Array Operand}{tys:Array TypeId}(ho:o.op= .call ⟨.builtin b,args,tys⟩):
  ∃cs,execOp a.eval o=builtin b tys o.type cs (args.map a.eval):=by
 refine⟨args.map fun| .const _=>true|_=>false,?_⟩
 unfold execOp;rw[ho];rfl
theorem aI9 (x y:Int):(if y<x then y else x)=min x y:=by rw[Int.min_def];split<;>split<;>omega
theorem aJa (x y:Int):(if y>x then y else x)=max x y:=by rw[Int.max_def];split<;>split<;>omega
theorem aJb {args:Array Operand}{tys:Array TypeId}(ho:o.op= .call ⟨.builtin .len,args,tys⟩) {ρ:Operand->qC}(hρ: ∀x∈args.toList,rN g w (ρ x) (a.eval x)) {e:qP}
  (hr:S7 T H (uO ρ args.toList) tys.toList=some e):rG P o a g w H e:=by
 obtain⟨t0,tr,htl⟩: ∃t0 tr,tys.toList=t0::tr:=by cases h:tys.toList with|nil=>(rw[h] at hr;cases hr) |cons t r=>exact⟨t,r,rfl⟩
 have ht0:tys[0]? =some t0:=by rw[<-aSJ,htl];rfl
 rw[htl] at hr;simp only[S7] at hr;generalize hst:rS T t0=ot at hr;generalize hss:uO ρ args.toList=ss at hr;unfold XB at hr;split at hr
 .rename_i el fl ar ls_ i k;generalize hb:qE H i=ob at hr;unfold S1 at hr;split at hr
  .rename_i kt vt l;cases hr;obtain⟨v,hv,hs⟩:=SV hT hH hρ hss;have h2:=(sL hT hst).2;simp only[w9] at h2;obtain⟨p,es,cl,hp,hp0,hh,hM,hS⟩:=hH.blk i _ hb;obtain⟨p',hp',hxv⟩: ∃p,g.J i=some p/\v= .map (some p.1):=by
    rcases hs.1 with⟨h1,_⟩ |⟨_,p,h3,h4⟩
    .cases h1
    simp only[aSy,and_true] at h4;exact⟨p,h3,h4⟩
   rw[hp] at hp';obtain rfl:=aRY hp';have hlen: ∀{l:List (kt.den×vt.den)}{es:List MapEntry},BS g w kt vt l es->es.length=l.length:=by
    intro l
    induction l with
    |nil=>intro es h;rw[show es=[] from h];rfl
    |cons q l ih=>intro es h;obtain⟨e,es',rfl,_,_,h5⟩:=h;simp [ih h5]
   refine rG.pure hH (v:= .int .i64 (List.length l:Int)) ?_ (vD _ _ _ _);obtain⟨cs,hx⟩:=E8 (a:=a) hT hH ho;rw[hx,hv,hxv];have harg:(#[Value.map (some p.1)]:Array pU)[0]? =some (.map (some p.1)):=rfl;have hobj:(getObj p.1).run P w= .ok (.map es cl) w:=by simp [getObj,Sem.run,hh]
   simp only[builtin,Builtin.len_,ht0,harg,aR6,aSg h2,aR0,aSm,goInt,hobj];rw[<-hlen hM,aSF]
  cases hr
 .rename_i el by' ar ls_ l k;cases hr;obtain⟨v,hv,hs⟩:=SV hT hH hρ hss;have h2:=(sL hT hst).2;simp only[w9] at h2;have hv':=vM hs.1;refine rG.pure hH (v:= .int .i64 (List.length l:Int)) ?_ (vD _ _ _ _);subst hv';obtain⟨cs,hx⟩:=E8 (a:=a) hT hH ho;rw[hx,hv];have harg:(#[Value.string ⟨List.toArray l⟩]:Array pU)[0]? =some (.string ⟨List.toArray l⟩):=rfl;simp only[builtin,Builtin.len_,ht0,harg,aR6,aSg h2,aR0,aSm,goInt];rfl
 .rename_i u el by' ar ls_ t l k;cases hr;obtain⟨v,hv,hs⟩:=SV hT hH hρ hss;have h2:=(sL hT hst).2.1;obtain⟨ad,cap,rfl,_⟩:=BU hs.1;refine rG.pure hH (v:= .int .i64 (List.length l:Int)) ?_ (vD _ _ _ _);obtain⟨cs,hx⟩:=E8 (a:=a) hT hH ho;rw[hx,hv];have harg:(#[Value.slice ad (List.length l) cap]:Array pU)[0]? =some (.slice ad (List.length l) cap):=rfl;simp only[builtin,Builtin.len_,ht0,harg,aR6,aSg h2,aR0,aSm,goInt]
 .rename_i u el by' ar ls_ ko n k;cases hr;obtain⟨v,hv,hs⟩:=SV hT hH hρ hss;have h2:=(sL hT hst).2.1;obtain⟨ad,cap,rfl⟩: ∃ad cap,v= .slice ad n cap:=by
   rcases hs.1.2 with⟨h,rfl⟩ |⟨b,cap,h,_⟩
   .exact⟨_,_,h⟩
   exact⟨_,_,h⟩
  refine rG.pure hH (v:= .int .i64 (n:Int)) ?_ (vD _ _ _ _);obtain⟨cs,hx⟩:=E8 (a:=a) hT hH ho;rw[hx,hv];have harg:(#[Value.slice ad n cap]:Array pU)[0]? =some (.slice ad n cap):=rfl;simp only[builtin,Builtin.len_,ht0,harg,aR6,aSg h2,aR0,aSm,goInt]
 cases hr
theorem a94 {args:Array Operand}{tys:Array TypeId}{mx:Bool}(ho:o.op= .call ⟨.builtin (if mx then .max else .min),args,tys⟩) {ρ:Operand->qC}(hρ: ∀x∈args.toList,rN g w (ρ x) (a.eval x)) {e:qP}
  (hr:yU (S5 mx (uO ρ args.toList))=some e):rG P o a g w H e:=by
 obtain⟨q,hq,rfl⟩:=FY hr;generalize hss:uO ρ args.toList=ss at hq;unfold S5 at hq;split at hq
 .rename_i k x k1 k' y k2;split at hq
  .rename_i hk;subst hk;cases hq;obtain⟨v,u,hv,hs1,hs2⟩:=SW hT hH hρ hss;have e1:=uZ hs1.1;have e2:=uZ hs2.1;subst e1;subst e2;cases mx
   .refine rG.pure hH (v:= .int k (min (x:Int) y)) ?_ (vD _ _ _ _);obtain⟨cs,hx⟩:=E8 (a:=a) hT hH ho;rw[hx,hv];have:=aI9 hT hH x y;simp [builtin,Builtin.min_,Builtin.min2,this]
   refine rG.pure hH (v:= .int k (max (x:Int) y)) ?_ (vD _ _ _ _);obtain⟨cs,hx⟩:=E8 (a:=a) hT hH ho;rw[hx,hv];have:=aJa hT hH x y;simp [builtin,Builtin.max_,Builtin.max2,this]
  cases hq
 cases hq
theorem aJc {f:FuncId}{caps:Array Operand}(ho:o.op= .makeFunc (.func f) #[] caps) {ρ:Operand->qC}(hρ: ∀x∈caps.toList,rN g w (ρ x) (a.eval x)) {e:qP}
  (hr:a9s f (HT (uO ρ caps.toList))=some e):rG P o a g w H e:=by
 generalize hc:HT (uO ρ caps.toList)=oc at hr;cases oc with
 |none=>cases hr
 |some l=>
  cases hr;have key: ∀(xs:List Operand) (l:pN),(∀x∈xs,rN g w (ρ x) (a.eval x))->HT (uO ρ xs)=some l->x5 g l (xs.map a.eval):=by
   intro xs
   induction xs with
   |nil=>intro l _ h;simp only[uO,HT,aRV] at h;subst h;rfl
   |cons x xs ih=>
    intro l hx h;have h0:=hx x pK;generalize hs:ρ x=s at h0;simp only[uO,hs] at h;obtain⟨d,k⟩:=s;unfold HT at h;split at h
    .cases ‹_=[]›
    .rename_i p k r heq;simp only[aSy,aSp] at heq;obtain⟨⟨rfl,rfl⟩,rfl⟩:=heq;obtain⟨l',hl',rfl⟩:=aR8.1 h;obtain⟨i,off⟩:=p;obtain⟨p,hp,hv⟩:=wC h0.1;exact⟨p,_,hp,by rw[aS0,hv],ih l' (fun y hy=>hx y (by simp [hy])) hl'⟩
    cases h
  refine rG.pure hH (v:= .func (.func f) #[] (caps.map a.eval)) ?_ (.inr ⟨rfl,caps.toList.map a.eval,key _ _ hρ hc,by congr 2;apply aSO.1;simp⟩);simp [execOp,ho,Instr.makeFunc]
end
theorem Y9 {α:Type}{l:List α}{m n:Int}(h0:0≤m) (h1:m≤n) (h2:n≤(l.length:Int)):(sH l m n).length=n.toNat-m.toNat:=by
  unfold sH;rw[aSN,aS1];omega
theorem SX {α:Type}{R:α→pP→Prop}{c:Nat}: ∀{l:List α}{cs:pP}{i:Nat}{x:α},tG R c l cs→l[i]? =some x→∃c1 c2 c3,cs=c1++c2++c3∧c1.length=i*c∧c2.length=c∧R x c2
  | y::l,_,0,x,⟨c1,c2,e,h1,h2,h3⟩,h=>by
    simp only[aSt,aRV] at h;subst h;exact⟨[],c1,c2,by simpa using e,by simp,h1,h2⟩
  | y::l,_,i+1,x,⟨c1,c2,e,h1,h2,h3⟩,h=>by
    simp only[aSx] at h;obtain⟨d1,d2,d3,e1,e2,e3,e4⟩:=SX h3 h;exact⟨c1++d1,d2,d3,by rw[e,e1];simp,by rw[aRX,h1,e2,aSR];omega,e3,e4⟩
theorem a95 {t:Ty}{l:List t.den}{i:Int}(h0:0≤i) (h:i.toNat<l.length):l[i.toNat]? =some (qR t l i):=by
  unfold qR;rw[aSo,aR3 h];rfl
theorem FZ {α:Type}{R:α→pP→Prop}{w:pT}{S:Nat→Nat→Prop}{c b:Nat}: ∀{l:List α}{o:Nat}{cs:pP},tG R c l cs→w.rangeAt b o cs→(∀j,j<l.length*c→S b (o+j))→x4 R w S c b o l
  |[],_,_,_,_,_=>trivial
  | x::l,o,cs,⟨c1,c2,e,h1,h2,h3⟩,hr,hS=>by
    subst e;refine⟨⟨c1,h1,fun j v hv=>hr j v (by rw[aSc (aR7.1 hv).1];exact hv),fun j hj=>hS j (by rw[aR1,aSR];omega),h2⟩,FZ h3 (fun j v hv=>?_) (fun j hj=>?_)⟩
    · have:=hr (c+j) v (by rw[aR5 pI,h1,aSB];exact hv)
      rwa [←aSz] at this
    have:=hS (c+j) (by rw[aR1,aSR];omega)
    rwa [←aSz] at this
theorem YA {u0:Ty}{l:List u0.den}: ∀{t:Ty}{x:t.den}{q: Σ t:Ty,t.den},xZ u0 l t x=some q→q.1.cells=t.cells:=by
  intro t
  induction t with
  | rl e u=>
    intro x q h;cases x with
    |none=>cases h
    | some p=>
      simp only[xZ,WS] at h;split at h
      .cases h;rfl
      .cases h
  | pair a b iha ihb=>
    intro x q h;simp only[xZ] at h;cases hf:zX a x.1 with
    | some p=>
      rw[hf] at h;cases hq:xZ u0 l a x.1 with
      |none=>rw[hq] at h;cases h
      | some r=>
        obtain⟨a',x'⟩:=r;rw[hq] at h;simp only[I2,aRV] at h;subst h;have:=iha hq;simp only[Ty.cells] at this|-;omega
    | none=>
      rw[hf] at h;cases hq:xZ u0 l b x.2 with
      |none=>rw[hq] at h;simp [I2] at h
      | some r=>
        obtain⟨b',y'⟩:=r;rw[hq] at h;simp only[I2,aRV] at h;subst h;have:=ihb hq;simp only[Ty.cells] at this|-;omega
  |_=>intro x q h;simp [xZ] at h
theorem aJd {g:Gh}{w:pT}{k n:Nat}{u0:Ty}{l:List u0.den}(hk: ∀cs,A0 g (some (k,n)) cs→Rd g w (.list u0) l cs): ∀{t:Ty}{x:t.den}{cs:pP}{q: Σ t:Ty,t.den},zX t x=some (k,n)→xZ u0 l t x=some q→Rd g w t x cs→Rd g w q.1 q.2 cs:=by
  intro t
  induction t with
  | rl e u=>
    intro x cs q hf h r;simp only[zX] at hf;subst hf;simp only[xZ,WS] at h;split at h
    · cases h
      exact hk _ r
    .cases h
  | pair a b iha ihb=>
    intro x cs q hf h r;obtain⟨c1,c2,e,r1,r2⟩:=r;simp only[zX] at hf;simp only[xZ] at h;cases hfa:zX a x.1 with
    | some p=>
      rw[hfa] at h hf;simp only[WR,aRV] at hf;subst hf;cases hq:xZ u0 l a x.1 with
      |none=>rw[hq] at h;cases h
      | some z=>
        obtain⟨a',x'⟩:=z;rw[hq] at h;simp only[I2,aRV] at h;subst h;exact⟨c1,c2,e,iha hfa hq r1,r2⟩
    | none=>
      rw[hfa] at h hf;simp only[WR] at hf;cases hq:xZ u0 l b x.2 with
      |none=>rw[hq] at h;simp [I2] at h
      | some z=>
        obtain⟨b',y'⟩:=z;rw[hq] at h;simp only[I2,aRV] at h;subst h;exact⟨c1,c2,e,r1,ihb hf hq r2⟩
  |_=>intro x cs q hf;simp [zX] at hf
theorem aJe {g:Gh}{w:pT}{H:rZ}(hH:sA g w H) {k i:Nat}{e:TypeId}{t:Ty}{l:List t.den}{n:Nat}(hk:qE H k=some (.row e t l n)) {u:Ty}{x:u.den}{toks:pN}(hi:qE H i=some (.cells u x toks)) (hfr:zX u x=some (k,n)) {q: Σ t:Ty,t.den}(hq:xZ t l u x=some q):
    ∃ g',sA g' w (qT [(i,qB.cells q.1 q.2 []),(k,qB.grow e t.cells (List.length l))] H)∧g'.J=g.J∧
      ∀side s rds v,FI rds=true→rN g' w s v→y7 g w H ⟨side,s,[(i,qB.cells q.1 q.2 []),(k,qB.grow e t.cells (List.length l))],rds⟩ g' w v:=by
  obtain⟨hl,v,xs,hv,hown,hF,hnone,hseal⟩:=hH.blk k _ hk
  let g':Gh:={g with S:=fun b o=>g.S b o∨(v.ownBlock=some b∧o<n*t.cells)}
  have le:Le g w g' w:=⟨fun _ _ h=> .inl h,fun _ _ _=>rfl,fun _ _ h=>h,fun _ _ _ h=>h⟩;have hown2: ∀b,v.ownBlock=some b→∀o,s6 g k (.row e t l n) b o:=fun b hb o=>⟨v,hv,hb⟩
  have hlist: ∀u,g.cur k n=some u→((u= .slice none 0 0∧n=0)∨∃b cap,u= .slice (some ⟨b,0,none⟩) n cap∧n≤cap)→sR g' w (.list t) l u:=by
    intro u hu hshape;rw[hv] at hu;obtain rfl:=aRY hu;rcases hshape with⟨rfl,h0⟩ |⟨b,cap,rfl,hcap⟩
    · have:l=[]:=aSq (by rw[hl,h0])
      subst this;exact .inr ⟨rfl,none,0,rfl,aSl _,.inl rfl⟩
    refine .inr ⟨rfl,some ⟨b,0,none⟩,cap,by rw[hl],by rw[hl];exact hcap,.inr ⟨b,0,rfl,FZ (AL (fun _ _ h=>vK le h) hF) (fun j u hu=>?_) (fun j hj=>?_)⟩⟩
    · have:=hown.cells (g:=b) rfl j u hu
      rwa [aSS] at this
    right
    exact⟨rfl,by rw[hl] at hj;omega⟩
  have hik:i≠k:=fun e1=>by rw[e1,hk] at hi;cases hi
  obtain⟨p0,cs0,hp0,hR0,hra0,hth0,hns0,_⟩:=hH.blk i _ hi
  let b':qB:= .cells q.1 q.2 []
  let H':rZ:=(i,b')::(k,qB.grow e t.cells (List.length l))::H
  have hget: ∀i' b,qE H' i'=some b→(i'=i∧b=b')∨(i'=k∧b= .grow e t.cells (List.length l))∨(i'≠k∧i'≠i∧qE H i'=some b):=by
    intro i' b hb;simp only[H',qE] at hb;split at hb
    .rename_i e1;exact .inl ⟨e1.symm,(aRY hb).symm⟩
    rename_i e1
    split at hb
    .rename_i e2;exact .inr (.inl ⟨e2.symm,(aRY hb).symm⟩)
    rename_i e2;exact .inr (.inr ⟨Ne.symm e2,Ne.symm e1,hb⟩)
  have howns: ∀i' b bb o,qE H' i'=some b→s6 g' i' b bb o→∃b0,qE H i'=some b0∧s6 g i' b0 bb o:=by
    intro i' b bb o hb ho;rcases hget i' b hb with⟨rfl,rfl⟩ |⟨rfl,rfl⟩ |⟨_,_,h1⟩
    · obtain⟨p,hp,e1,e2,e3⟩:=ho
      rw[YA hq] at e3;exact⟨_,hi,p,hp,e1,e2,e3⟩
    · obtain⟨u,hu,hub⟩:=ho
      have hu':g.cur i' (List.length l)=some u:=hu;rw[hl] at hu';exact⟨_,hk,u,hu',hub⟩
    exact⟨b,h1,(w8 (g':=g') (g:=g) rfl rfl).1 ho⟩
  have hheap:sA g' w H':=by
    refine⟨fun i' b hb=>?_,fun i' j bi bj b o hij h1 h2 o1 o2=>?_,fun b o hS=>?_,hH.tab.1,fun i' b bb oo hb ho=>by
      obtain⟨c1,k1,k2⟩:=howns i' b bb oo hb ho;exact hH.tab.2 i' c1 bb oo k1 k2⟩
    · rcases hget i' b hb with⟨rfl,rfl⟩ |⟨rfl,rfl⟩ |⟨hne,_,h1⟩
      · have hk2: ∀cs,A0 g' (some (k,n)) cs→Rd g' w (.list t) l cs:=by
          rintro cs ⟨v1,z1,z2,z3⟩;rw[z2];exact wB rfl (hlist v1 z1 z3)
        refine⟨p0,cs0,hp0,aJd (n:=n) hk2 hfr hq (vK le hR0),hra0,?_,?_,fun _ _ hm=>by cases hm⟩
        .rw[YA hq];exact⟨hth0.1,hth0.2⟩
        rw[YA hq]
        intro j hj hS;rcases hS with hS|hS
        .exact hns0 j hj hS
        exact hH.dis i' k _ _ p0.1 (p0.2+j) hik hi hk ⟨p0,hp0,rfl,pI,pI⟩ (hown2 _ hS.1 _)
      · refine⟨v,xs,by rw[hl];exact hv,by rw[hl];exact hown,fun m hm=>hnone m (by rw[hl] at hm;exact hm),fun b hb o hS=>?_⟩
        rw[hl];rcases hS with hS|hS
        .exact absurd hS (hseal b hb o)
        exact hS.2
      exact FX (hH.blk i' b h1) le rfl rfl (fun _ _ _=>⟨rfl,rfl⟩) (fun _ _=>rfl) (fun bb o ho hS=>by
         rcases hS with hS|hS
         .exact hS
         exact absurd (hown2 bb hS.1 o) (fun h5=>hH.dis i' k b _ bb o hne h1 hk ho h5)) (fun _ _ _ _ h=>h)
    · obtain⟨c1,k1,k2⟩:=howns i' bi b o h1 o1
      obtain⟨c2,k3,k4⟩:=howns j bj b o h2 o2;exact hH.dis i' j c1 c2 b o hij k1 k3 k2 k4
    rcases hS with hS|hS
    .exact hH.sl b o hS
    exact IK hown hS.1
  refine⟨g',hheap,rfl,fun side s rds vv hre hs=>⟨le,hs,hheap,⟨rfl,rfl,rfl,aSl _,fun _ _ _=>rfl,fun _ _ _ _=>⟨rfl,rfl⟩,fun b o hS=>?_,fun _ _ h=> .inl h⟩,fun i' blk b o hm hg ho=>?_,fun _ _=>⟨rfl,rfl⟩,fun h=>by rw[hre] at h;cases h⟩⟩
  · rcases hS with hS|hS
    .exact .inl hS
    exact .inr (.inr ⟨k,_,by simp [qH],hk,hown2 b hS.1 o⟩)
  obtain⟨b0,k1,k2⟩:=howns i' blk b o hg ho
  exact .inr ⟨i',b0,hm,k1,k2⟩
theorem aJf {g:Gh}{w:pT}{H:rZ}(hH:sA g w H) {k:Nat}{e:TypeId}{t:Ty}{l:List t.den}{n:Nat}(hk:qE H k=some (.row e t l n)):
    ∃g',g'.J=g.J∧g'.cur=g.cur∧rJ g w H ⟨[],(.any,none),[(k,qB.grow e t.cells (List.length l))],[]⟩ g' w undef∧∀cs,A0 g' (some (k,n)) cs→Rd g' w (.list t) l cs:=by
  obtain⟨hl,v,xs,hv,hown,hF,hnone,hseal⟩:=hH.blk k _ hk
  let g':Gh:={g with S:=fun b o=>g.S b o∨(v.ownBlock=some b∧o<n*t.cells)}
  have le:Le g w g' w:=⟨fun _ _ h=> .inl h,fun _ _ _=>rfl,fun _ _ h=>h,fun _ _ _ h=>h⟩;have hown2: ∀b,v.ownBlock=some b→∀o,s6 g k (.row e t l n) b o:=fun b hb o=>⟨v,hv,hb⟩
  have hlist: ∀u,g.cur k n=some u→((u= .slice none 0 0∧n=0)∨∃b cap,u= .slice (some ⟨b,0,none⟩) n cap∧n≤cap)→sR g' w (.list t) l u:=by
    intro u hu hshape;rw[hv] at hu;obtain rfl:=aRY hu;rcases hshape with⟨rfl,h0⟩ |⟨b,cap,rfl,hcap⟩
    · have:l=[]:=aSq (by rw[hl,h0])
      subst this;exact .inr ⟨rfl,none,0,rfl,aSl _,.inl rfl⟩
    refine .inr ⟨rfl,some ⟨b,0,none⟩,cap,by rw[hl],by rw[hl];exact hcap,.inr ⟨b,0,rfl,FZ (AL (fun _ _ h=>vK le h) hF) (fun j u hu=>?_) (fun j hj=>?_)⟩⟩
    · have:=hown.cells (g:=b) rfl j u hu
      rwa [aSS] at this
    right
    exact⟨rfl,by rw[hl] at hj;omega⟩
  have hget: ∀i' b,qE ((k,qB.grow e t.cells (List.length l))::H) i'=some b→(i'=k∧b= .grow e t.cells (List.length l))∨(i'≠k∧qE H i'=some b):=by
    intro i' b hb;simp only[qE] at hb;split at hb
    .rename_i e1;exact .inl ⟨e1.symm,(aRY hb).symm⟩
    rename_i e1;exact .inr ⟨Ne.symm e1,hb⟩
  have howns: ∀i' b bb o,qE ((k,qB.grow e t.cells (List.length l))::H) i'=some b→s6 g' i' b bb o→∃b0,qE H i'=some b0∧s6 g i' b0 bb o:=by
    intro i' b bb o hb ho;rcases hget i' b hb with⟨rfl,rfl⟩ |⟨_,h1⟩
    · obtain⟨u,hu,hub⟩:=ho
      have hu':g.cur i' (List.length l)=some u:=hu;rw[hl] at hu';exact⟨_,hk,u,hu',hub⟩
    exact⟨b,h1,(w8 (g':=g') (g:=g) rfl rfl).1 ho⟩
  have hheap:sA g' w ((k,qB.grow e t.cells (List.length l))::H):=by
    refine⟨fun i' b hb=>?_,fun i' j bi bj b o hij h1 h2 o1 o2=>?_,fun b o hS=>?_,hH.tab.1,fun i' b bb oo hb ho=>by
      obtain⟨c1,k1,k2⟩:=howns i' b bb oo hb ho;exact hH.tab.2 i' c1 bb oo k1 k2⟩
    · rcases hget i' b hb with⟨rfl,rfl⟩ |⟨hne,h1⟩
      · refine⟨v,xs,by rw[hl];exact hv,by rw[hl];exact hown,fun m hm=>hnone m (by rw[hl] at hm;exact hm),fun b hb o hS=>?_⟩
        rw[hl];rcases hS with hS|hS
        .exact absurd hS (hseal b hb o)
        exact hS.2
      exact FX (hH.blk i' b h1) le rfl rfl (fun _ _ _=>⟨rfl,rfl⟩) (fun _ _=>rfl) (fun bb o ho hS=>by
         rcases hS with hS|hS
         .exact hS
         exact absurd (hown2 bb hS.1 o) (fun h5=>hH.dis i' k b _ bb o hne h1 hk ho h5)) (fun _ _ _ _ h=>h)
    · obtain⟨c1,k1,k2⟩:=howns i' bi b o h1 o1
      obtain⟨c2,k3,k4⟩:=howns j bj b o h2 o2;exact hH.dis i' j c1 c2 b o hij k1 k3 k2 k4
    rcases hS with hS|hS
    .exact hH.sl b o hS
    exact IK hown hS.1
  refine⟨g',rfl,rfl,⟨le,⟨trivial,trivial⟩,hheap,⟨rfl,rfl,rfl,aSl _,fun _ _ _=>rfl,fun _ _ _ _=>⟨rfl,rfl⟩,fun b o hS=>?_,fun _ _ h=> .inl h⟩,fun i' blk b o hm hg ho=>?_,fun _ _=>⟨rfl,rfl⟩,fun i' u y us hg=>?_⟩,?_⟩
  · rcases hS with hS|hS
    .exact .inl hS
    exact .inr (.inr ⟨k,_,by simp [qH],hk,hown2 b hS.1 o⟩)
  · obtain⟨b0,k1,k2⟩:=howns i' blk b o hg ho
    exact .inr ⟨i',b0,hm,k1,k2⟩
  · rcases hget i' _ hg with⟨_,h1⟩ |⟨_,h1⟩
    .cases h1
    exact .inl ⟨y,us,h1⟩
  rintro cs ⟨v1,z1,z2,z3⟩
  rw[z2];exact wB rfl (hlist v1 z1 z3)
theorem a96 {g:Gh}{w:pT}{H:rZ}(hH:sA g w H) {k:Nat}{e:TypeId}{t:Ty}{l:List t.den}{n:Nat}(hk:qE H k=some (.row e t l n)):
    ∃g',g'.J=g.J∧g'.cur=g.cur∧rJ g w H ⟨[],(.any,none),[(k,qB.grow e t.cells n)],[]⟩ g' w undef∧∀cs,A0 g' (some (k,n)) cs→Rd g' w (.list t) l cs:=by
  have hl:l.length=n:=(hH.blk k _ hk).1;obtain⟨g',h1,h2,h3,h4⟩:=aJf hH hk;rw[hl] at h3;exact⟨g',h1,h2,h3,h4⟩
theorem a97 {k:Nat}: ∀{r:pN},NE k r=false→∀p∈r,p.1≠k
  |[],_,p,hp=>by cases hp
  | (j,m)::r,h,p,hp=>by
    simp only[NE] at h;split at h
    .cases h
    rename_i hne
    rcases aSa.1 hp with rfl|hp
    .exact hne
    exact a97 h p hp
theorem a98 {w:pT}{H:rZ}: ∀{ks:pN}{ps:List Prop}{bs:List (Nat×qB)}{g:Gh},sA g w H→zY H ks=some (ps,bs)→(∀p∈ps,p)→
    ∃g',g'.J=g.J∧g'.cur=g.cur∧rJ g w H ⟨[],(.any,none),bs,[]⟩ g' w undef∧(∀i,i∈qH bs→∃p∈ks,p.1=i)∧∀p∈ks,∀e t l m,qE H p.1=some (.row e t l m)→∀cs,A0 g' (some p) cs→Rd g' w (.list t) l cs
  | [],ps,bs,g,hH,h,_=>by
    simp only[zY,aRV,aSp] at h;obtain⟨rfl,rfl⟩:=h;exact⟨g,rfl,rfl,.pure hH ⟨trivial,trivial⟩,fun i hi=>(by cases hi),fun p hp=>(by cases hp)⟩
  | (k,n)::r,ps,bs,g,hH,h,hs=>by
    simp only[zY] at h;split at h
    .cases h
    rename_i hk
    have hk:NE k r=false:=by simpa using hk
    cases h1:RL k n (qE H k) with
    |none=>rw[h1] at h;simp [I3] at h
    | some q=>
      obtain⟨pp,b⟩:=q;cases h2:zY H r with
      |none=>rw[h1,h2] at h;simp [I3] at h
      | some q2=>
        obtain⟨ps2,bs2⟩:=q2;rw[h1,h2] at h;simp only[I3,aRV,aSp] at h;obtain⟨rfl,rfl⟩:=h;obtain⟨g1,k1,k2,k3,k4,k5⟩:=a98 hH h2 (fun p hp=>hs p (aSb _ hp));unfold RL at h1;split at h1
        · rename_i e t l m hg
          cases h1;have hnm:n=m:=hs _ aSf;subst hnm
          have hni:k∉qH bs2:=fun hi=>by
            obtain⟨p,hp,e1⟩:=k4 k hi;exact a97 hk p hp e1
          have hg2:qE (qT bs2 H) k=some (.row e t l n):=(yM hni).trans hg;obtain⟨g2,m1,m2,m3,m4⟩:=a96 k3.heap hg2;refine⟨g2,m1.trans k1,m2.trans k2,k3.trans m3,fun i hi=>?_,fun p hp e' t' l' m' hp2 cs hr=>?_⟩
          · simp only[qT,qH,aSa] at hi
            rcases hi with rfl|hi
            .exact⟨_,aSf,rfl⟩
            obtain⟨p,hp,e1⟩:=k4 i hi
            exact⟨p,aSb _ hp,e1⟩
          rcases aSa.1 hp with rfl|hp
          · simp only at hp2
            rw[hg] at hp2;simp only[aRV,qB.row.injEq] at hp2;obtain⟨rfl,rfl,rfl,rfl⟩:=hp2;exact m4 cs hr
          obtain⟨j,q⟩:=p
          refine vK m3.le (k5 _ hp e' t' l' m' hp2 cs ?_);obtain⟨v,v1,v2⟩:=hr;exact⟨v,by rw[←m2];exact v1,v2⟩
        cases h1
theorem aJg {g:Gh}{w:pT}{H:rZ}: ∀{t:Ty}{x:t.den}{y:(DU t).den}{cs:pP},yY H t x=some y→Rd g w t x cs→(∀p∈yZ t x,∀e t' l m,qE H p.1=some (.row e t' l m)→∀cs,A0 g (some p) cs→Rd g w (.list t') l cs)→Rd g w (DU t) y cs:=by
  intro t
  induction t with
  | rl e u=>
    intro x y cs h r hk;cases x with
    | none=>
      obtain rfl:[]=y:=aRY h;exact⟨none,0,r,aSl _,.inl rfl⟩
    | some p=>
      obtain⟨k,n⟩:=p;simp only[yY,WV] at h;unfold a9l at h;split at h
      · rename_i e' t' l m hg
        split at h
        · rename_i htu
          subst htu;cases h;exact hk (k,n) (by simp [yZ,WW]) _ _ _ _ hg cs r
        cases h
      .cases h
  | pair a b iha ihb=>
    intro x y cs h r hk;simp only[yY] at h;obtain⟨c1,c2,e,r1,r2⟩:=r;cases h1:yY H a x.1 with
    |none=>rw[h1] at h;simp [CS] at h
    | some y1=>
      cases h2:yY H b x.2 with
      |none=>rw[h1,h2] at h;simp [CS] at h
      | some y2=>
        rw[h1,h2] at h;cases h;exact⟨c1,c2,e,iha h1 r1 (fun p hp=>hk p (by simp only[yZ];exact E7.2 (.inl hp))),ihb h2 r2 (fun p hp=>hk p (by simp only[yZ];exact E7.2 (.inr hp)))⟩
  |_=>intro x y cs h r _;cases h;exact r
section
variable {P:Program}{o:Oper}{a:Act}{g:Gh}{w:pT}{H:rZ}{T:sG}(hT:wA P T) (hH:sA g w H)
include hT hH
theorem LB {t:TypeId}{ti:TI}(hty:sT P t ti) {x:ti.ty.den}{b off:Nat}{cs:pP}(hra:w.rangeAt b off cs) (hR:Rd g w ti.ty x cs):
    ∃v,(Instr.loadAt t (.pointer (some ⟨b,off,none⟩))).run P w= .ok v w∧sR g w ti.ty x v∧v.cells.toList=cs:=by
  obtain⟨d,hd,hrow⟩:=ST hty;obtain⟨i,hi,hsz,_⟩:=BV hty;have hl:=sJ hR;by_cases hr:ti.ty.isRow=true
  .refine⟨.agg cs.toArray,run_loadAt_mid w b off t cs d hra hd (by rw[hrow,hr]) (by rw[hi,Option.map_some,hsz,hl]),.inl ⟨hr,cs,rfl,hR⟩,by simp [Value.cells]⟩
  have hr':ti.ty.isRow=false:=by simpa using hr
  have h1:ti.ty.cells=1:=by
    obtain⟨ty,el,by',ar,ls⟩:=ti;cases ty<;>first|rfl|(simp [Ty.isRow] at hr')
  obtain⟨v,rfl⟩: ∃v,cs=[v]:=by rw[h1] at hl;exact aSV.1 hl
  have hv1:=yJ hR v pK;refine⟨v,?_,.inr ⟨hr',hR⟩,by cases v<;>first|rfl|(simp [Value.oneCell'] at hv1)⟩
  have hc:w.cell? ⟨b,off,none⟩=some v:=by simpa using hra 0 v rfl
  have hagg:(isAgg t).run P w= .ok false w:=by
    unfold isAgg;rw[aR6,aSg hd w];rw[hr'] at hrow;cases d<;>simp_all [TypeDesc.isRow]
  simp [Instr.loadAt,Instr.sureAddr,loadVar,aR6,hagg,hc]
theorem IR {b off:Nat}{c1 c2 c3:pP}(h:w.rangeAt b off (c1++c2++c3)):w.rangeAt b (off+c1.length) c2:=fun j v hj=>by
  have:=h (c1.length+j) v (by
    have hj':=(aR7.1 hj).1;rw[aR9,aR5 pI,aSB,aSc hj'];exact hj)
  rw[aSz];exact this
theorem a99 {k n c:Nat}{i:Int}{o':Nat}{v:pU}(hx:xD g w (.elt k n c i o') v) {e:TypeId}{t:Ty}{l:List t.den}{m:Nat}(hk:qE H k=some (.row e t l m)) (hnm:n=m) (hc:c=t.cells):
    ∃ b cap xs c1 c2 c3,v= .pointer (some ⟨b,i.toNat*c+o',none⟩)∧g.cur k m=some (.slice (some ⟨b,0,none⟩) m cap)∧w.ownsRow 0 e t.cells (.slice (some ⟨b,0,none⟩) m cap) m xs∧tG (Rd g w t) t.cells l xs∧l.length=m∧i.toNat<l.length∧0≤i∧
      xs=c1++c2++c3∧c1.length=i.toNat*c∧c2.length=c∧Rd g w t (qR t l i) c2:=by
  subst hnm;subst hc;obtain⟨b,cap,h1,h2,h3,hv⟩:=hx;obtain⟨hl,v0,xs,hv0,hown,hF,hnone,hseal⟩:=hH.blk k _ hk;rw[h1] at hv0;obtain rfl:=aRY hv0;have hi:i.toNat<l.length:=by rw[hl];omega
  obtain⟨c1,c2,c3,e1,e2,e3,e4⟩:=SX hF (a95 h2 hi);exact⟨b,cap,xs,c1,c2,c3,hv,h1,hown,hF,hl,hi,h2,e1,e2,e3,e4⟩
theorem aJh {e:TypeId}{c n:Nat}{q cap:Nat}{xs:pP}(h:w.ownsRow 0 e c (.slice (some ⟨q,0,none⟩) n cap) n xs):w.rangeAt q 0 xs:=fun j u hu=>by
  have:=h.cells (g:=q) rfl j u hu;rwa [aSS] at this
theorem aJi {t:TypeId}{ti:TI}(hst:rS T t=some ti) {k n c:Nat}{i:Int}{o':Nat}{vx:pU}(hx:xD g w (.elt k n c i o') vx) {e:qP}(hr:ND ti.ty k n c i o' (qE H k)=some e) (hs: ∀p∈e.side,p):
    ∃v,(Instr.loadAt t vx).run P w= .ok v w∧rN g w e.slot v∧e.upd=[]:=by
  generalize hk:qE H k=ob at hr;unfold ND at hr;split at hr
  · rename_i e' t' l m
    split at hr
    · rename_i hc
      generalize hga:qZ ti.ty t' (qR t' l i) o'=oy at hr;cases oy with
      |none=>cases hr
      | some y=>
        cases hr;have hnm:=hs _ (aSd.2 rfl);obtain⟨b,cap,xs,c1,c2,c3,hv,hcur,hown,hF,hl,hi,h0,e1,e2,e3,e4⟩:=a99 hT hH hx hk hnm hc;obtain⟨d1,d2,d3,f1,f2,f3⟩:=A1 e4 hga;have hra:=aJh hT hH hown;rw[e1] at hra;have hra2:=IR hT hH hra;rw[f1] at hra2;have hra3:=IR hT hH hra2;rw[aSu,e2,f2] at hra3;obtain⟨v,h1,h2,_⟩:=LB hT hH (sL hT hst) hra3 f3;exact⟨v,by rw[hv];exact h1,⟨h2,trivial⟩,rfl⟩
    cases hr
  cases hr
theorem YB: ∀{toks:pN}{q k:Nat},w6 toks q=some k→(q,k)∈toks
  |[],_,_,h=>by simp [w6] at h
  | (q',k')::r,q,k,h=>by
    simp only[w6] at h;split at h
    · rename_i e
      subst e;simp only[aRV] at h;subst h;simp
    exact aSb _ (YB h)
theorem aAa {u v:Ty}: ∀{t:Ty}{x:t.den}{q:Nat}{l:List u.den}{y:v.den},qZ (.list u) t x q=some l→qZ v t x q=some y→v.isRow=false→∃h:v= .list u,tJ h y=l:=by
  intro t
  induction t with
  | pair s t ihs iht=>
    intro x q l y h1 h2 hv
    have key: ∀q,(if q<s.cells then qZ (.list u) s x.1 q else qZ (.list u) t x.2 (q-s.cells))=some l→(if q<s.cells then qZ v s x.1 q else qZ v t x.2 (q-s.cells))=some y→∃h:v= .list u,tJ h y=l:=by
      intro q h1 h2;by_cases hq:q<s.cells
      .rw[aRZ hq] at h1 h2;exact ihs h1 h2 hv
      rw[aR4 hq] at h1 h2;exact iht h1 h2 hv
    cases q with
    | zero=>
      have e1:Ty.pair s t≠.list u:=by intro h;cases h
      have e2:Ty.pair s t≠v:=by intro h;subst h;simp [Ty.isRow] at hv
      unfold qZ at h1 h2;rw[aS8 e1] at h1;rw[aS8 e2] at h2;exact key 0 (by simpa using h1) (by simpa using h2)
    |succ q=>exact key (q+1) (by simpa[qZ] using h1) (by simpa[qZ] using h2)
  | _=>
    intro x q l y h1 h2 hv;cases q with
    | zero=>
      unfold qZ at h1 h2;split at h1
      · rename_i e1
        split at h2
        · rename_i e2
          first
          |(cases e1;done)
          | (subst e2
             injection e1 with e1'
             subst e1';simp only[tJ,aRV] at h1 h2;subst h1;subst h2;exact⟨rfl,rfl⟩)
        simp at h2
      .simp at h1
    |succ q=>simp [qZ] at h1
theorem aJj {t:TypeId}{ti:TI}(hty:sT P t ti) (hr:ti.ty.isRow=false) {b off:Nat}{v:pU}(hc:w.cell? ⟨b,off,none⟩=some v):
    (Instr.loadAt t (.pointer (some ⟨b,off,none⟩))).run P w= .ok v w:=by
  obtain⟨d,hd,hrow⟩:=ST hty
  have hagg:(isAgg t).run P w= .ok false w:=by
    unfold isAgg;rw[aR6,aSg hd w];rw[hr] at hrow;cases d<;>simp_all [TypeDesc.isRow]
  simp [Instr.loadAt,Instr.sureAddr,loadVar,aR6,hagg,hc]
omit hT hH in
theorem aAb {a b:Option qP}{e:qP}(h:orE a b=some e):a=some e∨b=some e:=by
  cases a with
  |some r=>exact .inl h
  |none=>exact .inr h
omit hT hH in
theorem aAc {H:List (Nat×qB)}{t:Ty}{i off:Nat}{b:Option qB}{x:Option qP}{e:qP}(h:orS H t i off b x=some e):x=some e∨(x=none∧FM H t i off b=some e):=by
  cases x with
  |some r=>exact .inl h
  |none=>exact .inr ⟨rfl,h⟩
theorem aJk {t:TypeId}{ti:TI}{x:Operand}(ho:o.op= .load t x) (hs:rS T t=some ti) {i off:Nat}(hx:sR g w .ref (some (i,off)) (a.eval x)) {e:qP}(hr:RI i off ti (qE H i)=some e):rG P o a g w H e:=by
  have hty:=sL hT hs;generalize hb:qE H i=ob at hr;unfold RI at hr;split at hr
  · rename_i u el _ _ _ v x' toks
    generalize hga:qZ (.rl el u) v x' off=oy at hr;unfold WQ at hr;split at hr
    · rename_i k n
      cases hr;obtain⟨p,hp,hv⟩:=wC hx;obtain⟨p',cs,hp',hR,hra,_⟩:=hH.blk i _ hb;rw[hp] at hp';obtain rfl:=aRY hp';obtain⟨c1,c2,c3,rfl,rfl,hR2⟩:=A1 hR hga;obtain⟨v0,hcur,rfl,hsh⟩:=hR2;have hc:w.cell? ⟨p.1,p.2+c1.length,none⟩=some v0:=by simpa using IR hT hH hra 0 _ rfl
      have h1:=aJj (P:=P) hT hH hty rfl hc;exact rG.value (v:=v0) (g':=g) (w':=w) (by simp only[execOp,ho,hv,aR6,h1,aR0,aSm]) (.pure hH ⟨⟨hcur,hsh⟩,trivial⟩)
    cases hr
  cases hr
theorem aJl {t:TypeId}{ti:TI}{x:Operand}(ho:o.op= .load t x) (hs:rS T t=some ti) {i off:Nat}(hx:sR g w .ref (some (i,off)) (a.eval x)) {e:qP}(hr:FM H ti.ty i off (qE H i)=some e) (hside: ∀p∈e.side,p):rG P o a g w H e:=by
  have hty:=sL hT hs;generalize hb:qE H i=ob at hr;unfold FM at hr;split at hr
  case h_2=>cases hr
  rename_i v z toks;generalize hf:zX v z=of at hr;cases of with
  |none=>cases hr
  | some kn=>
    obtain⟨k,n0⟩:=kn;simp only[RK] at hr;generalize hk:qE H k=ok at hr;unfold RJ at hr;split at hr
    case h_2=>cases hr
    rename_i el u0 l m;generalize hz:xZ u0 l v z=oq at hr;cases oq with
    |none=>cases hr
    |some q=>
    obtain⟨v',x'⟩:=q;simp only[WU] at hr;generalize hga:qZ ti.ty v' x' off=oy at hr;cases oy with
    |none=>cases hr
    | some y=>
      simp only[WT,aRV] at hr;subst hr;have hnm:n0=m:=hside _ (aSd.2 rfl);subst hnm;obtain⟨g',hH',hJ,heff⟩:=aJe hH hk hb hf hz;obtain⟨p,hp,hv⟩:=wC hx;obtain⟨p',cs,hp',hR,hra,_,_,_⟩:=hH'.blk i (.cells v' x' []) (by simp [qT,qE]);rw[hJ,hp] at hp';obtain rfl:=aRY hp';obtain⟨c1,c2,c3,rfl,rfl,hR2⟩:=A1 hR hga;obtain⟨v0,h1,h2,_⟩:=LB hT hH' hty (IR hT hH' hra) hR2;exact rG.valueW (v:=v0) (g':=g') (w':=w) (by simp only[execOp,ho,hv,aR6,h1,aR0,aSm]) (heff _ _ _ _ rfl ⟨h2,trivial⟩)
theorem aJm {t:TypeId}{ti:TI}{x:Operand}(ho:o.op= .load t x) (hs:rS T t=some ti) {i off:Nat}(hx:sR g w .ref (some (i,off)) (a.eval x)) {e:qP}(hr:I4 H ti.ty i off (qE H i)=some e) (hside: ∀p∈e.side,p):rG P o a g w H e:=by
  have hty:=sL hT hs;generalize hb:qE H i=ob at hr;unfold I4 at hr;split at hr
  case h_2=>cases hr
  rename_i v z toks;generalize hu:yY H v z=ou at hr;cases ou with
  |none=>cases hr
  | some z2=>
    simp only[RN] at hr;generalize hsa:zY H (yZ v z)=osa at hr;generalize hga:qZ ti.ty (DU v) z2 off=oy at hr;cases osa with
    |none=>cases hr
    | some q=>
      obtain⟨ps,bs⟩:=q;cases oy with
      |none=>cases hr
      | some y=>
        simp only[RM,aRV] at hr;subst hr;obtain⟨g',k1,k2,k3,_,k5⟩:=a98 hH hsa hside;obtain⟨p,hp,hv⟩:=wC hx;obtain⟨p',cs,hp',hR,hra,_,_,_⟩:=hH.blk i _ hb;rw[hp] at hp';obtain rfl:=aRY hp';have hRz:=aJg hu (vK k3.le hR) k5;obtain⟨c1,c2,c3,rfl,rfl,hR2⟩:=A1 hRz hga;obtain⟨v0,h1,h2,_⟩:=LB hT k3.heap hty (IR hT hH hra) hR2;exact rG.value (v:=v0) (g':=g') (w':=w) (by simp only[execOp,ho,hv,aR6,h1,aR0,aSm]) (k3.slot' ⟨h2,trivial⟩)
theorem aJn {t:TypeId}{x:Operand}(ho:o.op= .load t x) {sx:qC}(hx:rN g w sx (a.eval x)) {e:qP}(hr:RO H (rS T t) sx=some e) (hside: ∀p∈e.side,p):rG P o a g w H e:=by
  generalize hs:rS T t=ot at hr;replace hx:=hx.1;unfold RO at hr;split at hr
  · rename_i ti k n c i o' _
    obtain⟨v,h1,h2,h3⟩:=aJi hT hH hs hx hr hside;obtain⟨side,slot,upd,rds⟩:=e;simp only at h2 h3;subst h3;exact rG.value (v:=v) (g':=g) (w':=w) (by simp only[execOp,ho,aR6,h1,aR0,aSm]) (.pure hH h2)
  · rename_i ti u y k
    split at hr
    · rename_i hu
      subst hu;cases hr;have hty:=sL hT hs;obtain⟨b,off,cs,hv,hra,hS,hR⟩:=hx;obtain⟨v,h1,h2,_⟩:=LB hT hH hty hra hR;exact rG.pure hH (v:=v) (by simp only[execOp,ho,hv,aR6,h1,aR0,aSm]) h2
    cases hr
  · rename_i ti i off k
    split at hr
    .exact aJm hT hH ho hs hx hr hside
    rcases aAc hr with hr|⟨_,hr⟩
    case inr=>exact aJl hT hH ho hs hx hr hside
    rcases aAb hr with hr|hr
    case inr=>exact aJk hT hH ho hs hx hr
    have hty:=sL hT hs;generalize hb:qE H i=ob at hr;unfold NC at hr;split at hr
    · rename_i u z toks
      generalize hga:qZ ti.ty u z off=oy at hr;cases oy with
      |none=>cases hr
      | some y=>
        cases hr;obtain⟨p,hp,hv⟩:=wC hx;obtain⟨p',cs,hp',hR,hra,_,_,htk⟩:=hH.blk i _ hb;rw[hp] at hp';obtain rfl:=aRY hp';obtain⟨c1,c2,c3,rfl,rfl,hR2⟩:=A1 hR hga;obtain⟨v,h1,h2,h3⟩:=LB hT hH hty (IR hT hH hra) hR2;refine rG.value (v:=v) (g':=g) (w':=w) (by simp only[execOp,ho,hv,aR6,h1,aR0,aSm]) (.pure hH ⟨h2,?_⟩);obtain⟨ty,el,by',ar,ls⟩:=ti;cases ty with
        | list u'=>
          simp only[CQ];generalize htt:w6 toks c1.length=ok;cases ok with
          |none=>trivial
          | some k=>
            obtain⟨u2,l,v',g1,g2,g3⟩:=htk _ _ (YB hT hH htt);obtain⟨heq,hl⟩:=aAa hT hH g1 hga rfl;injection heq with heq'
            subst heq';have hlen:=sJ hR2;obtain⟨v2,rfl⟩:=aSV.1 hlen
            have e2:v'=v2:=by
              have e:(c1++[v2]++c3)[c1.length]? =some v2:=by simp
              rw[e] at g2;exact(aRY g2).symm
            have e3:v=v2:=by
              have h4:=wB rfl h2;have hone:=yJ h4 v pK;have:v.cells= #[v]:=by cases v<;>first|rfl|(simp [Value.oneCell'] at hone)
              rw[this] at h3;simpa using h3
            subst e2;subst e3;have e4:(y:List u'.den)=l:=hl;subst e4;exact g3
        |_=>trivial
    cases hr
  cases hr
theorem SY {ρ:Operand→qC}{x:Option Operand}{n m:Int}(hρ: ∀y∈x.toList,rN g w (ρ y) (a.eval y)) (h:BO (y5 ρ x) n=some m):(x=none∧m=n)∨∃y k,x=some y∧a.eval y= .int k m:=by
  cases x with
  |none=>simp only[y5,BO,aRV] at h;exact .inl ⟨rfl,h.symm⟩
  | some y=>
    have h0:=hρ y pK;simp only[y5] at h;unfold BO at h;split at h
    .cases ‹some _=none›
    · rename_i k q kk heq
      simp only[aRV] at heq h;rw[heq] at h0;subst h;exact .inr ⟨y,k,rfl,uZ h0.1⟩
    cases h
theorem aAd {isSlice:Bool}{len cap:Nat}{lo hi:Option Operand}{m n:Int}(hlo:(lo=none∧m=0)∨∃y k,lo=some y∧a.eval y= .int k m) (hhi:(hi=none∧n=(len:Int))∨∃y k,hi=some y∧a.eval y= .int k n)
    (h0:0≤m) (h1:m≤n) (h2:n≤(len:Int)) (h3:len≤cap):(Instr.sliceBounds isSlice len cap (lo.map a.eval) (hi.map a.eval) none).run P w= .ok (m.toNat,n.toNat,cap) w:=by
  have e1:(n.toNat:Int)=n:=Int.toNat_of_nonneg pI;rcases hlo with⟨rfl,rfl⟩ |⟨y,k,rfl,hy⟩<;>rcases hhi with⟨rfl,rfl⟩ |⟨z,k',rfl,hz⟩
  .simp [Instr.sliceBounds]
  .simp [Instr.sliceBounds,hz,run_sliceBound,(by omega:0≤n),(by omega:n≤(cap:Int))]
  .simp [Instr.sliceBounds,hy,run_sliceBound,h0,h1]
  simp [Instr.sliceBounds,hy,hz,run_sliceBound,(by omega:0≤n),(by omega:n≤(cap:Int)),e1,h0,h1]
theorem aJo {t:TypeId}{x:Operand}{lo hi:Option Operand}(ho:o.op= .slice t x lo hi none) {ρ:Operand→qC}(hx:rN g w (ρ x) (a.eval x)) (hlo: ∀y∈lo.toList,rN g w (ρ y) (a.eval y)) (hhi: ∀y∈hi.toList,rN g w (ρ y) (a.eval y)) {e:qP}
    (hr:yU (W9 (rS T t) (ρ x) (y5 ρ lo) (y5 ρ hi))=some e) (hs: ∀p∈e.side,p):rG P o a g w H e:=by
  obtain⟨q,hq,rfl⟩:=FY hr;replace hx:=hx.1;generalize hst:rS T t=ot at hq;generalize hsx:ρ x=sx at hq hx;unfold W9 at hq;split at hq
  · rename_i el by' ar ls_ l k
    generalize hb1:BO (y5 ρ lo) 0=o1 at hq;generalize hb2:BO (y5 ρ hi) (List.length l)=o2 at hq;unfold R0 at hq;split at hq
    · rename_i m n
      cases hq;obtain⟨k1,k2,k3⟩:=hs _ (aSd.2 rfl);have h2:=(sL hT hst).2;simp only[w9] at h2;have hv:=vM hx;have hbd:=aAd (P:=P) (isSlice:=false) (cap:=List.length l) hT hH (SY hT hH hlo hb1) (SY hT hH hhi hb2) k1 k2 k3 (aSl _);refine rG.pure hH (v:= .string ⟨(sH l m n).toArray⟩) ?_ (AN _ _ _);have hsz:(⟨List.toArray l⟩:ByteArray).size=List.length l:=by simp [ByteArray.size]
      have hext:(⟨List.toArray l⟩:ByteArray).extract m.toNat n.toNat=⟨(sH l m n).toArray⟩:=by
        apply ByteArray.ext;apply aSO.1;simp [sH]
      simp only[execOp,ho,hv,Option.map_none,Instr.sliceAt,Instr.slice,aR6,aSg h2,aR0,Option.isSome_none,aTq,aTK,hsz,hbd,hext,aSm]
    cases hq
  · rename_i u el by' ar ls_ t1 l k
    split at hq
    · rename_i htu
      subst htu;generalize hb1:BO (y5 ρ lo) 0=o1 at hq;generalize hb2:BO (y5 ρ hi) (List.length l)=o2 at hq;unfold R0 at hq;split at hq
      · rename_i m n
        cases hq;obtain⟨k1,k2,k3⟩:=hs _ (aSd.2 rfl);obtain⟨h2,h3,_⟩:=(sL hT hst).2;obtain⟨ei,hei,hz⟩:=aR8.1 h3;simp only[aSp] at hz;obtain⟨ad,cap,hv,hle,hl⟩:=BU hx;have hbd:=aAd (P:=P) (isSlice:=true) (cap:=cap) hT hH (SY hT hH hlo hb1) (SY hT hH hhi hb2) k1 k2 k3 hle;refine rG.pure hH (v:= .slice (if cap=m.toNat then ad else ad.map (·.add (m.toNat*t1.cells))) (n.toNat-m.toNat) (cap-m.toNat)) ?_ (.inr ⟨rfl,(if cap=m.toNat then ad else ad.map (·.add (m.toNat*t1.cells))),cap-m.toNat,?_,?_,?_⟩)
        .simp only[execOp,ho,hv,Option.map_none,Instr.sliceAt,Instr.slice,aR6,aSg h2,aR0,hbd,sizeOf,typeInfo,aSH,hei,hz.1,aSm]
        .rw[Y9 k1 k2 k3]
        .rw[Y9 k1 k2 k3];omega
        rcases hl with rfl|⟨b,off,rfl,hL⟩
        .exact .inl (by simp [sH])
        by_cases hc:cap=m.toNat
        · left
          apply aSq;rw[Y9 k1 k2 k3];omega
        right
        rw[aR4 hc];refine⟨b,off+m.toNat*t1.cells,by simp [aSS],?_⟩;exact a9V _ (a9U _ hL pI)
      cases hq
    cases hq
  cases hq
end
theorem YC {α:Type}{R:α->pP->Prop}{c:Nat}(hR: ∀x cs,R x cs->∀v∈cs,v.oneCell'=true): ∀{l:List α}{cs:pP},tG R c l cs->∀v∈cs,v.oneCell'=true
 |[],_,h=>by rw[h];simp
 |_::_,_,⟨c1,c2,e,_,h2,h3⟩=>by
  subst e;intro v hv;rcases aSW.1 hv with h|h
  .exact hR _ _ h2 v h
  exact YC hR h3 v h
theorem SZ {α:Type}{R:α->pP->Prop}{c:Nat}: ∀{l:List α}{cs cy:pP}{i:Nat}{y:α},tG R c l cs->R y cy->cy.length=c->i<l.length->
  ∃c1 c2 c3,cs=c1++c2++c3/\c1.length=i*c/\c2.length=c/\tG R c (l.set i y) (c1++cy++c3)
 |[],_,_,_,_,_,_,_,h=>by simp at h
 |_::l,_,cy,0,y,⟨c1,c2,e,h1,_,h3⟩,hy,hc,_=>⟨[],c1,c2,by simpa using e,by simp,h1,⟨cy,c2,by simp,hc,hy,h3⟩⟩
 |x::l,_,cy,i+1,y,⟨c1,c2,e,h1,h2,h3⟩,hy,hc,hi=>by
  obtain⟨d1,d2,d3,e1,e2,e3,e4⟩:=SZ h3 hy hc (by simpa using hi);refine⟨c1++d1,d2,d3,by rw[e,e1];simp,by rw[aRX,h1,e2,aSR];omega,e3,⟨c1,d1++cy++d3,by simp,h1,h2,e4⟩⟩
theorem O1 {α:Type}{R:α->pP->Prop}{w:pT}{S:Nat->Nat->Prop}{c b:Nat}: ∀{l:List α}{o:Nat},x4 R w S c b o l->∃cs,tG R c l cs/\w.rangeAt b o cs/\∀j,j<l.length*c->S b (o+j)
 |[],o,_=>⟨[],rfl,fun j v h=>by simp at h,fun j h=>by simp at h⟩
 |x::l,o,⟨⟨c1,h1,h2,h3,h4⟩,h5⟩=>by
  obtain⟨c2,k1,k2,k3⟩:=O1 h5;refine⟨c1++c2,⟨c1,c2,rfl,h1,h4,k1⟩,fun j v hv=>?_,fun j hj=>?_⟩
  .by_cases hj:j<c
   .exact h2 j v (by rwa [aSc pI] at hv)
   have:=k2 (j-c) v (by rw[aR5 pI,h1] at hv;exact hv);rwa [show o+c+(j-c)=o+j from by omega] at this
  by_cases hj':j<c
  .exact h3 j hj'
  have:=k3 (j-c) (by rw[aR1,aSR] at hj;omega);rwa [show o+c+(j-c)=o+j from by omega] at this
theorem aAe {g:Gh}{w:pT}{t:Ty}: ∀n,tG (Rd g w t) t.cells (B8 t n) (List.flatten (List.replicate n (tM t)))
 |0=>rfl
 |n+1=>⟨tM t,_,rfl,sJ (BT g w t),BT g w t,aAe n⟩
theorem aAf (t:Ty): ∀n,(B8 t n).length=n
 |0=>rfl
 |n+1=>by simp [B8,aAf t n]
def Gh.tok (g:Gh) (k n:Nat) (v:pU):Gh:={g with cur:=fun k' n'=>if k'=k/\n'=n then some v else g.cur k' n'}
def Gh.var (g:Gh) (i b:Nat) (k:Option (TypeId×Nat)):Gh:={g with J:=fun i'=>if i'=i then some ⟨b,0,k⟩ else g.J i'}
def Gh.shut (g:Gh) (b m:Nat):Gh:={g with S:=fun b' o=>g.S b' o\/(b'=b/\o<m)}
section
variable {g:Gh}{w:pT}{H:rZ}(hH:sA g w H)
include hH
theorem rJ.nilTok {side:List Prop}{d:DV}{rds:pS}{base e c:Nat}{u:Ty}(hd:d= .val (.list u) []) (hf: ∀n,g.cur base n=none):
  rJ g w H ⟨side,(d,some base),[(base,.grow e c 0)],rds⟩ (g.tok base 0 (.slice none 0 0)) w (.slice none 0 0):=by
 have le:Le g w (g.tok base 0 (.slice none 0 0)) w:=⟨fun _ _ h=>h,fun _ _ _=>rfl,fun _ _ h=>h,fun k n v h=>by
  show (if k=base/\n=0 then _ else _)=_;rw[aR4 (fun⟨e1,_⟩=>by rw[e1,hf] at h;cases h)];exact h⟩
 have fr:Fr (sI g H (qH [(base,qB.grow e c 0)])) w w g.S (g.tok base 0 (.slice none 0 0)).S:= .refl _ _ _;have gho: ∀i,i∉qH [(base,qB.grow e c 0)]->(g.tok base 0 (.slice none 0 0)).J i=g.J i/\(g.tok base 0 (.slice none 0 0)).cur i=g.cur i:=fun i hi=>⟨rfl,by
  funext n;show (if i=base/\n=0 then _ else _)=_;rw[aR4 (fun⟨e1,_⟩=>hi (by simp [qH,e1]))]⟩
 have cur0:(g.tok base 0 (.slice none 0 0)).cur base 0=some (.slice none 0 0):=by simp [Gh.tok]
 have own: ∀i blk b o,i∈qH [(base,qB.grow e c 0)]->qE (qT [(base,qB.grow e c 0)] H) i=some blk->¬s6 (g.tok base 0 (.slice none 0 0)) i blk b o:=by
  intro i blk b o hi hg ho;simp only[qH,aSd] at hi;subst hi;simp only[qT,qE,aTf,aRV] at hg;subst hg;obtain⟨v,hv,hb⟩:=ho;rw[cur0] at hv;obtain rfl:=aRY hv;cases hb
 subst hd;refine⟨le,⟨.inr ⟨rfl,none,0,rfl,aSl _,.inl rfl⟩,cur0⟩,hH.upd le fr (fun i blk b o h1 h2 h3=>absurd h3 (own i blk b o h1 h2)) gho (fun i blk hi hg=>?_) (fun i j bi bj b o hi hj hij hgi hgj hoi hoj=>own i bi b o hi hgi hoi) hH.sl,fr,fun i blk b o h1 h2 h3=>absurd h3 (own i blk b o h1 h2),gho,fun i u' y us h=>by
  simp only[qT,qE] at h;split at h
  .cases h
  exact .inl ⟨y,us,h⟩⟩
 simp only[qH,aSd] at hi;subst hi;simp only[qT,qE,aTf,aRV] at hg;subst hg;refine⟨.slice none 0 0,[],cur0,World.ownsRow_nil w 0 e c,fun m hm=>?_,fun b hb=>by cases hb⟩;show (if i=i/\m=0 then _ else _)=_;rw[aR4 pI];exact hf m
theorem rJ.row {side:List Prop}{rds:pS}{s:qC}{val:pU}{k:Nat}{e:TypeId}{t:Ty}{l:List t.den}{n:Nat}{v:pU}{xs:pP}{w':pT}
  (hl:l.length=n) (hown:w'.ownsRow 0 e t.cells v n xs) (hF:tG (Rd g w t) t.cells l xs) (hnone: ∀m,n<m->g.cur k m=none) (hcur: ∀u,g.cur k n=some u->u=v)
  (hg:w.grownBy w' (v.ownBlock)\/∃q,w.grownBy w' q/\∀b,q=some b->∀o,sI g H [k] b o)
  (hcell: ∀b o,g.S b o->w'.cell? ⟨b,o,none⟩=w.cell? ⟨b,o,none⟩)
  (hseal: ∀b,v.ownBlock=some b->∀o,¬g.S b o)
  (hperm: ∀b,v.ownBlock=some b->w.heap.size<=b\/∀o,sI g H [k] b o)
  (hslot:rN (g.tok k n v) w' s val):rJ g w H ⟨side,s,[(k,.row e t l n)],rds⟩ (g.tok k n v) w' val:=by
 have le:Le g w (g.tok k n v) w':=⟨fun _ _ h=>h,fun b o h=>hcell b o h,fun _ _ h=>h,fun k' n' v' h=>by
  show (if k'=k/\n'=n then _ else _)=_;by_cases hk:k'=k/\n'=n
  .obtain⟨rfl,rfl⟩:=hk;rw[aRZ ⟨rfl,rfl⟩,hcur _ h]
  rw[aR4 hk];exact h⟩
 have cur1:(g.tok k n v).cur k n=some v:=by simp [Gh.tok]
 have hblk: ∀b,b<w.heap.size->(∀o,¬sI g H (qH [(k,qB.row e t l n)]) b o)->w'.heap[b]? =w.heap[b]? :=by
  intro b hb hno;rcases hg with hg|⟨q,hg,hq⟩
  .refine hg.block b hb (fun e1=>?_);rcases hperm b e1.symm with h|h
   .omega
   exact hno 0 (h 0)
  exact hg.block b hb (fun e1=>hno 0 (hq b e1.symm 0))
 have hgo:w'.os=w.os/\w'.tape=w.tape/\w'.output=w.output/\w.heap.size<=w'.heap.size:=by
  rcases hg with hg|⟨q,hg,_⟩
  .exact⟨hg.os,hg.tape,hg.output,hg.size⟩
  exact⟨hg.os,hg.tape,hg.output,hg.size⟩
 have hall: ∀b o,sI g H (qH [(k,qB.row e t l n)]) b o->True:=fun _ _ _=>trivial;have hcell2: ∀b o,b<w.heap.size->¬sI g H (qH [(k,qB.row e t l n)]) b o->(w'.cell? ⟨b,o,none⟩=w.cell? ⟨b,o,none⟩/\w'.frozen? ⟨b,o,none⟩=w.frozen? ⟨b,o,none⟩):=by
  intro b o hb hno;have:w'.heap[b]? =w.heap[b]? :=by
   rcases hg with hg|⟨q,hg,hq⟩
   .refine hg.block b hb (fun e1=>?_);rcases hperm b e1.symm with h|h
    .omega
    exact hno (h o)
   exact hg.block b hb (fun e1=>hno (hq b e1.symm o))
  exact⟨aSh (a:=⟨b,o,none⟩) this,aSA (a:=⟨b,o,none⟩) this⟩
 have hshape: ∀b s,w.shape? b=some s->w'.shape? b=some s\/∀o,sI g H (qH [(k,qB.row e t l n)]) b o:=by
  intro b s hs;rcases hg with hg|⟨q,hg,hq⟩
  .by_cases e1:v.ownBlock=some b
   .rcases hperm b e1 with h|h
    .have:=A2 hs;omega
    exact .inr h
   exact .inl ((A3 (hg.block b (A2 hs) (fun h=>e1 h.symm))).trans hs)
  by_cases e1:q=some b
  .exact .inr (hq b e1)
  exact .inl ((A3 (hg.block b (A2 hs) (fun h=>e1 h.symm))).trans hs)
 have fr:Fr (sI g H (qH [(k,qB.row e t l n)])) w w' g.S (g.tok k n v).S:=⟨hgo.1,hgo.2.1,hgo.2.2.1,hgo.2.2.2,hblk,hcell2,fun b o h=> .inl h,hshape⟩;have gho: ∀i,i∉qH [(k,qB.row e t l n)]->(g.tok k n v).J i=g.J i/\(g.tok k n v).cur i=g.cur i:=fun i hi=>⟨rfl,by
  funext n';show (if i=k/\n'=n then _ else _)=_;rw[aR4 (fun⟨e1,_⟩=>hi (by simp [qH,e1]))]⟩
 have get: ∀i blk,i∈qH [(k,qB.row e t l n)]->qE (qT [(k,qB.row e t l n)] H) i=some blk->i=k/\blk= .row e t l n:=by
  intro i blk hi hg;simp only[qH,aSd] at hi;subst hi;simp only[qT,qE,aTf,aRV] at hg;exact⟨rfl,hg.symm⟩
 have perm: ∀i blk b o,i∈qH [(k,qB.row e t l n)]->qE (qT [(k,qB.row e t l n)] H) i=some blk->s6 (g.tok k n v) i blk b o->w.heap.size<=b\/sI g H (qH [(k,qB.row e t l n)]) b o:=by
  intro i blk b o hi hgt ho;obtain⟨rfl,rfl⟩:=get i blk hi hgt;obtain⟨v',hv',hb⟩:=ho;rw[cur1] at hv';obtain rfl:=aRY hv';exact(hperm b hb).imp id (fun h=>h o)
 refine⟨le,hslot,hH.upd le fr perm gho (fun i blk hi hgt=>?_) (fun i j bi bj b o hi hj hij hgi hgj _ _=>hij ((get i bi hi hgi).1.trans (get j bj hj hgj).1.symm)) (fun b o h=>aSv (hH.sl b o h) hgo.2.2.2),fr,perm,gho,fun i u' y us h=>by
  simp only[qT,qE] at h;split at h
  .cases h
  exact .inl ⟨y,us,h⟩⟩
 obtain⟨rfl,rfl⟩:=get i blk hi hgt;refine⟨hl,v,xs,cur1,hown,AL (fun _ _ h=>vK le h) hF,fun m hm=>?_,hseal⟩;show (if i=i/\m=n then _ else _)=_;rw[aR4 pI];exact hnone m hm
theorem rJ.newVarJ {side:List Prop}{rds:pS}{base:Nat}{t:Ty}{x:t.den}{toks:pN}{cs:pP}{e:TypeId}(hR:Rd (g.var base w.heap.size (some (e,cs.length))) w t x cs) (htk:E6 g t x cs toks) (hf:g.J base=none) (hc:g.cur base=fun _=>none):
  rJ g w H ⟨side,(.val .ref (some (base,0)),none),[(base,.cells t x toks)],rds⟩ (g.var base w.heap.size (some (e,cs.length))) (w.alloc (.cells cs.toArray e)) (.pointer (some ⟨w.heap.size,0,none⟩)):=by
 have hJ:(g.var base w.heap.size (some (e,cs.length))).J base=some ⟨w.heap.size,0,some (e,cs.length)⟩:=by simp [Gh.var]
 have le:Le g w (g.var base w.heap.size (some (e,cs.length))) (w.alloc (.cells cs.toArray e)):=⟨fun _ _ h=>h,fun b o h=>aSh (a:=⟨b,o,none⟩) (aSr _ _ _ (hH.sl b o h)),fun i p h=>by
  show (if i=base then _ else _)=_;rw[aR4 (fun e1=>by rw[e1,hf] at h;cases h)];exact h,fun _ _ _ h=>h⟩
 have le2:Le (g.var base w.heap.size (some (e,cs.length))) w (g.var base w.heap.size (some (e,cs.length))) (w.alloc (.cells cs.toArray e)):=⟨fun _ _ h=>h,fun b o h=>aSh (a:=⟨b,o,none⟩) (aSr _ _ _ (hH.sl b o h)),fun _ _ h=>h,fun _ _ _ h=>h⟩;have fr:Fr (sI g H (qH [(base,qB.cells t x toks)])) w (w.alloc (.cells cs.toArray e)) g.S (g.var base w.heap.size (some (e,cs.length))).S:=
  ⟨rfl,rfl,rfl,by simp,fun b hb _=>aSr _ _ _ hb,fun b o hb _=>⟨aSh (a:=⟨b,o,none⟩) (aSr _ _ _ hb),aSA (a:=⟨b,o,none⟩) (aSr _ _ _ hb)⟩,fun b o h=> .inl h,fun b s h=> .inl ((A3 (aSr _ _ _ (A2 h))).trans h)⟩
 have gho: ∀i,i∉qH [(base,qB.cells t x toks)]->(g.var base w.heap.size (some (e,cs.length))).J i=g.J i/\(g.var base w.heap.size (some (e,cs.length))).cur i=g.cur i:=fun i hi=>⟨by
  show (if i=base then _ else _)=_;rw[aR4 (fun e1=>hi (by simp [qH,e1]))],rfl⟩
 have get: ∀i blk,i∈qH [(base,qB.cells t x toks)]->qE (qT [(base,qB.cells t x toks)] H) i=some blk->i=base/\blk= .cells t x toks:=by
  intro i blk hi hg;simp only[qH,aSd] at hi;subst hi;simp only[qT,qE,aTf,aRV] at hg;exact⟨rfl,hg.symm⟩
 have perm: ∀i blk b o,i∈qH [(base,qB.cells t x toks)]->qE (qT [(base,qB.cells t x toks)] H) i=some blk->s6 (g.var base w.heap.size (some (e,cs.length))) i blk b o->w.heap.size<=b\/sI g H (qH [(base,qB.cells t x toks)]) b o:=by
  intro i blk b o hi hg ho;obtain⟨rfl,rfl⟩:=get i blk hi hg;obtain⟨p,hp,h1,_⟩:=ho;rw[hJ] at hp;obtain rfl:=aRY hp;exact .inl (aTg h1.symm)
 have hl:=sJ hR;refine⟨le,⟨.inr ⟨rfl,_,hJ,rfl⟩,trivial⟩,hH.upd le fr perm gho (fun i blk hi hg=>?_) (fun i j bi bj b o hi hj hij hgi hgj _ _=>hij ((get i bi hi hgi).1.trans (get j bj hj hgj).1.symm)) (fun b o h=>aSv (hH.sl b o h) pK),fr,perm,gho,fun i u' y us h=>by
  simp only[qT,qE] at h;split at h
  .rename_i e1;subst e1;exact .inr ⟨hf,fun n=>by rw[hc]⟩
  exact .inl ⟨y,us,h⟩⟩
 obtain⟨rfl,rfl⟩:=get i blk hi hg;refine⟨_,cs,hJ,vK le2 hR,fun j v hv=>?_,⟨fun j hj=>?_,fun _ s hs=>?_⟩,fun j _ hs=>aTv _ (hH.sl _ _ hs),a9S le.cur htk⟩
 .simp only[aSu];rw[aS4];simpa using hv
 .simp only[aSu];rw[aS4,World.frozen?_alloc_new];exact⟨by simp;omega,rfl⟩
 cases hs;show (match (w.heap.push (.cells cs.toArray e))[w.heap.size]? with|some (.cells c elem _)=>some (elem,c.size) |_=>none)=_
 rw[aTD];simp only[aSI]
theorem rJ.newVar {side:List Prop}{rds:pS}{base:Nat}{t:Ty}{x:t.den}{toks:pN}{cs:pP}{e:TypeId}(hR:Rd g w t x cs) (htk:E6 g t x cs toks) (hf:g.J base=none) (hc:g.cur base=fun _=>none):
  rJ g w H ⟨side,(.val .ref (some (base,0)),none),[(base,.cells t x toks)],rds⟩ (g.var base w.heap.size (some (e,cs.length))) (w.alloc (.cells cs.toArray e)) (.pointer (some ⟨w.heap.size,0,none⟩)):=
 rJ.newVarJ hH (vK (g:=g) (g':=g.var base w.heap.size (some (e,cs.length))) (w:=w) (w':=w) ⟨fun _ _ h=>h,fun _ _ _=>rfl,fun i p h=>by
  show (if i=base then _ else _)=_;rw[aR4 (fun e1=>by rw[e1,hf] at h;cases h)];exact h,fun _ _ _ h=>h⟩ hR) htk hf hc
end
theorem aAg {P:Program}(w:pT) (t ty e:TypeId) (i:TypeInfo) (z:pU) (size bytes:Nat) (ht:P.underlying t=some (.slice e)) (hi:P.info? e=some i) (hz:i.zero=some z)
  (hsize:i.size=size) (hby:i.bytes=bytes) (hzs:z.cells.size=size)
  (v:pU) (n:Nat) (xs:pP) (hown:w.ownsRow 0 e size v n xs)
  (a:Addr) (m c:Nat) (news:pP) (hl:news.length=m*size) (hnews: ∀j u,news[j]? =some u->w.cell? (a.add j)=some u) (h1: ∀u∈news,u.oneCell'=true) (hm:0<m)
  (h63:n+m<=maxLen) (hbytes:(n+m)*bytes<=140737488355328):
  ∃q cap w',(Builtin.append_ #[t,t] ty #[v,.slice (some a) m c]).run P w= .ok (.slice (some ⟨q,0,none⟩) (n+m) cap) w'/\w'.ownsRow 0 e size (.slice (some ⟨q,0,none⟩) (n+m) cap) (n+m) (xs++news)/\
   (q=w.heap.size\/v.ownBlock=some q)/\w.grownBy w' v.ownBlock/\n+m<=cap/\
   ∀b o,b<w.heap.size->(v.ownBlock=some b->o<n*size)->w'.cell? ⟨b,o,none⟩=w.cell? ⟨b,o,none⟩:=by
 subst hsize;subst hby;have hsmall:n+m<=9223372036854775807:=by simp only[maxLen] at h63;omega
 have hlen:(xs++news).length=(n+m)*i.size:=by rw[aRX,hown.1,hl,Nat.add_mul]
 have grown: ∀(old:Nat),old<n+m->∀(row:pR),
   (w.drew.alloc (.cells (xs.toArray++news.toArray++Builtin.zeroCells z.cells (grownCap w (n+m) old e- (n+m))) e)).ownsRow 0 e i.size
    (.slice (some ⟨w.heap.size,0,none⟩) (n+m) (grownCap w (n+m) old e)) (n+m) (xs++news)/\
   w.grownBy (w.drew.alloc (.cells (xs.toArray++news.toArray++Builtin.zeroCells z.cells (grownCap w (n+m) old e- (n+m))) e)) row/\n+m<=grownCap w (n+m) old e/\
   ∀b o,b<w.heap.size->(w.drew.alloc (.cells (xs.toArray++news.toArray++Builtin.zeroCells z.cells (grownCap w (n+m) old e- (n+m))) e)).cell? ⟨b,o,none⟩=w.cell? ⟨b,o,none⟩:=by
  intro old ho row;have hge:=grownCap_ge w (n+m) old e;have hcm:grownCap w (n+m) old e<=maxLen:=grownCap_le_maxLen w (n+m) old e h63;refine⟨⟨hlen,.inr ⟨w.heap.size,_,_,rfl,aS3 _,aTO w.drew _,hge,hcm,?_,?_⟩⟩,⟨rfl,rfl,rfl,by simp,fun k hk _=>aSr w.drew _ k hk⟩,hge,fun b o hb=>aSh (w:=w) (a:=⟨b,o,none⟩) (aSr w.drew _ b hb)⟩
  .simp only[aTQ,aSI,size_zeroCells,hzs,hown.1,hl,<-Nat.add_mul];congr 1;omega
  simp only[Array.toList_append,aR9];rw[<-aR9,<-hlen];exact aTp
 rcases hown.2 with⟨rfl,rfl⟩ |⟨g,cap,cur,rfl,hbg,hg,hnc,hcm,hcs,htake⟩
 .have hx:xs=[]:=aSq (by simpa using hown.1);subst hx;have hr:=run_append_nil (P:=P) w t ty e i z ht hi hz a m c news hl hnews pI pI (by have hb:=hbytes;simp only[aSu] at hb;omega);have hgr:=grown 0 pI (Value.ownBlock (.slice none 0 0));simp only[aSu,List.nil_append,Array.empty_append] at hgr|-;exact⟨_,_,_,hr,hgr.1,.inl rfl,hgr.2.1,hgr.2.2.1,fun b o hb _=>hgr.2.2.2 b o hb⟩
 by_cases hroom:n+m<=cap
 .have hfit:n*i.size+news.length<=cur.size:=by rw[hl,hcs,<-Nat.add_mul];exact aTj _ hroom
  have hr:=run_append_room (P:=P) w t ty e i ht hi g n cap cur hg a m c news hl hnews h1 hroom hfit;refine⟨_,_,_,hr,⟨hlen,.inr ⟨g,cap,_,rfl,hbg,aTS w g cur _ e _ hg,hroom,hcm,?_,?_⟩⟩,.inr rfl,⟨rfl,rfl,rfl,by simp,fun k _ hk=>aTs w g k _ (fun e=>hk (by simp [Value.ownBlock,e]))⟩,hroom,fun b o hb hso=>?_⟩
  .simp only[aSI,aRX,aSN,aS1,aSF];omega
  .rw[htake,<-hlen];exact aTp
  by_cases hbg':b=g
  .subst hbg';have ho:=hso rfl;rw[cell_setRow_same w b o cur _ e _ hg,cell_of_row w b o cur e (0,0) hg];have hlt:o<(cur.toList.take (n*i.size)).length:=by rw[aSN,aSF];omega
   rw[aR9,List.getElem?_toArray,aSc hlt,List.getElem?_take,aRZ ho,aSJ]
  exact aSh (w:=w) (a:=⟨b,o,none⟩) (aTs w g b _ hbg')
 have holds: ∀j u,xs[j]? =some u->w.cell? ((⟨g,0,none⟩:Addr).add j)=some u:=hown.cells (g:=g) rfl;have hr:=run_append_grow (P:=P) w t ty e i z ht hi hz ⟨g,0,none⟩ n cap xs hown.1 holds a m c news hl hnews pI pI (growslice_fits pI hbytes);have hgr:=grown cap pI (Value.ownBlock (.slice (some ⟨g,0,none⟩) n cap));exact⟨_,_,_,hr,hgr.1,.inl rfl,hgr.2.1,hgr.2.2.1,fun b o hb _=>hgr.2.2.2 b o hb⟩
theorem YD {w:pT}{e:TypeId}{c n:Nat}{q cap:Nat}{xs:pP}(h:w.ownsRow 0 e c (.slice (some ⟨q,0,none⟩) n cap) n xs):w.rangeAt q 0 xs:=fun j u hu=>by
 have:=h.cells (g:=q) rfl j u hu;rwa [aSS] at this
theorem aJp (w:pT) (a:Addr) (v:pU) (b:Nat):(w.setCell a v).shape? b=w.shape? b:=by
 unfold World.shape? World.setCell;simp only[aSK];by_cases h:a.block=b
 .rw[aRZ h];cases hb:w.heap[b]? with
  |none=>rfl
  |some x=>
   cases x with
   |cells c e f=>
    simp only[Option.map_some];split<;>simp
   |_=>rfl
 rw[aR4 h]
theorem O2 (b:Nat): ∀(l:pP) (o:Nat) (w:pT) (b':Nat),(w.setCells b o l).shape? b'=w.shape? b'
 |[],_,_,_=>rfl
 |v::l,o,w,b'=>by rw[World.setCells,O2 b l,aJp]
section
variable {g:Gh}{w:pT}{H:rZ}(hH:sA g w H)
include hH
theorem rJ.append {side:List Prop}{rds:pS}{k e c n:Nat}{u:Ty}{l r:List u.den}{w':pT}{q cap:Nat}{v:pU}{xs news:pP}(hk:qE H k=some (.grow e c n)) (hc:c=u.cells)
  (hln:l.length=n) (hv:g.cur k n=some v) (hown:w.ownsRow 0 e c v n xs) (hnone: ∀m,n<m->g.cur k m=none) (hseal: ∀b,v.ownBlock=some b->∀o,g.S b o->o<n*c) (hl:tG (Rd g w u) c l xs) (hr:tG (Rd g w u) c r news) (hm:0<r.length)
  (ho:w'.ownsRow 0 e c (.slice (some ⟨q,0,none⟩) (n+r.length) cap) (n+r.length) (xs++news)) (hq:q=w.heap.size\/v.ownBlock=some q) (hg:w.grownBy w' v.ownBlock) (hcap:n+r.length<=cap)
  (hcell: ∀b o,b<w.heap.size->(v.ownBlock=some b->o<n*c)->w'.cell? ⟨b,o,none⟩=w.cell? ⟨b,o,none⟩):
  rJ g w H ⟨side,(.val (.list u) (l++r),some k),[(k,.grow e c (n+r.length))],rds⟩ ((g.tok k (n+r.length) (.slice (some ⟨q,0,none⟩) (n+r.length) cap)).shut q ((n+r.length)*c)) w' (.slice (some ⟨q,0,none⟩) (n+r.length) cap):=by
 have hnb:=hnone (n+r.length) pI;have hownk: ∀o b,v.ownBlock=some b->sI g H (qH [(k,qB.grow e c (n+r.length))]) b o:=fun o b hb=>⟨k,_,by simp [qH],hk,v,hv,hb⟩;have hqlt:q<w'.heap.size:=(ho.lt q rfl).2;have le:Le g w ((g.tok k (n+r.length) (.slice (some ⟨q,0,none⟩) (n+r.length) cap)).shut q ((n+r.length)*c)) w':=⟨fun _ _ h=> .inl h,fun b o h=>hcell b o (hH.sl b o h) (fun hb=>hseal b hb o h),fun _ _ h=>h,fun k' n' v' h=>by
  show (if k'=k/\n'=n+r.length then _ else _)=_;rw[aR4 (fun⟨e1,e2⟩=>by rw[e1,e2,hnb] at h;cases h)];exact h⟩
 have fr:Fr (sI g H (qH [(k,qB.grow e c (n+r.length))])) w w' g.S ((g.tok k (n+r.length) (.slice (some ⟨q,0,none⟩) (n+r.length) cap)).shut q ((n+r.length)*c)).S:=by
  have hbk: ∀b,b<w.heap.size->∀o,¬sI g H (qH [(k,qB.grow e c (n+r.length))]) b o->w'.heap[b]? =w.heap[b]? :=fun b hb o hno=>hg.block b hb (fun e1=>hno (hownk o b e1.symm));refine⟨hg.os,hg.tape,hg.output,hg.size,fun b hb hno=>hbk b hb 0 (hno 0),fun b o hb hno=>⟨aSh (a:=⟨b,o,none⟩) (hbk b hb o hno),aSA (a:=⟨b,o,none⟩) (hbk b hb o hno)⟩,fun b o h=>?_,fun b s hs=>?_⟩
  rotate_left
  .by_cases e1:v.ownBlock=some b
   .exact .inr fun o=>hownk o b e1
   exact .inl ((A3 (hg.block b (A2 hs) (fun h=>e1 h.symm))).trans hs)
  rcases h with h|⟨rfl,_⟩
  .exact .inl h
  rcases hq with h|h
  .exact .inr (.inl (aTg h.symm))
  exact .inr (.inr (hownk o b h))
 have gho: ∀i,i∉qH [(k,qB.grow e c (n+r.length))]->((g.tok k (n+r.length) (.slice (some ⟨q,0,none⟩) (n+r.length) cap)).shut q ((n+r.length)*c)).J i=g.J i/\((g.tok k (n+r.length) (.slice (some ⟨q,0,none⟩) (n+r.length) cap)).shut q ((n+r.length)*c)).cur i=g.cur i:=fun i hi=>⟨rfl,by
  funext n';show (if i=k/\n'=n+r.length then _ else _)=_;rw[aR4 (fun⟨e1,_⟩=>hi (by simp [qH,e1]))]⟩
 have cur1:((g.tok k (n+r.length) (.slice (some ⟨q,0,none⟩) (n+r.length) cap)).shut q ((n+r.length)*c)).cur k (n+r.length)=some (.slice (some ⟨q,0,none⟩) (n+r.length) cap):=by
  show (if k=k/\n+r.length=n+r.length then _ else _)=_;simp
 have get: ∀i blk,i∈qH [(k,qB.grow e c (n+r.length))]->qE (qT [(k,qB.grow e c (n+r.length))] H) i=some blk->i=k/\blk= .grow e c (n+r.length):=by
  intro i blk hi hg;simp only[qH,aSd] at hi;subst hi;simp only[qT,qE,aTf,aRV] at hg;exact⟨rfl,hg.symm⟩
 have perm: ∀i blk b o,i∈qH [(k,qB.grow e c (n+r.length))]->qE (qT [(k,qB.grow e c (n+r.length))] H) i=some blk->s6 ((g.tok k (n+r.length) (.slice (some ⟨q,0,none⟩) (n+r.length) cap)).shut q ((n+r.length)*c)) i blk b o->w.heap.size<=b\/sI g H (qH [(k,qB.grow e c (n+r.length))]) b o:=by
  intro i blk b o hi hgt ho';obtain⟨rfl,rfl⟩:=get i blk hi hgt;obtain⟨v',hv',hb⟩:=ho';rw[cur1] at hv';obtain rfl:=aRY hv';cases hb;rcases hq with h|h
  .exact .inl (aTg h.symm)
  exact .inr (hownk o _ h)
 have hF:tG (Rd ((g.tok k (n+r.length) (.slice (some ⟨q,0,none⟩) (n+r.length) cap)).shut q ((n+r.length)*c)) w' u) u.cells (l++r) (xs++news):=hc▸AL (fun _ _ h=>vK le h) (XY hl hr);have hlr:(l++r).length=n+r.length:=by rw[aRX,hln]
 refine⟨le,⟨.inr ⟨rfl,some ⟨q,0,none⟩,cap,by rw[hlr],by rw[hlr];exact hcap,.inr ⟨q,0,rfl,FZ hF (YD ho) (fun j hj=>?_)⟩⟩,?_⟩,hH.upd le fr perm gho (fun i blk hi hgt=>?_) (fun i j bi bj b o hi hj hij hgi hgj _ _=>hij ((get i bi hi hgi).1.trans (get j bj hj hgj).1.symm)) (fun b o h=>?_),fr,perm,gho,fun i u' y us h=>by
  simp only[qT,qE] at h;split at h
  .cases h
  exact .inl ⟨y,us,h⟩⟩
 .right;rw[hlr] at hj;exact⟨rfl,by rw[hc];omega⟩
 .show _=_;rw[hlr];exact cur1
 .obtain⟨rfl,rfl⟩:=get i blk hi hgt;refine⟨_,_,cur1,ho,fun m hm'=>?_,fun b hb o h=>?_⟩
  .show (if i=i/\m=n+r.length then _ else _)=_;rw[aR4 pI];exact hnone m pI
  cases hb;rcases h with h|⟨_,h⟩
  .rcases hq with h2|h2
   .have:q<w.heap.size:=hH.sl _ _ h;omega
   have:=hseal _ h2 o h;rw[Nat.add_mul];omega
  exact h
 rcases h with h|⟨rfl,_⟩
 .exact aSv (hH.sl b o h) hg.size
 exact hqlt
theorem rJ.lit {side:List Prop}{rds:pS}{base e c n:Nat}{u:Ty}{l:List u.den}{cs:pP}(hc:c=u.cells) (hln:l.length=n) (hl:tG (Rd g w u) c l cs) (hn:n<=maxLen) (hf: ∀m,g.cur base m=none):
  rJ g w H ⟨side,(.val (.list u) l,some base),[(base,.grow e c n)],rds⟩ ((g.tok base n (.slice (some ⟨w.heap.size,0,none⟩) n n)).shut w.heap.size (n*c)) (w.alloc (.cells cs.toArray e)) (.slice (some ⟨w.heap.size,0,none⟩) n n):=by
 have hlen:=IJ hl;have le:Le g w ((g.tok base n (.slice (some ⟨w.heap.size,0,none⟩) n n)).shut w.heap.size (n*c)) (w.alloc (.cells cs.toArray e)):=⟨fun _ _ h=> .inl h,fun b o h=>aSh (a:=⟨b,o,none⟩) (aSr _ _ _ (hH.sl b o h)),fun _ _ h=>h,fun k' n' v' h=>by
  show (if k'=base/\n'=n then _ else _)=_;rw[aR4 (fun⟨e1,e2⟩=>by rw[e1,hf] at h;cases h)];exact h⟩
 have fr:Fr (sI g H (qH [(base,qB.grow e c n)])) w (w.alloc (.cells cs.toArray e)) g.S ((g.tok base n (.slice (some ⟨w.heap.size,0,none⟩) n n)).shut w.heap.size (n*c)).S:=
  ⟨rfl,rfl,rfl,by simp,fun b hb _=>aSr _ _ _ hb,fun b o hb _=>⟨aSh (a:=⟨b,o,none⟩) (aSr _ _ _ hb),aSA (a:=⟨b,o,none⟩) (aSr _ _ _ hb)⟩,fun b o h=>h.imp id fun h=> .inl (aTg h.1.symm),fun b s h=> .inl ((A3 (aSr _ _ _ (A2 h))).trans h)⟩
 have gho: ∀i,i∉qH [(base,qB.grow e c n)]->((g.tok base n (.slice (some ⟨w.heap.size,0,none⟩) n n)).shut w.heap.size (n*c)).J i=g.J i/\((g.tok base n (.slice (some ⟨w.heap.size,0,none⟩) n n)).shut w.heap.size (n*c)).cur i=g.cur i:=fun i hi=>⟨rfl,by
  funext n';show (if i=base/\n'=n then _ else _)=_;rw[aR4 (fun⟨e1,_⟩=>hi (by simp [qH,e1]))]⟩
 have cur1:((g.tok base n (.slice (some ⟨w.heap.size,0,none⟩) n n)).shut w.heap.size (n*c)).cur base n=some (.slice (some ⟨w.heap.size,0,none⟩) n n):=by
  show (if base=base/\n=n then _ else _)=_;simp
 have get: ∀i blk,i∈qH [(base,qB.grow e c n)]->qE (qT [(base,qB.grow e c n)] H) i=some blk->i=base/\blk= .grow e c n:=by
  intro i blk hi hg;simp only[qH,aSd] at hi;subst hi;simp only[qT,qE,aTf,aRV] at hg;exact⟨rfl,hg.symm⟩
 have perm: ∀i blk b o,i∈qH [(base,qB.grow e c n)]->qE (qT [(base,qB.grow e c n)] H) i=some blk->s6 ((g.tok base n (.slice (some ⟨w.heap.size,0,none⟩) n n)).shut w.heap.size (n*c)) i blk b o->w.heap.size<=b\/sI g H (qH [(base,qB.grow e c n)]) b o:=by
  intro i blk b o hi hgt ho';obtain⟨rfl,rfl⟩:=get i blk hi hgt;obtain⟨v',hv',hb⟩:=ho';rw[cur1] at hv';obtain rfl:=aRY hv';cases hb;exact .inl (aSl _)
 have hF:tG (Rd ((g.tok base n (.slice (some ⟨w.heap.size,0,none⟩) n n)).shut w.heap.size (n*c)) (w.alloc (.cells cs.toArray e)) u) u.cells l cs:=hc▸AL (fun _ _ h=>vK le h) hl;have hra:(w.alloc (.cells cs.toArray e)).rangeAt w.heap.size 0 cs:=fun j v hv=>by
  rw[aSu,aS4];simpa using hv
 refine⟨le,⟨.inr ⟨rfl,some ⟨w.heap.size,0,none⟩,n,by rw[hln],by rw[hln];exact aSl _,.inr ⟨w.heap.size,0,rfl,FZ hF hra (fun j hj=>?_)⟩⟩,?_⟩,hH.upd le fr perm gho (fun i blk hi hgt=>?_) (fun i j bi bj b o hi hj hij hgi hgj _ _=>hij ((get i bi hi hgi).1.trans (get j bj hj hgj).1.symm)) (fun b o h=>?_),fr,perm,gho,fun i u' y us h=>by
  simp only[qT,qE] at h;split at h
  .cases h
  exact .inl ⟨y,us,h⟩⟩
 .right;rw[hln] at hj;exact⟨rfl,by rw[hc];omega⟩
 .show _=_;rw[hln];exact cur1
 .obtain⟨rfl,rfl⟩:=get i blk hi hgt;refine⟨_,cs,cur1,⟨by rw[hlen,hln],.inr ⟨w.heap.size,n,cs.toArray,rfl,aS3 _,aTO w _,aSl _,hn,by simp [hlen,hln],by simp [<-hln,<-hlen]⟩⟩,fun m hm'=>?_,fun b hb o h=>?_⟩
  .show (if i=i/\m=n then _ else _)=_;rw[aR4 pI];exact hf m
  cases hb;rcases h with h|⟨_,h⟩
  .exact absurd (hH.sl _ _ h) (aTv _)
  exact h
 rcases h with h|⟨rfl,_⟩
 .exact aSv (hH.sl b o h) pK
 simp
theorem YE: ∀{toks:pN}{off n q k:Nat},(q,k)∈t6 toks off n->(q,k)∈toks/\¬(off<=q/\q<off+n)
 |[],_,_,_,_,h=>by simp [t6] at h
 |(q',k')::r,off,n,q,k,h=>by
  simp only[t6] at h;split at h
  .obtain⟨h1,h2⟩:=YE h;exact⟨aSb _ h1,h2⟩
  rename_i hn;rcases aSa.1 h with h|h
  .cases h;exact⟨by simp,hn⟩
  obtain⟨h1,h2⟩:=YE h;exact⟨aSb _ h1,h2⟩
theorem aJq {u:Ty}{y:u.den}: ∀{t:Ty}{x z:t.den}{o:Nat},u.isRow=false->sD u y t x o=some z->qZ u t z o=some y:=by
 intro t
 induction t with
 |pair a b iha ihb=>
  intro x z o hu h;have hne:u≠.pair a b:=by intro e;rw[e] at hu;cases hu
  have key: ∀o,(if o<a.cells then(sD u y a x.1 o).map (fun q=>(q,x.2)) else(sD u y b x.2 (o-a.cells)).map (fun q=>(x.1,q)))=some z->
    (if o<a.cells then qZ u a z.1 o else qZ u b z.2 (o-a.cells))=some y:=by
   intro o h;by_cases ho:o<a.cells
   .rw[aRZ ho] at h|-;obtain⟨q,hq,rfl⟩:=aR8.1 h;exact iha hu hq
   rw[aR4 ho] at h|-;obtain⟨q,hq,rfl⟩:=aR8.1 h;exact ihb hu hq
  cases o with
  |zero=>
   unfold sD at h;unfold qZ;rw[aS8 hne] at h;rw[aS8 (Ne.symm hne)];have:=key 0 (by simpa using h);simpa using this
  |succ o=>
   have:=key (o+1) (by simpa[sD] using h);simpa[qZ] using this
 |_=>
  intro x z o hu h;cases o with
  |zero=>
   unfold sD at h;split at h
   .rename_i e;subst e;simp only[tJ,aRV] at h
    try subst h
    unfold qZ;simp [tJ]
   .simp at h
  |succ o=>simp [sD] at h
theorem T0 {u v:Ty}{y:u.den}: ∀{t:Ty}{x z:t.den}{o q:Nat}{l:(Ty.list v).den},sD u y t x o=some z->qZ (.list v) t x q=some l->¬(o<=q/\q<o+u.cells)->qZ (.list v) t z q=some l:=by
 intro t
 induction t with
 |pair a b iha ihb=>
  intro x z o q l h g hq;by_cases hu:o=0/\u= .pair a b
  .obtain⟨rfl,rfl⟩:=hu;exfalso;apply hq;have: ∀(t:Ty) (x:t.den) (q:Nat) (l:(Ty.list v).den),qZ (.list v) t x q=some l->q<t.cells:=by
    intro t
    induction t with
    |pair s t ihs iht=>
     intro x q l g;have key: ∀q,(if q<s.cells then qZ (.list v) s x.1 q else qZ (.list v) t x.2 (q-s.cells))=some l->q<s.cells+t.cells:=by
      intro q g;by_cases h:q<s.cells
      .omega
      rw[aR4 h] at g;have:=iht _ _ _ g;omega
     cases q with
     |zero=>
      unfold qZ at g;rw[aS8 (by intro e;cases e)] at g;exact key 0 (by simpa using g)
     |succ q=>exact key (q+1) (by simpa[qZ] using g)
    |_=>
     intro x q l g;cases q with
     |zero=>first|(simp [Ty.cells];done) |(unfold qZ at g;simp at g)
     |succ q=>simp [qZ] at g
   exact⟨aS3 _,by simpa using this _ _ _ _ g⟩
  .have keyh:(if o<a.cells then(sD u y a x.1 o).map (fun q=>(q,x.2)) else(sD u y b x.2 (o-a.cells)).map (fun q=>(x.1,q)))=some z:=by
    cases o with
    |zero=>
     unfold sD at h;rw[aS8 (fun e=>hu ⟨rfl,e⟩)] at h;simpa using h
    |succ o=>simpa[sD] using h
   have keyg: ∀x:(Ty.pair a b).den,qZ (.list v) (.pair a b) x q=(if q<a.cells then qZ (.list v) a x.1 q else qZ (.list v) b x.2 (q-a.cells)):=by
    intro x;cases q with
    |zero=>
     conv=>lhs;unfold qZ
     rw[aS8 (by intro e;cases e),Nat.zero_sub]
    |succ q=>simp [qZ]
   rw[keyg] at g|-;by_cases ho:o<a.cells
   .rw[aRZ ho] at keyh;obtain⟨z',hz',rfl⟩:=aR8.1 keyh;by_cases hqa:q<a.cells
    .rw[aRZ hqa] at g|-;exact iha hz' g hq
    rw[aR4 hqa] at g|-;exact g
   .rw[aR4 ho] at keyh;obtain⟨z',hz',rfl⟩:=aR8.1 keyh;by_cases hqa:q<a.cells
    .rw[aRZ hqa] at g|-;exact g
    .rw[aR4 hqa] at g|-;exact ihb hz' g pI
 |unit=>
  intro x z o q l h g hq;cases q with
  |zero=>
   unfold qZ at g;rw[aS8 (by intro e;cases e)] at g;cases g
  |succ q=>simp [qZ] at g
 |_=>
  intro x z o q l h g hq;cases o with
  |zero=>
   unfold sD at h;split at h
   .rename_i e;subst e;cases q with
    |zero=>exact absurd ⟨aSl _,Nat.zero_lt_one⟩ hq
    |succ q=>simp [qZ] at g
   .simp at h
  |succ o=>simp [sD] at h
theorem rJ.store {side:List Prop}{rds:pS}{i:Nat}{u t:Ty}{x z:u.den}{y:t.den}{off:Nat}{toks:pN}{k:pR}{p:Pl}{cy:pP}{v:pU}(hb:qE H i=some (.cells u x toks)) (hp:g.J i=some p)
  (hset:sD t y u x off=some z) (hy:Rd g w t y cy) (hk:BA g t y v k) (hk2: ∀a b,t= .pair a b->k=none) (hv:t.isRow=false->cy=[v]):
  rJ g w H ⟨side,(.any,none),[(i,.cells u z (qT (wJ k off) (t6 toks off t.cells)))],rds⟩ g (w.setCells p.1 (p.2+off) cy) undef/\w.there p.1 (p.2+off) cy.length:=by
 obtain⟨p',cs,hp',hR,hra,hth,hns,htk⟩:=hH.blk i _ hb;rw[hp] at hp';obtain rfl:=aRY hp';obtain⟨c1,c2,c3,hcs,hl1,hl2,hz⟩:=NW hy hR hset;subst hcs;subst hl1;have hcl:=sJ hR;have hyl:=sJ hy;simp only[aRX] at hcl;have hthere:w.there p.1 (p.2+c1.length) cy.length:=fun j hj=>by
  have:=hth.1 (c1.length+j) pI;rwa [<-aSz] at this
 have hout: ∀b o,(b=p.1->o<p.2+c1.length\/p.2+c1.length+cy.length<=o)->(w.setCells p.1 (p.2+c1.length) cy).cell? ⟨b,o,none⟩=w.cell? ⟨b,o,none⟩:=fun b o h=>World.cell?_setCells_out p.1 cy _ w ⟨b,o,none⟩ (fun e _=>h e);have hin: ∀b o,b=p.1->p.2+c1.length<=o->o<p.2+c1.length+cy.length->s6 g i (.cells u x toks) b o:=fun b o e h1 h2=>⟨p,hp,e,pI,pI⟩;have hsz:(w.setCells p.1 (p.2+c1.length) cy).heap.size=w.heap.size:=by
  have: ∀(l:pP) (o:Nat) (w:pT),(w.setCells p.1 o l).heap.size=w.heap.size:=by
   intro l
   induction l with
   |nil=>intro o w;rfl
   |cons v l ih=>intro o w;rw[World.setCells,ih];simp [World.setCell]
  exact this _ _ _
 have hbk: ∀b,b≠p.1->(w.setCells p.1 (p.2+c1.length) cy).heap[b]? =w.heap[b]? :=by
  intro b hb;have: ∀(l:pP) (o:Nat) (w:pT),(w.setCells p.1 o l).heap[b]? =w.heap[b]? :=by
   intro l
   induction l with
   |nil=>intro o w;rfl
   |cons v l ih=>intro o w;rw[World.setCells,ih];exact Below.heap_setCell _ _ _ _ hb
  exact this _ _ _
 have hos:(w.setCells p.1 (p.2+c1.length) cy).os=w.os/\(w.setCells p.1 (p.2+c1.length) cy).tape=w.tape/\(w.setCells p.1 (p.2+c1.length) cy).output=w.output:=by
  have: ∀(l:pP) (o:Nat) (w:pT),(w.setCells p.1 o l).os=w.os/\(w.setCells p.1 o l).tape=w.tape/\(w.setCells p.1 o l).output=w.output:=by
   intro l
   induction l with
   |nil=>intro o w;exact⟨rfl,rfl,rfl⟩
   |cons v l ih=>intro o w;rw[World.setCells];exact ih _ _
  exact this _ _ _
 have hiS: ∀b o,g.S b o->¬(b=p.1/\p.2<=o/\o<p.2+u.cells):=fun b o hs ⟨e,h1,h2⟩=>hns (o-p.2) pI (by rw[show p.2+(o-p.2)=o from by omega,<-e];exact hs);have le:Le g w g (w.setCells p.1 (p.2+c1.length) cy):=⟨fun _ _ h=>h,fun b o h=>hout b o (fun e=>by
  have:=hiS b o h;rcases aSQ o (p.2+c1.length) with h1|h1
  .exact .inl h1
  rcases aSQ o (p.2+c1.length+cy.length) with h2|h2
  .exact absurd ⟨e,pI,pI⟩ this
  exact .inr h2),fun _ _ h=>h,fun _ _ _ h=>h⟩
 have hofI: ∀b o,s6 g i (.cells u x toks) b o->sI g H (qH [(i,qB.cells u z (qT (wJ k c1.length) (t6 toks c1.length t.cells)))]) b o:=fun b o h=>⟨i,_,by simp [qH],hb,h⟩;have fr:Fr (sI g H (qH [(i,qB.cells u z (qT (wJ k c1.length) (t6 toks c1.length t.cells)))])) w (w.setCells p.1 (p.2+c1.length) cy) g.S g.S:=by
  refine⟨hos.1,hos.2.1,hos.2.2,aTg hsz.symm,fun b hb' hno=>?_,fun b o hb' hno=>⟨hout b o (fun e=>?_),World.frozen?_setCells _ _ _ _ _⟩,fun b o h=> .inl h,fun b s hs=> .inl ((O2 _ _ _ _ _).trans hs)⟩
  .by_cases e:b=p.1
   .cases hcy:cy with
    |nil=>rfl
    |cons q l=>exact absurd (hofI b (p.2+c1.length) (hin b _ e (aSl _) (by rw[hcy];simp))) (hno _)
   exact hbk b e
  rcases aSQ o (p.2+c1.length) with h1|h1
  .exact .inl h1
  rcases aSQ o (p.2+c1.length+cy.length) with h2|h2
  .exact absurd (hofI b o (hin b o e h1 h2)) hno
  exact .inr h2
 have gho: ∀j,j∉qH [(i,qB.cells u z (qT (wJ k c1.length) (t6 toks c1.length t.cells)))]->g.J j=g.J j/\g.cur j=g.cur j:=fun _ _=>⟨rfl,rfl⟩;have get: ∀j blk,j∈qH [(i,qB.cells u z (qT (wJ k c1.length) (t6 toks c1.length t.cells)))]->qE (qT [(i,qB.cells u z (qT (wJ k c1.length) (t6 toks c1.length t.cells)))] H) j=some blk->j=i/\blk= .cells u z (qT (wJ k c1.length) (t6 toks c1.length t.cells)):=by
  intro j blk hi hg;simp only[qH,aSd] at hi;subst hi;simp only[qT,qE,aTf,aRV] at hg;exact⟨rfl,hg.symm⟩
 have perm: ∀j blk b o,j∈qH [(i,qB.cells u z (qT (wJ k c1.length) (t6 toks c1.length t.cells)))]->qE (qT [(i,qB.cells u z (qT (wJ k c1.length) (t6 toks c1.length t.cells)))] H) j=some blk->s6 g j blk b o->w.heap.size<=b\/sI g H (qH [(i,qB.cells u z (qT (wJ k c1.length) (t6 toks c1.length t.cells)))]) b o:=by
  intro j blk b o hi hg ho;obtain⟨rfl,rfl⟩:=get j blk hi hg;exact .inr (hofI b o ho)
 refine⟨⟨le,⟨trivial,trivial⟩,hH.upd le fr perm gho (fun j blk hi hg=>?_) (fun i j bi bj b o hi hj hij hgi hgj _ _=>hij ((get i bi hi hgi).1.trans (get j bj hj hgj).1.symm)) (fun b o h=>by rw[hsz];exact hH.sl b o h),fr,perm,gho,fun j u' y' us h=>by
  simp only[qT,qE] at h;split at h
  .rename_i e1;subst e1;simp only[aRV,qB.cells.injEq] at h;obtain⟨rfl,_⟩:=h;exact .inl ⟨x,toks,hb⟩
  exact .inl ⟨y',us,h⟩⟩,hthere⟩
 obtain⟨rfl,rfl⟩:=get j blk hi hg;refine⟨p,_,hp,vK le hz,fun q v hq=>?_,⟨fun q hq=>?_,fun h0 s hs=>(O2 _ _ _ _ _).trans (hth.2 h0 s hs)⟩,hns,?_⟩
 .by_cases h1:q<c1.length
  .rw[hout _ _ (fun _=> .inl pI)];refine hra q v ?_;rw[aR9,aSc h1] at hq|-;exact hq
  by_cases h2:q<c1.length+cy.length
  .have:=aTe p.1 cy (p.2+c1.length) w (fun j hj=>(hthere j hj).1) (q-c1.length) pI;rw[show p.2+c1.length+(q-c1.length)=p.2+q from by omega] at this;rw[this];rw[aR9,aR5 pI,aSc pI] at hq;rw[<-hq,aR3 pI]
  rw[hout _ _ (fun _=> .inr pI)];refine hra q v ?_;rw[aR9,aR5 pI,aR5 pI] at hq|-;rw[hl2];rw[hyl] at hq;exact hq
 .have hh:=hth.1 q hq;refine⟨?_,by rw[World.frozen?_setCells];exact hh.2⟩;by_cases h1:q<c1.length\/c1.length+cy.length<=q
  .rw[hout _ _ (fun _=>by omega)];exact hh.1
  have:=aTe p.1 cy (p.2+c1.length) w (fun j hj=>(hthere j hj).1) (q-c1.length) pI;rw[show p.2+c1.length+(q-c1.length)=p.2+q from by omega] at this;rw[this];rfl
 intro q kk hm;have hsplit:(q,kk)∈wJ k c1.length\/(q,kk)∈t6 toks c1.length t.cells:=by
  cases k with
  |none=>exact .inr (by simpa[wJ,qT] using hm)
  |some k=>
   simp only[wJ,qT,aSa] at hm;rcases hm with hm|hm
   .exact .inl (by simp [wJ,hm])
   exact .inr hm
 rcases hsplit with hm|hm
 .cases k with
  |none=>simp [wJ] at hm
  |some k=>
   simp only[wJ,aSd,aSp] at hm;obtain⟨rfl,rfl⟩:=hm;cases t with
   |list t=>
    obtain rfl:=hv rfl;exact⟨t,y,v,aJq hH rfl hset,by simp,hk⟩
   |pair a b=>cases hk2 a b rfl
   |_=>exact hk.elim
 obtain⟨h1,h2⟩:=YE hH hm;obtain⟨v',l,v1,g1,g2,g3⟩:=htk q kk h1;refine⟨v',l,v1,T0 hH hset g1 h2,?_,g3⟩;rcases aSQ q c1.length with h3|h3
 .rw[aR9,aSc h3] at g2|-;exact g2
 have h4:c1.length+t.cells<=q:=by omega
 rw[aR9,aR5 pI,aR5 pI] at g2|-;rw[hyl];rw[hl2] at g2;exact g2
theorem y7.openS {side:List Prop}{rds:pS}{i:Nat}{u u0:Ty}{el:Nat}{kn:pQ}{x:u.den}{z: Σ t:Ty,t.den}{off:Nat}{toks:pN}{p:Pl}{cy:pP}(hb:qE H i=some (.cells u x toks)) (hp:g.J i=some p)
  (hset:wZ el u0 kn u x off=some z) (hy:A0 g kn cy) (hyl:cy.length=1) (hre:FI rds=true):
  y7 g w H ⟨side,(.any,none),[(i,.cells z.1 z.2 [])],rds⟩ g (w.setCells p.1 (p.2+off) cy) undef/\w.there p.1 (p.2+off) cy.length:=by
 obtain⟨p',cs,hp',hR,hra,hth,hns,htk⟩:=hH.blk i _ hb;rw[hp] at hp';obtain rfl:=aRY hp';obtain⟨c1,c2,c3,hcs,hl1,hl2,hz⟩:=aIO hy hR hset;subst hcs;subst hl1;have hcl:=sJ hR;have hcz:=aIN hset;simp only[aRX] at hcl;have hthere:w.there p.1 (p.2+c1.length) cy.length:=fun j hj=>by
  have:=hth.1 (c1.length+j) pI;rwa [<-aSz] at this
 have hout: ∀b o,(b=p.1->o<p.2+c1.length\/p.2+c1.length+cy.length<=o)->(w.setCells p.1 (p.2+c1.length) cy).cell? ⟨b,o,none⟩=w.cell? ⟨b,o,none⟩:=fun b o h=>World.cell?_setCells_out p.1 cy _ w ⟨b,o,none⟩ (fun e _=>h e);have hin: ∀b o,b=p.1->p.2+c1.length<=o->o<p.2+c1.length+cy.length->s6 g i (.cells u x toks) b o:=fun b o e h1 h2=>⟨p,hp,e,pI,pI⟩;have hsz:(w.setCells p.1 (p.2+c1.length) cy).heap.size=w.heap.size:=by
  have: ∀(l:pP) (o:Nat) (w:pT),(w.setCells p.1 o l).heap.size=w.heap.size:=by
   intro l
   induction l with
   |nil=>intro o w;rfl
   |cons v l ih=>intro o w;rw[World.setCells,ih];simp [World.setCell]
  exact this _ _ _
 have hbk: ∀b,b≠p.1->(w.setCells p.1 (p.2+c1.length) cy).heap[b]? =w.heap[b]? :=by
  intro b hb;have: ∀(l:pP) (o:Nat) (w:pT),(w.setCells p.1 o l).heap[b]? =w.heap[b]? :=by
   intro l
   induction l with
   |nil=>intro o w;rfl
   |cons v l ih=>intro o w;rw[World.setCells,ih];exact Below.heap_setCell _ _ _ _ hb
  exact this _ _ _
 have hos:(w.setCells p.1 (p.2+c1.length) cy).os=w.os/\(w.setCells p.1 (p.2+c1.length) cy).tape=w.tape/\(w.setCells p.1 (p.2+c1.length) cy).output=w.output:=by
  have: ∀(l:pP) (o:Nat) (w:pT),(w.setCells p.1 o l).os=w.os/\(w.setCells p.1 o l).tape=w.tape/\(w.setCells p.1 o l).output=w.output:=by
   intro l
   induction l with
   |nil=>intro o w;exact⟨rfl,rfl,rfl⟩
   |cons v l ih=>intro o w;rw[World.setCells];exact ih _ _
  exact this _ _ _
 have hiS: ∀b o,g.S b o->¬(b=p.1/\p.2<=o/\o<p.2+u.cells):=fun b o hs ⟨e,h1,h2⟩=>hns (o-p.2) pI (by rw[show p.2+(o-p.2)=o from by omega,<-e];exact hs);have le:Le g w g (w.setCells p.1 (p.2+c1.length) cy):=⟨fun _ _ h=>h,fun b o h=>hout b o (fun e=>by
  have:=hiS b o h;rcases aSQ o (p.2+c1.length) with h1|h1
  .exact .inl h1
  rcases aSQ o (p.2+c1.length+cy.length) with h2|h2
  .exact absurd ⟨e,pI,pI⟩ this
  exact .inr h2),fun _ _ h=>h,fun _ _ _ h=>h⟩
 have hofI: ∀b o,s6 g i (.cells u x toks) b o->sI g H (qH [(i,qB.cells z.1 z.2 [])]) b o:=fun b o h=>⟨i,_,by simp [qH],hb,h⟩;have fr:Fr (sI g H (qH [(i,qB.cells z.1 z.2 [])])) w (w.setCells p.1 (p.2+c1.length) cy) g.S g.S:=by
  refine⟨hos.1,hos.2.1,hos.2.2,aTg hsz.symm,fun b hb' hno=>?_,fun b o hb' hno=>⟨hout b o (fun e=>?_),World.frozen?_setCells _ _ _ _ _⟩,fun b o h=> .inl h,fun b s hs=> .inl ((O2 _ _ _ _ _).trans hs)⟩
  .by_cases e:b=p.1
   .cases hcy:cy with
    |nil=>rfl
    |cons q l=>exact absurd (hofI b (p.2+c1.length) (hin b _ e (aSl _) (by rw[hcy];simp))) (hno _)
   exact hbk b e
  rcases aSQ o (p.2+c1.length) with h1|h1
  .exact .inl h1
  rcases aSQ o (p.2+c1.length+cy.length) with h2|h2
  .exact absurd (hofI b o (hin b o e h1 h2)) hno
  exact .inr h2
 have gho: ∀j,j∉qH [(i,qB.cells z.1 z.2 [])]->g.J j=g.J j/\g.cur j=g.cur j:=fun _ _=>⟨rfl,rfl⟩;have get: ∀j blk,j∈qH [(i,qB.cells z.1 z.2 [])]->qE (qT [(i,qB.cells z.1 z.2 [])] H) j=some blk->j=i/\blk= .cells z.1 z.2 []:=by
  intro j blk hi hg;simp only[qH,aSd] at hi;subst hi;simp only[qT,qE,aTf,aRV] at hg;exact⟨rfl,hg.symm⟩
 have perm: ∀j blk b o,j∈qH [(i,qB.cells z.1 z.2 [])]->qE (qT [(i,qB.cells z.1 z.2 [])] H) j=some blk->s6 g j blk b o->w.heap.size<=b\/sI g H (qH [(i,qB.cells z.1 z.2 [])]) b o:=by
  intro j blk b o hi hg ho;obtain⟨rfl,rfl⟩:=get j blk hi hg;obtain⟨q,hq,e1,e2,e3⟩:=ho;rw[hcz] at e3;exact .inr (hofI b o ⟨q,hq,e1,e2,e3⟩)
 refine⟨⟨le,⟨trivial,trivial⟩,hH.upd le fr perm gho (fun j blk hi hg=>?_) (fun i j bi bj b o hi hj hij hgi hgj _ _=>hij ((get i bi hi hgi).1.trans (get j bj hj hgj).1.symm)) (fun b o h=>by rw[hsz];exact hH.sl b o h),fr,perm,gho,fun h=>by rw[hre] at h;cases h⟩,hthere⟩;obtain⟨rfl,rfl⟩:=get j blk hi hg;refine⟨p,_,hp,vK le hz,fun q v hq=>?_,⟨fun q hq=>?_,fun h0 s hs=>(O2 _ _ _ _ _).trans (hth.2 (by rw[<-hcz];exact h0) s hs)⟩,fun q hq=>hns q (by rw[<-hcz];exact hq),fun _ _ hm=>by cases hm⟩
 .by_cases h1:q<c1.length
  .rw[hout _ _ (fun _=> .inl pI)];refine hra q v ?_;rw[aR9,aSc h1] at hq|-;exact hq
  by_cases h2:q<c1.length+cy.length
  .have:=aTe p.1 cy (p.2+c1.length) w (fun j hj=>(hthere j hj).1) (q-c1.length) pI;rw[show p.2+c1.length+(q-c1.length)=p.2+q from by omega] at this;rw[this];rw[aR9,aR5 pI,aSc pI] at hq;rw[<-hq,aR3 pI]
  rw[hout _ _ (fun _=> .inr pI)];refine hra q v ?_;rw[aR9,aR5 pI,aR5 pI] at hq|-;rw[hl2];rw[hyl] at hq;exact hq
 have hh:=hth.1 q (by rw[<-hcz];exact hq);refine⟨?_,by rw[World.frozen?_setCells];exact hh.2⟩;by_cases h1:q<c1.length\/c1.length+cy.length<=q
 .rw[hout _ _ (fun _=>by omega)];exact hh.1
 have:=aTe p.1 cy (p.2+c1.length) w (fun j hj=>(hthere j hj).1) (q-c1.length) pI;rw[show p.2+c1.length+(q-c1.length)=p.2+q from by omega] at this;rw[this];rfl
end
end Go.Proofs.YtcpbaddnmpeipaaGreatDoor.Vc
