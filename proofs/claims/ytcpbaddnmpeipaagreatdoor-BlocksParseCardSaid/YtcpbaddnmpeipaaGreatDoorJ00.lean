/- Packed by a program of mine (wip/tools/pack.py): the same texts with short names and few blanks. -/
import Derived.Below
import Derived.Calls
import Derived.Deep.MidRow
import Derived.Deep.Upon
import Derived.Laws.AppendOwn
import Derived.Laws.BitsLemmas
import Derived.Laws.OwnMore
import Derived.Shelf.Unicode.DecodeSlow
import Derived.Still
import Derived.WalkKit
set_option linter.defProp false
set_option linter.unusedVariables false
set_option linter.unusedSimpArgs false
set_option linter.unusedSectionVars false
set_option maxRecDepth 100000
set_option maxHeartbeats 4000000
namespace Go.Proofs
abbrev p8:=List UInt8
abbrev p9:=List p8
def aSj:=@_root_.if_pos
def aSk:=@_root_.Option.some.injEq
def aSl:=@_root_.if_neg
def aSm:=@_root_.Option.bind_some
def aSn:=@_root_.Option.isSome_iff_exists
def aSo:=@_root_.Option.some.inj
def aSp:=@_root_.List.length_append
def aSq:=@_root_.List.length_cons
def aSr:=@_root_.Go.Result.andThen_ok
def aSs:=@_root_.decide_eq_true_eq
def aSt:=@_root_.List.getElem?_append_right
def aSu:=@_root_.List.getElem?_eq_getElem
def aSv:=@_root_.List.append_assoc
def aSw:=@_root_.Go.Sem.run_bind
def aSx:=@_root_.List.mem_cons
def aSy:=@_root_.List.mem_cons_of_mem
def aSz:=@_root_.List.getElem?_eq_some_iff
def aSA:=@_root_.Option.map_eq_some_iff
def aSB:=@_root_.Bool.and_eq_true
def aSC:=@_root_.List.mem_singleton
def aSD:=@_root_.List.getElem?_append_left
def aSE:=@_root_.Nat.le_refl
def aSF:=@_root_.Go.run_underlying
def aSG:=@_root_.List.length_nil
def aSH:=@_root_.Go.World.cell?_of_block
def aSI:=@_root_.Go.Sem.run_pure
def aSJ:=@_root_.List.mem_cons_self
def aSK:=@_root_.List.drop_eq_getElem_cons
def aSL:=@_root_.congrArg
def aSM:=@_root_.List.getD_eq_getElem?_getD
def aSN:=@_root_.decide_eq_true
def aSO:=@_root_.Array.getElem?_eq_some_iff
def aSP:=@_root_.Prod.mk.injEq
def aSQ:=@_root_.List.eq_nil_of_length_eq_zero
def aSR:=@_root_.List.length_drop
def aSS:=@_root_.Nat.zero_add
def aST:=@_root_.Array.getD_eq_getD_getElem?
def aSU:=@_root_.Go.RowKit.Below.heap_alloc
def aSV:=@_root_.Bool.not_eq_true'
def aSW:=@_root_.Nat.lt_of_lt_of_le
def aSX:=@_root_.List.length_take
def aSY:=@_root_.List.getElem?_cons_zero
def aSZ:=@_root_.List.pairwise_iff_getElem
def aS0:=@_root_.List.reverse_cons
def aS1:=@_root_.of_decide_eq_true
def aS2:=@_root_.decide_eq_false_iff_not
def aS3:=@_root_.Nat.add_assoc
def aS4:=@_root_.List.cons.injEq
def aS5:=@_root_.List.findIdx?_eq_some_iff_getElem
def aS6:=@_root_.List.any_eq_false
def aS7:=@_root_.List.getElem?_cons_succ
def aS8:=@_root_.Go.World.frozen?_of_block
def aS9:=@_root_.Nat.add_sub_cancel_left
def aTa:=@_root_.Int.le_refl
def aTb:=@_root_.Int.toNat_natCast
def aTc:=@_root_.List.drop_length
def aTd:=@_root_.Array.length_toList
def aTe:=@_root_.List.getElem?_take_of_lt
def aTf:=@_root_.Go.run_program
def aTg:=@_root_.Nat.zero_le
def aTh:=@_root_.Nat.le_trans
def aTi:=@_root_.List.length_eq_zero_iff
def aTj:=@_root_.Array.getElem?_modify
def aTk:=@_root_.List.findIdx?_eq_none_iff
def aTl:=@_root_.Nat.lt_or_ge
def aTm:=@_root_.Array.getElem?_toList
def aTn:=@_root_.Array.toList_inj
def aTo:=@_root_.List.size_toArray
def aTp:=@_root_.Go.Addr.add_mid
def aTq:=@_root_.List.getElem_mem
def aTr:=@_root_.List.drop_zero
def aTs:=@_root_.Array.getElem?_setIfInBounds_ne
def aTt:=@_root_.List.length_eq_one_iff
def aTu:=@_root_.Nat.add_zero
def aTv:=@_root_.List.take_append_drop
def aTw:=@_root_.List.length_singleton
def aTx:=@_root_.List.mem_append
def aTy:=@_root_.Bool.false_eq_true
def aTz:=@_root_.Go.IntKind.wrap_i64
def aTA:=@_root_.Bool.not_eq_true
def aTB:=@_root_.beq_iff_eq
def aTC:=@_root_.List.map_cons
def aTD:=@_root_.Nat.succ_mul
def aTE:=@_root_.List.length_map
def aTF:=@_root_.List.getElem?_eq_none
def aTG:=@_root_.Go.IntKind.wrap_u8
def aTH:=@_root_.List.findIdx?_cons
def aTI:=@_root_.dif_neg
def aTJ:=@_root_.Option.getD_some
def aTK:=@_root_.List.not_mem_nil
def aTL:=@_root_.Bool.or_eq_false_iff
def aTM:=@_root_.Go.World.cell?_setCells_in
def aTN:=@_root_.Nat.le_of_eq
def aTO:=@_root_.List.length_pos_iff
def aTP:=@_root_.Bool.or_eq_true
def aTQ:=@_root_.if_true
def aTR:=@_root_.Nat.sub_self
def aTS:=@_root_.Nat.le_of_ble_eq_true
def aTT:=@_root_.Classical.choose_spec
def aTU:=@_root_.List.mem_range
def aTV:=@_root_.Bool.false_and
def aTW:=@_root_.Array.toArray_toList
def aTX:=@_root_.Go.Value.slice.injEq
def aTY:=@_root_.List.append_inj
def aTZ:=@_root_.Bool.eq_iff_iff
def aT0:=@_root_.Nat.lt_irrefl
def aT1:=@_root_.List.getElem_of_mem
def aT2:=@_root_.Go.wpIn_mono
def aT3:=@_root_.List.all_eq_true
def aT4:=@_root_.List.take_left
def aT5:=@_root_.List.pairwise_cons
def aT6:=@_root_.Array.getElem?_setIfInBounds
def aT7:=@_root_.Go.setRow_other
def aT8:=@_root_.Int.tmod_eq_emod_of_nonneg
def aT9:=@_root_.List.pairwise_append
def aUa:=@_root_.Array.getElem?_eq_getElem
def aUb:=@_root_.List.mem_toArray
def aUc:=@_root_.Nat.mul_one
def aUd:=@_root_.Array.getElem?_push_size
def aUe:=@_root_.dif_pos
def aUf:=@_root_.List.pairwise_singleton
def aUg:=@_root_.Bool.not_eq_false'
def aUh:=@_root_.Array.foldl_toList
def aUi:=@_root_.List.flatten_cons
def aUj:=@_root_.if_false
def aUk:=@_root_.List.drop_drop
def aUl:=@_root_.Go.World.cell?_alloc_new
def aUm:=@_root_.Bool.and_eq_false_iff
def aUn:=@_root_.List.drop_succ_cons
def aUo:=@_root_.Go.heap_alloc_new
def aUp:=@_root_.Array.size_append
def aUq:=@_root_.Go.setRow_heap
theorem pC{p:Prop}(h:p:=by omega):p:=h
theorem pD{p:Prop}(h:p:=by decide):p:=h
theorem pE{p:Prop}(h:p:=by simp):p:=h
theorem pF{p:Prop}(h:p:=by simp;omega):p:=h
theorem pP{p:Prop}(h:p:=by first|rfl|trivial):p:=h
theorem pQ{p:Prop}(h:p:=by kernel_rfl):p:=h
theorem pR{p:Prop}(h:p:=by rfl):p:=h
theorem pS{p:Prop}(h:p:=by first|rfl|(simp only[go_sem];done)|(simp only[go_sem];rfl)):p:=h
theorem pA{a:Type}{p q r:a->Prop}(k:a)(h1:p k:=by rfl)(h2:q k:=by rfl)(h3:r k:=by rfl): ∃k,p k/\q k/\r k:=⟨k,h1,h2,h3⟩
theorem pB{a:Type}{p q r:a->Prop}(k:a)(h1:p k:=by first|rfl|(simp only[go_sem];done)|(simp only[go_sem];rfl))(h2:q k:=by first|rfl|(simp only[go_sem];done)|(simp only[go_sem];rfl))(h3:r k:=by first|rfl|(simp only[go_sem];done)|(simp only[go_sem];rfl)): ∃k,p k/\q k/\r k:=⟨k,h1,h2,h3⟩
abbrev pG:=List (p8×Bool)
abbrev pH:=List (Nat×Nat)
abbrev pI:=List Int
abbrev pJ:=List Value
abbrev pK:=Option (Nat×Nat)
abbrev pL:=Option Nat
abbrev pM:=List Nat
abbrev pN:=World
abbrev pO:=Value
end Go.Proofs
namespace Go.Proofs.YtcpbaddnmpeipaaGreatDoor.Vc
def NG:Nat:=3
def a88:Nat:=82
def HL:Nat:=188
def HM:Nat:=155
def FS:Nat:=98
def JU:Nat:=32
abbrev aIm:Nat:=6
abbrev aIn:Nat:=7
def aIo:List (Nat×Nat×pO):=[]
def aIp (w:pN):Prop:= ∀x∈aIo,x.1<NG/\w.cell? ⟨x.1,x.2.1,none⟩=some x.2.2
def EJ (w:pN):Prop:=NG<=w.heap.size/\Lib.Utf8Tabs 1 2 w/\(∃m,w.cell? ⟨0,0,none⟩=some (.int .i64 m))/\aIp w
theorem HO {w w':pN}(h:EJ w) (hs:w.heap.size<=w'.heap.size) (hb: ∀b,b<NG->w'.heap[b]? =w.heap[b]?):EJ w':=by
 obtain⟨h0,⟨h1,h2⟩,⟨m,h3⟩,h4⟩:=h;have hc: ∀b o,b<NG->w'.cell? ⟨b,o,none⟩=w.cell? ⟨b,o,none⟩:=fun b o h=>aSH (a:=⟨b,o,none⟩) (hb b h);refine⟨aTh h0 hs,⟨fun c hc'=>?_,fun i hi=>⟨?_,?_⟩⟩,⟨m,?_⟩,fun x hx=>⟨(h4 x hx).1,(hc _ _ (h4 x hx).1).trans (h4 x hx).2⟩⟩
 .rw[hc _ _ pD];exact h1 c hc'
 .rw[hc _ _ pD];exact(h2 i hi).1
 .rw[hc _ _ pD];exact(h2 i hi).2
 rw[hc _ _ pD];exact h3
attribute [go_sem] a88 HM FS JU
inductive Ty where
 |bool|int (k:IntKind) |str|list (t:Ty) |unit|pair (a b:Ty) |ref|clo|mp|rl (e:Nat) (t:Ty) |mref|fn|ap
 deriving DecidableEq
@[go_sem] abbrev qO:Ty:= .pair .bool (.pair .str .unit)
@[go_sem] abbrev rV:Ty:= .pair .str (.pair .str .unit)
abbrev Ty.den:Ty->Type
 | .bool=>Bool
 | .int _=>Int
 | .str=>p8
 | .list t=>List t.den
 | .unit=>Unit
 | .pair a b=>a.den×b.den
 | .ref=>pK
 | .clo=>Option (Nat×pH)
 | .mp=>pL
 | .rl _ _=>pK
 | .fn=>pL
 | .mref=>pK
 | .ap=>Nat×Nat×(Nat×Nat)×(Nat×Nat)
@[go_sem] def Ty.cells:Ty->Nat
 | .unit=>0
 | .pair a b=>a.cells+b.cells
 | .bool| .int _| .str| .list _| .ref| .clo| .mp| .rl _ _| .mref| .fn| .ap=>1
@[go_sem] def Ty.zero:(t:Ty)->t.den
 | .bool=>false
 | .int _=>(0:Int)
 | .str=>[]
 | .list _=>[]
 | .unit=>()
 | .pair a b=>(a.zero,b.zero)
 | .ref=>none
 | .clo=>none
 | .mp=>none
 | .rl _ _=>none
 | .fn=>none
 | .mref=>none
 | .ap=>(0,0,(0,0),(0,0))
@[go_sem] def Ty.isRow:Ty->Bool
 | .unit| .pair _ _=>true
 | .bool| .int _| .str| .list _| .ref| .clo| .mp| .rl _ _| .mref| .fn| .ap=>false
@[go_sem] def Ty.pure:Ty->Bool
 | .ref| .clo| .mp| .rl _ _| .mref| .ap=>false
 | .list t=>t.pure
 | .pair a b=>a.pure&&b.pure
 | .bool| .int _| .str| .unit| .fn=>true
def qH (t:Ty) (l:List t.den) (i:Int):t.den:=l.getD i.toNat t.zero
def rJ (l:p8) (i:Int):Int:=((l.getD i.toNat 0).toNat:Int)
def tZ {t u:Ty}(h:t=u) (x:t.den):u.den:=h▸x
@[go_sem] theorem MN {t:Ty}(x:t.den):tZ (rfl:t=t) x=x:=rfl
@[go_sem] def qT (u:Ty):(t:Ty)->t.den->Nat->Option u.den
 |t,x,0=>if h:t=u then some (tZ h x) else match t,x with
  | .pair a b,x=>if 0<a.cells then qT u a x.1 0 else qT u b x.2 0
  |_,_=>none
 | .pair a b,x,o+1=>if o+1<a.cells then qT u a x.1 (o+1) else qT u b x.2 (o+1-a.cells)
 |_,_,_=>none
@[go_sem] def sD (u:Ty) (y:u.den):(t:Ty)->t.den->Nat->Option t.den
 |t,x,0=>if h:u=t then some (tZ h y) else match t,x with
  | .pair a b,x=>if 0<a.cells then(sD u y a x.1 0).map (fun z=>(z,x.2)) else(sD u y b x.2 0).map (fun z=>(x.1,z))
  |_,_=>none
 | .pair a b,x,o+1=>if o+1<a.cells then(sD u y a x.1 (o+1)).map (fun z=>(z,x.2)) else(sD u y b x.2 (o+1-a.cells)).map (fun z=>(x.1,z))
 |_,_,_=>none
@[go_sem] def Ty.proj:(t:Ty)->t.den->Nat->Option (Σ u:Ty,u.den)
 | .pair a _,x,0=>some ⟨a,x.1⟩
 | .pair _ b,x,i+1=>b.proj x.2 i
 |_,_,_=>none
@[go_sem] def Ty.offs:Ty->Nat->pL
 | .pair _ _,0=>some 0
 | .pair a b,i+1=>(b.offs i).map fun o=>a.cells+o
 |_,_=>none
@[go_sem] def Ty.fld:Ty->Nat->Option Ty
 | .pair a _,0=>some a
 | .pair _ b,i+1=>b.fld i
 |_,_=>none
@[go_sem] def Ty.setPart (u:Ty) (y:u.den):(t:Ty)->t.den->Nat->Option t.den
 | .pair a b,x,0=>if h:u=a then some (tZ h y,x.2) else none
 | .pair a b,x,i+1=>(Ty.setPart u y b x.2 i).map fun z=>(x.1,z)
 |_,_,_=>none
inductive DV where
 |any
 |nilS
 |val (t:Ty) (x:t.den)
 |at (t:Ty) (x:t.den)
 |tup (l:List ((Σ t:Ty,t.den)×pL))
 |cond (p:Bool) (d:DV)
 |flag (p q:Prop)
 |own (k n:Nat)
 |elt (k n c:Nat) (i:Int) (o:Nat)
 |apd (d:DV)
 |nxt (b:Bool) (p c:Int)
abbrev pX:=DV×pL
inductive pW where
 |cells (t:Ty) (x:t.den) (toks:pH)
 |grow (e:TypeId) (c:Nat) (n:Nat)
 |row (e:TypeId) (t:Ty) (l:List t.den) (n:Nat)
 |map (k v:Ty) (l:List (k.den×v.den))
 |iter (s:p8) (p:Nat)
 |dead
structure St where
 env:List (Nat×pX)
 H:List (Nat×pW)
 nb:Nat
 N:Nat
 np:Nat:=0
@[go_sem] def lk:List (Nat×pX)->Nat->pX
 |[],_=>(.any,none)
 |(k,s)::r,t=>if k=t then s else lk r t
@[go_sem] def pZ:List (Nat×pW)->Nat->Option pW
 |[],_=>none
 |(k,s)::r,t=>if k=t then some s else pZ r t
structure TI where
 ty:Ty
 elem:TypeId:=0
 bytes:Nat:=0
 arr:Bool:=false
 ls:List (Nat×TypeId×Nat):=[]
abbrev sI:=List (Nat×TI)
@[go_sem] def rO:sI->TypeId->Option TI
 |[],_=>none
 |(k,s)::r,t=>if k=t then some s else rO r t
inductive PK where
 |v|own|p (t:Ty) (os:pM) |m|r|f (ks:List (Ty×pM)) |q
structure qI where
 side:List Prop
 ret:List pX
 H:List pW
structure r7 where
 ps:List PK
 C:List pX->List pW->Option qI
 gs:List (Nat×Nat×PK):=[]
 same:pM:=[]
 row:Option ((t:Ty)->List t.den->Option (List t.den)):=none
abbrev sV:=Nat->Option r7
structure qJ where
 side:List Prop
 slot:pX
 upd:List (Nat×pW)
 rds:pM
abbrev XT:Nat:=900000000
@[go_sem] def HP:pM->Bool
 |[]=>false
 |i::_=>if i=1000000000 then true else false
@[go_sem] def orE:Option qJ->Option qJ->Option qJ
 |some r,_=>some r
 |none,r=>r
@[go_sem] def AI:Option (List Prop×DV)->Option qJ
 |some (p,d)=>some ⟨p,(d,none),[],[]⟩
 |none=>none
@[go_sem] def XU:pO->DV
 | .bool b=> .val .bool b
 | .int k n=> .val (.int k) n
 | .string s=> .val .str s.data.toList
 | .slice none 0 0=> .nilS
 | .pointer none=> .val .ref none
 | .nilFunc=> .val .clo none
 | .map none=> .val .mp none
 |_=> .any
@[go_sem] def tU (env:List (Nat×pX)):Operand->pX
 | .tmp t=>lk env t
 | .const v=>(XU v,none)
 | .func f=>(.val .clo (some (f,[])),none)
 | .global _=>(.any,none)
@[go_sem] def MO:Option TI->pX->pX
 |some ⟨.list t,_,_,_,_⟩,(.nilS,_)=>(.val (.list t) [],none)
 |some ⟨.ap,_,_,_,_⟩,(.val .clo none,_)=>(.val .ap (0,0,(0,0),(0,0)),none)
 |_,s=>s
@[go_sem] def JV:IntKind->Int->List Prop×DV
 | .i64,n=>([-9223372036854775808<=n/\n<=9223372036854775807],.val (.int .i64) n)
 |k,n=>([],.val (.int k) (k.wrap n))
@[go_sem] def qS {α:Type}:List α->List α->List α
 |[],m=>m
 |x::l,m=>x::qS l m
@[go_sem] def C0:(t:Ty)->t.den->t.den->Option Bool
 | .bool,a,b=>some (a==b)
 | .int _,a,b=>some (decide ((a:Int)=b))
 | .str,a,b=>some (decide ((a:p8)=b))
 | .unit,_,_=>some true
 | .pair s t,a,b=>eqAnd (C0 s a.1 b.1) (C0 t a.2 b.2)
 |_,_,_=>none
where
 eqAnd:Option Bool->Option Bool->Option Bool
  |some x,some y=>some (x&&y)
  |_,_=>none
attribute [go_sem] C0.eqAnd
@[go_sem] def XV (k:IntKind) (a b:Int):BinOp->Option (List Prop×DV)
 | .add=>some (JV k (a+b))
 | .sub=>some (JV k (a-b))
 | .mul=>some (JV k (a*b))
 | .eql=>some ([],.val .bool (decide (a=b)))
 | .neq=>some ([],.val .bool (!decide (a=b)))
 | .lss=>some ([],.val .bool (decide (a<b)))
 | .leq=>some ([],.val .bool (decide (a<=b)))
 | .gtr=>some ([],.val .bool (decide (b<a)))
 | .geq=>some ([],.val .bool (decide (b<=a)))
 | .quo=>some ([b≠0],.val (.int k) (k.wrap (Int.tdiv a b)))
 | .rem=>some ([b≠0],.val (.int k) (Int.tmod a b))
 | .and=>some ([],.val (.int k) (bits .and k a b))
 | .or=>some ([],.val (.int k) (bits .or k a b))
 | .xor=>some ([],.val (.int k) (bits .xor k a b))
 | .andNot=>some ([],.val (.int k) (bits .andNot k a b))
 |_=>none
def XW (k:IntKind) (a b:Int):Int:=k.wrap (a*2^min b.toNat k.bits)
def y7 (k:IntKind) (a b:Int):Int:=a.fdiv (2^min b.toNat k.bits)
@[go_sem] def a9a (k:IntKind) (a:Int) (k':IntKind) (b:Int):BinOp->Option (List Prop×DV)
 | .shl=>some ([0<=b],.val (.int k) (XW k a b))
 | .shr=>some ([0<=b],.val (.int k) (y7 k a b))
 |op=>if k=k' then XV k a b op else none
@[go_sem] def XX (a b:p8):BinOp->Option (List Prop×DV)
 | .add=>some ([((a++b).length:Int)<=9223372036854775807],.val .str (a++b))
 | .eql=>some ([],.val .bool (decide (a=b)))
 | .neq=>some ([],.val .bool (!decide (a=b)))
 | .lss=>some ([],.val .bool (Op.bytesLess a b))
 | .leq=>some ([],.val .bool (Op.bytesLess a b||decide (a=b)))
 | .gtr=>some ([],.val .bool (!(Op.bytesLess a b||decide (a=b))))
 | .geq=>some ([],.val .bool (!Op.bytesLess a b))
 |_=>none
@[go_sem] def MP:BinOp->Option Bool->Option (List Prop×DV)
 | .eql,some r=>some ([],.val .bool r)
 | .neq,some r=>some ([],.val .bool (!r))
 |_,_=>none
@[go_sem] def SL (op:BinOp):pX->pX->Option (List Prop×DV)
 |(.val (.int k) a,_),(.val (.int k') b,_)=>a9a k a k' b op
 |(.val .str a,_),(.val .str b,_)=>XX a b op
 |_,_=>none
@[go_sem] def a9b (k:IntKind) (a b:Int):BinOp->Option (List Prop×DV)
 | .add=>some ([],.val (.int k) (k.wrap (a+b)))
 | .sub=>some ([],.val (.int k) (k.wrap (a-b)))
 | .mul=>some ([],.val (.int k) (k.wrap (a*b)))
 |_=>none
@[go_sem] def SM (op:BinOp):Option TI->pX->pX->Option (List Prop×DV)
 |some ⟨.int _,_,_,true,_⟩,(.val (.int k) a,_),(.val (.int k') b,_)=>if k=k' then a9b k a b op else none
 |_,_,_=>none
@[go_sem] def a9c (u:Ty) (b:Nat) (op:BinOp) (t t':Ty) (x:t.den) (y:t'.den):Option (List Prop×DV):=
 if h:t'=t then(if t=u/\(t= .bool\/(t.isRow=true/\b=1)) then MP op (C0 t x (tZ h y)) else none) else none
@[go_sem] def SN {α:Type}(l:List α):BinOp->Option (List Prop×DV)
 | .eql=>some ([],.flag (l=[]) True)
 | .neq=>some ([],.flag True (l=[]))
 |_=>none
@[go_sem] def yQ {α:Type}:Option α->Bool
 |none=>true
 |some _=>false
@[go_sem] def XY:Option TI->BinOp->pX->pX->Option (List Prop×DV)
 |some ⟨.list _,_,_,_,_⟩,op,(.val (.list _) l,_),(.nilS,_)=>SN l op
 |some ⟨.list _,_,_,_,_⟩,op,(.nilS,_),(.val (.list _) l,_)=>SN l op
 |some ⟨.ap,_,_,_,_⟩,op,(.val .ap x,_),(.val .clo none,_)=>MP op (some (decide (x.1=0)))
 |some ⟨.clo,_,_,_,_⟩,op,(.val .fn x,_),(.val .clo none,_)=>MP op (some (yQ x))
 |some ⟨u,_,b,_,_⟩,op,(.val t x,_),(.val t' y,_)=>a9c u b op t t' x y
 |_,_,_,_=>none
@[go_sem] def XZ:Option (List Prop×DV)->Option (List Prop×DV)->Option (List Prop×DV)
 |some r,_=>some r
 |none,r=>r
@[go_sem] def Y0:UnOp->pX->Option (List Prop×DV)
 | .not,(.val .bool b,_)=>some ([],.val .bool (!b))
 | .neg,(.val (.int k) n,_)=>some (JV k (-(n:Int)))
 |_,_=>none
def tQ (l:pI):p8:=l.map fun n=>UInt8.ofNat n.toNat
def uN (s:p8):pI:=s.map fun b=>(b.toNat:Int)
@[go_sem] def SO:Option TI->Option TI->pX->Option (List Prop×DV)
 |some _,some ⟨.int k,_,_,_,_⟩,(.val (.int _) n,_)=>some ([],.val (.int k) (k.wrap n))
 |some _,some ⟨.str,_,_,_,_⟩,(.val .str s,_)=>some ([],.val .str s)
 |_,_,_=>none
@[go_sem] def a9d (l:pI):Option TI->Option (List Prop×DV)
 |some ⟨.int .u8,_,_,_,_⟩=>some ([],.val .str (tQ l))
 |_=>none
@[go_sem] def Y1 (T:sI):Option TI->Option TI->pX->Option (List Prop×DV)
 |some ⟨.list (.int .u8),e,_,_,_⟩,some ⟨.str,_,_,_,_⟩,(.val (.list (.int .u8)) l,_)=>a9d l (rO T e)
 |_,_,_=>none
def qU {α:Type}(l:List α) (lo hi:Int):List α:=(l.drop lo.toNat).take (hi.toNat-lo.toNat)
@[go_sem] def DA:Option pX->Int->Option Int
 |none,d=>some d
 |some (.val (.int _) n,_),_=>some n
 |_,_=>none
@[go_sem] def SP (t:Ty) (n:Nat) (f:Int->Int->t.den):Option Int->Option Int->Option (List Prop×DV)
 |some a,some b=>some ([0<=a/\a<=b/\b<=(n:Int)],.val t (f a b))
 |_,_=>none
@[go_sem] def Y2:Option TI->pX->Option pX->Option pX->Option (List Prop×DV)
 |some ⟨.str,_,_,_,_⟩,(.val .str l,_),lo,hi=>SP .str (List.length l) (qU l) (DA lo 0) (DA hi (List.length l))
 |some ⟨.list u,_,_,_,_⟩,(.val (.list t) l,_),lo,hi=>if t=u then SP (.list t) (List.length l) (qU l) (DA lo 0) (DA hi (List.length l)) else none
 |_,_,_,_=>none
@[go_sem] def SQ (t:Ty) (x:t.den) (i:Nat):Option Ty->Option t.den
 |some (.list u)=>Ty.setPart (.list u) [] t x i
 |_=>none
@[go_sem] def AJ (t:Ty):Option t.den->List (Nat×pX)->Option t.den
 |some x,[]=>some x
 |some x,(i,(.val u y,_))::r=>AJ t (Ty.setPart u y t x i) r
 |some x,(i,(.nilS,_))::r=>AJ t (SQ t x i (t.fld i)) r
 |_,_=>none
@[go_sem] def CU (t:Ty):Nat->List t.den
 |0=>[]
 |n+1=>t.zero::CU t n
@[go_sem] def a9e (t:Ty) (n:Nat) (l:List t.den) (i:Nat) (u:Ty) (y:u.den):Option (List t.den):=if h:u=t/\i<n then some (l.set i (tZ h.1 y)) else none
@[go_sem] def BC (t:Ty) (n:Nat):Option (List t.den)->List (Nat×pX)->Option (List t.den)
 |some l,[]=>some l
 |some l,(i,(.val u y,_))::r=>BC t n (a9e t n l i u y) r
 |_,_=>none
attribute [go_sem] List.set_cons_zero List.set_cons_succ
@[go_sem] def JW:List pX->Option pH
 |[]=>some []
 |(.val .ref (some p),_)::r=>(JW r).map (p:: ·)
 |_=>none
@[go_sem] def wT:pH->Nat->pL
 |[],_=>none
 |(o,k)::r,a=>if o=a then some k else wT r a
@[go_sem] def xI:pL->Nat->pH
 |some k,o=>[(o,k)]
 |none,_=>[]
@[go_sem] def t6:pH->Nat->Nat->pH
 |[],_,_=>[]
 |(q,k)::r,o,n=>if o<=q/\q<o+n then t6 r o n else(q,k)::t6 r o n
@[go_sem] def EK:Ty->pL->pL
 | .list _,k=>k
 |_,_=>none
@[go_sem] def yR {α:Type}:List α->List α->List α
 |[],acc=>acc
 |x::l,acc=>yR l (x::acc)
inductive rK where
 |box (id:Nat) (u:Ty) (x:u.den) (toks:pH) (o:Nat)
 |tok (id:Nat)
@[go_sem] def rK.id:rK->Nat
 | .box i _ _ _ _=>i
 | .tok k=>k
@[go_sem] def zV:Nat->pM->Bool
 |_,[]=>false
 |i,j::r=>if i=j then true else zV i r
@[go_sem] def sA:List rK->pM
 |[]=>[]
 |w::r=>w.id::sA r
structure sQ where
 args:List pX
 H:List pW
 ws:List rK
 n:Nat
@[go_sem] def JX:pM->Nat->pH
 |[],_=>[]
 |q::qs,n=>(q,n)::JX qs (n+1)
@[go_sem] def C1 (k:Nat):Option pW->Option sQ->Option sQ
 |some (.grow e c m),some a=>if zV k (sA a.ws)=true then none else some ⟨a.args,.grow e c m::a.H,.tok k::a.ws,a.n+1⟩
 |_,_=>none
@[go_sem] def zH (H:List (Nat×pW)):pL->Option sQ->Option sQ
 |some k,a=>C1 k (pZ H k) a
 |none,_=>none
@[go_sem] def yI (H:List (Nat×pW)) (toks:pH) (o:Nat):pM->Option sQ->Option sQ
 |[],a=>a
 |q::qs,a=>yI H toks o qs (zH H (wT toks (o+q)) a)
@[go_sem] def MQ (n:Nat):pM->Bool
 |[]=>true
 |q::qs=>decide (q<n)&&MQ n qs
@[go_sem] def EL (H:List (Nat×pW)) (t:Ty) (os:pM) (i o:Nat) (u:Ty) (x:u.den) (toks:pH) (a:sQ):Option t.den->Option sQ
 |some y=>if (MQ t.cells os&& !zV i (sA a.ws))=true then yI H toks o os (some ⟨(.val .ref (some (a.n,0)),none)::a.args,.cells t y (JX os (a.n+1))::a.H,.box i u x toks o::a.ws,a.n+1⟩) else none
 |none=>none
@[go_sem] def vR (H:List (Nat×pW)) (t:Ty) (os:pM) (i o:Nat) (a:sQ):Option pW->Option sQ
 |some (.cells u x toks)=>EL H t os i o u x toks a (qT t u x o)
 |_=>none
@[go_sem] def C2 (t:Ty) (x:t.den) (k:Nat) (a:sQ):Option pW->Option sQ
 |some (.grow e c m)=>if (t.pure&& !zV k (sA a.ws))=true then some ⟨(.val t x,some a.n)::a.args,.grow e c m::a.H,.tok k::a.ws,a.n+1⟩ else none
 |_=>none
@[go_sem] def SR (t:Ty) (x:t.den) (a:sQ):Option sQ:=
 if t.pure=true then some ⟨(.val t x,none)::a.args,a.H,a.ws,a.n⟩ else none
@[go_sem] def SS (f:FuncId) (a:sQ):Option sQ:=some ⟨(.val .clo (some (f,[])),none)::a.args,a.H,a.ws,a.n⟩
@[go_sem] def ST (a:sQ):Option sQ:=some ⟨(.nilS,none)::a.args,a.H,a.ws,a.n⟩
@[go_sem] def C3 (i:Nat) (a:sQ):Option pW->Option sQ
 |some (.map k v l)=>if (k.pure&&v.pure&& !zV i (sA a.ws))=true then some ⟨(.val .mp (some a.n),none)::a.args,.map k v l::a.H,.tok i::a.ws,a.n+1⟩ else none
 |_=>none
def xJ (k n:Nat) (a:sQ):Option pW->Option sQ
 |some (.row e t l m)=>if (t.pure&& !zV k (sA a.ws))=true then some ⟨(.own a.n n,none)::a.args,.row e t l m::a.H,.tok k::a.ws,a.n+1⟩ else none
 |some (.grow e c m)=>if (!zV k (sA a.ws))=true then some ⟨(.own a.n n,none)::a.args,.grow e c m::a.H,.tok k::a.ws,a.n+1⟩ else none
 |_=>none
attribute [go_sem] xJ.eq_1 xJ.eq_2 xJ.eq_3
@[go_sem] def xK (H:List (Nat×pW)) (f:FuncId) (args:List pX):List (Ty×pM)->pH->pH->Option sQ->Option sQ
 |[],[],ids,some a=>some ⟨(.val .clo (some (f,yR ids [])),none)::args,a.H,a.ws,a.n⟩
 |(t,os)::ks,(i,o)::cs,ids,some a=>xK H f args ks cs ((a.n,0)::ids) (vR H t os i o a (pZ H i))
 |_,_,_,_=>none
@[go_sem] def CV (i o:Nat):List rK->Nat->pK
 |[],_=>none
 | .box j _ _ _ oc::r,c=>if j=i/\oc<=o then some (c,o-oc) else CV i o r (c+1)
 | .tok _::r,c=>CV i o r (c+1)
@[go_sem] def P8 (a:sQ):pK->Option sQ
 |some p=>some ⟨(.val .ref (some p),none)::a.args,a.H,a.ws,a.n⟩
 |none=>none
@[go_sem] def xL (H:List (Nat×pW)) (a:sQ):PK->pX->Option sQ
 | .v,(.val .clo (some (f,[])),_)=>SS f a
 | .v,(.val t x,_)=>SR t x a
 | .v,(.nilS,_)=>ST a
 | .own,(.val (.list t) x,some k)=>C2 (.list t) x k a (pZ H k)
 | .p t os,(.val .ref (some (i,o)),_)=>vR H t os i o a (pZ H i)
 | .m,(.val .mp (some i),_)=>C3 i a (pZ H i)
 | .r,(.own k n,_)=>xJ k n a (pZ H k)
 | .f ks,(.val .clo (some (f,cs)),_)=>xK H f a.args ks cs [] (some a)
 | .q,(.val .ref (some (i,o)),_)=>P8 a (CV i o (yR a.ws []) 0)
 |_,_=>none
@[go_sem] def xM (H:List (Nat×pW)):List PK->List pX->Option sQ->Option sQ
 |_,_,none=>none
 |[],[],some a=>some a
 |p::ps,s::ss,some a=>xM H ps ss (xL H a p s)
 |_,_,some _=>none
@[go_sem] def aIq:Option pK->pX
 |some (some p)=>(.val .ref (some p),none)
 |_=>(.any,none)
@[go_sem] def aIr:Option pL->pX
 |some (some i)=>(.val .mp (some i),none)
 |_=>(.any,none)
@[go_sem] def aIs:Option pK->pX
 |some (some (k,n))=>(.own k n,none)
 |_=>(.any,none)
@[go_sem] def C5:(t:Ty)->t.den->Nat->Option pK
 | .rl _ _,x,0=>some x
 | .pair a b,x,o=>if o<a.cells then C5 a x.1 o else C5 b x.2 (o-a.cells)
 |_,_,_=>none
@[go_sem] def JY (q:Nat):PK->Option pW->pX
 | .r,some (.cells t y _)=>aIs (C5 t y q)
 | .p _ _,some (.cells t y _)=>aIq (qT .ref t y q)
 | .m,some (.cells t y _)=>aIr (qT .mp t y q)
 |_,_=>(.any,none)
@[go_sem] def HQ:List pW->Nat->Option pW
 |[],_=>none
 |b::_,0=>some b
 |_::r,n+1=>HQ r n
@[go_sem] def MR (l:List pX):Option sQ->Option sQ
 |some a=>some ⟨l,a.H,a.ws,a.n⟩
 |none=>none
@[go_sem] def BD (H:List (Nat×pW)):List (Nat×Nat×PK)->Option sQ->Option sQ
 |_,none=>none
 |[],some a=>some a
 |(c,q,pk)::r,some a=>BD H r (MR a.args (xL H a pk (JY q pk (HQ a.H (a.n-1-c)))))
@[go_sem] def vS (i:Nat):List rK->Nat->pL
 |[],_=>none
 | .tok j::r,c=>if j=i then some c else vS i r (c+1)
 | .box _ _ _ _ _::r,c=>vS i r (c+1)
@[go_sem] def EM {α β:Type}:Option α->Option β->Option (α×β)
 |some a,some b=>some (a,b)
 |_,_=>none
@[go_sem] def SU (W:List rK):pK->Option pK
 |none=>some none
 |some (i,o)=>(CV i o W 0).map some
@[go_sem] def a9f (W:List rK):pL->Option pL
 |none=>some none
 |some i=>(vS i W 0).map some
@[go_sem] def a9g (W:List rK):pK->Option pK
 |none=>some none
 |some (k,n)=>(vS k W 0).map fun c=>some (c,n)
@[go_sem] def P9:Option (Nat×pH)->Option (Option (Nat×pH))
 |none=>some none
 |some (f,[])=>some (some (f,[]))
 |_=>none
@[go_sem] def SV (c n3 n4:Nat):pK->pL->pL->Option (Nat×Nat×(Nat×Nat)×(Nat×Nat))
 |some (i,0),some k3,some k4=>some (c,i,(k3,n3),(k4,n4))
 |_,_,_=>none
@[go_sem] def a9h (W:List rK):Nat×Nat×(Nat×Nat)×(Nat×Nat)->Option (Nat×Nat×(Nat×Nat)×(Nat×Nat))
 |(c,i,(k3,n3),(k4,n4))=>SV c n3 n4 (CV i 0 W 0) (vS k3 W 0) (vS k4 W 0)
@[go_sem] def C6 (W:List rK):(t:Ty)->t.den->Option t.den
 | .ref,x=>SU W x
 | .clo,x=>P9 x
 | .mp,x=>a9f W x
 | .pair a b,x=>EM (if a.pure=true then some x.1 else C6 W a x.1) (if b.pure=true then some x.2 else C6 W b x.2)
 | .list t,x=>if t.pure=true then some x else none
 | .bool,x=>some x
 | .int _,x=>some x
 | .str,x=>some x
 | .unit,x=>some x
 | .rl _ _,x=>a9g W x
 | .fn,x=>some x
 | .mref,x=>SU W x
 | .ap,x=>a9h W x
@[go_sem] def Y3:Option pW->Option (List pW)->Option (List pW)
 |some b,some l=>some (b::l)
 |_,_=>none
@[go_sem] def aIt (t:Ty) (ts:pH):Option t.den->Option pW
 |some y=>some (.cells t y ts)
 |none=>none
def JZ (W:List rK):pW->Option pW
 | .cells t y ts=>if t.pure=true then some (.cells t y ts) else aIt t ts (C6 W t y)
 |b=>some b
attribute [go_sem] JZ.eq_1 JZ.eq_2
@[go_sem] def HR (W:List rK):List pW->Option (List pW)
 |[]=>some []
 |b::r=>Y3 (JZ W b) (HR W r)
@[go_sem] def yS:List rK->Nat->Option rK
 |[],_=>none
 |w::_,0=>some w
 |_::r,n+1=>yS r n
@[go_sem] def MS (n:Nat) (c:Nat):Option rK->Bool
 |some _=>false
 |none=>decide (c<n)
@[go_sem] def zI (base n c:Nat):Option rK->pL
 |some (.box _ _ _ _ _)=>none
 |some (.tok k)=>some k
 |none=>if c<n then some (base+c) else none
@[go_sem] def a9i (base n c o:Nat):Option rK->pX
 |some (.box i _ _ _ o')=>(.val .ref (some (i,o'+o)),none)
 |wh=>if MS n c wh=true then(.val .ref (some (base+c,o)),none) else(.any,none)
@[go_sem] def K0 (base n:Nat) (W:List rK):pL->pL
 |some c=>zI base n c (yS W c)
 |none=>none
@[go_sem] def aIu (m:Nat):pL->pX
 |some k=>(.own k m,none)
 |none=>(.any,none)
@[go_sem] def aIv:pL->pX
 |some k=>(.val .mp (some k),none)
 |none=>(.any,none)
@[go_sem] def PA (base n c o:Nat):Option rK->pK
 |some (.box i _ _ _ o')=>some (i,o'+o)
 |wh=>if MS n c wh=true then some (base+c,o) else none
@[go_sem] def aIw:pK->Option pH->Option pH
 |some p,some l=>some (p::l)
 |_,_=>none
@[go_sem] def MT (base n:Nat) (W:List rK):pH->Option pH
 |[]=>some []
 |(c,o)::r=>aIw (PA base n c o (yS W c)) (MT base n W r)
@[go_sem] def aIx (f:Nat):Option pH->pX
 |some l=>(.val .clo (some (f,l)),none)
 |none=>(.any,none)
@[go_sem] def SW (base n:Nat) (W:List rK):pX->pX
 |(.own c m,_)=>aIu m (K0 base n W (some c))
 |(.val .ref (some (c,o)),_)=>a9i base n c o (yS W c)
 |(.val .ref none,_)=>(.val .ref none,none)
 |(.val .mp (some c),_)=>aIv (K0 base n W (some c))
 |(.val .mp none,_)=>(.val .mp none,none)
 |(.val .clo (some (f,cs)),_)=>aIx f (MT base n W cs)
 |(.val t x,k)=>if t.pure=true then(.val t x,K0 base n W (EK t k)) else(.any,none)
 |_=>(.any,none)
@[go_sem] def aIy (q:Nat):pL->pH->pH
 |some k,r=>(q,k)::r
 |none,r=>r
@[go_sem] def DB (base n:Nat) (W:List rK) (o:Nat):pH->pH
 |[]=>[]
 |(q,c)::r=>aIy (o+q) (zI base n c (yS W c)) (DB base n W o r)
@[go_sem] def K1 (base n:Nat) (W:List rK):pK->Option pK
 |none=>some none
 |some (c,o)=>back2 c o (yS W c)
where
 back2 (c o:Nat):Option rK->Option pK
  |some (.box i _ _ _ o')=>some (some (i,o'+o))
  |wh=>if MS n c wh=true then some (some (base+c,o)) else none
attribute [go_sem] K1.back2
@[go_sem] def a9j (base n:Nat) (W:List rK):pL->Option pL
 |none=>some none
 |some c=>(zI base n c (yS W c)).map some
@[go_sem] def a9k (base n:Nat) (W:List rK):pK->Option pK
 |none=>some none
 |some (c,q)=>(zI base n c (yS W c)).map fun k=>some (k,q)
@[go_sem] def a9l (base n:Nat) (W:List rK):Nat×Nat×(Nat×Nat)×(Nat×Nat)->Option (Nat×Nat×(Nat×Nat)×(Nat×Nat))
 |(c,i,(k3,n3),(k4,n4))=>SV c n3 n4 (PA base n i 0 (yS W i)) (zI base n k3 (yS W k3)) (zI base n k4 (yS W k4))
@[go_sem] def BE (base n:Nat) (W:List rK):(t:Ty)->t.den->Option t.den
 | .ref,x=>K1 base n W x
 | .clo,x=>P9 x
 | .mp,x=>a9j base n W x
 | .pair a b,x=>EM (if a.pure=true then some x.1 else BE base n W a x.1) (if b.pure=true then some x.2 else BE base n W b x.2)
 | .list t,x=>if t.pure=true then some x else none
 | .bool,x=>some x
 | .int _,x=>some x
 | .str,x=>some x
 | .unit,x=>some x
 | .rl _ _,x=>a9k base n W x
 | .fn,x=>some x
 | .mref,x=>K1 base n W x
 | .ap,x=>a9l base n W x
@[go_sem] def SX (i o:Nat) (u t:Ty) (toks ts:pH):Option u.den->Option (Nat×pW)
 |some z=>some (i,.cells u z (qS ts (t6 toks o t.cells)))
 |none=>none
@[go_sem] def a9m (i:Nat) (t:Ty) (ts:pH):Option t.den->Option (Nat×pW)
 |some y=>some (i,.cells t y ts)
 |none=>none
def y8 (base n c:Nat) (W:List rK):pW->Option (Nat×pW)
 | .cells t y ts=>if t.pure=true then some (base+c,.cells t y (DB base n W 0 ts)) else a9m (base+c) t (DB base n W 0 ts) (BE base n W t y)
 | .grow e m k=>some (base+c,.grow e m k)
 | .row e t l n=>if t.pure=true then some (base+c,.row e t l n) else none
 | .map k v l=>if (k.pure&&v.pure)=true then some (base+c,.map k v l) else none
 | .iter _ _=>none
 | .dead=>some (base+c,.dead)
attribute [go_sem] y8.eq_1 y8.eq_2 y8.eq_3 y8.eq_4 y8.eq_5 y8.eq_6
def w8 (k:Nat):pW->Option (Nat×pW)
 | .cells _ _ _=>none
 | .grow e m n=>some (k,.grow e m n)
 | .row e t l n=>if t.pure=true then some (k,.row e t l n) else none
 | .map s v l=>if (s.pure&&v.pure)=true then some (k,.map s v l) else none
 | .iter _ _=>none
 | .dead=>some (k,.dead)
attribute [go_sem] w8.eq_1 w8.eq_2 w8.eq_3 w8.eq_4 w8.eq_5 w8.eq_6
@[go_sem] def a9n (i o:Nat) (u t:Ty) (toks ts:pH) (x:u.den):Option t.den->Option (Nat×pW)
 |some y=>SX i o u t toks ts (sD t y u x o)
 |none=>none
@[go_sem] def xN (base n i o:Nat) (W:List rK) (u:Ty) (x:u.den) (toks:pH):pW->Option (Nat×pW)
 | .cells t y ts=>if t.pure=true then SX i o u t toks (DB base n W o ts) (sD t y u x o) else a9n i o u t toks (DB base n W o ts) x (BE base n W t y)
 | .dead=>some (i,.dead)
 | .grow _ _ _=>none
 | .row _ _ _ _=>none
 | .map _ _ _=>none
 | .iter _ _=>none
@[go_sem] def PB:Option (Nat×pW)->Option (List (Nat×pW))->Option (List (Nat×pW))
 |some q,some r=>some (q::r)
 |_,_=>none
@[go_sem] def BF (base n:Nat) (W:List rK):Nat->List rK->List pW->Option (List (Nat×pW))
 |_,[],[]=>some []
 |c,[],b::L=>PB (y8 base n c W b) (BF base n W (c+1) [] L)
 |c,.box i u x toks o::ws,b::L=>PB (xN base n i o W u x toks b) (BF base n W (c+1) ws L)
 |c,.tok k::ws,b::L=>PB (w8 k b) (BF base n W (c+1) ws L)
 |_,_::_,[]=>none
@[go_sem] def FT:List pX->Option (List ((Σ t:Ty,t.den)×pL))
 |[]=>some []
 |(.val t x,k)::r=>(FT r).map ((⟨t,x⟩,k):: ·)
 |(.own k n,_)::r=>(FT r).map ((⟨.rl 0 .unit,some (k,n)⟩,none):: ·)
 |_=>none
@[go_sem] def aIz:Option (List ((Σ t:Ty,t.den)×pL))->pX
 |some q=>(.tup q,none)
 |none=>(.any,none)
@[go_sem] def MU:List pX->Option pX
 |[]=>some (.tup [],none)
 |[s]=>some s
 |s::s'::l=>some (aIz (FT (s::s'::l)))
@[go_sem] def Y4 (W:List rK):pM->pM
 |[]=>[]
 |c::r=>sameId (yS W c) (Y4 W r)
where
 sameId:Option rK->pM->pM
  |some w,r=>w.id::r
  |none,r=>r
attribute [go_sem] Y4.sameId
@[go_sem] def PC (side:List Prop) (rds:pM):Option (List (Nat×pW))->Option pX->Option qJ
 |some H,some s=>some ⟨side,s,H,rds⟩
 |_,_=>none
@[go_sem] def PD (base n:Nat) (W:List rK):List pX->List pX
 |[]=>[]
 |s::r=>SW base n W s::PD base n W r
@[go_sem] def qV:List pW->Nat
 |[]=>0
 |_::r=>qV r+1
@[go_sem] def SY (base:Nat) (W:List rK) (sm:pM):Option qI->Option qJ
 |some r=>PC r.side (qS (sA W) (Y4 W sm)) (BF base (qV r.H) W 0 W r.H) (MU (PD base (qV r.H) W r.ret))
 |none=>none
@[go_sem] def SZ (C:List pX->List pW->Option qI) (sm:pM) (base:Nat) (W:List rK) (args:List pX):Option (List pW)->Option qJ
 |some L=>SY base W sm (C args L)
 |none=>none
@[go_sem] def PE (C:List pX->List pW->Option qI) (sm:pM) (base:Nat):Option sQ->Option qJ
 |some a=>SZ C sm base (yR a.ws []) (yR a.args []) (HR (yR a.ws []) (yR a.H []))
 |none=>none
@[go_sem] def FU (H:List (Nat×pW)) (base:Nat) (args:List pX):Option r7->Option qJ
 |some g=>PE g.C g.same base (BD H g.gs (xM H g.ps args (some ⟨[],[],[],0⟩)))
 |none=>none
@[go_sem] def PF:List PK->List pX->pL
 | .r::ps,_::ss=>PF ps ss
 |_::_,(.own k _,_)::_=>some k
 |_::ps,_::ss=>PF ps ss
 |_,_=>none
@[go_sem] def a9o (k:Nat) (t:Ty) (l:List t.den):pX->pX
 |(.own j m,x)=>if j=k then(.val (.list t) l,none) else(.own j m,x)
 |s=>s
@[go_sem] def PG (k:Nat) (t:Ty) (l:List t.den):List pX->List pX
 |[]=>[]
 |s::r=>a9o k t l s::PG k t l r
@[go_sem] def K2 (k n:Nat):List pX->List Prop
 |[]=>[]
 |(.own j m,_)::r=>(j=k->m=n)::K2 k n r
 |_::r=>K2 k n r
@[go_sem] def FV:Ty->Bool
 | .list _=>false
 | .pair a b=>FV a&&FV b
 | .bool| .int _| .str| .unit| .fn=>true
 | .ref| .clo| .mp| .rl _ _| .mref| .ap=>false
@[go_sem] def qB:List (Nat×pW)->pM
 |[]=>[]
 |(i,_)::r=>i::qB r
@[go_sem] def MV:List (Nat×pW)->Bool
 |[]=>true
 |(_,.cells t _ [])::r=>FV t&&MV r
 |_=>false
@[go_sem] def T0:List ((Σ t:Ty,t.den)×pL)->Bool
 |[]=>true
 |(⟨t,_⟩,_)::r=>FV t&&T0 r
@[go_sem] def Y5:List ((Σ t:Ty,t.den)×pL)->List ((Σ t:Ty,t.den)×pL)
 |[]=>[]
 |(q,_)::r=>(q,none)::Y5 r
@[go_sem] def T5:pX->Option pX
 |(.val t x,_)=>if FV t=true then some (.val t x,none) else none
 |(.tup l,_)=>if T0 l=true then some (.tup (Y5 l),none) else none
 |_=>none
@[go_sem] def Y6 (sd:List Prop) (k:Nat) (side:List Prop) (U:List (Nat×pW)) (rds:pM):Option pX->Option qJ
 |some s=>if (MV U&& !zV k (qB U))=true then some ⟨qS sd side,s,U,k::rds⟩ else none
 |none=>none
@[go_sem] def Y7 (sd:List Prop) (k:Nat):Option qJ->Option qJ
 |some ⟨side,s,U,rds⟩=>Y6 sd k side U rds (T5 s)
 |none=>none
@[go_sem] def PH (H:List (Nat×pW)) (base:Nat) (args:List pX) (g:r7) (k:Nat):Option pW->Option qJ
 |some (.row _ t l m)=>Y7 (K2 k m args) k (FU ((k,.dead)::H) base (PG k t l args) (some g))
 |_=>none
@[go_sem] def a9p (H:List (Nat×pW)) (base:Nat) (args:List pX) (g:r7):pL->Option qJ
 |some k=>PH H base args g k (pZ H k)
 |none=>FU H base args (some g)
@[go_sem] def a9q (k n m e:Nat) (t:Ty):Option (List t.den)->Option qJ
 |some l=>some ⟨[n=m,m<4611686018427387904],(.tup [],none),[(k,.row e t l m)],[k]⟩
 |none=>none
@[go_sem] def Y8 (F:(t:Ty)->List t.den->Option (List t.den)) (k n:Nat):Option pW->Option qJ
 |some (.row e t l m)=>a9q k n m e t (F t l)
 |_=>none
@[go_sem] def T6 (H:List (Nat×pW)) (F:(t:Ty)->List t.den->Option (List t.den)):List pX->Option qJ
 |[(.own k n,_)]=>Y8 F k n (pZ H k)
 |_=>none
@[go_sem] def Y9 (base:Nat):Option TI->pX->Option qJ
 |some ⟨.list u,e,_,true,_⟩,(.nilS,_)=>some ⟨[],(.own base 0,none),[(base,.row e u [] 0)],[]⟩
 |some ⟨.list u,e,_,false,_⟩,(.nilS,_)=>some ⟨[],(.val (.list u) [],some base),[(base,.grow e u.cells 0)],[]⟩
 |_,(.nilS,_)=>none
 |_,s=>some ⟨[],s,[],[]⟩
@[go_sem] def EN:Ty->Nat->Bool
 | .list _,0=>true
 | .pair a b,o=>if o<a.cells then EN a o else EN b (o-a.cells)
 |_,_=>false
@[go_sem] def EO (t:Ty):List (Nat×TypeId×Nat)->Bool
 |[]=>true
 |(o,_,_)::r=>EN t o&&EO t r
@[go_sem] def C7:List (Nat×TypeId×Nat)->Nat->pH
 |[],_=>[]
 |(o,_,_)::r,i=>(o,i)::C7 r (i+1)
@[go_sem] def DC:List (Nat×TypeId×Nat)->Nat->List (Nat×pW)
 |[],_=>[]
 |(_,e,c)::r,i=>qS (DC r (i+1)) [(i,.grow e c 0)]
@[go_sem] def YA (e:Nat):Bool:=if e=82 then true else if e=a88 then true else false
@[go_sem] def YB (e:Nat) (u:Ty) (o:Nat):pK->List (Nat×Nat×Ty)
 |none=>[(o,e,u)]
 |some _=>[]
@[go_sem] def zJ:(t:Ty)->t.den->Nat->List (Nat×Nat×Ty)
 | .rl e u,x,o=>YB e u o x
 | .pair a b,x,o=>qS (zJ a x.1 o) (zJ b x.2 (o+a.cells))
 |_,_,_=>[]
@[go_sem] def YC (o:Nat):pK->pM
 |none=>[o]
 |some _=>[]
@[go_sem] def FW:(t:Ty)->t.den->Nat->pM
 | .mref,x,o=>YC o x
 | .pair a b,x,o=>qS (FW a x.1 o) (FW b x.2 (o+a.cells))
 |_,_,_=>[]
@[go_sem] def a9r:Nat->pM->pM
 |2,[0]=>[0]
 |_,_=>[]
@[go_sem] def T7 (el:Nat) (t:Ty) (y:t.den):pM:=if YA el=true then a9r t.cells (FW t y 0) else[]
@[go_sem] def BG (t:Ty):Nat->List (Nat×Nat×Ty)->Option t.den->Option t.den
 |_,[],x=>x
 |i,(o,e,u)::r,some x=>BG t (i+1) r (sD (.rl e u) (some (i,0)) t x o)
 |_,_::_,none=>none
@[go_sem] def HS (t:Ty) (i:Nat):pM->Option t.den->Option t.den
 |[],x=>x
 |q::r,some x=>HS t i r (sD .mref (some (i,q)) t x q)
 |_::_,none=>none
@[go_sem] def EP:List (Nat×Nat×Ty)->Nat->List (Nat×pW)
 |[],_=>[]
 |(_,e,u)::r,i=>qS (EP r (i+1)) [(i,.row e u [] 0)]
@[go_sem] def PI {α:Type}:List α->Nat
 |[]=>0
 |_::r=>PI r+1
@[go_sem] def a9s (base:Nat) (t:Ty) (ls:List (Nat×TypeId×Nat)) (R:List (Nat×Nat×Ty)):Option t.den->Option qJ
 |some z=>some ⟨[],(.val .ref (some (base,0)),none),(base,.cells t z (C7 ls (base+1)))::qS (EP R (base+1+PI ls)) (DC ls (base+1)),[]⟩
 |none=>none
@[go_sem] def PJ (base el:Nat) (t:Ty) (y:t.den) (ls:List (Nat×TypeId×Nat)):Bool->Option qJ
 |true=>a9s base t ls (zJ t y 0) (HS t base (T7 el t y) (BG t (base+1+PI ls) (zJ t y 0) (some y)))
 |false=>none
@[go_sem] def C8 (k:Nat):List (Nat×TypeId×Nat)->List (Nat×TypeId×Nat)
 |[]=>[]
 |(o,e,c)::r=>if o+1=k then C8 k r else(o,e,c)::C8 k r
@[go_sem] def a9t (base el:Nat) (ls:List (Nat×TypeId×Nat)):(t:Ty)->t.den->pL->Option qJ
 | .pair a b,y,some k=>PJ base el (.pair a b) y (C8 k ls) (EO (.pair a b) (C8 k ls))
 | .list u,y,k=>some ⟨[],(.val .ref (some (base,0)),none),[(base,.cells (.list u) y (xI k 0))],[]⟩
 |t,y,_=>some ⟨[],(.val .ref (some (base,0)),none),[(base,.cells t y [])],[]⟩
@[go_sem] def PL (base el:Nat):Option TI->Option qJ
 |some ⟨.list u,e,_,_,_⟩=>some ⟨[],(.val .ref (some (base,0)),none),[(base,.cells (.list u) [] [(0,base+1)]),(base+1,.grow e u.cells 0)],[]⟩
 |some ti=>PJ base el ti.ty ti.ty.zero ti.ls (EO ti.ty ti.ls)
 |none=>none
@[go_sem] def YD (base el:Nat):Option TI->pX->Option qJ
 |some ti,(.val t y,k)=>if t=ti.ty then a9t base el ti.ls t y k else none
 |_,_=>none
@[go_sem] def YE (base el:Nat):Option TI->pX->Option qJ
 |some ⟨.list u,e,_,true,_⟩,(.nilS,_)=>PJ base el (.rl e u) none [] true
 |some ⟨.list u,e,b,a,ls⟩,(.nilS,_)=>PL base el (some ⟨.list u,e,b,a,ls⟩)
 |ti,s=>YD base el ti (MO ti s)
@[go_sem] def K3:Ty->Bool
 | .list _=>true
 | .pair a b=>K3 a||K3 b
 | .bool| .int _| .str| .unit| .ref| .clo| .mp| .rl _ _| .mref| .fn| .ap=>false
@[go_sem] def T8:pL->pL->pL
 |some o,some m=>if m=0 then some (o+1) else none
 |_,_=>none
@[go_sem] def YF:Ty->Bool
 | .list _=>true
 | .pair _ _| .bool| .int _| .str| .unit| .ref| .clo| .mp| .rl _ _| .mref| .fn| .ap=>false
@[go_sem] def T9 (u:Ty) (o m:pL):Bool->Bool->pL
 |false,_=>m
 |true,true=>T8 o m
 |true,false=>none
@[go_sem] def AK (t:Ty):List (Nat×pX)->pL
 |[]=>some 0
 |(_,(.nilS,_))::r=>AK t r
 |(i,(.val u _,_))::r=>T9 u (t.offs i) (AK t r) (K3 u) (YF u)
 |_=>none
@[go_sem] def YG:Ty->pL->pL
 | .pair _ _,m=>m
 |_,_=>none
@[go_sem] def aIA (t:Ty) (k:pL):Option t.den->Option qJ
 |some x=>some ⟨[],(.val t x,k),[],[]⟩
 |none=>none
@[go_sem] def YH (sl:List (Nat×pX)):Option TI->Option qJ
 |some ti=>if ti.ty.isRow=true then aIA ti.ty (YG ti.ty (AK ti.ty sl)) (AJ ti.ty (some ti.ty.zero) sl) else none
 |none=>none
@[go_sem] def TA (base e c n:Nat) (t:Ty):Option (List t.den)->Option qJ
 |some l=>if n<=16777216/\n*c<=16777216 then some ⟨[],(.val (.list t) l,some base),[(base,.grow e c n)],[]⟩ else none
 |none=>none
@[go_sem] def a9u (base e n:Nat) (t:Ty):Option (List t.den)->Option qJ
 |some l=>if t.pure=true/\n<=16777216/\n*t.cells<=16777216 then some ⟨[],(.own base n,none),[(base,.row e t l n)],[]⟩ else none
 |none=>none
@[go_sem] def YI (base n:Nat) (sl:List (Nat×pX)):Option TI->Option qJ
 |some ⟨.list u,e,_,true,_⟩=>if n=0 then a9u base e n u (BC u n (some (CU u n)) sl) else TA base e u.cells n u (BC u n (some (CU u n)) sl)
 |some ⟨.list u,e,_,false,_⟩=>TA base e u.cells n u (BC u n (some (CU u n)) sl)
 |_=>none
@[go_sem] def a9v (t:Ty) (k:pL) (i:Nat):Option t.den->Option qJ
 |some y=>some ⟨[],(.val t y,k),[],[i]⟩
 |none=>none
@[go_sem] def PM (t:Ty) (i off:Nat):Option pW->Option qJ
 |some (.cells u x toks)=>a9v t (EK t (wT toks off)) i (qT t u x off)
 |_=>none
@[go_sem] def a9w (u:Ty) (k n m:Nat):Option u.den->Option qJ
 |some y=>some ⟨[n=m],(.val u y,none),[],[k]⟩
 |none=>none
@[go_sem] def PN (u:Ty) (k n c:Nat) (i:Int) (o:Nat):Option pW->Option qJ
 |some (.row _ t l m)=>if c=t.cells then a9w u k n m (qT u t (qH t l i) o) else none
 |_=>none
@[go_sem] def YJ (i:Nat):Option pK->Option qJ
 |some (some (k,n))=>some ⟨[],(.own k n,none),[],[i]⟩
 |_=>none
@[go_sem] def TB (i off:Nat):TI->Option pW->Option qJ
 |⟨.list u,e,_,_,_⟩,some (.cells v x _)=>YJ i (qT (.rl e u) v x off)
 |_,_=>none
@[go_sem] def YK:pK->pK->pK
 |some p,_=>some p
 |none,q=>q
@[go_sem] def BH:(t:Ty)->t.den->pK
 | .rl _ _,x=>x
 | .pair a b,x=>YK (BH a x.1) (BH b x.2)
 |_,_=>none
@[go_sem] def YL (u0:Ty) (l:List u0.den) (u:Ty):pK->Option (Σ t:Ty,t.den)
 |some _=>if u=u0 then some ⟨.list u0,l⟩ else none
 |none=>none
@[go_sem] def K4 (a b:Ty) (x:a.den) (y:b.den):pK->Option (Σ t:Ty,t.den)->Option (Σ t:Ty,t.den)->Option (Σ t:Ty,t.den)
 |some _,some ⟨a',x'⟩,_=>some ⟨.pair a' b,(x',y)⟩
 |some _,none,_=>none
 |none,_,some ⟨b',y'⟩=>some ⟨.pair a b',(x,y')⟩
 |none,_,none=>none
@[go_sem] def zK (u0:Ty) (l:List u0.den):(t:Ty)->t.den->Option (Σ t:Ty,t.den)
 | .rl _ u,x=>YL u0 l u x
 | .pair a b,x=>K4 a b x.1 x.2 (BH a x.1) (zK u0 l a x.1) (zK u0 l b x.2)
 |_,_=>none
@[go_sem] def YM (t:Ty) (i k:Nat) (sd:Prop) (e:TypeId) (c n:Nat) (v:Ty) (x:v.den):Option t.den->Option qJ
 |some y=>some ⟨[sd],(.val t y,none),[(i,.cells v x []),(k,.grow e c n)],[1000000000,i,k]⟩
 |none=>none
@[go_sem] def YN (t:Ty) (i off k:Nat) (sd:Prop) (e:TypeId) (c n:Nat):Option (Σ t:Ty,t.den)->Option qJ
 |some ⟨v,x⟩=>YM t i k sd e c n v x (qT t v x off)
 |none=>none
@[go_sem] def TC (t:Ty) (i off k n0:Nat) (v:Ty) (x:v.den):Option pW->Option qJ
 |some (.row e u0 l m)=>YN t i off k (n0=m) e u0.cells (List.length l) (zK u0 l v x)
 |_=>none
@[go_sem] def TD (H:List (Nat×pW)) (t:Ty) (i off:Nat) (v:Ty) (x:v.den):pK->Option qJ
 |some (k,n0)=>TC t i off k n0 v x (pZ H k)
 |none=>none
@[go_sem] def HT (H:List (Nat×pW)) (t:Ty) (i off:Nat):Option pW->Option qJ
 |some (.cells v x _)=>TD H t i off v x (BH v x)
 |_=>none
@[go_sem] def FX:Ty->Ty
 | .rl _ u=> .list u
 | .pair a b=> .pair (FX a) (FX b)
 | .bool=> .bool
 | .int k=> .int k
 | .str=> .str
 | .list t=> .list t
 | .unit=> .unit
 | .ref=> .ref
 | .clo=> .clo
 | .mp=> .mp
 | .mref=> .mref
 | .fn=> .fn
 | .ap=> .ap
@[go_sem] def a9x (u:Ty):Option pW->Option (List u.den)
 |some (.row _ t l _)=>if h:t=u then some (tZ (t:= .list t) (u:= .list u) (by rw[h]) l) else none
 |_=>none
@[go_sem] def YO (H:List (Nat×pW)) (u:Ty):pK->Option (List u.den)
 |some (k,_)=>a9x u (pZ H k)
 |none=>some []
@[go_sem] def AL (H:List (Nat×pW)):(t:Ty)->t.den->Option (FX t).den
 | .rl _ u,x=>YO H u x
 | .pair a b,x=>EM (AL H a x.1) (AL H b x.2)
 | .bool,x=>some x
 | .int _,x=>some x
 | .str,x=>some x
 | .list _,x=>some x
 | .unit,x=>some x
 | .ref,x=>some x
 | .clo,x=>some x
 | .mp,x=>some x
 | .mref,x=>some x
 | .fn,x=>some x
 | .ap,x=>some x
@[go_sem] def YP:pK->pH
 |some p=>[p]
 |none=>[]
@[go_sem] def AM:(t:Ty)->t.den->pH
 | .rl _ _,x=>YP x
 | .pair a b,x=>qS (AM a x.1) (AM b x.2)
 |_,_=>[]
@[go_sem] def TE (k n:Nat):Option pW->Option (Prop×pW)
 |some (.row e t _ m)=>some (n=m,.grow e t.cells m)
 |_=>none
@[go_sem] def K5 (k:Nat):Option (Prop×pW)->Option (List Prop×List (Nat×pW))->Option (List Prop×List (Nat×pW))
 |some (p,b),some (ps,bs)=>some (p::ps,(k,b)::bs)
 |_,_=>none
@[go_sem] def PO (k:Nat):pH->Bool
 |[]=>false
 |(j,_)::r=>if j=k then true else PO k r
@[go_sem] def BI (H:List (Nat×pW)):pH->Option (List Prop×List (Nat×pW))
 |[]=>some ([],[])
 |(k,n)::r=>if PO k r=true then none else K5 k (TE k n (pZ H k)) (BI H r)
@[go_sem] def TF (t:Ty) (i:Nat):Option (List Prop×List (Nat×pW))->Option t.den->Option qJ
 |some (ps,bs),some y=>some ⟨ps,(.val t y,none),bs,i::qB bs⟩
 |_,_=>none
@[go_sem] def TG (H:List (Nat×pW)) (t:Ty) (i off:Nat) (v:Ty) (x:v.den):Option (FX v).den->Option qJ
 |some z=>TF t i (BI H (AM v x)) (qT t (FX v) z off)
 |none=>none
@[go_sem] def K6 (H:List (Nat×pW)) (t:Ty) (i off:Nat):Option pW->Option qJ
 |some (.cells v x _)=>TG H t i off v x (AL H v x)
 |_=>none
@[go_sem] def orS (H:List (Nat×pW)) (t:Ty) (i off:Nat) (b:Option pW):Option qJ->Option qJ
 |some r=>some r
 |none=>HT H t i off b
@[go_sem] def TH (H:List (Nat×pW)):Option TI->pX->Option qJ
 |some ti,(.elt k n c i o,_)=>PN ti.ty k n c i o (pZ H k)
 |some ti,(.at u x,_)=>if u=ti.ty then some ⟨[],(.val u x,none),[],[]⟩ else none
 |some ti,(.val .ref (some (i,off)),_)=>if ti.elem=XT then K6 H ti.ty i off (pZ H i) else orS H ti.ty i off (pZ H i) (orE (PM ti.ty i off (pZ H i)) (TB i off ti (pZ H i)))
 |_,_=>none
@[go_sem] def MW (u:Ty) (i:Nat) (toks:pH):Option u.den->Option qJ
 |some z=>some ⟨[],(.any,none),[(i,.cells u z toks)],[i]⟩
 |none=>none
@[go_sem] def TJ (t:Ty) (y:t.den) (k:pL) (i off:Nat):Option pW->Option qJ
 |some (.cells u x toks)=>MW u i (qS (xI (EK t k) off) (t6 toks off t.cells)) (sD t y u x off)
 |_=>none
@[go_sem] def MX (off:Nat):pH->pH
 |[]=>[]
 |(o,k)::r=>(off+o,k)::MX off r
@[go_sem] def a9z (u:Ty) (i:Nat) (nt toks:pH) (bs:List (Nat×pW)):Option u.den->Option qJ
 |some z=>some ⟨[],(.any,none),(i,.cells u z (qS nt toks))::qS bs [(i,.cells u z toks)],[i]⟩
 |none=>none
@[go_sem] def TK (t:Ty) (y:t.den) (ls:List (Nat×TypeId×Nat)) (base i off:Nat):Option pW->Bool->Option qJ
 |some (.cells u x toks),true=>a9z u i (MX off (C7 ls base)) (t6 toks off t.cells) (DC ls base) (sD t y u x off)
 |_,_=>none
@[go_sem] def FY (base i off:Nat) (b:Option pW):List (Nat×TypeId×Nat)->(t:Ty)->t.den->pL->Option qJ
 |q::r,.pair a c,y,some k=>TK (.pair a c) y (C8 k (q::r)) base i off b (EO (.pair a c) (C8 k (q::r)))
 |_,t,y,k=>TJ t y k i off b
@[go_sem] def K7:Ty->Bool
 | .rl _ _=>true
 | .pair a b=>K7 a||K7 b
 |_=>false
@[go_sem] def TL (base:Nat) (sd:List Prop) (s:pX) (i:Nat) (v:Ty) (ts:pH) (U:List (Nat×pW)) (R:List (Nat×Nat×Ty)):Option v.den->Option qJ
 |some z=>some ⟨sd,s,(i,.cells v z ts)::qS (EP R base) U,[i]⟩
 |none=>none
@[go_sem] def TM (n:Nat):List (Nat×pW)->Bool
 |[]=>true
 |(i,_)::r=>if i<n then TM n r else false
@[go_sem] def PP (base:Nat):Option qJ->Option qJ
 |some ⟨sd,s,(i,.cells v z ts)::U,_⟩=>if TM base ((i,.cells v z ts)::U)=true then TL base sd s i v ts ((i,.cells v z ts)::U) (zJ v z 0) (BG v base (zJ v z 0) (some z)) else none
 |_=>none
@[go_sem] def YQ (base:Nat) (e:Option qJ):Bool->Option qJ
 |true=>PP base e
 |false=>e
@[go_sem] def TN (i k n m e:Nat) (u v:Ty) (l:List u.den) (ts:pH):Option v.den->Option qJ
 |some z=>some ⟨[n=m],(.any,none),[(i,.cells v z ts),(k,.grow e u.cells m)],[i,k]⟩
 |none=>none
@[go_sem] def PQ (i off k n:Nat) (u v:Ty) (x:v.den) (ts:pH):Option pW->Option qJ
 |some (.row e t l m)=>if h:t=u then TN i k n m e t v l ts (sD (.list t) l v x off) else none
 |_=>none
@[go_sem] def TO:Option pK->Nat×Nat
 |some (some p)=>p
 |_=>(0,0)
@[go_sem] def a9A (i j o:Nat) (r3 r4:Nat×Nat):Option (List Prop×(Nat×Nat×(Nat×Nat)×(Nat×Nat))):=
 if j=i then(if o=6 then some ([],(1,i,r3,r4)) else if o=7 then some ([],(2,i,r3,r4)) else none) else none
@[go_sem] def a9B (i k n c o:Nat) (ix:Int) (r3 r4:Nat×Nat):Option (List Prop×(Nat×Nat×(Nat×Nat)×(Nat×Nat))):=
 if c=1 then(if o=0 then(if k=r3.1 then some ([n=r3.2,ix+1=(n:Int)],(3,i,(k,r3.2),r4)) else none) else none)
 else if c=2 then(if o=1 then(if k=r4.1 then some ([n=r4.2,ix+1=(n:Int)],(4,i,r3,(k,r4.2))) else none) else none) else none
@[go_sem] def TP (i:Nat):DV->Nat×Nat->Nat×Nat->Option (List Prop×(Nat×Nat×(Nat×Nat)×(Nat×Nat)))
 | .val .ref (some (j,o)),r3,r4=>a9A i j o r3 r4
 | .elt k n c ix o,r3,r4=>a9B i k n c o ix r3 r4
 |_,_,_=>none
@[go_sem] def YR (i off:Nat) (v:Ty) (ts:pH) (sd:List Prop):Option v.den->Option qJ
 |some z=>some ⟨sd,(.any,none),[(i,.cells v z (t6 ts off 1))],[i]⟩
 |none=>none
@[go_sem] def YS (i off:Nat) (v:Ty) (x:v.den) (ts:pH):Option (List Prop×(Nat×Nat×(Nat×Nat)×(Nat×Nat)))->Option qJ
 |some (sd,y)=>YR i off v ts sd (sD .ap y v x off)
 |none=>none
@[go_sem] def YT (i off:Nat) (d:DV):Ty->Option pW->Option qJ
 | .ap,some (.cells v x ts)=>YS i off v x ts (TP i d (TO (C5 v x 8)) (TO (C5 v x 11)))
 |_,_=>none
@[go_sem] def a9C (k n m:Nat) (e:TypeId) (t:Ty) (l:List t.den) (i:Int):Option t.den->Option qJ
 |some z=>some ⟨[n=m],(.any,none),[(k,.row e t (l.set i.toNat z) m)],[k]⟩
 |none=>none
@[go_sem] def TQ (u:Ty) (y:u.den) (k n c:Nat) (i:Int) (o:Nat):Option pW->Option qJ
 |some (.row e t l m)=>if c=t.cells then a9C k n m e t l i (sD u y t (qH t l i) o) else none
 |_=>none
@[go_sem] def YU (b:Ty) (y:b.den):Option (Σ t:Ty,t.den)->Option (Σ t:Ty,t.den)
 |some ⟨a,x⟩=>some ⟨.pair a b,(x,y)⟩
 |none=>none
@[go_sem] def YV (a:Ty) (x:a.den):Option (Σ t:Ty,t.den)->Option (Σ t:Ty,t.den)
 |some ⟨b,y⟩=>some ⟨.pair a b,(x,y)⟩
 |none=>none
@[go_sem] def y9 (e:Nat) (u:Ty) (kn:pK):(t:Ty)->t.den->Nat->Option (Σ t:Ty,t.den)
 | .list v,_,0=>if v=u then some ⟨.rl e u,kn⟩ else none
 | .pair a b,x,o=>if o<a.cells then YU b x.2 (y9 e u kn a x.1 o) else YV a x.1 (y9 e u kn b x.2 (o-a.cells))
 |_,_,_=>none
@[go_sem] def YW (i:Nat):Option (Σ t:Ty,t.den)->Option qJ
 |some ⟨v,z⟩=>some ⟨[],(.any,none),[(i,.cells v z [])],[1000000000,i]⟩
 |none=>none
@[go_sem] def a9D (H:List (Nat×pW)) (i off k n e:Nat) (u v:Ty) (x:v.den) (ts:pH):List (Nat×TypeId×Nat)->Option qJ
 |[]=>YW i (y9 e u (some (k,n)) v x off)
 |_::_=>PQ i off k n u v x (t6 ts off 1) (pZ H k)
@[go_sem] def YX (H:List (Nat×pW)) (i off k n e:Nat) (u v:Ty) (x:v.den) (ts:pH) (ls:List (Nat×TypeId×Nat)):Option qJ->Option qJ
 |some r=>some r
 |none=>a9D H i off k n e u v x ts ls
@[go_sem] def MY (H:List (Nat×pW)) (i off k n:Nat):TI->Option pW->Option qJ
 |⟨.list u,e,_,_,ls⟩,some (.cells v x toks)=>YX H i off k n e u v x toks ls (MW v i (t6 toks off 1) (sD (.rl e u) (some (k,n)) v x off))
 |_,_=>none
@[go_sem] def TR (base:Nat) (H:List (Nat×pW)):Option TI->pX->pX->Option qJ
 |some ti,(.val .ref (some (i,off)),_),(.own k n,_)=>MY H i off k n ti (pZ H i)
 |some ti,(.val .ref (some (i,off)),_),(.apd d,_)=>YT i off d ti.ty (pZ H i)
 |some ti,(.elt k n c i o,_),(.val t y,_)=>if t=ti.ty then TQ t y k n c i o (pZ H k) else none
 |some ti,(.val .ref (some (i,off)),_),(.val t y,k)=>if t=ti.ty then YQ (base+16) (FY base i off (pZ H i) ti.ls t y k) (K7 t) else none
 |_,_,_=>none
@[go_sem] def YY:pX->Option qJ
 |(.val .ref (some p),_)=>some ⟨[],(.val .ref (some p),none),[],[]⟩
 |(.at t x,_)=>some ⟨[],(.at t x,none),[],[]⟩
 |(.elt k n c i o,_)=>some ⟨[],(.elt k n c i o,none),[],[]⟩
 |_=>none
@[go_sem] def a9E (f:FuncId):Option pH->Option qJ
 |some l=>some ⟨[],(.val .clo (some (f,l)),none),[],[]⟩
 |none=>none
@[go_sem] def aIB (f:FuncId) (l:Option pH):List Operand->Option qJ
 |[]=>a9E f l
 |_=>none
@[go_sem] def TS (side:List Prop):Option (Σ t:Ty,t.den)->Option qJ
 |some ⟨t,x⟩=>if 0<t.cells then some ⟨side,(.at t x,none),[],[]⟩ else none
 |none=>none
@[go_sem] def TT (side:List Prop) (i off:Nat):pL->Option Ty->Option qJ
 |some o,some u=>if 0<u.cells then some ⟨side,(.val .ref (some (i,off+o)),none),[],[]⟩ else none
 |_,_=>none
@[go_sem] def a9F (k n c:Nat) (i:Int) (o:Nat):pL->Option Ty->Option qJ
 |some q,some u=>if 0<u.cells then some ⟨[],(.elt k n c i (o+q),none),[],[]⟩ else none
 |_,_=>none
@[go_sem] def YZ (f:Nat):Option TI->pX->Option qJ
 |some ⟨t,_,_,false,_⟩,(.elt k n c i o,_)=>a9F k n c i o (t.offs f) (t.fld f)
 |some ⟨t,_,_,false,_⟩,(.at u y,_)=>if u=t then TS [] (u.proj y f) else none
 |some ⟨t,_,_,false,_⟩,(.val .ref (some (i,off)),_)=>TT [] i off (t.offs f) (t.fld f)
 |_,_=>none
@[go_sem] def aIC:Option (Σ t:Ty,t.den)->Option qJ
 |some ⟨t,x⟩=>some ⟨[],(.val t x,none),[],[]⟩
 |none=>none
@[go_sem] def Z0 (f:Nat):Option TI->pX->Option qJ
 |some ⟨t,_,_,false,_⟩,(.val u y,_)=>if u=t then aIC (u.proj y f) else none
 |_,_=>none
@[go_sem] def Z1:Option TI->pX->pX->Option qJ
 |some ⟨.list t',_,_,_,_⟩,(.own k n,_),(.val (.int _) i,_)=>if 0<t'.cells then some ⟨[0<=i/\i<(n:Int)],(.elt k n t'.cells i 0,none),[],[]⟩ else none
 |some ⟨.list t',_,_,_,_⟩,(.val (.list t) l,_),(.val (.int _) i,_)=>if t=t' then some ⟨[0<=i/\i<(List.length l:Int)],(.at t (qH t l i),none),[],[]⟩ else none
 |some ⟨.pair a b,_,_,true,_⟩,(.val .ref (some (i,off)),_),(.val (.int _) n,_)=>TT [(0:Int)<=n] i off ((Ty.pair a b).offs (Int.toNat n)) ((Ty.pair a b).fld (Int.toNat n))
 |some ⟨.pair a b,_,_,true,_⟩,(.at u x,_),(.val (.int _) n,_)=>if u= .pair a b then TS [(0:Int)<=n] (u.proj x (Int.toNat n)) else none
 |_,_,_=>none
@[go_sem] def Z2:Option TI->pX->pX->Option qJ
 |some ⟨.str,_,_,_,_⟩,(.val .str l,_),(.val (.int _) i,_)=>some ⟨[0<=i/\i<(List.length l:Int)],(.val (.int .u8) (rJ l i),none),[],[]⟩
 |_,_,_=>none
@[go_sem] def aID (e:Nat) (u:Ty):pK->pX
 |some (k,n)=>(.own k n,none)
 |none=>(.val (.rl e u) none,none)
@[go_sem] def aIE:(t:Ty)->t.den->pL->pX
 | .rl e u,x,_=>aID e u x
 | .bool,x,k=>(.val .bool x,k)
 | .int i,x,k=>(.val (.int i) x,k)
 | .str,x,k=>(.val .str x,k)
 | .list u,x,k=>(.val (.list u) x,k)
 | .unit,x,k=>(.val .unit x,k)
 | .pair a b,x,k=>(.val (.pair a b) x,k)
 | .ref,x,k=>(.val .ref x,k)
 | .clo,x,k=>(.val .clo x,k)
 | .mp,x,k=>(.val .mp x,k)
 | .mref,x,k=>(.val .mref x,k)
 | .ap,x,k=>(.val .ap x,k)
 | .fn,x,k=>(.val .fn x,k)
@[go_sem] def TU:List ((Σ t:Ty,t.den)×pL)->Nat->Option qJ
 |[],_=>none
 |(⟨t,x⟩,k)::_,0=>some ⟨[],aIE t x k,[],[]⟩
 |_::r,n+1=>TU r n
@[go_sem] def a9G (b:Bool) (p c:Int):Nat->Option qJ
 |0=>some ⟨[],(.val .bool b,none),[],[]⟩
 |1=>some ⟨[b=true],(.val (.int .i64) p,none),[],[]⟩
 |2=>some ⟨[b=true],(.val (.int .i32) c,none),[],[]⟩
 |_=>none
@[go_sem] def Z3 (i:Nat):pX->Option qJ
 |(.tup l,_)=>TU l i
 |(.nxt b p c,_)=>a9G b p c i
 |_=>none
@[go_sem] def TV (i:Nat):Option pW->Option qJ
 |some (.map _ _ l)=>some ⟨[],(.val (.int .i64) (List.length l:Int),none),[],[i]⟩
 |_=>none
@[go_sem] def Z4 (H:List (Nat×pW)):Option TI->List pX->Option qJ
 |some ⟨.mp,_,_,_,_⟩,[(.val .mp (some i),_)]=>TV i (pZ H i)
 |some ⟨.str,_,_,_,_⟩,[(.val .str l,_)]=>some ⟨[],(.val (.int .i64) (List.length l:Int),none),[],[]⟩
 |some ⟨.list _,_,_,_,_⟩,[(.val (.list _) l,_)]=>some ⟨[],(.val (.int .i64) (List.length l:Int),none),[],[]⟩
 |some ⟨.list _,_,_,_,_⟩,[(.own _ n,_)]=>some ⟨[],(.val (.int .i64) (n:Int),none),[],[]⟩
 |_,_=>none
@[go_sem] def TW (a:Ty) (l r:List a.den) (k e' by':Nat):Option pW->Option qJ
 |some (.grow e c n)=>if e=e'/\c=a.cells/\0<c/\0<by' then some ⟨[List.length l=n,(List.length l+List.length r)*by'<=140737488355328],(.val (.list a) (l++r),some k),[(k,.grow e c (List.length (l++r)))],[k]⟩ else none
 |_=>none
@[go_sem] def TX (b:Ty) (r:List b.den) (k n e' by':Nat):Option pW->Option qJ
 |some (.row e t l m)=>if h:b=t then(if e=e'/\0<t.cells/\0<by' then some ⟨[n=m,(n+List.length r)*by'<=140737488355328],(.own k (List.length (l++tZ (t:= .list b) (u:= .list t) (by rw[h]) r)),none),[(k,.row e t (l++tZ (t:= .list b) (u:= .list t) (by rw[h]) r) (List.length (l++tZ (t:= .list b) (u:= .list t) (by rw[h]) r)))],[k]⟩ else none) else none
 |_=>none
@[go_sem] def TY (H:List (Nat×pW)):Option TI->List pX->Option qJ
 |some ⟨.list u,e,by',_,_⟩,[(.own k n,_),(.val (.list b) r,_)]=>if b=u then TX b r k n e by' (pZ H k) else none
 |some ⟨.list u,e,by',_,_⟩,[(.val (.list a) l,some k),(.val (.list b) r,_)]=>if h:b=a/\a=u then TW a l (tZ (t:= .list b) (u:= .list a) (by rw[h.1]) r) k e by' (pZ H k) else none
 |_,_=>none
@[go_sem] def TZ (mx:Bool):List pX->Option (List Prop×DV)
 |[(.val (.int k) a,_),(.val (.int k') b,_)]=>if k=k' then some ([],.val (.int k) (if mx then max (a:Int) b else min (a:Int) b)) else none
 |_=>none
@[go_sem] def Z5:pH->List pX
 |[]=>[]
 |c::r=>(.val .ref (some c),none)::Z5 r
@[go_sem] def U0 (H:List (Nat×pW)) (base:Nat) (args:List pX) (g:r7):Option ((t:Ty)->List t.den->Option (List t.den))->Option qJ
 |some F=>T6 H F args
 |none=>a9p H base args g (PF g.ps args)
@[go_sem] def K8 (H:List (Nat×pW)) (base:Nat) (args:List pX):Option r7->Option qJ
 |some g=>U0 H base args g g.row
 |none=>none
@[go_sem] def HU (Γ:sV) (f:Nat):Option r7:=if f<1000000000 then Γ f else none
@[go_sem] def K9 (Γ:sV) (H:List (Nat×pW)) (base:Nat) (args:List pX):pX->Option qJ
 |(.val .clo (some (f,caps)),_)=>K8 H base (args++Z5 caps) (HU Γ f)
 |(.val .fn (some f),_)=>K8 H base args (HU Γ f)
 |_=>none
@[go_sem] def BJ (T:sI) (ρ:Operand->pX):List Operand->List TypeId->List pX
 |x::xs,t::ts=>MO (rO T t) (ρ x)::BJ T ρ xs ts
 |_,_=>[]
@[go_sem] def vK (ρ:Operand->pX):List Operand->List pX
 |[]=>[]
 |x::xs=>ρ x::vK ρ xs
@[go_sem] def u7 (ρ:Operand->pX):List (Nat×Operand)->List (Nat×pX)
 |[]=>[]
 |(i,x)::xs=>(i,ρ x)::u7 ρ xs
@[go_sem] def zL (ρ:Operand->pX):Option Operand->Option pX
 |some x=>some (ρ x)
 |none=>none
@[go_sem] def U1 (T:sI) (H:List (Nat×pW)) (ss:List pX):List TypeId->Option qJ
 |t::_=>Z4 H (rO T t) ss
 |[]=>none
@[go_sem] def U3 (l:pI) (s:p8) (k e':Nat):Option pW->Option qJ
 |some (.grow e c n)=>if e=e'/\c=1 then some ⟨[List.length l=n,List.length l+List.length s<=140737488355328],(.val (.list (.int .u8)) (l++uN s),some k),[(k,.grow e c (List.length (l++uN s)))],[k]⟩ else none
 |_=>none
@[go_sem] def Z6 (H:List (Nat×pW)):Option TI->Option TI->List pX->Option qJ
 |some ⟨.list (.int .u8),e,1,_,_⟩,some ⟨.str,_,_,_,_⟩,[(.val (.list (.int .u8)) l,some k),(.val .str s,_)]=>U3 l s k e (pZ H k)
 |_,_,_=>none
@[go_sem] def U4 (T:sI) (H:List (Nat×pW)) (ss:List pX):List TypeId->Option qJ
 |[t,u]=>if t=u then TY H (rO T t) ss else Z6 H (rO T t) (rO T u) ss
 |_=>none
@[go_sem] def KA:List Operand->List TypeId->Bool
 |[],[]=>true
 |_::xs,_::ts=>KA xs ts
 |_,_=>false
@[go_sem] def Z7:List pX->Option TI->Option qJ
 |[(.val .ref (some p),_)],some ⟨.ap,_,_,_,_⟩=>some ⟨[],(.apd (.val .ref (some p)),none),[],[]⟩
 |[(.elt k n c ix o,_)],some ⟨.ap,_,_,_,_⟩=>some ⟨[],(.apd (.elt k n c ix o),none),[],[]⟩
 |_,_=>none
@[go_sem] def a9H (args:List pX) (ti:Option TI):pH->Option qJ
 |[]=>Z7 args ti
 |_=>none
@[go_sem] def KB (c:Nat) (y1 y2 y3 y4:p8):p8:=if c=1 then y1 else if c=2 then y2 else if c=3 then y3 else y4
@[go_sem] def KC (b:Bool) (z y:p8):p8:=if b=true then z else y
abbrev FZ:Ty:= .pair .str (.pair .str .unit)
def EQ (l:p9):p8:=l.getD (l.length-1) []
def HV (l:List (p8×p8×Unit)):p8:=(l.getD (l.length-1) ([],[],())).2.1
def ER (b:Bool) (z:p8) (l:p9):p9:=if b=true then l.set (l.length-1) z else l
def ES (b:Bool) (z:p8) (l:List (p8×p8×Unit)):List (p8×p8×Unit):=if b=true then l.set (l.length-1) ((l.getD (l.length-1) ([],[],())).1,z,()) else l
@[go_sem] def Z8 (c i k3 n3 k4 n4:Nat) (u:Ty) (ts:pH) (e3:Nat) (l3:p9) (m3 e4:Nat) (l4:List (p8×p8×Unit)) (m4:Nat) (z:p8) (b:Bool) (sd:List Prop):Option u.den->Option qJ
 |some x=>some ⟨(c≠0)::(n3=m3)::(n4=m4)::((z.length:Int)<=9223372036854775807)::sd,(.val .bool b,none),[(i,.cells u x (t6 (t6 ts 6 1) 7 1)),(k3,.row e3 .str (ER (b&&decide (c=3)) z l3) m3),(k4,.row e4 FZ (ES (b&&decide (4<=c)) z l4) m4)],[i,k3,k4]⟩
 |none=>none
@[go_sem] def a9I {u:Ty}(b:Bool) (z:p8) (o:Nat) (x:u.den):Option p8->Option u.den
 |some y=>sD .str (KC b z y) u x o
 |none=>none
@[go_sem] def MZ {u:Ty}(b:Bool) (z:p8) (o:Nat):Option u.den->Option u.den
 |some x=>a9I b z o x (qT .str u x o)
 |none=>none
@[go_sem] def Z9 (c i k3 n3 k4 n4:Nat) (u:Ty) (x:u.den) (ts:pH) (e3:Nat) (l3:p9) (m3 e4:Nat) (l4:List (p8×p8×Unit)) (m4:Nat) (z:p8):Option qI->Option qJ
 |some ⟨sd,[(.val .bool b,none)],[]⟩=>Z8 c i k3 n3 k4 n4 u ts e3 l3 m3 e4 l4 m4 z b sd (MZ (b&&decide (c=2)) z 7 (MZ (b&&decide (c=1)) z 6 (some x)))
 |_=>none
@[go_sem] def ZA (Γ:sV) (c i k3 n3 k4 n4:Nat) (s:p8) (u:Ty) (x:u.den) (ts:pH) (e3:Nat) (l3:p9) (m3 e4:Nat) (l4:List (p8×p8×Unit)) (m4:Nat):Option r7->Option p8->Option p8->Option qJ
 |some g,some y1,some y2=>Z9 c i k3 n3 k4 n4 u x ts e3 l3 m3 e4 l4 m4 (KB c y1 y2 (EQ l3) (HV l4)++s) (g.C [(.val .str (KB c y1 y2 (EQ l3) (HV l4)++s),none)] [])
 |_,_,_=>none
@[go_sem] def ZB (Γ:sV) (c i k3 n3 k4 n4:Nat) (s:p8) (u:Ty) (x:u.den) (ts:pH):Option pW->Option pW->Option qJ
 |some (.row e3 .str l3 m3),some (.row e4 (.pair .str (.pair .str .unit)) l4 m4)=>ZA Γ c i k3 n3 k4 n4 s u x ts e3 l3 m3 e4 l4 m4 (HU Γ FS) (qT .str u x 6) (qT .str u x 7)
 |_,_=>none
@[go_sem] def ZC (i k3 k4:Nat):Bool:=if i=k3 then false else if i=k4 then false else if k3=k4 then false else true
@[go_sem] def U5 (Γ:sV) (H:List (Nat×pW)) (c i k3 n3 k4 n4:Nat) (s:p8):Option pW->Bool->Option qJ
 |some (.cells u x ts),true=>ZB Γ c i k3 n3 k4 n4 s u x ts (pZ H k3) (pZ H k4)
 |_,_=>none
@[go_sem] def KD (Γ:sV) (H:List (Nat×pW)):Nat×Nat×(Nat×Nat)×(Nat×Nat)->List pX->Option TI->Option qJ
 |(c,i,(k3,n3),(k4,n4)),[(.val .str s,_)],some ⟨.ap,_,_,_,_⟩=>U5 Γ H c i k3 n3 k4 n4 s (pZ H i) (ZC i k3 k4)
 |_,_,_=>none
@[go_sem] def ZD (T:sI) (Γ:sV) (base:Nat) (H:List (Nat×pW)) (args:List pX) (f:Nat) (caps:pH):Option qJ:=
 if f=HM then a9H args (rO T JU) caps else K9 Γ H base args (.val .clo (some (f,caps)),none)
@[go_sem] def N0 (T:sI) (Γ:sV) (base:Nat) (H:List (Nat×pW)) (args:List pX):pX->Option qJ
 |(.val .ap x,_)=>KD Γ H x args (rO T JU)
 |(.val .clo (some (f,caps)),_)=>ZD T Γ base H args f caps
 |s=>K9 Γ H base args s
@[go_sem] def ZE (T:sI) (Γ:sV) (ρ:Operand->pX) (base:Nat) (H:List (Nat×pW)) (args:List Operand) (tys:List TypeId) (f:pX):Bool->Option qJ
 |true=>N0 T Γ base H (BJ T ρ args tys) f
 |false=>none
@[go_sem] def KE (T:sI) (Γ:sV) (ρ:Operand->pX) (base:Nat) (H:List (Nat×pW)) (args:Array Operand) (tys:Array TypeId):Callee->Option qJ
 | .builtin .len=>U1 T H (vK ρ args.toList) tys.toList
 | .builtin .append=>U4 T H (vK ρ args.toList) tys.toList
 | .builtin .max=>AI (TZ true (vK ρ args.toList))
 | .builtin .min=>AI (TZ false (vK ρ args.toList))
 | .value f=>ZE T Γ ρ base H args.toList tys.toList (ρ f) (KA args.toList tys.toList)
 |_=>none
@[go_sem] def DD:Ty->Bool
 | .int _| .str| .bool=>true
 |_=>false
def G0:(k:Ty)->k.den->k.den->Bool
 | .int _,a,b=>decide ((a:Int)=b)
 | .str,a,b=>decide ((a:p8)=b)
 | .bool,a,b=>a==b
 |_,_,_=>false
def sF (k v:Ty):List (k.den×v.den)->k.den->v.den
 |[],_=>v.zero
 |(x,y)::r,a=>if G0 k a x=true then y else sF k v r a
def ET (k v:Ty):List (k.den×v.den)->k.den->Bool
 |[],_=>false
 |(x,_)::r,a=>if G0 k a x=true then true else ET k v r a
def sT (k v:Ty) (a:k.den) (b:v.den):List (k.den×v.den)->List (k.den×v.den)
 |[]=>[(a,b)]
 |(x,y)::r=>if G0 k a x=true then(a,b)::r else(x,y)::sT k v a b r
@[go_sem] def a9J (base:Nat):Option TI->Option TI->Option qJ
 |some k,some v=>if DD k.ty=true then some ⟨[],(.val .mp (some base),none),[(base,.map k.ty v.ty [])],[]⟩ else none
 |_,_=>none
@[go_sem] def ZF (T:sI) (base:Nat):Option TI->Option Operand->Option qJ
 |some ⟨.mp,e,f,_,_⟩,none=>a9J base (rO T e) (rO T f)
 |_,_=>none
@[go_sem] def U6 (k:Ty) (a:k.den) (u:Ty) (i:Nat) (ok:Bool):Option pW->Option qJ
 |some (.map k' v l)=>if h:k=k'/\v=u then(if DD k=true then(match ok with
   |true=>some ⟨[],(.tup [(⟨v,sF k' v l (tZ h.1 a)⟩,none),(⟨.bool,ET k' v l (tZ h.1 a)⟩,none)],none),[],[i]⟩
   |false=>some ⟨[],(.val v (sF k' v l (tZ h.1 a)),none),[],[i]⟩) else none) else none
 |_=>none
@[go_sem] def ZG (H:List (Nat×pW)) (ok:Bool) (i:Nat):Option TI->Option TI->pX->Option qJ
 |some kt,some vt,(.val k a,_)=>if k=kt.ty then U6 k a vt.ty i ok (pZ H i) else none
 |_,_,_=>none
@[go_sem] def a9K (ok:Bool):Option TI->Option TI->pX->Option qJ
 |some kt,some vt,(.val k _,_)=>if k=kt.ty then(if DD k=true then(match ok with
   |true=>some ⟨[],(.tup [(⟨vt.ty,vt.ty.zero⟩,none),(⟨.bool,false⟩,none)],none),[],[]⟩
   |false=>some ⟨[],(.val vt.ty vt.ty.zero,none),[],[]⟩) else none) else none
 |_,_,_=>none
@[go_sem] def U7 (T:sI) (H:List (Nat×pW)) (ok:Bool):Option TI->pX->pX->Option qJ
 |some ⟨.mp,e,f,_,_⟩,(.val .mp (some i),_),s=>ZG H ok i (rO T e) (rO T f) s
 |some ⟨.mp,e,f,_,_⟩,(.val .mp none,_),s=>a9K ok (rO T e) (rO T f) s
 |_,_,_=>none
@[go_sem] def N1 (k:Ty) (a:k.den) (u:Ty) (b:u.den) (i:Nat):Option pW->Option qJ
 |some (.map k' v l)=>if h:k=k'/\u=v then(if DD k=true then some ⟨[],(.any,none),[(i,.map k' v (sT k' v (tZ h.1 a) (tZ h.2 b) l))],[i]⟩ else none) else none
 |_=>none
@[go_sem] def U8 (H:List (Nat×pW)) (i:Nat):Option TI->pX->pX->Option qJ
 |some kt,(.val k a,_),(.val u b,_)=>if k=kt.ty then N1 k a u b i (pZ H i) else none
 |_,_,_=>none
@[go_sem] def a9L:Option TI->pX->pX
 |some ⟨.fn,_,_,_,_⟩,(.val .clo (some (f,[])),_)=>(.val .fn (some f),none)
 |_,s=>s
@[go_sem] def U9 (T:sI):Option TI->pX->pX
 |some ⟨.mp,_,f,_,_⟩,s=>a9L (rO T f) s
 |_,s=>s
@[go_sem] def N2 (T:sI) (H:List (Nat×pW)):Option TI->pX->pX->pX->Option qJ
 |some ⟨.mp,e,_,_,_⟩,(.val .mp (some i),_),s,x=>U8 H i (rO T e) s x
 |_,_,_,_=>none
def wU (s:p8) (p:Nat):Int:=((Utf8.decode ⟨s.toArray⟩ p).1:Int)
def ZH (s:p8) (p:Nat):Nat:=(Utf8.decode ⟨s.toArray⟩ p).2
def AN (s:p8) (p:Nat):Nat:=if p<s.length then p+ZH s p else p
@[go_sem] def ZI (base:Nat):Option TI->pX->Option qJ
 |some ⟨.str,_,_,_,_⟩,(.val .str s,_)=>some ⟨[],(.val .ref (some (base,0)),none),[(base,.iter s 0)],[]⟩
 |_,_=>none
@[go_sem] def ZJ (i:Nat):Option pW->Option qJ
 |some (.iter s p)=>some ⟨[],(.nxt (decide (p<List.length s)) ((p:Nat):Int) (wU s p),none),[(i,.iter s (AN s p))],[i]⟩
 |_=>none
@[go_sem] def UA (H:List (Nat×pW)):Bool->pX->Option qJ
 |true,(.val .ref (some (i,0)),_)=>ZJ i (pZ H i)
 |_,_=>none
@[go_sem] def uA (T:sI) (Γ:sV) (ty:TypeId) (ρ:Operand->pX) (base:Nat) (H:List (Nat×pW)):Op->Option qJ
 | .move x| .assign x=>Y9 base (rO T ty) (ρ x)
 | .alloc e=>PL base e (rO T e)
 | .box e x=>YE base e (rO T e) (ρ x)
 | .build t ps=>YH (u7 ρ ps.toList) (rO T t)
 | .buildSlice t n ps=>YI base n (u7 ρ ps.toList) (rO T t)
 | .load t a=>TH H (rO T t) (ρ a)
 | .store t a x=>TR base H (rO T t) (ρ a) (MO (rO T t) (ρ x))
 | .nilCheck x=>YY (ρ x)
 | .binOp op t x y _=>AI (XZ (SM op (rO T t) (ρ x) (ρ y)) (XZ (SL op (ρ x) (ρ y)) (XY (rO T t) op (ρ x) (ρ y))))
 | .unOp op _ x=>AI (Y0 op (ρ x))
 | .convert src dst x=>AI (XZ (SO (rO T src) (rO T dst) (ρ x)) (Y1 T (rO T src) (rO T dst) (ρ x)))
 | .makeFunc (.func f) first caps=>aIB f (JW (vK ρ caps.toList)) first.toList
 | .slice t x lo hi none=>AI (Y2 (rO T t) (ρ x) (zL ρ lo) (zL ρ hi))
 | .fieldAddr t x f=>YZ f (rO T t) (ρ x)
 | .field t x f=>Z0 f (rO T t) (ρ x)
 | .indexAddr t x ix=>Z1 (rO T t) (ρ x) (ρ ix)
 | .index t x ix=>Z2 (rO T t) (ρ x) (ρ ix)
 | .extract x i=>Z3 i (ρ x)
 | .makeMap t r=>ZF T base (rO T t) r
 | .range t x=>ZI base (rO T t) (ρ x)
 | .next x b=>UA H b (ρ x)
 | .lookup t x i ok=>U7 T H ok (rO T t) (ρ x) (ρ i)
 | .mapUpdate t m k x=>N2 T H (rO T t) (ρ m) (ρ k) (U9 T (rO T t) (ρ x))
 | .insert t m k x=>N2 T H (rO T t) (ρ m) (ρ k) (U9 T (rO T t) (ρ x))
 | .call c=>KE T Γ ρ base H c.args c.argTypes c.callee
 |_=>none
@[go_sem] def sM:pX->pX
 |(.cond _ d,_)=>(d,none)
 |s=>s
@[go_sem] def yT (G:Bool):List pX->List Prop
 |[]=>[]
 |(.cond p _,_)::r=>(G=true->p=true)::yT G r
 |_::r=>yT G r
@[go_sem] def a9M (b:Bool):pX->Option Bool
 |(.val .bool c,_)=>some (c==b)
 |(.cond p (.val .bool c),_)=>some (p&&(c==b))
 |_=>none
@[go_sem] def zW:List Oper->Nat->Option Tmp
 |[],_=>none
 |o::_,0=>o.dst
 |_::r,n+1=>zW r n
@[go_sem] def G1 (env:List (Nat×pX)) (b:Bool):Option Tmp->Option Bool
 |some t=>a9M b (lk env t)
 |none=>none
@[go_sem] def a9N (b:Bool):pX->Bool
 |(.val .bool c,_)=>c==b
 |(.cond p (.val .bool c),_)=>p&&(c==b)
 |(.cond p .any,_)=>p
 |_=>true
@[go_sem] def KF (env:List (Nat×pX)) (b:Bool):Option Tmp->Bool
 |some t=>a9N b (lk env t)
 |none=>true
@[go_sem] def UB (j:Nat) (b:Bool):Nat:=1000000000+(2*j+if b=true then 1 else 0)
@[go_sem] theorem aP5 (x y:Bool):cond x y false=(x&&y):=by cases x<;>rfl
@[go_sem] theorem aP6 (x y:Bool):cond x true y=(x||y):=by cases x<;>rfl
@[go_sem] def a9O (x:Bool):pX->pX->Option qJ
 |(.val .bool y,_),(.val .bool z,_)=>some ⟨[],(.val .bool (cond x y z),none),[],[]⟩
 |(.cond p (.val .bool y),_),(.val .bool z,_)=>some ⟨[x=true->p=true],(.val .bool (cond x y z),none),[],[]⟩
 |(.val .bool y,_),(.cond p (.val .bool z),_)=>some ⟨[x=false->p=true],(.val .bool (cond x y z),none),[],[]⟩
 |(.cond q (.val .bool y),_),(.cond p (.val .bool z),_)=>some ⟨[x=true->q=true,x=false->p=true],(.val .bool (cond x y z),none),[],[]⟩
 |(.val .bool y,_),(.cond _ .any,_)=>some ⟨[x=true],(.val .bool y,none),[],[]⟩
 |(.cond q (.val .bool y),_),(.cond _ .any,_)=>some ⟨[x=true,q=true],(.val .bool y,none),[],[]⟩
 |(.cond _ .any,_),(.val .bool z,_)=>some ⟨[x=false],(.val .bool z,none),[],[]⟩
 |(.cond _ .any,_),(.cond p (.val .bool z),_)=>some ⟨[x=false,p=true],(.val .bool z,none),[],[]⟩
 |_,_=>none
@[go_sem] def PR:pX->pX->pX->Option qJ
 |(.val .bool x,_),a,b=>a9O x a b
 |_,_,_=>none
@[go_sem] def sH:Op->List Operand
 | .move x| .assign x| .box _ x| .load _ x| .nilCheck x| .unOp _ _ x| .convert _ _ x| .fieldAddr _ x _| .field _ x _| .extract x _=>[x]
 | .build _ ps| .buildSlice _ _ ps=>parts ps.toList
 | .store _ a v| .binOp _ _ a v _| .indexAddr _ a v| .index _ a v=>[a,v]
 | .lookup _ a v _=>[a,v]
 | .range _ x| .next x _=>[x]
 | .mapUpdate _ m k x=>[m,k,x]
 | .insert _ m k x=>[m,k,x]
 | .makeFunc _ _ caps=>caps.toList
 | .slice _ x l h _=>x::qS (opt l) (opt h)
 | .call ⟨.value f,args,_⟩=>f::args.toList
 | .call ⟨_,args,_⟩=>args.toList
 |_=>[]
where
 parts:List (Nat×Operand)->List Operand
  |[]=>[]
  |(_,x)::r=>x::parts r
 opt:Option Operand->List Operand
  |some x=>[x]
  |none=>[]
attribute [go_sem] sH.parts sH.opt
@[go_sem] def N3 (l:List Prop):Option qJ->Option qJ
 |some e=>some ⟨qS l e.side,e.slot,e.upd,e.rds⟩
 |none=>none
@[go_sem] def PS (G:Bool):List Prop->List Prop
 |[]=>[]
 |p::r=>(G=true->p)::PS G r
@[go_sem] def HW (G:Bool) (l:List Prop):Option qJ->Option qJ
 |some ⟨side,(d,_),[],rds⟩=>some ⟨qS l (PS G side),(.cond G d,none),[],rds⟩
 |some ⟨side,s,u::us,rds⟩=>some ⟨(G=true)::qS l (PS G side),s,u::us,rds⟩
 |none=>none
@[go_sem] def C9 (env:List (Nat×pX)):List Operand->List pX
 |[]=>[]
 |x::r=>tU env x::C9 env r
@[go_sem] def N4 (T:sI) (Γ:sV) (o:Oper) (s:St):Option Bool->Op->Option qJ
 |some G,.pick c a b=>HW G (yT G [tU s.env c]) (PR (sM (tU s.env c)) (tU s.env a) (tU s.env b))
 |some G,op=>HW G (yT G (C9 s.env (sH op))) (uA T Γ o.type (fun x=>sM (tU s.env x)) s.nb s.H op)
 |none,_=>none
@[go_sem] def a9P:Op->Bool
 | .defer _=>true
 |_=>false
@[go_sem] def a9Q (up:Bool):Bool->Option qJ
 |true=>none
 |false=>some ⟨[up=false],(.cond false .any,none),[],[]⟩
@[go_sem] def PT (T:sI) (Γ:sV) (o:Oper) (s:St) (up:Bool) (g:Option Bool) (op:Op):Option r7->Option qJ
 |some _=>a9Q up (a9P op)
 |none=>N4 T Γ o s g op
@[go_sem] def N5 (T:sI) (Γ:sV) (o:Oper) (s:St):Op->Option qJ
 | .pick c a b=>PR (tU s.env c) (tU s.env a) (tU s.env b)
 |op=>N3 (yT true (C9 s.env (sH op))) (uA T Γ o.type (fun x=>sM (tU s.env x)) s.nb s.H op)
@[go_sem] def HY (np:Nat):List (Nat×pW)->Bool
 |[]=>true
 |(i,.cells _ _ _)::r=>if np<=i then HY np r else false
 |_::r=>HY np r
@[go_sem] def a9R (np:Nat) (e:qJ):Bool->Option qJ
 |true=>if HY np e.upd=true then some e else none
 |false=>some e
@[go_sem] def ZK (np:Nat):Option qJ->Option qJ
 |some e=>a9R np e (HP e.rds)
 |none=>none
@[go_sem] def N6 (T:sI) (Γ:sV) (ops:List Oper) (o:Oper) (s:St):Option qJ:=
 match o.guard with
 |none=>N5 T Γ o s o.op
 |some (j,b)=>PT T Γ o s (KF s.env b (zW ops j)) (G1 s.env b (zW ops j)) o.op (Γ (UB j b))
@[go_sem] def zM (T:sI) (Γ:sV) (ops:List Oper) (o:Oper) (s:St):Option qJ:=ZK s.np (N6 T Γ ops o s)
@[go_sem] def uL:Option Tmp->pX->List (Nat×pX)->List (Nat×pX)
 |some d,s,env=>(d,s)::env
 |none,_,env=>env
structure vT where
 s:St
 side:List Prop
 es:List qJ
@[go_sem] def HZ (N:Nat):Option Tmp->Bool
 |some d=>decide (d<N)
 |none=>true
@[go_sem] def I0 (n:Nat):List (Nat×pW)->Bool
 |[]=>true
 |(i,_)::r=>decide (i<n)&&I0 n r
@[go_sem] def CA (i:Nat):pM->Bool
 |[]=>false
 |j::r=>if j=i then zV i r else CA i r
@[go_sem] def KG (H U:List (Nat×pW)) (rds:pM):List (Nat×pW)->List Prop
 |[]=>[]
 |(i,_)::r=>if CA i rds=true then(pZ U i=pZ H i)::KG H U rds r else KG H U rds r
@[go_sem] def I1 (rds:pM):List (Nat×pW)->List (Nat×pW)
 |[]=>[]
 |(i,b)::r=>if CA i rds=true then I1 rds r else(i,b)::I1 rds r
@[go_sem] def xO (e:qJ):List (Nat×pW):=I1 e.rds e.upd
@[go_sem] def UC (o:Oper) (a:vT):Option qJ->Option vT
 |some e=>if (HZ a.s.N o.dst&&I0 (a.s.nb+32) e.upd)=true then some ⟨⟨uL o.dst e.slot a.s.env,qS e.upd a.s.H,a.s.nb+32,a.s.N,a.s.np⟩,qS a.side (qS (KG a.s.H e.upd e.rds e.upd) e.side),e::a.es⟩ else none
 |none=>none
@[go_sem] def uO (T:sI) (Γ:sV) (ops:List Oper):List Oper->Option vT->Option vT
 |[],a=>a
 |o::r,some a=>uO T Γ ops r (UC o a (zM T Γ ops o a.s))
 |_::_,none=>none
@[go_sem] def PU:List (Nat×pW)->pM->Bool
 |[],_=>false
 |(i,_)::r,l=>l.contains i||PU r l
@[go_sem] def G2 (a b:qJ):Bool:= !PU (xO a) (qS b.rds (qB b.upd))&& !PU (xO b) a.rds
def KH (lo:Nat):List (Nat×pW)->Bool
 |[]=>true
 |(i,_)::r=>(decide (i<lo)||decide (lo+32<=i))&&KH lo r
def UD (i0 j0:Nat) (ops:Array Oper) (bs:pM) (nb i:Nat) (o:Oper) (e:qJ):List Oper->List qJ->Nat->Bool
 |p::ps,f::fs,j=>((bs.getD j 0).testBit i||(o.apart ops p&&(G2 e f||(decide (i=i0)&&decide (j=j0)))&&KH (nb+32*i) f.upd))&&UD i0 j0 ops bs nb i o e ps fs (j+1)
 |_,_,_=>true
def UE (i0 j0:Nat) (ops:Array Oper) (bs:pM) (nb:Nat):List Oper->List qJ->Nat->Bool
 |o::os,e::es,i=>UD i0 j0 ops bs nb i o e os es (i+1)&&UE i0 j0 ops bs nb os es (i+1)
 |_,_,_=>true
def UF:List Oper->Nat->Bool
 |[],_=>true
 |o::r,i=>o.after.toList.all (fun e=> !Region.binds .any e||decide (e.on<i))&&UF r (i+1)
def UG (i0 j0:Nat) (ops:Array Oper) (nb:Nat) (es:List qJ):Bool:=UF ops.toList 0&&UE i0 j0 ops (Region.before ops).toList nb ops.toList es 0
def KI (ops:Array Oper) (nb:Nat) (es:List qJ):Bool:=UG ops.size 0 ops nb es
@[go_sem] def a9S (ops:Array Oper) (nb:Nat):Option vT->Option vT
 |some a=>if KI ops nb a.es.reverse then some a else none
 |none=>none
@[go_sem] def PV (T:sI) (Γ:sV) (ops:Array Oper) (s:St):Bool->Option vT
 |true=>a9S ops s.nb (uO T Γ ops.toList ops.toList (some ⟨s,[],[]⟩))
 |false=>uO T Γ ops.toList ops.toList (some ⟨s,[],[]⟩)
inductive Ex where
 |normal|exit (id:Nat) |ret
structure w4 where
 slots:pM
 ids:pH:=[]
@[go_sem] def w5:pH->Nat->pL
 |[],_=>none
 |(n,o)::r,k=>if o=k then some n else w5 r k
@[go_sem] def a9T (m:pH):pK->pK
 |some (i,o)=>(w5 m i).map fun j=>(j,o)
 |none=>none
@[go_sem] def CB (m:pH):pH->Option pH
 |[]=>some []
 |(i,o)::r=>renCons (w5 m i) o (CB m r)
where
 renCons:pL->Nat->Option pH->Option pH
  |some j,o,some r=>some ((j,o)::r)
  |_,_,_=>none
attribute [go_sem] CB.renCons
@[go_sem] def a9U (m:pH):pL->pL
 |some k=>w5 m k
 |none=>none
@[go_sem] def aIF (n:Nat):pL->pX
 |some k=>(.own k n,none)
 |none=>(.any,none)
@[go_sem] def a9V (m:pH):Option (Nat×pH)->Option (Option (Nat×pH))
 |none=>some none
 |some (f,l)=>(CB m l).map fun l'=>some (f,l')
@[go_sem] def UH (m:pH):pK->Option pK
 |none=>some none
 |some (i,o)=>(w5 m i).map fun j=>some (j,o)
@[go_sem] def a9W (m:pH):pL->Option pL
 |none=>some none
 |some i=>(w5 m i).map some
@[go_sem] def a9X (m:pH):pK->Option pK
 |none=>some none
 |some (k,n)=>(w5 m k).map fun j=>some (j,n)
@[go_sem] def ZL (c n3 n4:Nat):pL->pL->pL->Option (Nat×Nat×(Nat×Nat)×(Nat×Nat))
 |some i,some k3,some k4=>some (c,i,(k3,n3),(k4,n4))
 |_,_,_=>none
@[go_sem] def a9Y (m:pH):Nat×Nat×(Nat×Nat)×(Nat×Nat)->Option (Nat×Nat×(Nat×Nat)×(Nat×Nat))
 |(c,i,(k3,n3),(k4,n4))=>ZL c n3 n4 (w5 m i) (w5 m k3) (w5 m k4)
@[go_sem] def yU (m:pH):(t:Ty)->t.den->Option t.den
 | .ref,x=>UH m x
 | .clo,x=>a9V m x
 | .mp,x=>a9W m x
 | .pair a b,x=>EM (if a.pure=true then some x.1 else yU m a x.1) (if b.pure=true then some x.2 else yU m b x.2)
 | .list t,x=>if t.pure=true then some x else none
 | .bool,x=>some x
 | .int _,x=>some x
 | .str,x=>some x
 | .unit,x=>some x
 | .rl _ _,x=>a9X m x
 | .fn,x=>some x
 | .mref,x=>UH m x
 | .ap,x=>a9Y m x
@[go_sem] def zX (m:pH):pX->pX
 |(.own k n,_)=>aIF n (w5 m k)
 |(.val .ref none,_)=>(.val .ref none,none)
 |(.val .ref (some p),_)=>refSlot (a9T m (some p))
 |(.val .clo (some (f,l)),_)=>cloSlot f (CB m l)
 |(.val .mp (some i),_)=>mpSlot (w5 m i)
 |(.val t x,k)=>if t.pure then(.val t x,a9U m (EK t k)) else valSlot t (yU m t x)
 |(.at t x,_)=>if t.pure then(.at t x,none) else(.any,none)
 |(.nilS,_)=>(.nilS,none)
 |_=>(.any,none)
where
 refSlot:pK->pX
  |some p=>(.val .ref (some p),none)
  |none=>(.any,none)
 cloSlot (f:Nat):Option pH->pX
  |some l=>(.val .clo (some (f,l)),none)
  |none=>(.any,none)
 valSlot (t:Ty):Option t.den->pX
  |some y=>(.val t y,none)
  |none=>(.any,none)
 mpSlot:pL->pX
  |some j=>(.val .mp (some j),none)
  |none=>(.any,none)
attribute [go_sem] zX.refSlot zX.cloSlot zX.mpSlot zX.valSlot
@[go_sem] def UI (q j:Nat):pH->pH
 |[]=>[(q,j)]
 |(a,b)::r=>if q<=a then(q,j)::(a,b)::r else(a,b)::UI q j r
@[go_sem] def KJ (m:pH):pH->pH
 |[]=>[]
 |(q,k)::r=>renTok1 q (w5 m k) (KJ m r)
where
 renTok1 (q:Nat):pL->pH->pH
  |some j,r=>UI q j r
  |none,r=>r
attribute [go_sem] KJ.renTok1
@[go_sem] def ZM (t:Ty) (toks:pH):Option t.den->pW
 |some y=> .cells t y toks
 |none=> .dead
def yV (m:pH):Option pW->pW
 |some (.cells t x toks)=>if t.pure then .cells t x (KJ m toks) else ZM t (KJ m toks) (yU m t x)
 |some (.grow e c n)=> .grow e c n
 |some (.row e t l n)=>if t.pure then .row e t l n else .dead
 |some (.map k v l)=>if k.pure&&v.pure then .map k v l else .dead
 |some (.iter s p)=> .iter s p
 |_=> .dead
attribute [go_sem] yV.eq_1 yV.eq_2 yV.eq_3 yV.eq_4 yV.eq_5 yV.eq_6
@[go_sem] def PW (m:pH) (env:List (Nat×pX)):pM->List (Nat×pX)
 |[]=>[]
 |t::r=>(t,zX m (lk env t))::PW m env r
@[go_sem] def UJ (m:pH) (H:List (Nat×pW)):pH->List (Nat×pW)
 |[]=>[]
 |(n,o)::r=>(n,yV m (pZ H o))::UJ m H r
@[go_sem] def UK:pH->Nat
 |[]=>0
 |(n,_)::r=>max (n+1) (UK r)
@[go_sem] def N7 (n o:Nat):pH->Bool
 |[]=>false
 |(n',o')::r=>decide (n'=n)||decide (o'=o)||N7 n o r
@[go_sem] def wV (np:Nat):pH->Bool
 |[]=>true
 |(n,o)::r=>(decide (np<=n)||decide (n=o))&& !N7 n o r&&wV np r
@[go_sem] def PX (s:St) (k:w4):Bool->St
 |true=>⟨PW k.ids s.env k.slots,UJ k.ids s.H k.ids,max s.np (UK k.ids),s.N,s.np⟩
 |false=>⟨[],[],s.nb,s.N,s.np⟩
@[go_sem] def St.keep (s:St) (k:w4):St:=PX s k (wV s.np k.ids)
@[go_sem] def r8:List Prop->Prop
 |[]=>True
 |[p]=>p
 |p::q::r=>p/\r8 (q::r)
@[go_sem] def a9Z (Q:Ex->St->Prop):Option vT->Prop
 |some a=>r8 a.side/\Q .normal a.s
 |none=>False
@[go_sem] def a90 (A B:Prop):pX->Prop
 |(.val .bool x,_)=>(x=true->A)/\(x=false->B)
 |(.flag p q,_)=>(p->A)/\(q->B)
 |_=>False
@[go_sem] def PY (f:St->Prop) (Q:Ex->St->Prop):Ex->St->Prop
 | .normal,s=>f s
 | .exit j,s=>Q (.exit j) s
 | .ret,s=>Q .ret s
@[go_sem] def KK (id:Nat) (Q:Ex->St->Prop):Ex->St->Prop
 | .normal,s=>Q .normal s
 | .exit j,s=>if j=id then Q .normal s else Q (.exit j) s
 | .ret,s=>Q .ret s
@[go_sem] def aIG (I:St->Prop) (μ:St->Nat) (m:Nat) (Q:Ex->St->Prop):Ex->St->Prop
 | .normal,s=> ∃k:w4,I (s.keep k)/\μ (s.keep k)<m
 | .exit j,s=>Q (.exit j) s
 | .ret,s=>Q .ret s
def w9 (T:sI) (Γ:sV):Code->St->(Ex->St->Prop)->Prop
 | .skip,s,Q=>Q .normal s
 | .label _,s,Q=>Q .normal s
 | .region _ ops draw,s,Q=>a9Z Q (PV T Γ ops s draw)
 | .seq a b,s,Q=>w9 T Γ a s (PY (fun s'=>w9 T Γ b s' Q) Q)
 | .cond c a b,s,Q=>a90 (w9 T Γ a s Q) (w9 T Γ b s Q) (tU s.env c)
 | .block id c,s,Q=>w9 T Γ c s (KK id Q)
 | .loop c,s,Q=> ∃(k:w4) (I:St->Prop) (μ:St->Nat),I (s.keep k)/\∀s,I s->w9 T Γ c s (aIG I μ (μ s) Q)
 | .exit id,s,Q=>Q (.exit id) s
 | .ret,s,Q=>Q .ret s
 |_,_,_=>False
attribute [go_sem] Ty.list.injEq Ty.pair.injEq Ty.int.injEq
section
variable {T:sI}{Γ:sV}{s:St}{Q:Ex->St->Prop}
theorem aIH {id:Nat}{ops:Array Oper}{a:vT}(h:uO T Γ ops.toList ops.toList (some ⟨s,[],[]⟩)=some a) (hp:r8 a.side) (hq:Q .normal a.s):w9 T Γ (.region id ops false) s Q:=by
 unfold w9 PV;rw[h];exact⟨hp,hq⟩
theorem aII {id:Nat}{ops:Array Oper}{a:vT}(h:uO T Γ ops.toList ops.toList (some ⟨s,[],[]⟩)=some a) (hf:KI ops s.nb a.es.reverse=true) (hp:r8 a.side) (hq:Q .normal a.s):w9 T Γ (.region id ops true) s Q:=by
 unfold w9 PV;rw[h];show a9Z Q (if KI ops s.nb a.es.reverse=true then some a else none);rw[aSj hf];exact⟨hp,hq⟩
end
end Go.Proofs.YtcpbaddnmpeipaaGreatDoor.Vc
namespace Go.Proofs.YtcpbaddnmpeipaaGreatDoor.Vc
open Go.RowKit
abbrev s5:=List (Nat×pW)
structure Pl where
 b:Nat
 o:Nat
 k:Option (TypeId×Nat):=none
structure Gh where
 S:Nat->Nat->Prop
 J:Nat->Option Pl
 cur:Nat->Nat->Option pO
def yJ {α:Type}(R:α->pJ->Prop) (w:pN) (S:Nat->Nat->Prop) (c b:Nat):Nat->List α->Prop
 |_,[]=>True
 |o,x::xs=>(∃cs,cs.length=c/\w.rangeAt b o cs/\(∀j,j<c->S b (o+j))/\R x cs)/\yJ R w S c b (o+c) xs
def yA (g:Gh):pH->pJ->Prop
 |[],vs=>vs=[]
 |(i,o)::l,vs=> ∃p vs',g.J i=some p/\vs= .pointer (some ⟨p.1,p.2+o,none⟩)::vs'/\yA g l vs'
def PZ (g:Gh):pK->pJ->Prop
 |none,cs=>cs=[.pointer none]
 |some (i,o),cs=> ∃p,g.J i=some p/\cs=[.pointer (some ⟨p.1,p.2+o,none⟩)]
def I2 (g:Gh):Option (Nat×pH)->pJ->Prop
 |none,cs=>cs=[.nilFunc]
 |some (f,l),cs=> ∃vs,yA g l vs/\cs=[.func (.func f) #[] vs.toArray]
def KL (g:Gh):pL->pJ->Prop
 |none,cs=>cs=[.map none]
 |some i,cs=> ∃p,g.J i=some p/\cs=[.map (some p.1)]
def ZN (k:Option (TypeId×Nat)) (o:Nat):Prop:=o=0/\∃e,YA e=true/\k=some (e,2)
def BK (g:Gh):pK->pJ->Prop
 |none,cs=>cs=[.slice none 0 0]
 |some (k,n),cs=> ∃v,g.cur k n=some v/\cs=[v]/\((v= .slice none 0 0/\n=0)\/∃b cap,v= .slice (some ⟨b,0,none⟩) n cap/\n<=cap)
def Q0 (g:Gh):pK->pJ->Prop
 |none,cs=>cs=[.pointer none]
 |some (i,o),cs=> ∃p,g.J i=some p/\ZN p.3 (p.2+o)/\(cs=[.pointer none]\/cs=[.pointer (some ⟨p.1,p.2+o,none⟩)])
def EU (g:Gh) (w:pN):Nat×Nat×(Nat×Nat)×(Nat×Nat)->pJ->Prop
 |(c,i,(k3,n3),(k4,n4)),cs=>(c=0/\cs=[.nilFunc])\/(c≠0/\∃b α,cs=[.func (.func HL) #[] #[.pointer (some ⟨b,0,none⟩)]]/\g.S b 0/\w.cell? ⟨b,0,none⟩=some (.pointer (some α))/\
   (c=1->∃p,g.J i=some p/\α=⟨p.1,p.2+aIm,none⟩)/\(c=2->∃p,g.J i=some p/\α=⟨p.1,p.2+aIn,none⟩)/\
   (c=3->∃bb cap,g.cur k3 n3=some (.slice (some ⟨bb,0,none⟩) n3 cap)/\0<n3/\α=⟨bb,n3-1,none⟩)/\
   (4<=c->∃bb cap,g.cur k4 n4=some (.slice (some ⟨bb,0,none⟩) n4 cap)/\0<n4/\α=⟨bb,(n4-1)*2+1,none⟩))
def UL:pL->pJ->Prop
 |none,cs=>cs=[.nilFunc]
 |some f,cs=>cs=[.func (.func f) #[] #[]]
def Rd (g:Gh) (w:pN):(t:Ty)->t.den->pJ->Prop
 | .bool,x,cs=>cs=[.bool x]
 | .int k,n,cs=>cs=[.int k n]
 | .str,l,cs=>cs=[.string ⟨List.toArray l⟩]
 | .list t,l,cs=> ∃a cap,cs=[.slice a (List.length l) cap]/\List.length l<=cap/\(l=[]\/∃b o,a=some ⟨b,o,none⟩/\yJ (Rd g w t) w g.S t.cells b o l)
 | .unit,_,cs=>cs=[]
 | .pair s t,x,cs=> ∃c1 c2,cs=c1++c2/\Rd g w s x.1 c1/\Rd g w t x.2 c2
 | .ref,x,cs=>PZ g x cs
 | .clo,x,cs=>I2 g x cs
 | .mp,x,cs=>KL g x cs
 | .rl _ _,x,cs=>BK g x cs
 | .fn,x,cs=>UL x cs
 | .mref,x,cs=>Q0 g x cs
 | .ap,x,cs=>EU g w x cs
def sW (g:Gh) (w:pN) (t:Ty) (x:t.den) (v:pO):Prop:=
 (t.isRow=true/\∃cs:pJ,v= .agg cs.toArray/\Rd g w t x cs)\/(t.isRow=false/\Rd g w t x [v])
def xP (k:Nat):Ty->Nat->pJ->Prop
 | .list _,o,cs=>o+1=k\/cs=[.slice none 0 0]
 | .pair a b,o,cs=> ∃c1 c2,cs=c1++c2/\c1.length=a.cells/\xP k a o c1/\xP k b (o+a.cells) c2
 |_,_,_=>True
def CW (g:Gh) (t:Ty) (x:t.den) (v:pO):pL->Prop
 |none=>True
 |some k=>match t,x with
  | .list _,l=>g.cur k (List.length l)=some v
  | .pair a b,_=>xP k (.pair a b) 0 v.cells.toList
  |_,_=>False
def I3 (g:Gh) (w:pN):List ((Σ t:Ty,t.den)×pL)->pJ->Prop
 |[],vs=>vs=[]
 |(⟨t,x⟩,k)::l,vs=> ∃v vs',vs=v::vs'/\sW g w t x v/\CW g t x v k/\I3 g w l vs'
def yK (g:Gh) (w:pN):DV->pO->Prop
 | .any,_=>True
 | .nilS,v=>v= .slice none 0 0
 | .val t x,v=>sW g w t x v
 | .at t x,v=> ∃b o cs,v= .pointer (some ⟨b,o,none⟩)/\w.rangeAt b o cs/\(∀j,j<t.cells->g.S b (o+j))/\Rd g w t x cs
 | .tup l,v=> ∃vs:pJ,v= .tuple vs.toArray/\I3 g w l vs
 | .cond p d,v=>(p=true->yK g w d v)/\(p=false->v=undef)
 | .flag p q,v=> ∃b,v= .bool b/\(b=true->p)/\(b=false->q)
 | .own k n,v=>g.cur k n=some v/\((v= .slice none 0 0/\n=0)\/∃b cap,v= .slice (some ⟨b,0,none⟩) n cap/\n<=cap)
 | .nxt b p c,v=>(b=true->v= .tuple #[.bool true,.int .i64 p,.int .i32 c])/\(b=false->v= .tuple #[.bool false])
 | .elt k n c i o,v=> ∃b cap,g.cur k n=some (.slice (some ⟨b,0,none⟩) n cap)/\0<=i/\i<(n:Int)/\v= .pointer (some ⟨b,i.toNat*c+o,none⟩)
 | .apd d,v=> ∃b u,v= .func (.func HL) #[] #[.pointer (some ⟨b,0,none⟩)]/\g.S b 0/\w.cell? ⟨b,0,none⟩=some u/\yK g w d u
def rF (g:Gh) (w:pN) (s:pX) (v:pO):Prop:=
 yK g w s.1 v/\match s with
  |(_,none)=>True
  |(.val t x,some k)=>CW g t x v (some k)
  |(_,some _)=>False
structure Le (g:Gh) (w:pN) (g':Gh) (w':pN):Prop where
 S: ∀b o,g.S b o->g'.S b o
 cell: ∀b o,g.S b o->w'.cell? ⟨b,o,none⟩=w.cell? ⟨b,o,none⟩
 J: ∀i p,g.J i=some p->g'.J i=some p
 cur: ∀k n v,g.cur k n=some v->g'.cur k n=some v
def Le.refl (g:Gh) (w:pN):Le g w g w:=⟨fun _ _ h=>h,fun _ _ _=>rfl,fun _ _ h=>h,fun _ _ _ h=>h⟩
def Le.trans {g g' g'':Gh}{w w' w'':pN}(h:Le g w g' w') (k:Le g' w' g'' w''):Le g w g'' w'':=
 ⟨fun b o x=>k.S b o (h.S b o x),fun b o x=>(k.cell b o (h.S b o x)).trans (h.cell b o x),fun i p x=>k.J i p (h.J i p x),fun i n v x=>k.cur i n v (h.cur i n v x)⟩
def ZO {g g':Gh}(hJ: ∀i p,g.J i=some p->g'.J i=some p): ∀{l:pH}{vs:pJ},yA g l vs->yA g' l vs
 |[],_,h=>h
 |(_,_)::_,_,⟨p,vs',h1,h2,h3⟩=>⟨p,vs',hJ _ _ h1,h2,ZO hJ h3⟩
def aIJ {g g':Gh}(hJ: ∀i p,g.J i=some p->g'.J i=some p): ∀{x:pK}{cs:pJ},PZ g x cs->PZ g' x cs
 |none,_,h=>h
 |some (_,_),_,⟨p,h1,h2⟩=>⟨p,hJ _ _ h1,h2⟩
def aIK {g g':Gh}(hJ: ∀i p,g.J i=some p->g'.J i=some p): ∀{x:Option (Nat×pH)}{cs:pJ},I2 g x cs->I2 g' x cs
 |none,_,h=>h
 |some (_,_),_,⟨vs,h1,h2⟩=>⟨vs,ZO hJ h1,h2⟩
def aIL {g g':Gh}(hJ: ∀i p,g.J i=some p->g'.J i=some p): ∀{x:pL}{cs:pJ},KL g x cs->KL g' x cs
 |none,_,h=>h
 |some _,_,⟨p,h1,h2⟩=>⟨p,hJ _ _ h1,h2⟩
def aIM {g g':Gh}(hc: ∀k n v,g.cur k n=some v->g'.cur k n=some v): ∀{x:pK}{cs:pJ},BK g x cs->BK g' x cs
 |none,_,h=>h
 |some (_,_),_,⟨v,h1,h2⟩=>⟨v,hc _ _ _ h1,h2⟩
def aIN {g g':Gh}(hJ: ∀i p,g.J i=some p->g'.J i=some p): ∀{x:pK}{cs:pJ},Q0 g x cs->Q0 g' x cs
 |none,_,h=>h
 |some (_,_),_,⟨p,h1,h2⟩=>⟨p,hJ _ _ h1,h2⟩
def aIO {g g':Gh}{w w':pN}(h:Le g w g' w'): ∀{x:Nat×Nat×(Nat×Nat)×(Nat×Nat)}{cs:pJ},EU g w x cs->EU g' w' x cs
 |(_,_,(_,_),(_,_)),_,.inl r=> .inl r
 |(_,_,(_,_),(_,_)),_,.inr ⟨h0,b,α,e,hS,hc,h1,h2,h3,h4⟩=> .inr ⟨h0,b,α,e,h.S _ _ hS,(h.cell _ _ hS).trans hc,fun q=>let ⟨p,a1,a2⟩:=h1 q;⟨p,h.J _ _ a1,a2⟩,fun q=>let ⟨p,a1,a2⟩:=h2 q;⟨p,h.J _ _ a1,a2⟩,fun q=>let ⟨bb,cap,a1,a2⟩:=h3 q;⟨bb,cap,h.cur _ _ _ a1,a2⟩,fun q=>let ⟨bb,cap,a1,a2⟩:=h4 q;⟨bb,cap,h.cur _ _ _ a1,a2⟩⟩
def ZP {α:Type}{R R':α->pJ->Prop}{w w':pN}{S S':Nat->Nat->Prop}{c b:Nat}(hR: ∀x cs,R x cs->R' x cs) (hS: ∀o,S b o->S' b o)
  (hc: ∀o,S b o->w'.cell? ⟨b,o,none⟩=w.cell? ⟨b,o,none⟩): ∀{l:List α}{o:Nat},yJ R w S c b o l->yJ R' w' S' c b o l
 |[],_,_=>trivial
 |_::_,o,⟨⟨cs,h1,h2,h3,h4⟩,h5⟩=>⟨⟨cs,h1,fun j v hv=>by
   have hj:j<c:=h1▸(aSz.1 hv).1;rw[hc _ (h3 j hj)];exact h2 j v hv,fun j hj=>hS _ (h3 j hj),hR _ _ h4⟩,ZP hR hS hc h5⟩
def wA {g g':Gh}{w w':pN}(h:Le g w g' w'): ∀{t:Ty}{x:t.den}{cs:pJ},Rd g w t x cs->Rd g' w' t x cs
 | .bool,_,_,r=>r
 | .int _,_,_,r=>r
 | .str,_,_,r=>r
 | .unit,_,_,r=>r
 | .ref,_,_,r=>aIJ h.J r
 | .clo,_,_,r=>aIK h.J r
 | .mp,_,_,r=>aIL h.J r
 | .rl _ _,_,_,r=>aIM h.cur r
 | .fn,_,_,r=>r
 | .mref,_,_,r=>aIN h.J r
 | .ap,_,_,r=>aIO h r
 | .pair _ _,_,_,⟨c1,c2,e,r1,r2⟩=>⟨c1,c2,e,wA h r1,wA h r2⟩
 | .list _,_,_,⟨a,cap,e,hle,hl⟩=>⟨a,cap,e,hle,hl.imp id fun⟨b,o,ea,hr⟩=>⟨b,o,ea,ZP (fun _ _=>wA h) (fun _=>h.S _ _) (fun _=>h.cell _ _) hr⟩⟩
def sL {g:Gh}{w:pN}: ∀{t:Ty}{x:t.den}{cs:pJ},Rd g w t x cs->cs.length=t.cells
 | .bool,_,_,r=>by cases r;rfl
 | .int _,_,_,r=>by cases r;rfl
 | .str,_,_,r=>by cases r;rfl
 | .unit,_,_,r=>by cases r;rfl
 | .ref,none,_,r=>by cases r;rfl
 | .ref,some (_,_),_,⟨_,_,e⟩=>by cases e;rfl
 | .clo,none,_,r=>by cases r;rfl
 | .clo,some (_,_),_,⟨_,_,e⟩=>by cases e;rfl
 | .mp,none,_,r=>by cases r;rfl
 | .mp,some _,_,⟨_,_,e⟩=>by cases e;rfl
 | .fn,none,_,r=>by cases r;rfl
 | .fn,some _,_,r=>by cases r;rfl
 | .rl _ _,none,_,r=>by cases r;rfl
 | .rl _ _,some (_,_),_,⟨_,_,e,_⟩=>by cases e;rfl
 | .mref,none,_,r=>by cases r;rfl
 | .mref,some (_,_),_,⟨_,_,_,e⟩=>by rcases e with e|e<;>(cases e;rfl)
 | .ap,(_,_,(_,_),(_,_)),_,.inl ⟨_,e⟩=>by cases e;rfl
 | .ap,(_,_,(_,_),(_,_)),_,.inr ⟨_,_,_,e,_⟩=>by cases e;rfl
 | .pair _ _,_,_,⟨c1,c2,e,r1,r2⟩=>by rw[e,aSp,sL r1,sL r2];rfl
 | .list _,_,_,⟨_,_,e,_,_⟩=>by cases e;rfl
def UM {g g':Gh}{w w':pN}(h:Le g w g' w') {t:Ty}{x:t.den}{v:pO}(r:sW g w t x v):sW g' w' t x v:=
 r.imp (fun⟨a,cs,e,q⟩=>⟨a,cs,e,wA h q⟩) (fun⟨a,q⟩=>⟨a,wA h q⟩)
def a91 {g g':Gh}{w w':pN}(h:Le g w g' w') {t:Ty}{x:t.den}{v:pO}{k:pL}(r:CW g t x v k):CW g' t x v k:=by
 cases k with
 |none=>trivial
 |some k=>
  cases t with
  |list u=>exact h.cur _ _ _ r
  |pair a b=>exact r
  |_=>exact r.elim
def a92 {g g':Gh}{w w':pN}(h:Le g w g' w'): ∀{l:List ((Σ t:Ty,t.den)×pL)}{vs:pJ},I3 g w l vs->I3 g' w' l vs
 |[],_,r=>r
 |(⟨_,_⟩,_)::_,_,⟨v,vs',e,r1,r2,r3⟩=>⟨v,vs',e,UM h r1,a91 h r2,a92 h r3⟩
def Q1 {g g':Gh}{w w':pN}(h:Le g w g' w'): ∀{d:DV}{v:pO},yK g w d v->yK g' w' d v
 | .any,_,r=>r
 | .nilS,_,r=>r
 | .val _ _,_,r=>UM h r
 | .at t _,_,⟨b,o,cs,e,h1,h2,h3⟩=>⟨b,o,cs,e,fun j v hv=>by
   by_cases hj:j<t.cells
   .rw[h.cell _ _ (h2 j hj)];exact h1 j v hv
   .exact absurd (aSz.1 hv).1 (by rw[sL h3];exact hj),fun j hj=>h.S _ _ (h2 j hj),wA h h3⟩
 | .tup _,_,⟨vs,e,r⟩=>⟨vs,e,a92 h r⟩
 | .cond _ _,_,⟨r1,r2⟩=>⟨fun p=>Q1 h (r1 p),r2⟩
 | .flag _ _,_,r=>r
 | .own _ _,_,⟨h1,h2⟩=>⟨h.cur _ _ _ h1,h2⟩
 | .nxt _ _ _,_,r=>r
 | .elt _ _ _ _ _,_,⟨b,cap,h1,h2⟩=>⟨b,cap,h.cur _ _ _ h1,h2⟩
 | .apd _,_,⟨b,u,e,hS,hc,r⟩=>⟨b,u,e,h.S _ _ hS,(h.cell _ _ hS).trans hc,Q1 h r⟩
def CX {g g':Gh}{w w':pN}(h:Le g w g' w') {s:pX}{v:pO}(r:rF g w s v):rF g' w' s v:=by
 obtain⟨d,k⟩:=s;refine⟨Q1 h r.1,?_⟩;have r2:=r.2;cases k with
 |none=>trivial
 |some k=>
  cases d with
  |val t x=>exact a91 h r2
  |_=>exact r2.elim
def zY {g:Gh}{w:pN}: ∀{t:Ty}{x:t.den}{cs:pJ},Rd g w t x cs->∀v∈cs,v.oneCell'=true
 | .bool,_,_,r=>by cases r;intro v hv;simp at hv;subst hv;rfl
 | .int _,_,_,r=>by cases r;intro v hv;simp at hv;subst hv;rfl
 | .str,_,_,r=>by cases r;intro v hv;simp at hv;subst hv;rfl
 | .unit,_,_,r=>by cases r;intro v hv;simp at hv
 | .ref,none,_,r=>by cases r;intro v hv;simp at hv;subst hv;rfl
 | .ref,some (_,_),_,⟨_,_,e⟩=>by cases e;intro v hv;simp at hv;subst hv;rfl
 | .clo,none,_,r=>by cases r;intro v hv;simp at hv;subst hv;rfl
 | .clo,some (_,_),_,⟨_,_,e⟩=>by cases e;intro v hv;simp at hv;subst hv;rfl
 | .mp,none,_,r=>by cases r;intro v hv;simp at hv;subst hv;rfl
 | .mp,some _,_,⟨_,_,e⟩=>by cases e;intro v hv;simp at hv;subst hv;rfl
 | .fn,none,_,r=>by cases r;intro v hv;simp at hv;subst hv;rfl
 | .fn,some _,_,r=>by cases r;intro v hv;simp at hv;subst hv;rfl
 | .rl _ _,none,_,r=>by cases r;intro v hv;simp at hv;subst hv;rfl
 | .rl _ _,some (_,_),_,⟨_,_,e,hs⟩=>by
  cases e;intro v hv;simp at hv;subst hv;rcases hs with⟨rfl,_⟩ |⟨_,_,rfl,_⟩<;>rfl
 | .mref,none,_,r=>by cases r;intro v hv;simp at hv;subst hv;rfl
 | .mref,some (_,_),_,⟨_,_,_,e⟩=>by rcases e with e|e<;>(cases e;intro v hv;simp at hv;subst hv;rfl)
 | .ap,(_,_,(_,_),(_,_)),_,.inl ⟨_,e⟩=>by cases e;intro v hv;simp at hv;subst hv;rfl
 | .ap,(_,_,(_,_),(_,_)),_,.inr ⟨_,_,_,e,_⟩=>by cases e;intro v hv;simp at hv;subst hv;rfl
 | .pair _ _,_,_,⟨c1,c2,e,r1,r2⟩=>by
  subst e;intro v hv;rcases aTx.1 hv with h|h
  .exact zY r1 v h
  .exact zY r2 v h
 | .list _,_,_,⟨_,_,e,_,_⟩=>by cases e;intro v hv;simp at hv;subst hv;rfl
def vU {g g':Gh}{w:pN}(hS:g'.S=g.S): ∀{t:Ty}{x:t.den}{cs:pJ},t.pure=true->Rd g w t x cs->Rd g' w t x cs
 | .bool,_,_,_,r=>r
 | .int _,_,_,_,r=>r
 | .str,_,_,_,r=>r
 | .unit,_,_,_,r=>r
 | .ref,_,_,h,_=>by simp [Ty.pure] at h
 | .clo,_,_,h,_=>by simp [Ty.pure] at h
 | .mp,_,_,h,_=>by simp [Ty.pure] at h
 | .rl _ _,_,_,h,_=>by simp [Ty.pure] at h
 | .fn,_,_,_,r=>r
 | .mref,_,_,h,_=>by simp [Ty.pure] at h
 | .ap,_,_,h,_=>by simp [Ty.pure] at h
 | .pair _ _,_,_,h,⟨c1,c2,e,r1,r2⟩=>by
  simp only[Ty.pure,aSB] at h;exact⟨c1,c2,e,vU hS h.1 r1,vU hS h.2 r2⟩
 | .list _,_,_,h,⟨a,cap,e,hle,hl⟩=>by
  simp only[Ty.pure] at h;exact⟨a,cap,e,hle,hl.imp id fun⟨b,o,ea,hr⟩=>⟨b,o,ea,ZP (fun _ _ r=>vU hS h r) (fun _ q=>by rw[hS];exact q) (fun _ _=>rfl) hr⟩⟩
def DE (g:Gh) (w:pN) (k v:Ty):List (k.den×v.den)->List MapEntry->Prop
 |[],es=>es=[]
 |(a,b)::l,es=> ∃e es',es=e::es'/\sW g w k a e.key/\sW g w v b e.val/\DE g w k v l es'
def ZQ {g g':Gh}{w w':pN}(h:Le g w g' w') {k v:Ty}: ∀{l:List (k.den×v.den)}{es:List MapEntry},DE g w k v l es->DE g' w' k v l es
 |[],_,r=>r
 |_::_,_,⟨e,es',h1,h2,h3,h4⟩=>⟨e,es',h1,UM h h2,UM h h3,ZQ h h4⟩
def a93 {g g':Gh}{w:pN}(hS:g'.S=g.S) {t:Ty}{x:t.den}{v:pO}(hp:t.pure=true) (r:sW g w t x v):sW g' w t x v:=
 r.imp (fun⟨a,cs,e,q⟩=>⟨a,cs,e,vU hS hp q⟩) (fun⟨a,q⟩=>⟨a,vU hS hp q⟩)
def Q2 {g g':Gh}{w:pN}(hS:g'.S=g.S) {k v:Ty}(hk:k.pure=true) (hv:v.pure=true): ∀{l:List (k.den×v.den)}{es:List MapEntry},DE g w k v l es->DE g' w k v l es
 |[],_,r=>r
 |_::_,_,⟨e,es',h1,h2,h3,h4⟩=>⟨e,es',h1,a93 hS hk h2,a93 hS hv h3,Q2 hS hk hv h4⟩
def tV {α:Type}(R:α->pJ->Prop) (c:Nat):List α->pJ->Prop
 |[],cs=>cs=[]
 |x::xs,cs=> ∃c1 c2,cs=c1++c2/\c1.length=c/\R x c1/\tV R c xs c2
def KM {α:Type}{R:α->pJ->Prop}{c:Nat}: ∀{l:List α}{cs:pJ},tV R c l cs->cs.length=l.length*c
 |[],_,h=>by rw[h];simp
 |_::l,_,⟨c1,c2,e,h1,_,h3⟩=>by rw[e,aSp,h1,KM h3,aSq,aTD];omega
def ZR {α:Type}{R:α->pJ->Prop}{c:Nat}: ∀{l m:List α}{cs ds:pJ},tV R c l cs->tV R c m ds->tV R c (l++m) (cs++ds)
 |[],_,_,_,h,k=>by rw[h];exact k
 |_::_,_,_,_,⟨c1,c2,e,h1,h2,h3⟩,k=>⟨c1,c2++_,by rw[e,aSv],h1,h2,ZR h3 k⟩
def CC {α:Type}{R R':α->pJ->Prop}{c:Nat}(hR: ∀x cs,R x cs->R' x cs): ∀{l:List α}{cs:pJ},tV R c l cs->tV R' c l cs
 |[],_,h=>h
 |_::_,_,⟨c1,c2,e,h1,h2,h3⟩=>⟨c1,c2,e,h1,hR _ _ h2,CC hR h3⟩
def BL {g:Gh}{w:pN}{u:Ty}: ∀{t:Ty}{x:t.den}{cs:pJ}{o:Nat}{y:u.den},Rd g w t x cs->qT u t x o=some y->
  ∃c1 c2 c3,cs=c1++c2++c3/\c1.length=o/\Rd g w u y c2:=by
 intro t
 induction t with
 |pair a b iha ihb=>
  intro x cs o y r h;obtain⟨c1,c2,e,r1,r2⟩:=r;have key: ∀o,(if o<a.cells then qT u a x.1 o else qT u b x.2 (o-a.cells))=some y->∃d1 d2 d3,cs=d1++d2++d3/\d1.length=o/\Rd g w u y d2:=by
   intro o h;by_cases ho:o<a.cells
   .rw[aSj ho] at h;obtain⟨d1,d2,d3,e',hl,hr⟩:=iha r1 h;exact⟨d1,d2,d3++c2,by rw[e,e'];simp,hl,hr⟩
   rw[aSl ho] at h;obtain⟨d1,d2,d3,e',hl,hr⟩:=ihb r2 h;refine⟨c1++d1,d2,d3,by rw[e,e'];simp,?_,hr⟩;rw[aSp,hl,sL r1];omega
  cases o with
  |zero=>
   unfold qT at h;by_cases hu:Ty.pair a b=u
   .rw[aUe hu] at h;subst hu;simp only[tZ,aSk] at h;subst h;exact⟨[],cs,[],by simp,rfl,⟨c1,c2,e,r1,r2⟩⟩
   .rw[aTI hu] at h;refine key 0 ?_;simpa using h
  |succ o=>exact key (o+1) (by simpa[qT] using h)
 |_=>
  intro x cs o y r h;cases o with
  |zero=>
   unfold qT at h;split at h
   .rename_i hu;subst hu;simp only[tZ,aSk] at h
    try subst h
    exact⟨[],cs,[],by simp,rfl,r⟩
   .simp at h
  |succ o=>simp [qT] at h
def Q3 {g:Gh}{w:pN}{u:Ty}{y:u.den}{cy:pJ}(hy:Rd g w u y cy): ∀{t:Ty}{x z:t.den}{cs:pJ}{o:Nat},Rd g w t x cs->sD u y t x o=some z->
  ∃c1 c2 c3,cs=c1++c2++c3/\c1.length=o/\c2.length=u.cells/\Rd g w t z (c1++cy++c3):=by
 intro t
 induction t with
 |pair a b iha ihb=>
  intro x z cs o r h;obtain⟨c1,c2,e,r1,r2⟩:=r;have key: ∀o,(if o<a.cells then(sD u y a x.1 o).map (fun q=>(q,x.2)) else(sD u y b x.2 (o-a.cells)).map (fun q=>(x.1,q)))=some z->
    ∃d1 d2 d3,cs=d1++d2++d3/\d1.length=o/\d2.length=u.cells/\Rd g w (.pair a b) z (d1++cy++d3):=by
   intro o h;by_cases ho:o<a.cells
   .rw[aSj ho] at h;obtain⟨q,hq,rfl⟩:=aSA.1 h;obtain⟨d1,d2,d3,e',hl,hl2,hr⟩:=iha r1 hq;exact⟨d1,d2,d3++c2,by rw[e,e'];simp,hl,hl2,⟨d1++cy++d3,c2,by simp,hr,r2⟩⟩
   rw[aSl ho] at h;obtain⟨q,hq,rfl⟩:=aSA.1 h;obtain⟨d1,d2,d3,e',hl,hl2,hr⟩:=ihb r2 hq;refine⟨c1++d1,d2,d3,by rw[e,e'];simp,?_,hl2,⟨c1,d1++cy++d3,by simp,r1,hr⟩⟩;rw[aSp,hl,sL r1];omega
  cases o with
  |zero=>
   unfold sD at h;by_cases hu:u=Ty.pair a b
   .rw[aUe hu] at h;subst hu;simp only[tZ,aSk] at h;subst h;exact⟨[],cs,[],by simp,rfl,sL (t:= .pair a b) (x:=x) ⟨c1,c2,e,r1,r2⟩,by simpa using hy⟩
   .rw[aTI hu] at h;refine key 0 ?_;simpa using h
  |succ o=>exact key (o+1) (by simpa[sD] using h)
 |_=>
  intro x z cs o r h;cases o with
  |zero=>
   unfold sD at h;split at h
   .rename_i hu;subst hu;simp only[tZ,aSk] at h
    try subst h
    exact⟨[],cs,[],by simp,rfl,sL r,by simpa using hy⟩
   .simp at h
  |succ o=>simp [sD] at h
def aIP {e:Nat}{u:Ty}{kn:pK}: ∀{t:Ty}{x:t.den}{o:Nat}{q: Σ t:Ty,t.den},y9 e u kn t x o=some q->q.1.cells=t.cells:=by
 intro t
 induction t with
 |pair a b iha ihb=>
  intro x o q h;unfold y9 at h;split at h
  .cases hq:y9 e u kn a x.1 o with
   |none=>rw[hq] at h;cases h
   |some r=>
    obtain⟨a',x'⟩:=r;rw[hq] at h;simp only[YU,aSk] at h;subst h;have:=iha hq;simp only[Ty.cells] at this|-;omega
  .cases hq:y9 e u kn b x.2 (o-a.cells) with
   |none=>rw[hq] at h;cases h
   |some r=>
    obtain⟨b',y'⟩:=r;rw[hq] at h;simp only[YV,aSk] at h;subst h;have:=ihb hq;simp only[Ty.cells] at this|-;omega
 |list v=>
  intro x o q h;cases o with
  |zero=>
   simp only[y9] at h;split at h
   .simp only[aSk] at h;subst h;rfl
   .cases h
  |succ o=>simp [y9] at h
 |_=>intro x o q h;cases o<;>simp [y9] at h
def aIQ {g:Gh}{w:pN}{e:Nat}{u:Ty}{kn:pK}{cy:pJ}(hy:BK g kn cy): ∀{t:Ty}{x:t.den}{cs:pJ}{o:Nat}{q: Σ t:Ty,t.den},Rd g w t x cs->y9 e u kn t x o=some q->
  ∃c1 c2 c3,cs=c1++c2++c3/\c1.length=o/\c2.length=1/\Rd g w q.1 q.2 (c1++cy++c3):=by
 intro t
 induction t with
 |pair a b iha ihb=>
  intro x cs o q r h;obtain⟨c1,c2,e1,r1,r2⟩:=r;unfold y9 at h;split at h
  .cases hq:y9 e u kn a x.1 o with
   |none=>rw[hq] at h;cases h
   |some z=>
    obtain⟨a',x'⟩:=z;rw[hq] at h;simp only[YU,aSk] at h;subst h;obtain⟨d1,d2,d3,e',hl,hl2,hr⟩:=iha r1 hq;exact⟨d1,d2,d3++c2,by rw[e1,e'];simp,hl,hl2,⟨d1++cy++d3,c2,by simp,hr,r2⟩⟩
  .cases hq:y9 e u kn b x.2 (o-a.cells) with
   |none=>rw[hq] at h;cases h
   |some z=>
    obtain⟨b',y'⟩:=z;rw[hq] at h;simp only[YV,aSk] at h;subst h;obtain⟨d1,d2,d3,e',hl,hl2,hr⟩:=ihb r2 hq;refine⟨c1++d1,d2,d3,by rw[e1,e'];simp,?_,hl2,⟨c1,d1++cy++d3,by simp,r1,hr⟩⟩;rw[aSp,hl,sL r1];omega
 |list v=>
  intro x cs o q r h;cases o with
  |zero=>
   simp only[y9] at h;split at h
   .simp only[aSk] at h;subst h;exact⟨[],cs,[],by simp,rfl,sL r,by rw[List.nil_append,List.append_nil];exact hy⟩
   .cases h
  |succ o=>simp [y9] at h
 |_=>intro x cs o q r h;cases o<;>simp [y9] at h
def G3 (g:Gh) (t:Ty) (x:t.den) (cs:pJ) (toks:pH):Prop:=
 ∀o k,(o,k)∈toks->∃(u:Ty) (l:List u.den) (v:pO),qT (.list u) t x o=some l/\cs[o]? =some v/\g.cur k l.length=some v
def aIR (w:pN) (p:Pl) (n:Nat):Prop:=w.there p.1 p.2 n/\(0<n->∀s,p.3=some s->w.shape? p.1=some s)
def BM {w:pN}{b:Nat}{s:TypeId×Nat}(h:w.shape? b=some s):b<w.heap.size:=by
 unfold World.shape? at h;cases hb:w.heap[b]? with
 |none=>rw[hb] at h;cases h
 |some x=>exact(aSO.1 hb).1
def BN {w w':pN}{b:Nat}(h:w'.heap[b]? =w.heap[b]?):w'.shape? b=w.shape? b:=by
 unfold World.shape?;rw[h]
def zZ (g:Gh) (w:pN) (i:Nat):pW->Prop
 | .cells t x toks=> ∃p cs,g.J i=some p/\Rd g w t x cs/\w.rangeAt p.1 p.2 cs/\aIR w p t.cells/\(∀j,j<t.cells->¬g.S p.1 (p.2+j))/\G3 g t x cs toks
 | .grow e c n=> ∃v xs,g.cur i n=some v/\w.ownsRow 0 e c v n xs/\(∀m,n<m->g.cur i m=none)/\∀b,v.ownBlock=some b->∀o,g.S b o->o<n*c
 | .row e t l n=>l.length=n/\∃v xs,g.cur i n=some v/\w.ownsRow 0 e t.cells v n xs/\tV (Rd g w t) t.cells l xs/\(∀m,n<m->g.cur i m=none)/\∀b,v.ownBlock=some b->∀o,¬g.S b o
 | .map k v l=> ∃p es clock,g.J i=some p/\p.2=0/\w.heap[p.1]? =some (.map es clock)/\DE g w k v l es.toList/\∀o,¬g.S p.1 o
 | .iter s n=> ∃p,g.J i=some p/\p.2=0/\w.heap[p.1]? =some (.stringIter ⟨s.toArray⟩ n)/\∀o,¬g.S p.1 o
 | .dead=>True
def s8 (g:Gh) (i:Nat):pW->Nat->Nat->Prop
 | .cells t _ _,b,o=> ∃p,g.J i=some p/\b=p.1/\p.2<=o/\o<p.2+t.cells
 | .grow _ _ n,b,_=> ∃v,g.cur i n=some v/\v.ownBlock=some b
 | .row _ _ _ n,b,_=> ∃v,g.cur i n=some v/\v.ownBlock=some b
 | .map _ _ _,b,_=> ∃p,g.J i=some p/\b=p.1
 | .iter _ _,b,_=> ∃p,g.J i=some p/\b=p.1
 | .dead,_,_=>False
structure s9 (g:Gh) (w:pN) (H:s5):Prop where
 blk: ∀i b,pZ H i=some b->zZ g w i b
 dis: ∀i j bi bj b o,i≠j->pZ H i=some bi->pZ H j=some bj->s8 g i bi b o->s8 g j bj b o->False
 sl: ∀b o,g.S b o->b<w.heap.size
 tab:EJ w/\∀i blk b o,pZ H i=some blk->s8 g i blk b o->NG<=b
def sK (g:Gh) (H:s5) (ids:pM) (b o:Nat):Prop:= ∃i blk,i∈ids/\pZ H i=some blk/\s8 g i blk b o
structure Fr (A:Nat->Nat->Prop) (w w':pN) (S S':Nat->Nat->Prop):Prop where
 os:w'.os=w.os
 tape:w'.tape=w.tape
 output:w'.output=w.output
 size:w.heap.size<=w'.heap.size
 blk: ∀b,b<w.heap.size->(∀o,¬A b o)->w'.heap[b]? =w.heap[b]?
 cell: ∀b o,b<w.heap.size->¬A b o->w'.cell? ⟨b,o,none⟩=w.cell? ⟨b,o,none⟩/\w'.frozen? ⟨b,o,none⟩=w.frozen? ⟨b,o,none⟩
 new: ∀b o,S' b o->S b o\/w.heap.size<=b\/A b o
 shape: ∀b s,w.shape? b=some s->w'.shape? b=some s\/∀o,A b o
def Fr.refl (A:Nat->Nat->Prop) (w:pN) (S:Nat->Nat->Prop):Fr A w w S S:=
 ⟨rfl,rfl,rfl,aSE _,fun _ _ _=>rfl,fun _ _ _ _=>⟨rfl,rfl⟩,fun _ _ h=> .inl h,fun _ _ h=> .inl h⟩
def Fr.trans {A B:Nat->Nat->Prop}{w w' w'':pN}{S S' S'':Nat->Nat->Prop}(h:Fr A w w' S S') (k:Fr B w' w'' S' S'') (hB: ∀b o,B b o->w.heap.size<=b\/A b o):Fr A w w'' S S'':=by
 refine⟨k.os.trans h.os,k.tape.trans h.tape,k.output.trans h.output,aTh h.size k.size,fun b hb hA=>?_,fun b o hb hA=>?_,fun b o hs=>?_,fun b s hs=>?_⟩
 .refine(k.blk b (aSW hb h.size) fun o ho=>?_).trans (h.blk b hb hA);rcases hB b o ho with h1|h1
  .omega
  exact hA o h1
 .have h1:=h.cell b o hb hA;have h2:=k.cell b o (aSW hb h.size) (fun ho=>by
   rcases hB b o ho with h1|h1
   .omega
   exact hA h1)
  exact⟨h2.1.trans h1.1,h2.2.trans h1.2⟩
 .rcases k.new b o hs with h1|h1|h1
  .exact h.new b o h1
  .exact .inr (.inl (aTh h.size h1))
  exact .inr (hB b o h1)
 rcases h.shape b s hs with h1|h1
 .rcases k.shape b s h1 with h2|h2
  .exact .inl h2
  refine .inr fun o=>(hB b o (h2 o)).resolve_left ?_;have:=BM hs;omega
 exact .inr h1
structure rE (g:Gh) (w:pN) (H:s5) (e:qJ) (g':Gh) (w':pN) (v:pO):Prop where
 le:Le g w g' w'
 slot:rF g' w' e.slot v
 heap:s9 g' w' (qS e.upd H)
 fr:Fr (sK g H (qB e.upd)) w w' g.S g'.S
 perm: ∀i blk b o,i∈qB e.upd->pZ (qS e.upd H) i=some blk->s8 g' i blk b o->w.heap.size<=b\/sK g H (qB e.upd) b o
 gho: ∀i,i∉qB e.upd->g'.J i=g.J i/\g'.cur i=g.cur i
 ty: ∀i u y us,pZ (qS e.upd H) i=some (.cells u y us)->(∃x ts,pZ H i=some (.cells u x ts))\/(g.J i=none/\∀n,g.cur i n=none)
structure zN (g:Gh) (w:pN) (H:s5) (e:qJ) (g':Gh) (w':pN) (v:pO):Prop where
 le:Le g w g' w'
 slot:rF g' w' e.slot v
 heap:s9 g' w' (qS e.upd H)
 fr:Fr (sK g H (qB e.upd)) w w' g.S g'.S
 perm: ∀i blk b o,i∈qB e.upd->pZ (qS e.upd H) i=some blk->s8 g' i blk b o->w.heap.size<=b\/sK g H (qB e.upd) b o
 gho: ∀i,i∉qB e.upd->g'.J i=g.J i/\g'.cur i=g.cur i
 ty:HP e.rds=false->∀i u y us,pZ (qS e.upd H) i=some (.cells u y us)->(∃x ts,pZ H i=some (.cells u x ts))\/(g.J i=none/\∀n,g.cur i n=none)
def rE.w {g:Gh}{w:pN}{H:s5}{e:qJ}{g':Gh}{w':pN}{v:pO}(h:rE g w H e g' w' v):zN g w H e g' w' v:=⟨h.le,h.slot,h.heap,h.fr,h.perm,h.gho,fun _=>h.ty⟩
def KN {w:pN}{B:Nat}{e:TypeId}{c n:Nat}{v:pO}{xs:pJ}(h:w.ownsRow B e c v n xs) {b:Nat}(hb:v.ownBlock=some b):b<w.heap.size:=(h.lt b hb).2
def UN {w:pN}{b o:Nat}{v:pO}(h:w.cell? ⟨b,o,none⟩=some v):b<w.heap.size:=by
 have:=World.block_lt_of_cell? w ⟨b,o,none⟩ h;exact this
def KO {g:Gh}{w:pN}{i:Nat}{blk:pW}(h:zZ g w i blk) {b o:Nat}(ho:s8 g i blk b o):b<w.heap.size:=by
 cases blk with
 |cells t x toks=>
  obtain⟨p,cs,hp,_,_,ht,_⟩:=h;obtain⟨q,hq,rfl,h1,h2⟩:=ho;rw[hp] at hq;obtain rfl:=aSo hq;have:=(ht.1 (o-p.2) pC).1;obtain⟨v,hv⟩:=aSn.1 this;exact UN hv
 |grow e c n=>
  obtain⟨v,xs,hv,hr,_⟩:=h;obtain⟨v',hv',hb⟩:=ho;rw[hv] at hv';obtain rfl:=aSo hv';exact KN hr hb
 |row e t l n=>
  obtain⟨_,v,xs,hv,hr,_⟩:=h;obtain⟨v',hv',hb⟩:=ho;rw[hv] at hv';obtain rfl:=aSo hv';exact KN hr hb
 |map k v l=>
  obtain⟨p,es,cl,hp,_,hh,_,_⟩:=h;obtain⟨q,hq,rfl⟩:=ho;rw[hp] at hq;obtain rfl:=aSo hq;exact(aSO.1 hh).1
 |iter s n=>
  obtain⟨p,hp,_,hh,_⟩:=h;obtain⟨q,hq,rfl⟩:=ho;rw[hp] at hq;obtain rfl:=aSo hq;exact(aSO.1 hh).1
 |dead=>exact ho.elim
def a94 {g g':Gh}(hc: ∀k n v,g.cur k n=some v->g'.cur k n=some v) {t:Ty}{x:t.den}{cs:pJ}{toks:pH}(h:G3 g t x cs toks):G3 g' t x cs toks:=
 fun o k hm=>let ⟨u,l,v,h1,h2,h3⟩:=h o k hm;⟨u,l,v,h1,h2,hc _ _ _ h3⟩
def I4 {g g':Gh}{w w':pN}{i:Nat}{blk:pW}(h:zZ g w i blk) (le:Le g w g' w') (hJ:g'.J i=g.J i) (hcur:g'.cur i=g.cur i)
  (hc: ∀b o,s8 g i blk b o->w'.cell? ⟨b,o,none⟩=w.cell? ⟨b,o,none⟩/\w'.frozen? ⟨b,o,none⟩=w.frozen? ⟨b,o,none⟩)
  (hb: ∀b,(∀o,s8 g i blk b o)->w'.heap[b]? =w.heap[b]?) (hS: ∀b o,s8 g i blk b o->g'.S b o->g.S b o) (hsh: ∀b o s,s8 g i blk b o->w.shape? b=some s->w'.shape? b=some s):zZ g' w' i blk:=by
 cases blk with
 |cells t x toks=>
  obtain⟨p,cs,hp,hr,hra,ht,hs,htk⟩:=h;have ho: ∀j,j<t.cells->s8 g i (.cells t x toks) p.1 (p.2+j):=fun j hj=>⟨p,hp,rfl,pC,pC⟩;refine⟨p,cs,hJ.trans hp,wA le hr,fun j v hv=>?_,⟨fun j hj=>?_,fun h0 s hs3=>hsh _ _ _ (ho 0 h0) (ht.2 h0 s hs3)⟩,fun j hj hs'=>hs j hj (hS _ _ (ho j hj) hs'),a94 le.cur htk⟩
  .have hj:j<t.cells:=sL hr▸(aSz.1 hv).1;rw[(hc _ _ (ho j hj)).1];exact hra j v hv
  .rw[(hc _ _ (ho j hj)).1,(hc _ _ (ho j hj)).2];exact ht.1 j hj
 |grow e c n=>
  obtain⟨v,xs,hv,hr,hn,hs⟩:=h;have hbl: ∀b,v.ownBlock=some b->∀o,s8 g i (.grow e c n) b o:=fun b hb o=>⟨v,hv,hb⟩;refine⟨v,xs,by rw[hcur];exact hv,⟨hr.1,?_⟩,fun m hm=>by rw[hcur];exact hn m hm,fun b hvb o hs'=>hs b hvb o (hS _ _ (hbl b hvb o) hs')⟩;rcases hr.2 with h0|⟨q,cap,cur,e1,e2,e3,e4⟩
  .exact .inl h0
  .subst e1;exact .inr ⟨q,cap,cur,rfl,e2,by rw[hb q (hbl q rfl)];exact e3,e4⟩
 |row e t l n=>
  obtain⟨hl,v,xs,hv,hr,hF,hn,hs⟩:=h;have hbl: ∀b,v.ownBlock=some b->∀o,s8 g i (.row e t l n) b o:=fun b hb o=>⟨v,hv,hb⟩;refine⟨hl,v,xs,by rw[hcur];exact hv,⟨hr.1,?_⟩,CC (fun _ _ h=>wA le h) hF,fun m hm=>by rw[hcur];exact hn m hm,fun b hvb o hs'=>hs b hvb o (hS _ _ (hbl b hvb o) hs')⟩;rcases hr.2 with h0|⟨q,cap,cur,e1,e2,e3,e4⟩
  .exact .inl h0
  .subst e1;exact .inr ⟨q,cap,cur,rfl,e2,by rw[hb q (hbl q rfl)];exact e3,e4⟩
 |map k v l=>
  obtain⟨p,es,cl,hp,h0,hh,hM,hs⟩:=h;have hbl: ∀o,s8 g i (.map k v l) p.1 o:=fun o=>⟨p,hp,rfl⟩;exact⟨p,es,cl,hJ.trans hp,h0,(hb _ hbl).trans hh,ZQ le hM,fun o hs'=>hs o (hS _ _ (hbl o) hs')⟩
 |iter s n=>
  obtain⟨p,hp,h0,hh,hs⟩:=h;have hbl: ∀o,s8 g i (.iter s n) p.1 o:=fun o=>⟨p,hp,rfl⟩;exact⟨p,hJ.trans hp,h0,(hb _ hbl).trans hh,fun o hs'=>hs o (hS _ _ (hbl o) hs')⟩
 |dead=>trivial
def wW {g g':Gh}{i:Nat}{blk:pW}(hJ:g'.J i=g.J i) (hcur:g'.cur i=g.cur i) {b o:Nat}:s8 g' i blk b o↔s8 g i blk b o:=by
 cases blk<;>simp [s8,hJ,hcur]
def A0 {i:Nat}: ∀{u:List (Nat×pW)}{H:s5},i∉qB u->pZ (qS u H) i=pZ H i
 |[],_,_=>rfl
 |(k,b)::r,H,h=>by
  simp only[qB,aSx,not_or] at h;simp only[qS,pZ];rw[aSl (Ne.symm h.1)];exact A0 h.2
def s9.upd {g g':Gh}{w w':pN}{H:s5}{u:List (Nat×pW)}(h:s9 g w H) (le:Le g w g' w') (fr:Fr (sK g H (qB u)) w w' g.S g'.S)
  (perm: ∀i blk b o,i∈qB u->pZ (qS u H) i=some blk->s8 g' i blk b o->w.heap.size<=b\/sK g H (qB u) b o)
  (gho: ∀i,i∉qB u->g'.J i=g.J i/\g'.cur i=g.cur i)
  (hb: ∀i blk,i∈qB u->pZ (qS u H) i=some blk->zZ g' w' i blk)
  (hd: ∀i j bi bj b o,i∈qB u->j∈qB u->i≠j->pZ (qS u H) i=some bi->pZ (qS u H) j=some bj->s8 g' i bi b o->s8 g' j bj b o->False)
  (sl: ∀b o,g'.S b o->b<w'.heap.size):s9 g' w' (qS u H):=by
 have out: ∀i blk,i∉qB u->pZ H i=some blk->∀b o,s8 g i blk b o->b<w.heap.size/\¬sK g H (qB u) b o:=fun i blk hi hg b o ho=>
  ⟨KO (h.blk i blk hg) ho,fun⟨j,bj,hj,hgj,hoj⟩=>h.dis i j blk bj b o (fun e=>hi (e▸hj)) hg hgj ho hoj⟩
 refine⟨fun i blk hg=>?_,fun i j bi bj b o hij hgi hgj hoi hoj=>?_,sl,HO h.tab.1 fr.size (fun b hb=>fr.blk b (aSW hb h.tab.1.1) (fun o ⟨j,bj,_,k1,k2⟩=>Nat.not_lt.2 (h.tab.2 j bj b o k1 k2) hb)),fun i blk b o hg ho=>?_⟩
 rotate_right
 .by_cases hi:i∈qB u
  .rcases perm i blk b o hi hg ho with h1|⟨j,bj,_,k1,k2⟩
   .exact aTh h.tab.1.1 h1
   exact h.tab.2 j bj b o k1 k2
  exact h.tab.2 i blk b o ((A0 hi).symm.trans hg) ((wW (gho i hi).1 (gho i hi).2).1 ho)
 .by_cases hi:i∈qB u
  .exact hb i blk hi hg
  have hg0:=(A0 hi).symm.trans hg;have hk:=gho i hi;refine I4 (h.blk i blk hg0) le hk.1 hk.2 (fun b o ho=>?_) (fun b ho=>?_) (fun b o ho hs=>?_) (fun b o s ho hs=>(fr.shape b s hs).resolve_right fun h1=>(out i blk hi hg0 b o ho).2 (h1 o))
  .exact fr.cell b o (out i blk hi hg0 b o ho).1 (out i blk hi hg0 b o ho).2
  .exact fr.blk b (out i blk hi hg0 b 0 (ho 0)).1 (fun o=>(out i blk hi hg0 b o (ho o)).2)
  rcases fr.new b o hs with h1|h1|h1
  .exact h1
  .have:=(out i blk hi hg0 b o ho).1;omega
  exact absurd h1 (out i blk hi hg0 b o ho).2
 by_cases hi:i∈qB u<;>by_cases hj:j∈qB u
 .exact hd i j bi bj b o hi hj hij hgi hgj hoi hoj
 .have hg0:=(A0 hj).symm.trans hgj;have ho0:=(wW (gho j hj).1 (gho j hj).2).1 hoj;rcases perm i bi b o hi hgi hoi with h1|h1
  .have:=(out j bj hj hg0 b o ho0).1;omega
  exact(out j bj hj hg0 b o ho0).2 h1
 .have hg0:=(A0 hi).symm.trans hgi;have ho0:=(wW (gho i hi).1 (gho i hi).2).1 hoi;rcases perm j bj b o hj hgj hoj with h1|h1
  .have:=(out i bi hi hg0 b o ho0).1;omega
  exact(out i bi hi hg0 b o ho0).2 h1
 exact h.dis i j bi bj b o hij ((A0 hi).symm.trans hgi) ((A0 hj).symm.trans hgj) ((wW (gho i hi).1 (gho i hi).2).1 hoi) ((wW (gho j hj).1 (gho j hj).2).1 hoj)
def rE.pure {g:Gh}{w:pN}{H:s5}{side:List Prop}{s:pX}{rds:pM}{v:pO}(h:s9 g w H) (hs:rF g w s v):rE g w H ⟨side,s,[],rds⟩ g w v:=
 ⟨.refl _ _,hs,h,.refl _ _ _,fun _ _ _ _ hi=>(by cases hi),fun _ _=>⟨rfl,rfl⟩,fun _ _ y us h=> .inl ⟨y,us,h⟩⟩
def zN.pure {g:Gh}{w:pN}{H:s5}{side:List Prop}{s:pX}{rds:pM}{v:pO}(h:s9 g w H) (hs:rF g w s v):zN g w H ⟨side,s,[],rds⟩ g w v:=(rE.pure h hs).w
def KP {α:Type}: ∀(l m n:List α),qS (qS l m) n=qS l (qS m n)
 |[],_,_=>rfl
 |x::l,m,n=>by simp only[qS,KP l m n]
def CD {i:Nat}: ∀{l m:List (Nat×pW)},i∈qB (qS l m)↔i∈qB l\/i∈qB m
 |[],m=>by simp [qS,qB]
 |(k,b)::l,m=>by simp only[qS,qB,aSx,CD (l:=l),or_assoc]
def rE.trans {g:Gh}{w:pN}{H:s5}{e1 e2:qJ}{g1 g2:Gh}{w1 w2:pN}{v1 v2:pO}{side:List Prop}{rds:pM}(h:rE g w H e1 g1 w1 v1) (k:rE g1 w1 (qS e1.upd H) e2 g2 w2 v2):rE g w H ⟨side,e2.slot,qS e2.upd e1.upd,rds⟩ g2 w2 v2:=by
 have hB: ∀b o,sK g1 (qS e1.upd H) (qB e2.upd) b o->w.heap.size<=b\/sK g H (qB (qS e2.upd e1.upd)) b o:=by
  rintro b o ⟨i,blk,hi,hg,ho⟩;by_cases h1:i∈qB e1.upd
  .refine(h.perm i blk b o h1 hg ho).imp id fun⟨j,bj,hj,q⟩=>⟨j,bj,CD.2 (.inr hj),q⟩
  exact .inr ⟨i,blk,CD.2 (.inl hi),(A0 h1).symm.trans hg,(wW (h.gho i h1).1 (h.gho i h1).2).1 ho⟩
 have mono: ∀b o,sK g H (qB e1.upd) b o->sK g H (qB (qS e2.upd e1.upd)) b o:=fun b o ⟨j,bj,hj,q⟩=>⟨j,bj,CD.2 (.inr hj),q⟩;refine⟨h.le.trans k.le,k.slot,by simp only[KP];exact k.heap,?_,fun i blk b o hi hg ho=>?_,fun i hi=>?_,fun i u y us hg=>?_⟩
 .have h1:Fr (sK g H (qB (qS e2.upd e1.upd))) w w1 g.S g1.S:=⟨h.fr.os,h.fr.tape,h.fr.output,h.fr.size,fun b hb hn=>h.fr.blk b hb (fun o ho=>hn o (mono b o ho)),fun b o hb hn=>h.fr.cell b o hb (fun ho=>hn (mono b o ho)),fun b o hs=>(h.fr.new b o hs).imp id (Or.imp id (mono b o)),fun b s hs=>(h.fr.shape b s hs).imp id fun h o=>mono b o (h o)⟩;exact h1.trans k.fr hB
 .simp only[KP] at hg;by_cases h2:i∈qB e2.upd
  .rcases k.perm i blk b o h2 hg ho with h3|h3
   .exact .inl (aTh h.fr.size h3)
   exact hB b o h3
  have hi1:i∈qB e1.upd:=(CD.1 hi).resolve_left h2;rw[A0 h2] at hg;exact(h.perm i blk b o hi1 hg ((wW (k.gho i h2).1 (k.gho i h2).2).1 ho)).imp id (mono b o)
 .have h2:i∉qB e2.upd:=fun q=>hi (CD.2 (.inl q));have h1:i∉qB e1.upd:=fun q=>hi (CD.2 (.inr q));exact⟨(k.gho i h2).1.trans (h.gho i h1).1,(k.gho i h2).2.trans (h.gho i h1).2⟩
 simp only[KP] at hg;rcases k.ty i u y us hg with⟨x,ts,h3⟩ |⟨h3,h4⟩
 .exact h.ty i u x ts h3
 right;refine⟨?_,fun n=>?_⟩
 .cases hj:g.J i with
  |none=>rfl
  |some p=>rw[h.le.J i p hj] at h3;cases h3
 cases hj:g.cur i n with
 |none=>rfl
 |some p=>rw[<-h4 n,h.le.cur i n p hj]
def rE.congrH {g:Gh}{w:pN}{H H':s5}{e:qJ}{g':Gh}{w':pN}{v:pO}(h:rE g w H e g' w' v) (hH:H=H'):rE g w H' e g' w' v:=hH▸h
def G4 {α:Type}{x:α}: ∀{l m:List α},x∈qS l m↔x∈l\/x∈m
 |[],m=>by simp [qS]
 |y::l,m=>by simp only[qS,aSx,G4 (l:=l),or_assoc]
def rE.slot' {g:Gh}{w:pN}{H:s5}{sd sd2:List Prop}{s s2:pX}{U:List (Nat×pW)}{r r2:pM}{g':Gh}{w':pN}{v v2:pO}(h:rE g w H ⟨sd,s,U,r⟩ g' w' v) (hs:rF g' w' s2 v2):rE g w H ⟨sd2,s2,U,r2⟩ g' w' v2:=
 ⟨h.le,hs,h.heap,h.fr,h.perm,h.gho,h.ty⟩
def s9.ext0 {g:Gh}{w:pN}{H H':s5}(h:s9 g w H) (e: ∀i,pZ H i=pZ H' i):s9 g w H':=
 ⟨fun i b hb=>h.blk i b (by rw[e];exact hb),fun i j bi bj b o hij h1 h2=>h.dis i j bi bj b o hij (by rw[e];exact h1) (by rw[e];exact h2),h.sl,h.tab.1,fun i b bb oo hb ho=>h.tab.2 i b bb oo (by rw[e];exact hb) ho⟩
def rE.more {g:Gh}{w:pN}{H:s5}{sd sd2:List Prop}{s:pX}{U U2:List (Nat×pW)}{r r2:pM}{g':Gh}{w':pN}{v:pO}(h:rE g w H ⟨sd,s,U,r⟩ g' w' v) (hg: ∀i,pZ (qS U2 H) i=pZ (qS U H) i) (hm: ∀i,i∈qB U->i∈qB U2):rE g w H ⟨sd2,s,U2,r2⟩ g' w' v:=by
 have mono: ∀b o,sK g H (qB U) b o->sK g H (qB U2) b o:=fun b o ⟨j,bj,hj,q⟩=>⟨j,bj,hm j hj,q⟩;refine⟨h.le,h.slot,h.heap.ext0 (fun i=>(hg i).symm),⟨h.fr.os,h.fr.tape,h.fr.output,h.fr.size,fun b hb hn=>h.fr.blk b hb (fun o ho=>hn o (mono b o ho)),fun b o hb hn=>h.fr.cell b o hb (fun ho=>hn (mono b o ho)),fun b o hs=>(h.fr.new b o hs).imp id (Or.imp id (mono b o)),fun b s hs=>(h.fr.shape b s hs).imp id fun h o=>mono b o (h o)⟩,fun i blk b o hi hg2 ho=>?_,fun i hi=>h.gho i (fun q=>hi (hm i q)),fun i u y us hg2=>h.ty i u y us ((hg i).symm.trans hg2)⟩;rw[hg] at hg2;by_cases h1:i∈qB U
 .exact(h.perm i blk b o h1 hg2 ho).imp id (mono b o)
 exact .inr ⟨i,blk,hi,(A0 h1).symm.trans hg2,(wW (h.gho i h1).1 (h.gho i h1).2).1 ho⟩
def u1:Ty->pJ
 | .bool=>[.bool false]
 | .int k=>[.int k 0]
 | .str=>[.string ⟨#[]⟩]
 | .list _=>[.slice none 0 0]
 | .unit=>[]
 | .pair a b=>u1 a++u1 b
 | .ref=>[.pointer none]
 | .clo=>[.nilFunc]
 | .mp=>[.map none]
 | .rl _ _=>[.slice none 0 0]
 | .fn=>[.nilFunc]
 | .mref=>[.pointer none]
 | .ap=>[.nilFunc]
def xQ (t:Ty):pO:=if t.isRow then .agg (u1 t).toArray else(u1 t).headD undef
def N8 (P:Program):Ty->Nat->List Field->Prop
 | .unit,_,[]=>True
 | .pair a b,o,f::r=>f.offset=o/\(P.info? f.type).map (·.size)=some a.cells/\(P.underlying f.type).map (·.isRow)=some a.isRow/\N8 P b (o+a.cells) r
 |_,_,_=>False
def Q4 (P:Program) (e:TypeId):Ty->Nat->Prop
 | .unit,0=>True
 | .pair a b,n+1=>(P.info? e).map (·.size)=some a.cells/\(P.underlying e).map (·.isRow)=some a.isRow/\Q4 P e b n
 |_,_=>False
inductive ZS where
 |ty (t:TypeId) |fs (o:Nat) (l:List Field) |el (e:TypeId) (i m:Nat)
inductive yM (P:Program):Nat->ZS->Ty->Prop
 |bool {h t}:P.underlying t=some .bool->yM P h (.ty t) .bool
 |int {h t k}:P.underlying t=some (.int k)->yM P h (.ty t) (.int k)
 |str {h t}:P.underlying t=some .string->yM P h (.ty t) .str
 |struct {h t fs ty}:ty.isRow=true->P.underlying t=some (.struct fs)->P.stoodInHeld t=false->yM P h (.fs 0 fs.toList) ty->yM P (h+1) (.ty t) ty
 |arr {h t e n ty}:ty.isRow=true->P.underlying t=some (.array n e)->(P.info? e).isSome=true->yM P h (.el e 0 n) ty->yM P (h+1) (.ty t) ty
 |nil {h o}:yM P h (.fs o []) .unit
 |cons {h o}{f:Field}{r a b}:f.name≠ "_" ->f.offset=o->(P.info? f.type).map (·.size)=some a.cells->(P.underlying f.type).map (·.isRow)=some a.isRow->yM P h (.ty f.type) a->yM P h (.fs (o+a.cells) r) b->yM P h (.fs o (f::r)) (.pair a b)
 |anil {h e i}:yM P h (.el e i 0) .unit
 |acons {h e i m a b}:(P.info? e).map (·.size)=some a.cells->(P.underlying e).map (·.isRow)=some a.isRow->yM P h (.ty e) a->yM P h (.el e (i+1) m) b->yM P h (.el e i (m+1)) (.pair a b)
def a95 (P:Program):Prop:=
 (∀(w:pN) (p:Option Addr),Calls P HM #[.pointer p] w fun e w'=> ∃b,e= .returned (.func (.func HL) #[] #[.pointer (some ⟨b,0,none⟩)])/\w.heap.size<=b/\b<w'.heap.size/\w'.cell? ⟨b,0,none⟩=some (.pointer p)/\Below w.heap.size w w')/\
 (∀args w,(callFunc HM args).run P w= .ok (.enter HM args) w)/\(∀args w,(callFunc HL args).run P w= .ok (.enter HL args) w)/\
 ∀(w:pN) (b:Nat) (α:Addr) (y s:p8) (ok:Bool),w.cell? ⟨b,0,none⟩=some (.pointer (some α))->w.cell? α=some (.string ⟨y.toArray⟩)->w.frozen? α=false->α.spot=none->((y++s).length:Int)<=9223372036854775807->
  (∀w1,Below w.heap.size w w1->Calls P FS #[.string ⟨(y++s).toArray⟩] w1 fun e w'=>e= .returned (.bool ok)/\Below w1.heap.size w1 w')->
  Calls P HL #[.string ⟨s.toArray⟩,.pointer (some ⟨b,0,none⟩)] w fun e w'=>e= .returned (.bool ok)/\∃w1,Below w.heap.size w w1/\w'=if ok=true then w1.setCells α.block α.off [.string ⟨(y++s).toArray⟩] else w1
def wX (P:Program) (t:TypeId) (ti:TI):Prop:=
 match ti.ty with
 | .bool=>P.underlying t=some .bool
 | .int k=>P.underlying t=some (.int k)
 | .str=>P.underlying t=some .string
 | .ref=> ∃e,P.underlying t=some (.pointer e)
 | .clo=> ∃a b c,P.underlying t=some (.func a b c)
 | .mp=>P.underlying t=some (.map ti.elem ti.bytes)
 | .rl _ _=> ∃e,P.underlying t=some (.slice e)
 | .fn=> ∃a b c,P.underlying t=some (.func a b c)
 | .mref=> ∃e,P.underlying t=some (.pointer e)
 | .ap=>(∃a b c,P.underlying t=some (.func a b c))/\a95 P
 | .list u=>P.underlying t=some (.slice ti.elem)/\(P.info? ti.elem).map (fun i=>(i.size,i.bytes,i.zero))=some (u.cells,ti.bytes,some (xQ u))/\(P.underlying ti.elem).map (·.isRow)=some u.isRow
 |ty=>((ti.arr=false/\∃fs,P.underlying t=some (.struct fs)/\N8 P ty 0 fs.toList)\/(ti.arr=true/\∃n e,P.underlying t=some (.array n e)/\Q4 P e ty n/\(P.info? e).isSome=true))/\(ti.bytes=1->P.eqGuardType P.depth t=false/\∃h,h<9000/\yM P h (.ty t) ty)
def sY (P:Program) (t:TypeId) (ti:TI):Prop:=(P.info? t).map (fun i=>(i.size,i.zero))=some (ti.ty.cells,some (xQ ti.ty))/\wX P t ti
def wY (P:Program):sI->Prop
 |[]=>True
 |(t,ti)::r=>sY P t ti/\wY P r
theorem sP {P:Program}: ∀{T:sI},wY P T->∀{t:TypeId}{ti:TI},rO T t=some ti->sY P t ti
 |[],_,_,_,h=>by simp [rO] at h
 |(k,ti)::r,hT,t,ti',h=>by
  simp only[rO] at h;by_cases hk:k=t
  .rw[aSj hk] at h;subst hk;rw[<-aSo h];exact hT.1
  rw[aSl hk] at h;exact sP hT.2 h
theorem DF (g:Gh) (w:pN): ∀t:Ty,Rd g w t t.zero (u1 t)
 | .bool=>rfl
 | .int _=>rfl
 | .str=>rfl
 | .list _=>⟨none,0,rfl,aSE _,.inl rfl⟩
 | .unit=>rfl
 | .pair a b=>⟨_,_,rfl,DF g w a,DF g w b⟩
 | .ref=>rfl
 | .clo=>rfl
 | .mp=>rfl
 | .rl _ _=>rfl
 | .fn=>rfl
 | .mref=>rfl
 | .ap=> .inl ⟨rfl,rfl⟩
theorem KQ (g:Gh) (w:pN) (t:Ty):sW g w t t.zero (xQ t):=by
 unfold sW xQ;by_cases h:t.isRow=true
 .left;rw[aSj h];exact⟨h,_,rfl,DF g w t⟩
 right;rw[aSl h];refine⟨by simpa using h,?_⟩;cases t<;>first|exact DF g w _|(simp [Ty.isRow] at h)
theorem EV {g:Gh}{w:pN}{t:Ty}{x:t.den}{v:pO}(h:sW g w t x v):Rd g w t x v.cells.toList:=by
 rcases h with⟨_,cs,rfl,r⟩ |⟨hr,r⟩
 .simpa[Value.cells] using r
 have h1:=zY r v pE;have:v.cells= #[v]:=by cases v<;>first|rfl|(simp [Value.oneCell'] at h1)
 rw[this];exact r
theorem wZ {g:Gh}{w:pN}{t:Ty}{x:t.den}{v:pO}(hr:t.isRow=false) (h:sW g w t x v):Rd g w t x [v]:=by
 rcases h with⟨h1,_⟩ |⟨_,r⟩
 .rw[hr] at h1;cases h1
 exact r
theorem wF {g:Gh}{w:pN}{k:IntKind}{n:Int}{v:pO}(h:sW g w (.int k) n v):v= .int k n:=by
 have:=wZ rfl h;simp only[Rd,aS4,and_true] at this;exact this
theorem vE {g:Gh}{w:pN}{n:Bool}{v:pO}(h:sW g w .bool n v):v= .bool n:=by
 have:=wZ rfl h;simp only[Rd,aS4,and_true] at this;exact this
theorem x6 {g:Gh}{w:pN}{l:p8}{v:pO}(h:sW g w .str l v):v= .string ⟨l.toArray⟩:=by
 have:=wZ rfl h;simp only[Rd,aS4,and_true] at this;exact this
theorem EW {g:Gh}{w:pN}{t:Ty}{l:List t.den}{v:pO}(h:sW g w (.list t) l v): ∃a cap,v= .slice a l.length cap/\l.length<=cap/\(l=[]\/∃b o,a=some ⟨b,o,none⟩/\yJ (Rd g w t) w g.S t.cells b o l):=by
 have:=wZ rfl h;obtain⟨a,cap,e,h1,h2⟩:=this;simp only[aS4,and_true] at e;exact⟨a,cap,e,h1,h2⟩
theorem x7 {g:Gh}{w:pN}{i o:Nat}{v:pO}(h:sW g w .ref (some (i,o)) v): ∃p,g.J i=some p/\v= .pointer (some ⟨p.1,p.2+o,none⟩):=by
 have:=wZ rfl h;obtain⟨p,h1,e⟩:=this;simp only[aS4,and_true] at e;exact⟨p,h1,e⟩
theorem KR {g:Gh}{w:pN}{t:Ty}{x:t.den}{v:pO}(hr:t.isRow=true) (h:sW g w t x v): ∃cs:pJ,v= .agg cs.toArray/\Rd g w t x cs:=by
 rcases h with⟨_,r⟩ |⟨h1,_⟩
 .exact r
 rw[hr] at h1;cases h1
theorem wB (g:Gh) (w:pN) (k:IntKind) (n:Int):sW g w (.int k) n (.int k n):= .inr ⟨rfl,rfl⟩
theorem vF (g:Gh) (w:pN) (b:Bool):sW g w .bool b (.bool b):= .inr ⟨rfl,rfl⟩
theorem KS (g:Gh) (w:pN) (l:p8):sW g w .str l (.string ⟨l.toArray⟩):= .inr ⟨rfl,rfl⟩
def rC (P:Program) (o:Oper) (a:Act) (g:Gh) (w:pN) (H:s5) (e:qJ):Prop:=
 ∀(K:Act->pN->Prop) (Q:Exit->Act->pN->Prop),(∀g' w' v,zN g w H e g' w' v->K (a.put o.dst v) w')->o.wp P a w K Q
theorem rC.valueW {P:Program}{o:Oper}{a:Act}{g g':Gh}{w w':pN}{H:s5}{e:qJ}{v:pO}(hr:(execOp a.eval o).run P w= .ok (.value v) w') (h:zN g w H e g' w' v):rC P o a g w H e:=by
 intro K Q hK;unfold Oper.wp;rw[hr];exact hK g' w' v h
theorem rC.skipW {P:Program}{o:Oper}{a:Act}{g g':Gh}{w w':pN}{H:s5}{e:qJ}(hr:(execOp a.eval o).run P w= .ok .skip w') (h:zN g w H e g' w' undef):rC P o a g w H e:=by
 intro K Q hK;unfold Oper.wp;rw[hr];exact hK g' w' undef h
theorem rC.value {P:Program}{o:Oper}{a:Act}{g g':Gh}{w w':pN}{H:s5}{e:qJ}{v:pO}(hr:(execOp a.eval o).run P w= .ok (.value v) w') (h:rE g w H e g' w' v):rC P o a g w H e:= .valueW hr h.w
theorem rC.skip {P:Program}{o:Oper}{a:Act}{g g':Gh}{w w':pN}{H:s5}{e:qJ}(hr:(execOp a.eval o).run P w= .ok .skip w') (h:rE g w H e g' w' undef):rC P o a g w H e:= .skipW hr h.w
theorem rC.pure {P:Program}{o:Oper}{a:Act}{g:Gh}{w:pN}{H:s5}{side:List Prop}{d:DV}{rds:pM}{v:pO}(hH:s9 g w H) (hr:(execOp a.eval o).run P w= .ok (.value v) w) (h:yK g w d v):
  rC P o a g w H ⟨side,(d,none),[],rds⟩:= .value hr (.pure hH ⟨h,trivial⟩)
section
variable {P:Program}{o:Oper}{a:Act}{g:Gh}{w:pN}{H:s5}
theorem UO {g:Gh}{w:pN}{k:IntKind}(q:Int) (hq: ∀p∈(JV k q).1,p):yK g w (JV k q).2 (.int k (k.wrap q)):=by
 cases k<;>simp only[JV] at hq|- <;>first|exact wB _ _ _ _|skip
 have h0:=hq _ (aSC.2 rfl);rw[show IntKind.i64.wrap q=q from IntWalk.i64_in q pC];exact wB _ _ _ _
theorem aIS (g:Gh) {op:BinOp}{xt:TypeId}{x y:Operand}{k:IntKind}{m n:Int}{r:List Prop×DV}(hr:XV k m n op=some r) (hs: ∀p∈r.1,p):
  ∃v,(do eqGuard op xt x y (.int k m) (.int k n);Go.binOp op xt (.int k m) (.int k n):Sem pO).run P w= .ok v w/\yK g w r.2 v:=by
 cases op<;>simp only[XV,aSk,reduceCtorEq] at hr
 all_goals subst hr
 case add=>exact⟨.int k (k.wrap _),by simp [eqGuard,Go.binOp,Op.intArith],UO _ hs⟩
 case sub=>exact⟨.int k (k.wrap _),by simp [eqGuard,Go.binOp,Op.intArith],UO _ hs⟩
 case mul=>exact⟨.int k (k.wrap _),by simp [eqGuard,Go.binOp,Op.intArith],UO _ hs⟩
 case eql=>exact⟨.bool (decide (m=n)),by simp [eqGuard,Go.binOp,Op.intCmp];rfl,vF _ _ _⟩
 case neq=>exact⟨.bool (!decide (m=n)),by simp [eqGuard,Go.binOp,Op.intCmp,bne];rfl,vF _ _ _⟩
 case lss=>exact⟨.bool (decide _),by simp [eqGuard,Go.binOp,Op.intCmp],vF _ _ _⟩
 case leq=>exact⟨.bool (decide _),by simp [eqGuard,Go.binOp,Op.intCmp],vF _ _ _⟩
 case gtr=>exact⟨.bool (decide (n<m)),by simp [eqGuard,Go.binOp,Op.intCmp],vF _ _ _⟩
 case geq=>exact⟨.bool (decide (n<=m)),by simp [eqGuard,Go.binOp,Op.intCmp],vF _ _ _⟩
 case quo=>
  have h0:=hs _ (aSC.2 rfl);exact⟨.int k (k.wrap (Int.tdiv m n)),by simp [eqGuard,Go.binOp,Op.intDiv,h0],wB _ _ _ _⟩
 case rem=>
  have h0:=hs _ (aSC.2 rfl);exact⟨.int k (Int.tmod m n),by simp [eqGuard,Go.binOp,Op.intDiv,h0],wB _ _ _ _⟩
 case and=>exact⟨.int k (bits .and k m n),by simp [eqGuard,Go.binOp,intBits_and],wB _ _ _ _⟩
 case or=>exact⟨.int k (bits .or k m n),by simp [eqGuard,Go.binOp,intBits_or],wB _ _ _ _⟩
 case xor=>exact⟨.int k (bits .xor k m n),by simp [eqGuard,Go.binOp,intBits_xor],wB _ _ _ _⟩
 case andNot=>exact⟨.int k (bits .andNot k m n),by simp [eqGuard,Go.binOp,intBits_andNot],wB _ _ _ _⟩
theorem Q5 (m n:p8):(m==n)=decide (m=n):=by rw[aTZ];simp
theorem aIT (g:Gh) {op:BinOp}{xt:TypeId}{x y:Operand}{m n:p8}{r:List Prop×DV}(hr:XX m n op=some r) (hs: ∀p∈r.1,p):
  ∃v,(do eqGuard op xt x y (.string ⟨m.toArray⟩) (.string ⟨n.toArray⟩);Go.binOp op xt (.string ⟨m.toArray⟩) (.string ⟨n.toArray⟩):Sem pO).run P w= .ok v w/\yK g w r.2 v:=by
 have hl: ∀l:p8,(⟨l.toArray⟩:ByteArray).size=l.length:=fun l=>by simp [ByteArray.size]
 cases op<;>simp only[XX,aSk,reduceCtorEq] at hr
 all_goals subst hr
 case add=>
  have h0:=hs _ (aSC.2 rfl);refine⟨.string ⟨(m++n).toArray⟩,?_,KS _ _ _⟩;rw[aSp] at h0;have h1: ¬(((⟨m.toArray⟩:ByteArray).size+(⟨n.toArray⟩:ByteArray).size:Nat):Int) >IntKind.i64.max:=by rw[hl,hl,show IntKind.i64.max=9223372036854775807 from by decide];omega
  simp only[eqGuard,Go.binOp,Op.stringOp,aSw,aSl h1];simp;rfl
 case eql=>exact⟨.bool (decide (m=n)),by simp [eqGuard,Go.binOp,Op.stringOp,Q5],vF _ _ _⟩
 case neq=>exact⟨.bool (!decide (m=n)),by simp [eqGuard,Go.binOp,Op.stringOp,Q5],vF _ _ _⟩
 case lss=>exact⟨.bool (Op.bytesLess m n),by simp [eqGuard,Go.binOp,Op.stringOp],vF _ _ _⟩
 case leq=>exact⟨.bool (Op.bytesLess m n||decide (m=n)),by simp [eqGuard,Go.binOp,Op.stringOp,Q5],vF _ _ _⟩
 case gtr=>exact⟨.bool (!(Op.bytesLess m n||decide (m=n))),by simp [eqGuard,Go.binOp,Op.stringOp,Q5],vF _ _ _⟩
 case geq=>exact⟨.bool (!Op.bytesLess m n),by simp [eqGuard,Go.binOp,Op.stringOp],vF _ _ _⟩
theorem I5 {r:Option (List Prop×DV)}{e:qJ}(h:AI r=some e): ∃q,r=some q/\e=⟨q.1,(q.2,none),[],[]⟩:=by
 cases r with
 |none=>cases h
 |some q=>obtain⟨p,d⟩:=q;exact⟨(p,d),rfl,(aSo h).symm⟩
theorem aIU (hH:s9 g w H) {op:BinOp}{xt yt:TypeId}{x y:Operand}(ho:o.op= .binOp op xt x y yt) {sx sy:pX}(hx:rF g w sx (a.eval x)) (hy:rF g w sy (a.eval y)) {e:qJ}
  (hr:AI (SL op sx sy)=some e) (hs: ∀p∈e.side,p):rC P o a g w H e:=by
 obtain⟨q,hq,rfl⟩:=I5 hr;have go: ∀{u v:pO},a.eval x=u->a.eval y=v->(∃z,(do eqGuard op xt x y u v;Go.binOp op xt u v:Sem pO).run P w= .ok z w/\yK g w q.2 z)->rC P o a g w H ⟨q.1,(q.2,none),[],[]⟩:=by
  rintro u v rfl rfl ⟨z,hz,hd⟩;refine rC.pure hH (v:=z) ?_ hd;unfold execOp;rw[ho];simp only[aSw,aSI] at hz|-;rw[hz];rfl
 obtain⟨dx,kx⟩:=sx;obtain⟨dy,ky⟩:=sy;replace hx:=hx.1;replace hy:=hy.1;unfold SL at hq;split at hq
 .rename_i k m k1 k' n k2 e1 e2;simp only[aSP] at e1 e2;obtain⟨rfl,-⟩:=e1;obtain⟨rfl,-⟩:=e2;unfold a9a at hq;split at hq
  .cases hq;have h0:=hs _ (aSC.2 rfl);exact go (wF hx) (wF hy) ⟨.int k (XW k m n),by simp [eqGuard,Go.binOp,Op.shift,XW,Int.not_lt.2 h0],wB _ _ _ _⟩
  .cases hq;have h0:=hs _ (aSC.2 rfl);exact go (wF hx) (wF hy) ⟨.int k (y7 k m n),by simp [eqGuard,Go.binOp,Op.shift,y7,Int.not_lt.2 h0],wB _ _ _ _⟩
  by_cases hk:k=k'
  .subst hk;rw[aSj rfl] at hq;exact go (wF hx) (wF hy) (aIS g hq hs)
  rw[aSl hk] at hq;cases hq
 .rename_i m k1 n k2 e1 e2;simp only[aSP] at e1 e2;obtain⟨rfl,-⟩:=e1;obtain⟨rfl,-⟩:=e2;exact go (x6 hx) (x6 hy) (aIT g hq hs)
 cases hq
theorem aIV (hH:s9 g w H) {op:BinOp}{xt yt:TypeId}{x y:Operand}(ho:o.op= .binOp op xt x y yt) {ti:Option TI}{sx sy:pX}(hx:rF g w sx (a.eval x)) (hy:rF g w sy (a.eval y)) {e:qJ}
  (hr:AI (SM op ti sx sy)=some e):rC P o a g w H e:=by
 obtain⟨q,hq,rfl⟩:=I5 hr;unfold SM at hq;split at hq
 .rename_i k m _ k' n _;by_cases hk:k=k'
  .subst hk;rw[aSj rfl] at hq;have hx1:=wF hx.1;have hy1:=wF hy.1;cases op<;>simp only[a9b,aSk,reduceCtorEq] at hq
   all_goals subst hq
   all_goals refine rC.pure hH (v:= .int k (k.wrap _)) ?_ (wB _ _ _ _)
   all_goals
    unfold execOp;rw[ho];simp [hx1,hy1,eqGuard,Go.binOp,Op.intArith]
  rw[aSl hk] at hq;cases hq
 cases hq
theorem aIW (hH:s9 g w H) {op:UnOp}{xt:TypeId}{x:Operand}(ho:o.op= .unOp op xt x) {sx:pX}(hx:rF g w sx (a.eval x)) {e:qJ}
  (hr:AI (Y0 op sx)=some e) (hs: ∀p∈e.side,p):rC P o a g w H e:=by
 obtain⟨q,hq,rfl⟩:=I5 hr;replace hx:=hx.1;unfold Y0 at hq;split at hq
 .have:=vE hx;cases hq;refine rC.pure hH (v:= .bool _) ?_ (vF _ _ _);simp [execOp,ho,this,Op.unary]
 .rename_i k n _;have:=wF hx;cases hq;refine rC.pure hH (v:= .int k (k.wrap (-n))) ?_ (UO _ hs);simp [execOp,ho,this,Op.unary,Op.intArith]
 cases hq
theorem UP {t:TypeId}{ti:TI}(h:sY P t ti): ∃d,P.underlying t=some d/\d.isRow=ti.ty.isRow:=by
 have h2:=h.2;unfold wX at h2;obtain⟨ty,el,by',ar,ls⟩:=ti;cases ty<;>simp only at h2
 case bool=>exact⟨_,h2,rfl⟩
 case int=>exact⟨_,h2,rfl⟩
 case str=>exact⟨_,h2,rfl⟩
 case list=>exact⟨_,h2.1,rfl⟩
 case ref=>obtain⟨e,h⟩:=h2;exact⟨_,h,rfl⟩
 case clo=>obtain⟨a,b,c,h⟩:=h2;exact⟨_,h,rfl⟩
 case mp=>exact⟨_,h2,rfl⟩
 case rl=>obtain⟨e,h⟩:=h2;exact⟨_,h,rfl⟩
 case fn=>obtain⟨a,b,c,h⟩:=h2;exact⟨_,h,rfl⟩
 case ap=>obtain⟨⟨a,b,c,h⟩,_⟩:=h2;exact⟨_,h,rfl⟩
 case mref=>obtain⟨e,h⟩:=h2;exact⟨_,h,rfl⟩
 all_goals
  rcases h2.1 with⟨_,fs,h,_⟩ |⟨_,n,e,h,_⟩
  .exact⟨_,h,rfl⟩
  exact⟨_,h,rfl⟩
theorem DG {t:TypeId}{ti:TI}(h:sY P t ti): ∃i,P.info? t=some i/\i.size=ti.ty.cells/\i.zero=some (xQ ti.ty):=by
 obtain⟨i,hi,he⟩:=aSA.1 h.1;simp only[aSP] at he;exact⟨i,hi,he.1,he.2⟩
theorem aIX {T:sI}(hT:wY P T) (hH:s9 g w H) {st dt:TypeId}{x:Operand}(ho:o.op= .convert st dt x) {sx:pX}(hx:rF g w sx (a.eval x)) {e:qJ}
  (hr:AI (SO (rO T st) (rO T dt) sx)=some e):rC P o a g w H e:=by
 obtain⟨q,hq,rfl⟩:=I5 hr;replace hx:=hx.1;generalize hs:rO T st=os at hq;generalize hd:rO T dt=od at hq;unfold SO at hq;split at hq
 .rename_i k' k _ _ _ _ k0 n _;obtain⟨d,hd1,_⟩:=UP (sP hT hs);have hd2:=(sP hT hd).2;simp only[wX] at hd2;have:=wF hx;cases hq;refine rC.pure hH (v:= .int k (k.wrap n)) ?_ (wB _ _ _ _);simp [execOp,ho,this,Go.convert,aSF hd1,aSF hd2,Conv.intToInt]
 .rename_i k' _ _ _ _ s _;obtain⟨d,hd1,_⟩:=UP (sP hT hs);have hd2:=(sP hT hd).2;simp only[wX] at hd2;have:=x6 hx;cases hq;refine rC.pure hH (v:= .string ⟨List.toArray s⟩) ?_ (KS _ _ _);simp [execOp,ho,this,Go.convert,aSF hd1,aSF hd2]
 cases hq
theorem UQ {α:Type}{R:α->pJ->Prop}{w:pN}{S:Nat->Nat->Prop}{c b:Nat}: ∀{l:List α}{o i:Nat}{x:α},yJ R w S c b o l->l[i]? =some x->
  ∃cs,cs.length=c/\w.rangeAt b (o+i*c) cs/\(∀j,j<c->S b (o+i*c+j))/\R x cs
 |y::l,o,0,x,⟨⟨cs,h1,h2,h3,h4⟩,_⟩,h=>by
  simp only[aSY,aSk] at h;subst h;exact⟨cs,h1,by simpa using h2,by simpa using h3,h4⟩
 |y::l,o,i+1,x,⟨_,h5⟩,h=>by
  simp only[aS7] at h;obtain⟨cs,h1,h2,h3,h4⟩:=UQ h5 h;have e:o+c+i*c=o+(i+1)*c:=by rw[aTD];omega
  exact⟨cs,h1,by rw[<-e];exact h2,by rw[<-e];exact h3,h4⟩
theorem a96 {α:Type}{R:α->pJ->Prop}{w:pN}{S:Nat->Nat->Prop}{c b:Nat}: ∀{l:List α}{o:Nat}(i:Nat),yJ R w S c b o l->i<=l.length->yJ R w S c b (o+i*c) (l.drop i)
 |_,o,0,h,_=>by simpa using h
 |[],o,i+1,_,h=>by simp at h
 |y::l,o,i+1,⟨_,h5⟩,h=>by
  have:=a96 i h5 (by simpa using h);have e:o+c+i*c=o+(i+1)*c:=by rw[aTD];omega
  rw[<-e];simpa using this
theorem a97 {α:Type}{R:α->pJ->Prop}{w:pN}{S:Nat->Nat->Prop}{c b:Nat}: ∀{l:List α}{o:Nat}(i:Nat),yJ R w S c b o l->yJ R w S c b o (l.take i)
 |_,_,0,_=>by simp [yJ]
 |[],_,_+1,_=>by simp [yJ]
 |_::_,_,i+1,⟨h,h5⟩=>by simpa[yJ] using⟨h,a97 i h5⟩
theorem ZT {g:Gh}{w:pN}: ∀{t:Ty}{x:t.den}{cs:pJ}{f:Nat}{u:Ty}{y:u.den},Rd g w t x cs->t.proj x f=some ⟨u,y⟩->
  ∃o c1 c2 c3,t.offs f=some o/\t.fld f=some u/\cs=c1++c2++c3/\c1.length=o/\Rd g w u y c2:=by
 intro t
 induction t with
 |pair a b _ ihb=>
  intro x cs f u y r h;obtain⟨c1,c2,e,r1,r2⟩:=r;cases f with
  |zero=>
   simp only[Ty.proj,aSk,Sigma.mk.injEq] at h;obtain⟨rfl,h2⟩:=h;obtain rfl:=eq_of_heq h2;exact⟨0,[],c1,c2,rfl,rfl,by simpa using e,rfl,r1⟩
  |succ f=>
   simp only[Ty.proj] at h;obtain⟨o,d1,d2,d3,h1,h2,h3,h4,h5⟩:=ihb r2 h;refine⟨a.cells+o,c1++d1,d2,d3,by simp [Ty.offs,h1],by simpa[Ty.fld] using h2,by rw[e,h3];simp,?_,h5⟩;rw[aSp,h4,sL r1]
 |_=>intro x cs f u y r h;cases f<;>simp [Ty.proj] at h
theorem ZU {P:Program}: ∀{ty:Ty}{off:Nat}{fs:List Field}{f o:Nat}{u:Ty},N8 P ty off fs->ty.offs f=some o->ty.fld f=some u->
  ∃fd,fs[f]? =some fd/\fd.offset=off+o/\(P.info? fd.type).map (·.size)=some u.cells/\(P.underlying fd.type).map (·.isRow)=some u.isRow:=by
 intro ty
 induction ty with
 |pair a b _ ihb=>
  intro off fs f o u h ho hu;cases fs with
  |nil=>exact h.elim
  |cons fd fs=>
   obtain⟨h1,h2,h3,h4⟩:=h;cases f with
   |zero=>
    simp only[Ty.offs,aSk] at ho;simp only[Ty.fld,aSk] at hu;subst ho;subst hu;exact⟨fd,rfl,pC,h2,h3⟩
   |succ f=>
    simp only[Ty.offs,aSA] at ho;obtain⟨o',ho',rfl⟩:=ho;obtain⟨fd',k1,k2,k3,k4⟩:=ihb h4 ho' hu;exact⟨fd',by simpa using k1,pC,k3,k4⟩
 |_=>intro off fs f o u h ho hu;cases f<;>simp [Ty.offs] at ho
theorem ZV {P:Program}{e:TypeId}: ∀{ty:Ty}{n f o:Nat}{u:Ty},Q4 P e ty n->ty.offs f=some o->ty.fld f=some u->
  f<n/\(P.info? e).map (·.size)=some u.cells/\(P.underlying e).map (·.isRow)=some u.isRow/\o=f*u.cells:=by
 intro ty
 induction ty with
 |pair a b _ ihb=>
  intro n f o u h ho hu;cases n with
  |zero=>exact h.elim
  |succ n=>
   obtain⟨h2,h3,h4⟩:=h;cases f with
   |zero=>
    simp only[Ty.offs,aSk] at ho;simp only[Ty.fld,aSk] at hu;subst ho;subst hu;exact⟨pC,h2,h3,by simp⟩
   |succ f=>
    simp only[Ty.offs,aSA] at ho;obtain⟨o',ho',rfl⟩:=ho;obtain⟨k1,k2,k3,k4⟩:=ihb h4 ho' hu;rw[h2] at k2;have hc:a.cells=u.cells:=aSo k2;exact⟨pC,by rw[h2,hc],k3,by rw[k4,hc,aTD];omega⟩
 |_=>intro n f o u h ho hu;cases f<;>simp [Ty.offs] at ho
theorem Q6 {t:TypeId}{u:Ty}(hi:(P.info? t).map (·.size)=some u.cells) (hr:(P.underlying t).map (·.isRow)=some u.isRow) {y:u.den}{c1 c2 c3:pJ}(h:Rd g w u y c2):
  ∃v,(part t (c1++c2++c3).toArray c1.length).run P w= .ok v w/\sW g w u y v:=by
 obtain⟨i,hi,hsz⟩:=aSA.1 hi;obtain⟨d,hd,hrow⟩:=aSA.1 hr;have hl:=sL h;by_cases hu:u.isRow=true
 .refine⟨.agg c2.toArray,?_,.inl ⟨hu,c2,rfl,h⟩⟩;have hagg:(isAgg t).run P w= .ok true w:=by
   unfold isAgg;rw[aSw,aSF hd w];rw[hu] at hrow;cases d<;>simp_all [TypeDesc.isRow]
  simp only[part,aSw,hagg,aSr,aTQ,sizeOf,typeInfo,aTf,hi,hsz,aSI];congr 2;apply aTn.1;simp [<-hl]
 have hu':u.isRow=false:=by simpa using hu
 have h1:u.cells=1:=by cases u<;>first|rfl|(simp [Ty.isRow] at hu')
 obtain⟨v,rfl⟩: ∃v,c2=[v]:=by
  rw[h1] at hl;exact aTt.1 hl
 refine⟨v,?_,.inr ⟨hu',h⟩⟩;have hagg:(isAgg t).run P w= .ok false w:=by
  unfold isAgg;rw[aSw,aSF hd w];rw[hu'] at hrow;cases d<;>simp_all [TypeDesc.isRow]
 simp only[part,aSw,hagg,aSr];simp
theorem ZW {t:TypeId}{ti:TI}(h:sY P t ti) (hr:ti.ty.isRow=true):
  (ti.arr=false/\∃fs,P.underlying t=some (.struct fs)/\N8 P ti.ty 0 fs.toList)\/(ti.arr=true/\∃n e,P.underlying t=some (.array n e)/\Q4 P e ti.ty n/\(P.info? e).isSome=true):=by
 have h2:=h.2;unfold wX at h2;obtain⟨ty,el,by',ar,ls⟩:=ti;cases ty<;>simp only[Ty.isRow,aTy] at hr<;>exact h2.1
theorem a98 {t:TypeId}{ti:TI}(h:sY P t ti) (hr:ti.ty.isRow=true) (ha:ti.arr=false): ∃fs,P.underlying t=some (.struct fs)/\N8 P ti.ty 0 fs.toList:=by
 rcases ZW h hr with⟨_,h⟩ |⟨h,_⟩
 .exact h
 rw[ha] at h;cases h
theorem a99 {t:TypeId}{ti:TI}(h:sY P t ti) (hr:ti.ty.isRow=true) (ha:ti.arr=true): ∃n e,P.underlying t=some (.array n e)/\Q4 P e ti.ty n/\(P.info? e).isSome=true:=by
 rcases ZW h hr with⟨h,_⟩ |⟨_,h⟩
 .rw[ha] at h;cases h
 exact h
theorem aIY {t:Ty}{x:t.den}{f:Nat}{q: Σ u:Ty,u.den}(h:t.proj x f=some q):t.isRow=true:=by
 cases t<;>first|rfl|(cases f<;>simp [Ty.proj] at h)
theorem aIZ {t:Ty}{f o:Nat}(h:t.offs f=some o):t.isRow=true:=by
 cases t<;>first|rfl|(cases f<;>simp [Ty.offs] at h)
end
theorem aI0 (l:p8) (n:Nat) (h:n<l.length):(⟨l.toArray⟩:ByteArray)[n]? =some l[n]:=by
 have:n<(⟨l.toArray⟩:ByteArray).size:=by simpa[ByteArray.size] using h
 rw[getElem?_pos (⟨l.toArray⟩:ByteArray) n this];rfl
theorem yW {i:Int}{n:Nat}(h0:0<=i) (h1:i<n):i.toNat<n:=by omega
theorem aAa {i:Int}{n:Nat}(h0:0<=i) (h1:i.toNat<n):i<n:=by omega
section
variable {P:Program}{o:Oper}{a:Act}{g:Gh}{w:pN}{H:s5}{T:sI}(hT:wY P T) (hH:s9 g w H)
include hT hH
theorem aI1 {t:TypeId}{x:Operand}{f:Nat}(ho:o.op= .field t x f) {sx:pX}(hx:rF g w sx (a.eval x)) {e:qJ}(hr:Z0 f (rO T t) sx=some e):rC P o a g w H e:=by
 generalize hs:rO T t=ot at hr;replace hx:=hx.1;unfold Z0 at hr;split at hr
 .rename_i ty el by' ls_ u y _;split at hr
  .rename_i hu;subst hu;have hty:=sP hT hs;generalize hp:u.proj y f=q at hr;cases q with
   |none=>cases hr
   |some q=>
    obtain⟨u,z⟩:=q;cases hr;have hrow:=aIY hp;obtain⟨cs,hv,hR⟩:=KR hrow hx;obtain⟨oo,c1,c2,c3,h1,h2,rfl,rfl,h5⟩:=ZT hR hp;obtain⟨fs,hfs,hfe⟩:=a98 hty hrow rfl;obtain⟨fd,k1,k2,k3,k4⟩:=ZU hfe h1 h2;obtain⟨v,hv1,hv2⟩:=Q6 k3 k4 (P:=P) (c1:=c1) (c3:=c3) h5;refine rC.pure hH (v:=v) ?_ hv2;have k1':fs[f]? =some fd:=by simpa using k1
    simp only[execOp,ho,hv,Instr.field,aSw,aSF hfs,aSr,k1',asAgg,aSI,k2,aSS,hv1]
  cases hr
 cases hr
theorem ZX {t:TypeId}{ti:TI}(hty:sY P t ti) (har:ti.arr=false) {f oo:Nat}{u:Ty}(h1:ti.ty.offs f=some oo) (h2:ti.ty.fld f=some u) (hpos:0<u.cells) (b off:Nat):
  (Instr.fieldAt t (.pointer (some ⟨b,off,none⟩)) f).run P w= .ok (.pointer (some ⟨b,off+oo,none⟩)) w:=by
 obtain⟨fs,hfs,hfe⟩:=a98 hty (aIZ h1) har;obtain⟨fd,k1,k2,k3,k4⟩:=ZU hfe h1 h2;obtain⟨i,hi,hsz⟩:=aSA.1 k3;have k1':fs[f]? =some fd:=by simpa using k1
 have hne: ¬(u.cells=0):=by omega
 simp only[Instr.fieldAt,aSw,aSF hfs,aSr,k1',Instr.sureAddr,aSI,fieldPlace,sizeOf,typeInfo,aTf,hi,hsz,aSl hne,k2,aSS,aTp]
theorem aI2 {t:TypeId}{x:Operand}{f:Nat}(ho:o.op= .fieldAddr t x f) {sx:pX}(hx:rF g w sx (a.eval x)) {e:qJ}(hr:YZ f (rO T t) sx=some e):rC P o a g w H e:=by
 generalize hs:rO T t=ot at hr;replace hx:=hx.1;unfold YZ at hr;split at hr
 .rename_i ty el by' ls_ k n c i o' _;have hty:=sP hT hs;generalize h1:ty.offs f=o1 at hr;generalize h2:ty.fld f=o2 at hr;unfold a9F at hr;split at hr
  .split at hr
   .rename_i oo u hpos;cases hr;obtain⟨b,cap,hc,hi0,hi1,hv⟩:=hx;refine rC.pure hH (v:= .pointer (some ⟨b,i.toNat*c+o'+oo,none⟩)) ?_ ⟨b,cap,hc,hi0,hi1,by rw[aS3]⟩;simp only[execOp,ho,hv,aSw,ZX hT hH hty rfl h1 h2 hpos,aSr,aSI]
   cases hr
  cases hr
 .rename_i ty el by' ls_ u y _;split at hr
  .rename_i hu;subst hu;have hty:=sP hT hs;generalize hp:u.proj y f=q at hr;cases q with
   |none=>cases hr
   |some q=>
    obtain⟨u,z⟩:=q;simp only[TS] at hr;split at hr
    .rename_i hpos;cases hr;obtain⟨b,off,cs,hv,hra,hS,hR⟩:=hx;obtain⟨oo,c1,c2,c3,h1,h2,rfl,rfl,h5⟩:=ZT hR hp;refine rC.pure hH (v:= .pointer (some ⟨b,off+c1.length,none⟩)) ?_ ⟨b,off+c1.length,c2,rfl,fun j v hj=>?_,fun j hj=>?_,h5⟩
     .simp only[execOp,ho,hv,aSw,ZX hT hH hty rfl h1 h2 hpos,aSr,aSI]
     .have:=hra (c1.length+j) v (by
       have hj':=(aSz.1 hj).1;rw[aSv,aSt pC,aS9,aSD hj'];exact hj)
      rw[aS3];exact this
     have:=hS (c1.length+j) (by
      have:=sL hR;have h6:=sL h5;simp only[aSp] at this;omega)
     rw[aS3];exact this
    cases hr
  cases hr
 .rename_i ty el by' ls_ i off _;have hty:=sP hT hs;generalize h1:ty.offs f=o1 at hr;generalize h2:ty.fld f=o2 at hr;unfold TT at hr;split at hr
  .split at hr
   .rename_i oo u hpos;cases hr;obtain⟨p,hp,hv⟩:=x7 hx;refine rC.pure hH (v:= .pointer (some ⟨p.1,p.2+off+oo,none⟩)) ?_ (.inr ⟨rfl,p,hp,by rw[aS3]⟩);simp only[execOp,ho,hv,aSw,ZX hT hH hty rfl h1 h2 hpos,aSr,aSI]
   cases hr
  cases hr
 cases hr
theorem aI3 {x:Operand}{i:Nat}(ho:o.op= .extract x i) {sx:pX}(hx:rF g w sx (a.eval x)) {e:qJ}(hr:Z3 i sx=some e) (hs: ∀p∈e.side,p):rC P o a g w H e:=by
 replace hx:=hx.1;unfold Z3 at hr;split at hr
 rotate_left
 .rename_i b p c _;have run: ∀(v:pO) (vs:Array pO),a.eval x= .tuple vs->vs[i]? =some v->(execOp a.eval o).run P w= .ok (.value v) w:=by
   intro v vs h1 h2;simp [execOp,ho,h1,Instr.extract,h2]
  obtain⟨h1,h2⟩:=hx;unfold a9G at hr;split at hr
  .cases hr;cases b with
   |true=>exact rC.pure hH (run (.bool true) _ (h1 rfl) rfl) (vF _ _ _)
   |false=>exact rC.pure hH (run (.bool false) _ (h2 rfl) rfl) (vF _ _ _)
  .cases hr;have hb:=hs (b=true) pE;exact rC.pure hH (run (.int .i64 p) _ (h1 hb) rfl) (wB _ _ _ _)
  .cases hr;have hb:=hs (b=true) pE;exact rC.pure hH (run (.int .i32 c) _ (h1 hb) rfl) (wB _ _ _ _)
  cases hr
 rotate_left
 .rename_i l _;obtain⟨vs,hv,hl⟩:=hx;have key: ∀(l:List ((Σ t:Ty,t.den)×pL)) (vs:pJ) (i:Nat),I3 g w l vs->TU l i=some e->∃v,vs[i]? =some v/\rF g w e.slot v/\e.upd=[]/\e.rds=[]:=by
   intro l
   induction l with
   |nil=>intro vs i _ h;cases i<;>cases h
   |cons q l ih=>
    obtain⟨⟨t,x⟩,k⟩:=q;rintro vs i ⟨v,vs',rfl,r1,r2,r3⟩ h;cases i with
    |zero=>
     simp only[TU,aSk] at h;subst h;refine⟨v,rfl,?_,rfl,rfl⟩;have gen:rF g w (.val t x,k) v:=⟨r1,by
      cases k with
      |none=>trivial
      |some k=>exact r2⟩
     cases t with
     |rl e u=>
      cases x with
      |none=>exact⟨r1,trivial⟩
      |some q=>
       obtain⟨k',n⟩:=q;obtain⟨v',h1,h2,h3⟩:=wZ rfl r1;simp only[aS4,and_true] at h2;subst h2;exact⟨⟨h1,h3⟩,trivial⟩
     |_=>exact gen
    |succ i=>
     obtain⟨v',h1,h2,h3,h4⟩:=ih vs' i r3 h;exact⟨v',by simpa using h1,h2,h3,h4⟩
  obtain⟨v,h1,h2,h3,h4⟩:=key l vs i hl hr;obtain⟨side,slot,upd,rds⟩:=e;simp only at h2 h3 h4;subst h3;refine rC.value (v:=v) (g':=g) (w':=w) ?_ (.pure hH h2);have:vs.toArray[i]? =some v:=by simpa using h1
  simp [execOp,ho,hv,Instr.extract,this]
 cases hr
theorem aI4 {x:Operand}(ho:o.op= .nilCheck x) {sx:pX}(hx:rF g w sx (a.eval x)) {e:qJ}(hr:YY sx=some e):rC P o a g w H e:=by
 replace hx:=hx.1;unfold YY at hr;split at hr
 .rename_i p _;obtain⟨i,off⟩:=p;cases hr;obtain⟨p,hp,hv⟩:=x7 hx;refine rC.pure hH (v:=a.eval x) ?_ hx;simp [execOp,ho,hv]
 .cases hr;obtain⟨b,off,cs,hv,h⟩:=hx;refine rC.pure hH (v:=a.eval x) ?_ ⟨b,off,cs,hv,h⟩;simp [execOp,ho,hv]
 .cases hr;obtain⟨b,cap,h1,h2,h3,hv⟩:=hx;refine rC.pure hH (v:=a.eval x) ?_ ⟨b,cap,h1,h2,h3,hv⟩;simp [execOp,ho,hv]
 cases hr
theorem aI5 {t:TypeId}{x ix:Operand}(ho:o.op= .index t x ix) {sx si:pX}(hx:rF g w sx (a.eval x)) (hi:rF g w si (a.eval ix)) {e:qJ}(hr:Z2 (rO T t) sx si=some e) (hs: ∀p∈e.side,p):rC P o a g w H e:=by
 generalize hst:rO T t=ot at hr;replace hx:=hx.1;replace hi:=hi.1;unfold Z2 at hr;split at hr
 .rename_i _ _ _ _ l _ k i _;cases hr;have hb:=hs _ (aSC.2 rfl);have h2:=(sP hT hst).2;simp only[wX] at h2;have hv:=x6 hx;have hvi:=wF hi;have hlt:(Int.toNat i)<List.length l:=yW hb.1 hb.2;refine rC.pure hH (v:= .int .u8 (rJ l i)) ?_ (wB _ _ _ _);have hget:(if (0:Int)<=i then(⟨List.toArray l⟩:ByteArray)[Int.toNat i]? else none)=some (l[Int.toNat i]):=by
   rw[aSj hb.1];exact aI0 l _ hlt
  have hbyte:rJ l i=((l[Int.toNat i]).toNat:Int):=by
   unfold rJ;rw[aSM,aSu hlt];rfl
  simp only[execOp,ho,hv,hvi,Instr.index,asIntOf,aSw,aSI,aSr,aSF h2,hget,hbyte]
 cases hr
theorem aI6 {t:TypeId}{x ix:Operand}(ho:o.op= .indexAddr t x ix) {sx si:pX}(hx:rF g w sx (a.eval x)) (hi:rF g w si (a.eval ix)) {e:qJ}(hr:Z1 (rO T t) sx si=some e) (hs: ∀p∈e.side,p):rC P o a g w H e:=by
 generalize hst:rO T t=ot at hr;replace hx:=hx.1;replace hi:=hi.1;unfold Z1 at hr;split at hr
 .rename_i t' el by' ar ls_ k n _ k' i _;split at hr
  .rename_i hpos;cases hr;have hb:=hs _ (aSC.2 rfl);obtain⟨h2,h3,_⟩:=(sP hT hst).2;obtain⟨ei,hei,hz⟩:=aSA.1 h3;simp only[aSP] at hz;have hvi:=wF hi;obtain⟨hc,hv⟩:=hx;rcases hv with⟨_,rfl⟩ |⟨b,cap,hv,hcap⟩
   .exact absurd (Int.lt_of_le_of_lt hb.1 hb.2) (Int.lt_irrefl 0)
   refine rC.pure hH (v:= .pointer (some ⟨b,0+Int.toNat i*t'.cells,none⟩)) ?_ ⟨b,cap,by rw[<-hv];exact hc,hb.1,hb.2,by rw[aSS,aTu]⟩;simp only[execOp,ho,hv,hvi,Instr.indexAt,asIntOf,aSw,aSI,aSr,aSF h2,sizeOf,typeInfo,aTf,hei,hz.1,aSj hb,aTp]
  cases hr
 .rename_i t' el by' ar ls_ t1 l _ k i _;split at hr
  .rename_i htt;subst htt;cases hr;have hb:=hs _ (aSC.2 rfl);obtain⟨h2,h3,_⟩:=(sP hT hst).2;obtain⟨ei,hei,hz⟩:=aSA.1 h3;simp only[aSP] at hz;have hvi:=wF hi;obtain⟨ad,cap,hv,hle,hl⟩:=EW hx;have hlt:(Int.toNat i)<List.length l:=yW hb.1 hb.2;rcases hl with rfl|⟨b,off,rfl,hL⟩
   .simp at hlt
   have hnth:l[Int.toNat i]? =some (qH t1 l i):=by
    unfold qH;rw[aSM,aSu hlt];rfl
   obtain⟨cs,hc1,hc2,hc3,hc4⟩:=UQ hL hnth;refine rC.pure hH (v:= .pointer (some ⟨b,off+Int.toNat i*t1.cells,none⟩)) ?_ ⟨b,_,cs,rfl,hc2,hc3,hc4⟩;simp only[execOp,ho,hv,hvi,Instr.indexAt,asIntOf,aSw,aSI,aSr,aSF h2,sizeOf,typeInfo,aTf,hei,hz.1,aSj hb,aTp]
  cases hr
 .rename_i s u el by' ls_ i off _ k n _;have hty:=sP hT hst;generalize h1:(Ty.pair s u).offs (Int.toNat n)=o1 at hr;generalize h2:(Ty.pair s u).fld (Int.toNat n)=o2 at hr;unfold TT at hr;split at hr
  .split at hr
   .rename_i oo v hpos;cases hr;have hn0:=hs _ (aSC.2 rfl);obtain⟨p,hp,hv⟩:=x7 hx;have hvi:=wF hi;obtain⟨len,el',hu,hel,_⟩:=a99 hty rfl rfl;obtain⟨k1,k2,k3,k4⟩:=ZV hel h1 h2;obtain⟨ei,hei,hz⟩:=aSA.1 k2;have hb:(0:Int)<=n/\(n:Int)<(len:Int):=⟨hn0,aAa hn0 k1⟩;refine rC.pure hH (v:= .pointer (some ⟨p.1,p.2+off+oo,none⟩)) ?_ (.inr ⟨rfl,p,hp,by rw[aS3]⟩);simp only[execOp,ho,hv,hvi,Instr.indexAt,Instr.sureAddr,asIntOf,aSw,aSI,aSr,aSF hu,sizeOf,typeInfo,aTf,hei,hz,aSj hb,aTp,k4]
   cases hr
  cases hr
 .rename_i s u el by' ls_ u' y _ k n _;split at hr
  .rename_i hu';subst hu';have hty:=sP hT hst;generalize hp:(Ty.pair s u).proj y (Int.toNat n)=q at hr;cases q with
   |none=>cases hr
   |some q=>
    obtain⟨v,z⟩:=q;simp only[TS] at hr;split at hr
    .rename_i hpos;cases hr;have hn0:=hs _ (aSC.2 rfl);obtain⟨b,off,cs,hv,hra,hS,hR⟩:=hx;have hvi:=wF hi;obtain⟨oo,c1,c2,c3,h1,h2,rfl,rfl,h5⟩:=ZT hR hp;obtain⟨len,el',hu,hel,_⟩:=a99 hty rfl rfl;obtain⟨k1,k2,k3,k4⟩:=ZV hel h1 h2;obtain⟨ei,hei,hz⟩:=aSA.1 k2;have hb:(0:Int)<=n/\(n:Int)<(len:Int):=⟨hn0,aAa hn0 k1⟩;refine rC.pure hH (v:= .pointer (some ⟨b,off+c1.length,none⟩)) ?_ ⟨b,off+c1.length,c2,rfl,fun j v hj=>?_,fun j hj=>?_,h5⟩
     .simp only[execOp,ho,hv,hvi,Instr.indexAt,Instr.sureAddr,asIntOf,aSw,aSI,aSr,aSF hu,sizeOf,typeInfo,aTf,hei,hz,aSj hb,aTp,<-k4]
     .have:=hra (c1.length+j) v (by
       have hj':=(aSz.1 hj).1;rw[aSv,aSt pC,aS9,aSD hj'];exact hj)
      rw[aS3];exact this
     have:=hS (c1.length+j) (by
      have:=sL hR;have h6:=sL h5;simp only[aSp] at this;omega)
     rw[aS3];exact this
    cases hr
  cases hr
 cases hr
end
theorem aAb (off:Nat): ∀(vl:pJ) (k:Nat) (cs:Array pO) (c1 c2 c3:pJ),cs.toList=c1++c2++c3->c1.length=off+k->c2.length=vl.length->
  ((vl.zipIdx k).foldl (fun(cs:Array pO) (p:pO×Nat)=>cs.setIfInBounds (off+p.2) p.1) cs).toList=c1++vl++c3
 |[],_,cs,c1,c2,c3,h,_,h2=>by
  have:c2=[]:=aSQ (by simpa using h2);subst this;simpa using h
 |v::vl,k,cs,c1,c2,c3,h,h1,h2=>by
  cases c2 with
  |nil=>simp at h2
  |cons u c2=>
   simp only[List.zipIdx_cons,List.foldl_cons];have:=aAb off vl (k+1) (cs.setIfInBounds (off+k) v) (c1++[v]) c2 c3 (by
    rw[Array.toList_setIfInBounds,h,<-h1];simp) pF (by simpa using h2)
   rw[this];simp
theorem aI7 (off:Nat) (vs cs:Array pO) (c1 c2 c3:pJ) (h:cs.toList=c1++c2++c3) (h1:c1.length=off) (h2:c2.length=vs.size):
  (vs.zipIdx.foldl (fun(cs:Array pO) (x:pO×Nat)=>match x with|(c,j)=>cs.setIfInBounds (off+j) c) cs).toList=c1++vs.toList++c3:=by
 rw[<-aUh,Array.toList_zipIdx];exact aAb off vs.toList 0 cs c1 c2 c3 h pC (by simpa using h2)
theorem aAc {place:Nat->pK}{cells:Array pO}{i:Nat}{v:pO}{rest:List (Nat×pO)}{off size:Nat}{c1 c2 c3:pJ}(hp:place i=some (off,size)) (hs:v.cells.size=size)
  (h:cells.toList=c1++c2++c3) (h1:c1.length=off) (h2:c2.length=size):
  Instr.fill place cells ((i,v)::rest)=Instr.fill place (c1++v.cells.toList++c3).toArray rest:=by
 have hsz:cells.size=c1.length+c2.length+c3.length:=by rw[<-aTd,h];simp;omega
 simp only[Instr.fill,hp];rw[aSl (by simp [hs];omega)];congr 1;apply aTn.1;rw[aI7 off v.cells cells c1 c2 c3 h h1 pC]
theorem ZY {k:Nat}: ∀{t:Ty}{o:Nat}{cs:pJ},K3 t=false->cs.length=t.cells->xP k t o cs
 | .bool,_,_,_,_=>trivial
 | .int _,_,_,_,_=>trivial
 | .str,_,_,_,_=>trivial
 | .unit,_,_,_,_=>trivial
 | .ref,_,_,_,_=>trivial
 | .clo,_,_,_,_=>trivial
 | .mp,_,_,_,_=>trivial
 | .rl _ _,_,_,_,_=>trivial
 | .fn,_,_,_,_=>trivial
 | .mref,_,_,_,_=>trivial
 | .ap,_,_,_,_=>trivial
 | .list _,_,_,h,_=>by simp [K3] at h
 | .pair a b,_,cs,h,hl=>by
  simp only[K3,aTL] at h;simp only[Ty.cells] at hl;exact⟨cs.take a.cells,cs.drop a.cells,by simp,by rw[aSX];omega,ZY h.1 (by rw[aSX];omega),ZY h.2 (by rw[aSR];omega)⟩
theorem ZZ: ∀t:Ty,(u1 t).length=t.cells
 | .bool=>rfl
 | .int _=>rfl
 | .str=>rfl
 | .unit=>rfl
 | .ref=>rfl
 | .clo=>rfl
 | .mp=>rfl
 | .rl _ _=>rfl
 | .fn=>rfl
 | .mref=>rfl
 | .ap=>rfl
 | .list _=>rfl
 | .pair a b=>by simp only[u1,aSp,ZZ a,ZZ b,Ty.cells]
theorem UR {k:Nat}: ∀(t:Ty) (o:Nat),xP k t o (u1 t)
 | .bool,_=>trivial
 | .int _,_=>trivial
 | .str,_=>trivial
 | .unit,_=>trivial
 | .ref,_=>trivial
 | .clo,_=>trivial
 | .mp,_=>trivial
 | .rl _ _,_=>trivial
 | .fn,_=>trivial
 | .mref,_=>trivial
 | .ap,_=>trivial
 | .list _,_=> .inr rfl
 | .pair a b,_=>⟨u1 a,u1 b,rfl,ZZ a,UR a _,UR b _⟩
theorem aAd {g:Gh}{w:pN}{k:Nat}: ∀{t:Ty}{x:t.den}{cs:pJ}{off o:Nat},xP k t off cs->Rd g w t x cs->EN t o=true->off+o+1≠k->∃(u:Ty),qT (.list u) t x o=some []/\cs[o]? =some (.slice none 0 0):=by
 intro t
 induction t with
 |pair a b iha ihb=>
  intro x cs off o hn hr hl hk;obtain⟨c1,c2,e,h1,h2,h3⟩:=hn;obtain⟨d1,d2,e',r1,r2⟩:=hr;have hd:c1=d1/\c2=d2:=aTY (e.symm.trans e') (by rw[h1,sL r1]);obtain⟨rfl,rfl⟩:=hd;have key: ∀(u:Ty) q,qT (.list u) (.pair a b) x q=if q<a.cells then qT (.list u) a x.1 q else qT (.list u) b x.2 (q-a.cells):=by
   intro u q;cases q with
   |zero=>
    conv=>lhs;unfold qT
    rw[aTI (by intro e;cases e),Nat.zero_sub]
   |succ q=>simp [qT]
  have hl':(if o<a.cells then EN a o else EN b (o-a.cells))=true:=by
   cases o<;>simpa[EN] using hl
  by_cases ho:o<a.cells
  .rw[aSj ho] at hl';obtain⟨u,k1,k2⟩:=iha h2 r1 hl' hk;exact⟨u,by rw[key,aSj ho];exact k1,by rw[e,aSD pC];exact k2⟩
  .rw[aSl ho] at hl';obtain⟨u,k1,k2⟩:=ihb h3 r2 hl' pC;exact⟨u,by rw[key,aSl ho];exact k1,by rw[e,aSt pC,h1];exact k2⟩
 |list u=>
  intro x cs off o hn hr hl hk;cases o with
  |succ o=>simp [EN] at hl
  |zero=>
   obtain⟨a,cap,e,_,_⟩:=hr;have hn':cs=[.slice none 0 0]:=hn.resolve_left (by simpa using hk);rw[hn'] at e;simp only[aS4,aTX,and_true] at e;have:(x:List u.den)=[]:=aSQ e.2.1.symm;subst this;exact⟨u,by unfold qT;simp [tZ],by rw[hn'];rfl⟩
 |_=>intro x cs off o hn hr hl;cases o<;>simp [EN] at hl
theorem aI8 {g:Gh}{w:pN}{u:Ty}{y:u.den}{cy:pJ}(hy:Rd g w u y cy): ∀{t:Ty}{x z:t.den}{cs:pJ}{f:Nat},Rd g w t x cs->Ty.setPart u y t x f=some z->
  ∃o c1 c2 c3,t.offs f=some o/\t.fld f=some u/\cs=c1++c2++c3/\c1.length=o/\c2.length=u.cells/\Rd g w t z (c1++cy++c3)/\(∀k off,xP k t off cs->xP k u (off+o) cy->xP k t off (c1++cy++c3)):=by
 intro t
 induction t with
 |pair a b _ ihb=>
  intro x z cs f r h;obtain⟨c1,c2,e,r1,r2⟩:=r;cases f with
  |zero=>
   simp only[Ty.setPart] at h;split at h
   .rename_i hu;subst hu;simp only[tZ,aSk] at h;subst h;refine⟨0,[],c1,c2,rfl,rfl,by simpa using e,rfl,sL r1,⟨cy,c2,by simp,hy,r2⟩,fun k off ⟨d1,d2,e',k1,_,k3⟩ hcy=>?_⟩;obtain⟨rfl,rfl⟩:=aTY (e'.symm.trans e) (by rw[k1,sL r1]);exact⟨cy,d2,by simp,sL hy,hcy,k3⟩
   .cases h
  |succ f=>
   simp only[Ty.setPart,aSA] at h;obtain⟨q,hq,rfl⟩:=h;obtain⟨o,d1,d2,d3,h1,h2,h3,h4,h5,h6,h7⟩:=ihb r2 hq;refine⟨a.cells+o,c1++d1,d2,d3,by simp [Ty.offs,h1],by simpa[Ty.fld] using h2,by rw[e,h3];simp,?_,h5,⟨c1,d1++cy++d3,by simp,r1,h6⟩,fun k off ⟨k1,k2,e',k3,k4,k5⟩ hcy=>by
    obtain⟨rfl,rfl⟩:=aTY (e'.symm.trans e) (by rw[k3,sL r1]);exact⟨k1,d1++cy++d3,by simp,k3,k4,h7 k _ k5 (by rw[aS3];exact hcy)⟩⟩
   rw[aSp,h4,sL r1]
 |_=>intro x z cs f r h;cases f<;>simp [Ty.setPart] at h
theorem a0a {g:Gh}{w:pN}{t:Ty}{ev:Operand->pO}{ρ:Operand->pX}{place:Nat->pK}(hp: ∀f o u,t.offs f=some o->t.fld f=some u->place f=some (o,u.cells)):
  ∀(ps:List (Nat×Operand)) (x z:t.den) (cs:pJ),Rd g w t x cs->(∀q∈ps,rF g w (ρ q.2) (ev q.2))->AJ t (some x) (u7 ρ ps)=some z->
  ∃cs',Instr.fill place cs.toArray (ps.map fun q=>(q.1,ev q.2))=some cs'.toArray/\Rd g w t z cs'/\(∀m k,AK t (u7 ρ ps)=some m->m=0\/m=k->xP k t 0 cs->xP k t 0 cs')
 |[],x,z,cs,r,_,h=>by
  simp only[u7,AJ,aSk] at h;subst h;exact⟨cs,rfl,r,fun _ _ _ _ h=>h⟩
 |(i,q)::ps,x,z,cs,r,hq,h=>by
  have h0:=hq (i,q) pE;have step: ∀{u:Ty}{y:u.den}{z1:t.den},sW g w u y (ev q)->Ty.setPart u y t x i=some z1->AJ t (some z1) (u7 ρ ps)=some z->(∀m k,AK t (u7 ρ ((i,q)::ps))=some m->m=0\/m=k->(∀o,t.offs i=some o->xP k u o (ev q).cells.toList)/\∃m',AK t (u7 ρ ps)=some m'/\(m'=0\/m'=k))->
    ∃cs',Instr.fill place cs.toArray (((i,q)::ps).map fun q=>(q.1,ev q.2))=some cs'.toArray/\Rd g w t z cs'/\(∀m k,AK t (u7 ρ ((i,q)::ps))=some m->m=0\/m=k->xP k t 0 cs->xP k t 0 cs'):=by
   intro u y z1 hv hset h hpl;obtain⟨o,c1,c2,c3,h1,h2,rfl,h4,h5,h6,h7⟩:=aI8 (EV hv) r hset;obtain⟨cs',hf,hr,hn⟩:=a0a hp ps z1 z _ h6 (fun q hq'=>hq q (by simp [hq'])) h;refine⟨cs',?_,hr,fun m k hpp hm hcs=>?_⟩
   rotate_left
   .obtain⟨q1,m',q2,q3⟩:=hpl m k hpp hm;exact hn m' k q2 q3 (h7 k 0 hcs (by rw[aSS];exact q1 o h1))
   simp only[aTC];rw[aAc (hp i o u h1 h2) (by have:=sL (EV hv);simpa using this) (c1:=c1) (c2:=c2) (c3:=c3) pE h4 h5];exact hf
  generalize hs:ρ q=s at h0;simp only[u7,hs] at h;obtain⟨d,k⟩:=s;cases d with
  |val u y=>
   simp only[AJ] at h;generalize hset:Ty.setPart u y t x i=o1 at h;cases o1 with
   |none=>cases ps with
    |nil=>simp [u7,AJ] at h
    |cons p ps=>simp [u7,AJ] at h
   |some z1=>
    have hpl: ∀m k,AK t (u7 ρ ((i,q)::ps))=some m->m=0\/m=k->(∀o,t.offs i=some o->xP k u o (ev q).cells.toList)/\∃m',AK t (u7 ρ ps)=some m'/\(m'=0\/m'=k):=by
     intro m k hpp hm;simp only[u7,hs,AK] at hpp;cases hu:K3 u with
     |false=>
      rw[hu] at hpp;simp only[T9] at hpp;exact⟨fun o _=>ZY hu (sL (EV h0.1)),m,hpp,hm⟩
     |true=>
      rw[hu] at hpp;cases hu2:YF u with
      |false=>rw[hu2] at hpp;simp [T9] at hpp
      |true=>
       rw[hu2] at hpp;simp only[T9] at hpp;cases ho:t.offs i with
       |none=>rw[ho] at hpp;simp [T8] at hpp
       |some o=>
        rw[ho] at hpp;cases hm2:AK t (u7 ρ ps) with
        |none=>rw[hm2] at hpp;simp [T8] at hpp
        |some m'=>
         rw[hm2] at hpp;simp only[T8] at hpp;split at hpp
         .rename_i hm0;subst hm0;simp only[aSk] at hpp;refine⟨fun o' ho'=>?_,0,rfl,.inl rfl⟩;obtain rfl:=aSo ho';cases u with
          |list u=>exact .inl pC
          |_=>simp [YF] at hu2
         cases hpp
    obtain⟨cs',k1,k2,k3⟩:=step h0.1 hset h hpl;exact⟨cs',k1,k2,k3⟩
  |nilS=>
   simp only[AJ] at h;generalize hfl:t.fld i=fl at h;cases fl with
   |none=>cases ps<;>simp [SQ,u7,AJ] at h
   |some u=>
    cases u with
    |list u=>
     simp only[SQ] at h;generalize hset:Ty.setPart (.list u) [] t x i=o1 at h;cases o1 with
     |none=>cases ps<;>simp [u7,AJ] at h
     |some z1=>
      have hev:ev q= .slice none 0 0:=h0.1;refine step (u:= .list u) (y:=[]) ?_ hset h (fun m k hpp hm=>?_)
      .rw[hev];exact .inr ⟨rfl,none,0,rfl,aSE _,.inl rfl⟩
      .simp only[u7,hs,AK] at hpp;exact⟨fun o _=>by rw[hev];exact .inr rfl,m,hpp,hm⟩
    |_=>cases ps<;>simp [SQ,u7,AJ] at h
  |_=>simp [AJ] at h
section
variable {P:Program}{o:Oper}{a:Act}{g:Gh}{w:pN}{H:s5}{T:sI}(hT:wY P T) (hH:s9 g w H)
include hT hH
theorem aAe {P:Program}(w:pN): ∀(fs:List Field),(∀f∈fs,∃n,(P.info? f.type).map (·.size)=some n)->
  (fs.mapM (fun f=>do pure (f.offset,<-sizeOf f.type):Field->Sem (Nat×Nat))).run P w= .ok (fs.map fun f=>(f.offset,((P.info? f.type).map (·.size)).getD 0)) w
 |[],_=>rfl
 |f::fs,h=>by
  obtain⟨n,hn⟩:=h f pE;obtain⟨i,hi,hsz⟩:=aSA.1 hn;rw[List.mapM_cons];simp only[aSw,sizeOf,typeInfo,aTf,hi,aSr,aSI];have:=aAe w fs (fun f hf=>h f (by simp [hf]));simp only[sizeOf,typeInfo,aSw,aTf] at this;rw[this];simp [hi]
theorem aI9 {P:Program}: ∀{ty:Ty}{off:Nat}{fs:List Field},N8 P ty off fs->∀f∈fs,∃n,(P.info? f.type).map (·.size)=some n:=by
 intro ty
 induction ty with
 |pair a b _ ihb=>
  intro off fs h f hf;cases fs with
  |nil=>cases hf
  |cons fd fs=>
   obtain⟨_,h2,_,h4⟩:=h;rcases aSx.1 hf with rfl|hf
   .exact⟨_,h2⟩
   .exact ihb h4 f hf
 |unit=>intro off fs h f hf;cases fs with|nil=>cases hf|cons=>exact h.elim
 |_=>intro off fs h f hf;cases fs<;>exact h.elim
omit hT hH in
theorem aAf {t:Ty}{x:t.den}{cs:pJ}{ps:List (Nat×pX)}(h: ∀m k,AK t ps=some m->m=0\/m=k->xP k t 0 (u1 t)->xP k t 0 cs):match ((DV.val t x,YG t (AK t ps)):pX) with
  |(_,none)=>True
  |(.val t x,some k)=>CW g t x (.agg cs.toArray) (some k)
  |(_,some _)=>False:=by
 cases hp:AK t ps with
 |none=>cases t<;>trivial
 |some m=>
  cases t with
  |pair a b=>
   have:=h m m hp (.inr rfl) (UR _ _);simpa[YG,CW,Value.cells] using this
  |_=>trivial
omit hT in
theorem rC.pureS {s:pX}{v:pO}(hr:(execOp a.eval o).run P w= .ok (.value v) w) (hs:rF g w s v):rC P o a g w H ⟨[],s,[],[]⟩:=
 rC.value hr (.pure hH hs)
theorem aJa {t:TypeId}{ps:Array (Nat×Operand)}(ho:o.op= .build t ps) {ρ:Operand->pX}(hρ: ∀q∈ps.toList,rF g w (ρ q.2) (a.eval q.2)) {e:qJ}(hr:YH (u7 ρ ps.toList) (rO T t)=some e):rC P o a g w H e:=by
 generalize hs:rO T t=ot at hr;cases ot with
 |none=>cases hr
 |some ti=>
  have hty:=sP hT hs;simp only[YH] at hr;by_cases hrow:ti.ty.isRow=true
  case neg=>rw[aSl hrow] at hr;cases hr
  rw[aSj hrow] at hr;generalize hb:AJ ti.ty (some ti.ty.zero) (u7 ρ ps.toList)=ox at hr;cases ox with
  |none=>cases hr
  |some x=>
   cases hr;obtain⟨i,hi,hsz,hz⟩:=DG hty;have hzv:xQ ti.ty= .agg (u1 ti.ty).toArray:=by unfold xQ;rw[aSj hrow]
   have hzr: ∀w,(zeroValue t).run P w= .ok (.agg (u1 ti.ty).toArray) w:=by
    intro w;simp [zeroValue,typeInfo,hi,hz,hzv]
   have hmap:(ps.map fun(q:Nat×Operand)=>(q.1,a.eval q.2)).toList=ps.toList.map fun q=>(q.1,a.eval q.2):=by simp
   rcases ZW hty hrow with⟨har,fs,hfs,hfe⟩ |⟨har,n,el,hu,hel,hsome⟩
   .have hpl:=aAe (P:=P) hT hH w fs.toList (aI9 hT hH hfe);obtain⟨cs',hf,hR,hN⟩:=a0a (g:=g) (w:=w) (ev:=a.eval) (ρ:=ρ) (t:=ti.ty) (place:=fun j=>((fs.map fun f=>(f.offset,((P.info? f.type).map (·.size)).getD 0))[j]?)) (fun f oo u h1 h2=>by
     obtain⟨fd,k1,k2,k3,_⟩:=ZU hfe h1 h2;have k1':fs[f]? =some fd:=by simpa using k1
     simp [k1',k2,k3]) ps.toList ti.ty.zero x (u1 ti.ty) (DF g w ti.ty) hρ hb
    refine rC.pureS hH (v:= .agg cs'.toArray) ?_ ⟨.inl ⟨hrow,cs',rfl,hR⟩,aAf hN⟩;have hmp:(fs.mapM (fun f=>do pure (f.offset,<-sizeOf f.type):Field->Sem (Nat×Nat))).run P w= .ok (fs.map fun f=>(f.offset,((P.info? f.type).map (·.size)).getD 0)) w:=by
     rw[Array.mapM_eq_mapM_toList,Sem.run_map,hpl];simp only[aSr];congr 1;apply aTn.1;simp
    simp only[execOp,ho,Instr.build,aSw,hzr,aSr,aSF hfs,hmp,Value.cells];rw[hmap,hf];rfl
   obtain⟨cs',hf,hR,hN⟩:=a0a (g:=g) (w:=w) (ev:=a.eval) (ρ:=ρ) (t:=ti.ty) (place:=fun j=>some (j*((P.info? el).map (·.size)).getD 0,((P.info? el).map (·.size)).getD 0)) (fun f oo u h1 h2=>by
    obtain⟨k1,k2,k3,k4⟩:=ZV hel h1 h2;simp [k2,k4]) ps.toList ti.ty.zero x (u1 ti.ty) (DF g w ti.ty) hρ hb
   refine rC.pureS hH (v:= .agg cs'.toArray) ?_ ⟨.inl ⟨hrow,cs',rfl,hR⟩,aAf hN⟩;obtain⟨ei,hei⟩:=aSn.1 hsome;simp only[hei,Option.map_some,aTJ] at hf;simp only[execOp,ho,Instr.build,aSw,hzr,aSr,aSF hu,sizeOf,typeInfo,aTf,hei,aSI,Value.cells];rw[hmap,hf];rfl
theorem a0b {ρ:Operand->pX}{ev:Operand->pO}: ∀{xs:List Operand}{ss:List pX},(∀x∈xs,rF g w (ρ x) (ev x))->vK ρ xs=ss->∃vs,xs.map ev=vs/\vs.length=ss.length/\∀(i:Nat) (s:pX) (v:pO),ss[i]? =some s->vs[i]? =some v->rF g w s v
 |[],_,_,h=>⟨[],rfl,by rw[<-h];rfl,fun i s v _ hv=>by simp at hv⟩
 |x::xs,ss,hx,h=>by
  subst h;obtain⟨vs,h1,h2,h3⟩:=a0b (fun y hy=>hx y (by simp [hy])) rfl (xs:=xs);refine⟨ev x::vs,by simp [h1],by simp [vK,h2],fun i s v hs hv=>?_⟩;cases i with
  |zero=>
   simp only[vK,aSY,aSk] at hs hv;subst hs;subst hv;exact hx x pE
  |succ i=>
   simp only[vK,aS7] at hs hv;exact h3 i s v hs hv
theorem US {ρ:Operand->pX}{ev:Operand->pO}{args:Array Operand}{s:pX}(hρ: ∀x∈args.toList,rF g w (ρ x) (ev x)) (h:vK ρ args.toList=[s]): ∃v,args.map ev= #[v]/\rF g w s v:=by
 obtain⟨vs,h1,h2,h3⟩:=a0b hT hH hρ h;obtain⟨v,rfl⟩:=aTt.1 h2;exact⟨v,by apply aTn.1;simpa using h1,h3 0 s v rfl rfl⟩
theorem UT {ρ:Operand->pX}{ev:Operand->pO}{args:Array Operand}{s t:pX}(hρ: ∀x∈args.toList,rF g w (ρ x) (ev x)) (h:vK ρ args.toList=[s,t]): ∃v u,args.map ev= #[v,u]/\rF g w s v/\rF g w t u:=by
 obtain⟨vs,h1,h2,h3⟩:=a0b hT hH hρ h
 match vs,h2 with
 |[v,u],_=>exact⟨v,u,by apply aTn.1;simpa using h1,h3 0 s v rfl rfl,h3 1 t u rfl rfl⟩
theorem G5 {b:Builtin}{args:Array Operand}{tys:Array TypeId}(ho:o.op= .call ⟨.builtin b,args,tys⟩):
  ∃cs,execOp a.eval o=builtin b tys o.type cs (args.map a.eval):=by
 refine⟨args.map fun| .const _=>true|_=>false,?_⟩
 unfold execOp;rw[ho];rfl
theorem aJb (x y:Int):(if y<x then y else x)=min x y:=by rw[Int.min_def];split<;>split<;>omega
theorem aJc (x y:Int):(if y>x then y else x)=max x y:=by rw[Int.max_def];split<;>split<;>omega
theorem aJd {args:Array Operand}{tys:Array TypeId}(ho:o.op= .call ⟨.builtin .len,args,tys⟩) {ρ:Operand->pX}(hρ: ∀x∈args.toList,rF g w (ρ x) (a.eval x)) {e:qJ}
  (hr:U1 T H (vK ρ args.toList) tys.toList=some e):rC P o a g w H e:=by
 obtain⟨t0,tr,htl⟩: ∃t0 tr,tys.toList=t0::tr:=by cases h:tys.toList with|nil=>(rw[h] at hr;cases hr) |cons t r=>exact⟨t,r,rfl⟩
 have ht0:tys[0]? =some t0:=by rw[<-aTm,htl];rfl
 rw[htl] at hr;simp only[U1] at hr;generalize hst:rO T t0=ot at hr;generalize hss:vK ρ args.toList=ss at hr;unfold Z4 at hr;split at hr
 .rename_i el fl ar ls_ i k;generalize hb:pZ H i=ob at hr;unfold TV at hr;split at hr
  .rename_i kt vt l;cases hr;obtain⟨v,hv,hs⟩:=US hT hH hρ hss;have h2:=(sP hT hst).2;simp only[wX] at h2;obtain⟨p,es,cl,hp,hp0,hh,hM,hS⟩:=hH.blk i _ hb;obtain⟨p',hp',hxv⟩: ∃p,g.J i=some p/\v= .map (some p.1):=by
    rcases hs.1 with⟨h1,_⟩ |⟨_,p,h3,h4⟩
    .cases h1
    simp only[aS4,and_true] at h4;exact⟨p,h3,h4⟩
   rw[hp] at hp';obtain rfl:=aSo hp';have hlen: ∀{l:List (kt.den×vt.den)}{es:List MapEntry},DE g w kt vt l es->es.length=l.length:=by
    intro l
    induction l with
    |nil=>intro es h;rw[show es=[] from h];rfl
    |cons q l ih=>intro es h;obtain⟨e,es',rfl,_,_,h5⟩:=h;simp [ih h5]
   refine rC.pure hH (v:= .int .i64 (List.length l:Int)) ?_ (wB _ _ _ _);obtain⟨cs,hx⟩:=G5 (a:=a) hT hH ho;rw[hx,hv,hxv];have harg:(#[Value.map (some p.1)]:Array pO)[0]? =some (.map (some p.1)):=rfl;have hobj:(getObj p.1).run P w= .ok (.map es cl) w:=by simp [getObj,Sem.run,hh]
   simp only[builtin,Builtin.len_,ht0,harg,aSw,aSF h2,aSr,aSI,goInt,hobj];rw[<-hlen hM,aTd]
  cases hr
 .rename_i el by' ar ls_ l k;cases hr;obtain⟨v,hv,hs⟩:=US hT hH hρ hss;have h2:=(sP hT hst).2;simp only[wX] at h2;have hv':=x6 hs.1;refine rC.pure hH (v:= .int .i64 (List.length l:Int)) ?_ (wB _ _ _ _);subst hv';obtain⟨cs,hx⟩:=G5 (a:=a) hT hH ho;rw[hx,hv];have harg:(#[Value.string ⟨List.toArray l⟩]:Array pO)[0]? =some (.string ⟨List.toArray l⟩):=rfl;simp only[builtin,Builtin.len_,ht0,harg,aSw,aSF h2,aSr,aSI,goInt];rfl
 .rename_i u el by' ar ls_ t l k;cases hr;obtain⟨v,hv,hs⟩:=US hT hH hρ hss;have h2:=(sP hT hst).2.1;obtain⟨ad,cap,rfl,_⟩:=EW hs.1;refine rC.pure hH (v:= .int .i64 (List.length l:Int)) ?_ (wB _ _ _ _);obtain⟨cs,hx⟩:=G5 (a:=a) hT hH ho;rw[hx,hv];have harg:(#[Value.slice ad (List.length l) cap]:Array pO)[0]? =some (.slice ad (List.length l) cap):=rfl;simp only[builtin,Builtin.len_,ht0,harg,aSw,aSF h2,aSr,aSI,goInt]
 .rename_i u el by' ar ls_ ko n k;cases hr;obtain⟨v,hv,hs⟩:=US hT hH hρ hss;have h2:=(sP hT hst).2.1;obtain⟨ad,cap,rfl⟩: ∃ad cap,v= .slice ad n cap:=by
   rcases hs.1.2 with⟨h,rfl⟩ |⟨b,cap,h,_⟩
   .exact⟨_,_,h⟩
   exact⟨_,_,h⟩
  refine rC.pure hH (v:= .int .i64 (n:Int)) ?_ (wB _ _ _ _);obtain⟨cs,hx⟩:=G5 (a:=a) hT hH ho;rw[hx,hv];have harg:(#[Value.slice ad n cap]:Array pO)[0]? =some (.slice ad n cap):=rfl;simp only[builtin,Builtin.len_,ht0,harg,aSw,aSF h2,aSr,aSI,goInt]
 cases hr
theorem aAg {args:Array Operand}{tys:Array TypeId}{mx:Bool}(ho:o.op= .call ⟨.builtin (if mx then .max else .min),args,tys⟩) {ρ:Operand->pX}(hρ: ∀x∈args.toList,rF g w (ρ x) (a.eval x)) {e:qJ}
  (hr:AI (TZ mx (vK ρ args.toList))=some e):rC P o a g w H e:=by
 obtain⟨q,hq,rfl⟩:=I5 hr;generalize hss:vK ρ args.toList=ss at hq;unfold TZ at hq;split at hq
 .rename_i k x k1 k' y k2;split at hq
  .rename_i hk;subst hk;cases hq;obtain⟨v,u,hv,hs1,hs2⟩:=UT hT hH hρ hss;have e1:=wF hs1.1;have e2:=wF hs2.1;subst e1;subst e2;cases mx
   .refine rC.pure hH (v:= .int k (min (x:Int) y)) ?_ (wB _ _ _ _);obtain⟨cs,hx⟩:=G5 (a:=a) hT hH ho;rw[hx,hv];have:=aJb hT hH x y;simp [builtin,Builtin.min_,Builtin.min2,this]
   refine rC.pure hH (v:= .int k (max (x:Int) y)) ?_ (wB _ _ _ _);obtain⟨cs,hx⟩:=G5 (a:=a) hT hH ho;rw[hx,hv];have:=aJc hT hH x y;simp [builtin,Builtin.max_,Builtin.max2,this]
  cases hq
 cases hq
theorem aJe {f:FuncId}{caps:Array Operand}(ho:o.op= .makeFunc (.func f) #[] caps) {ρ:Operand->pX}(hρ: ∀x∈caps.toList,rF g w (ρ x) (a.eval x)) {e:qJ}
  (hr:a9E f (JW (vK ρ caps.toList))=some e):rC P o a g w H e:=by
 generalize hc:JW (vK ρ caps.toList)=oc at hr;cases oc with
 |none=>cases hr
 |some l=>
  cases hr;have key: ∀(xs:List Operand) (l:pH),(∀x∈xs,rF g w (ρ x) (a.eval x))->JW (vK ρ xs)=some l->yA g l (xs.map a.eval):=by
   intro xs
   induction xs with
   |nil=>intro l _ h;simp only[vK,JW,aSk] at h;subst h;rfl
   |cons x xs ih=>
    intro l hx h;have h0:=hx x pE;generalize hs:ρ x=s at h0;simp only[vK,hs] at h;obtain⟨d,k⟩:=s;unfold JW at h;split at h
    .cases ‹_=[]›
    .rename_i p k r heq;simp only[aS4,aSP] at heq;obtain⟨⟨rfl,rfl⟩,rfl⟩:=heq;obtain⟨l',hl',rfl⟩:=aSA.1 h;obtain⟨i,off⟩:=p;obtain⟨p,hp,hv⟩:=x7 h0.1;exact⟨p,_,hp,by rw[aTC,hv],ih l' (fun y hy=>hx y (by simp [hy])) hl'⟩
    cases h
  refine rC.pure hH (v:= .func (.func f) #[] (caps.map a.eval)) ?_ (.inr ⟨rfl,caps.toList.map a.eval,key _ _ hρ hc,by congr 2;apply aTn.1;simp⟩);simp [execOp,ho,Instr.makeFunc]
end
theorem a0c {α:Type}{l:List α}{m n:Int}(h0:0≤m) (h1:m≤n) (h2:n≤(l.length:Int)):(qU l m n).length=n.toNat-m.toNat:=by
  unfold qU;rw[aSX,aSR];omega
theorem UU {α:Type}{R:α→pJ→Prop}{c:Nat}: ∀{l:List α}{cs:pJ}{i:Nat}{x:α},tV R c l cs→l[i]? =some x→∃c1 c2 c3,cs=c1++c2++c3∧c1.length=i*c∧c2.length=c∧R x c2
  | y::l,_,0,x,⟨c1,c2,e,h1,h2,h3⟩,h=>by
    simp only[aSY,aSk] at h;subst h;exact⟨[],c1,c2,by simpa using e,by simp,h1,h2⟩
  | y::l,_,i+1,x,⟨c1,c2,e,h1,h2,h3⟩,h=>by
    simp only[aS7] at h;obtain⟨d1,d2,d3,e1,e2,e3,e4⟩:=UU h3 h;exact⟨c1++d1,d2,d3,by rw[e,e1];simp,by rw[aSp,h1,e2,aTD];omega,e3,e4⟩
theorem aAh {t:Ty}{l:List t.den}{i:Int}(h0:0≤i) (h:i.toNat<l.length):l[i.toNat]? =some (qH t l i):=by
  unfold qH;rw[aSM,aSu h];rfl
theorem I6 {α:Type}{R:α→pJ→Prop}{w:pN}{S:Nat→Nat→Prop}{c b:Nat}: ∀{l:List α}{o:Nat}{cs:pJ},tV R c l cs→w.rangeAt b o cs→(∀j,j<l.length*c→S b (o+j))→yJ R w S c b o l
  |[],_,_,_,_,_=>trivial
  | x::l,o,cs,⟨c1,c2,e,h1,h2,h3⟩,hr,hS=>by
    subst e;refine⟨⟨c1,h1,fun j v hv=>hr j v (by rw[aSD (aSz.1 hv).1];exact hv),fun j hj=>hS j (by rw[aSq,aTD];omega),h2⟩,I6 h3 (fun j v hv=>?_) (fun j hj=>?_)⟩
    · have:=hr (c+j) v (by rw[aSt pC,h1,aS9];exact hv)
      rwa [←aS3] at this
    have:=hS (c+j) (by rw[aSq,aTD];omega)
    rwa [←aS3] at this
theorem a0d {u0:Ty}{l:List u0.den}: ∀{t:Ty}{x:t.den}{q: Σ t:Ty,t.den},zK u0 l t x=some q→q.1.cells=t.cells:=by
  intro t
  induction t with
  | rl e u=>
    intro x q h;cases x with
    |none=>cases h
    | some p=>
      simp only[zK,YL] at h;split at h
      .cases h;rfl
      .cases h
  | pair a b iha ihb=>
    intro x q h;simp only[zK] at h;cases hf:BH a x.1 with
    | some p=>
      rw[hf] at h;cases hq:zK u0 l a x.1 with
      |none=>rw[hq] at h;cases h
      | some r=>
        obtain⟨a',x'⟩:=r;rw[hq] at h;simp only[K4,aSk] at h;subst h;have:=iha hq;simp only[Ty.cells] at this|-;omega
    | none=>
      rw[hf] at h;cases hq:zK u0 l b x.2 with
      |none=>rw[hq] at h;simp [K4] at h
      | some r=>
        obtain⟨b',y'⟩:=r;rw[hq] at h;simp only[K4,aSk] at h;subst h;have:=ihb hq;simp only[Ty.cells] at this|-;omega
  |_=>intro x q h;simp [zK] at h
theorem aJf {g:Gh}{w:pN}{k n:Nat}{u0:Ty}{l:List u0.den}(hk: ∀cs,BK g (some (k,n)) cs→Rd g w (.list u0) l cs): ∀{t:Ty}{x:t.den}{cs:pJ}{q: Σ t:Ty,t.den},BH t x=some (k,n)→zK u0 l t x=some q→Rd g w t x cs→Rd g w q.1 q.2 cs:=by
  intro t
  induction t with
  | rl e u=>
    intro x cs q hf h r;simp only[BH] at hf;subst hf;simp only[zK,YL] at h;split at h
    · cases h
      exact hk _ r
    .cases h
  | pair a b iha ihb=>
    intro x cs q hf h r;obtain⟨c1,c2,e,r1,r2⟩:=r;simp only[BH] at hf;simp only[zK] at h;cases hfa:BH a x.1 with
    | some p=>
      rw[hfa] at h hf;simp only[YK,aSk] at hf;subst hf;cases hq:zK u0 l a x.1 with
      |none=>rw[hq] at h;cases h
      | some z=>
        obtain⟨a',x'⟩:=z;rw[hq] at h;simp only[K4,aSk] at h;subst h;exact⟨c1,c2,e,iha hfa hq r1,r2⟩
    | none=>
      rw[hfa] at h hf;simp only[YK] at hf;cases hq:zK u0 l b x.2 with
      |none=>rw[hq] at h;simp [K4] at h
      | some z=>
        obtain⟨b',y'⟩:=z;rw[hq] at h;simp only[K4,aSk] at h;subst h;exact⟨c1,c2,e,r1,ihb hf hq r2⟩
  |_=>intro x cs q hf;simp [BH] at hf
theorem aJg {g:Gh}{w:pN}{H:s5}(hH:s9 g w H) {k i:Nat}{e:TypeId}{t:Ty}{l:List t.den}{n:Nat}(hk:pZ H k=some (.row e t l n)) {u:Ty}{x:u.den}{toks:pH}(hi:pZ H i=some (.cells u x toks)) (hfr:BH u x=some (k,n)) {q: Σ t:Ty,t.den}(hq:zK t l u x=some q):
    ∃ g',s9 g' w (qS [(i,pW.cells q.1 q.2 []),(k,pW.grow e t.cells (List.length l))] H)∧g'.J=g.J∧
      ∀side s rds v,HP rds=true→rF g' w s v→zN g w H ⟨side,s,[(i,pW.cells q.1 q.2 []),(k,pW.grow e t.cells (List.length l))],rds⟩ g' w v:=by
  obtain⟨hl,v,xs,hv,hown,hF,hnone,hseal⟩:=hH.blk k _ hk
  let g':Gh:={g with S:=fun b o=>g.S b o∨(v.ownBlock=some b∧o<n*t.cells)}
  have le:Le g w g' w:=⟨fun _ _ h=> .inl h,fun _ _ _=>rfl,fun _ _ h=>h,fun _ _ _ h=>h⟩;have hown2: ∀b,v.ownBlock=some b→∀o,s8 g k (.row e t l n) b o:=fun b hb o=>⟨v,hv,hb⟩
  have hlist: ∀u,g.cur k n=some u→((u= .slice none 0 0∧n=0)∨∃b cap,u= .slice (some ⟨b,0,none⟩) n cap∧n≤cap)→sW g' w (.list t) l u:=by
    intro u hu hshape;rw[hv] at hu;obtain rfl:=aSo hu;rcases hshape with⟨rfl,h0⟩ |⟨b,cap,rfl,hcap⟩
    · have:l=[]:=aSQ (by rw[hl,h0])
      subst this;exact .inr ⟨rfl,none,0,rfl,aSE _,.inl rfl⟩
    refine .inr ⟨rfl,some ⟨b,0,none⟩,cap,by rw[hl],by rw[hl];exact hcap,.inr ⟨b,0,rfl,I6 (CC (fun _ _ h=>wA le h) hF) (fun j u hu=>?_) (fun j hj=>?_)⟩⟩
    · have:=hown.cells (g:=b) rfl j u hu
      rwa [aTp] at this
    right
    exact⟨rfl,by rw[hl] at hj;omega⟩
  have hik:i≠k:=fun e1=>by rw[e1,hk] at hi;cases hi
  obtain⟨p0,cs0,hp0,hR0,hra0,hth0,hns0,_⟩:=hH.blk i _ hi
  let b':pW:= .cells q.1 q.2 []
  let H':s5:=(i,b')::(k,pW.grow e t.cells (List.length l))::H
  have hget: ∀i' b,pZ H' i'=some b→(i'=i∧b=b')∨(i'=k∧b= .grow e t.cells (List.length l))∨(i'≠k∧i'≠i∧pZ H i'=some b):=by
    intro i' b hb;simp only[H',pZ] at hb;split at hb
    .rename_i e1;exact .inl ⟨e1.symm,(aSo hb).symm⟩
    rename_i e1
    split at hb
    .rename_i e2;exact .inr (.inl ⟨e2.symm,(aSo hb).symm⟩)
    rename_i e2;exact .inr (.inr ⟨Ne.symm e2,Ne.symm e1,hb⟩)
  have howns: ∀i' b bb o,pZ H' i'=some b→s8 g' i' b bb o→∃b0,pZ H i'=some b0∧s8 g i' b0 bb o:=by
    intro i' b bb o hb ho;rcases hget i' b hb with⟨rfl,rfl⟩ |⟨rfl,rfl⟩ |⟨_,_,h1⟩
    · obtain⟨p,hp,e1,e2,e3⟩:=ho
      rw[a0d hq] at e3;exact⟨_,hi,p,hp,e1,e2,e3⟩
    · obtain⟨u,hu,hub⟩:=ho
      have hu':g.cur i' (List.length l)=some u:=hu;rw[hl] at hu';exact⟨_,hk,u,hu',hub⟩
    exact⟨b,h1,(wW (g':=g') (g:=g) rfl rfl).1 ho⟩
  have hheap:s9 g' w H':=by
    refine⟨fun i' b hb=>?_,fun i' j bi bj b o hij h1 h2 o1 o2=>?_,fun b o hS=>?_,hH.tab.1,fun i' b bb oo hb ho=>by
      obtain⟨c1,k1,k2⟩:=howns i' b bb oo hb ho;exact hH.tab.2 i' c1 bb oo k1 k2⟩
    · rcases hget i' b hb with⟨rfl,rfl⟩ |⟨rfl,rfl⟩ |⟨hne,_,h1⟩
      · have hk2: ∀cs,BK g' (some (k,n)) cs→Rd g' w (.list t) l cs:=by
          rintro cs ⟨v1,z1,z2,z3⟩;rw[z2];exact wZ rfl (hlist v1 z1 z3)
        refine⟨p0,cs0,hp0,aJf (n:=n) hk2 hfr hq (wA le hR0),hra0,?_,?_,fun _ _ hm=>by cases hm⟩
        .rw[a0d hq];exact⟨hth0.1,hth0.2⟩
        rw[a0d hq]
        intro j hj hS;rcases hS with hS|hS
        .exact hns0 j hj hS
        exact hH.dis i' k _ _ p0.1 (p0.2+j) hik hi hk ⟨p0,hp0,rfl,pC,pC⟩ (hown2 _ hS.1 _)
      · refine⟨v,xs,by rw[hl];exact hv,by rw[hl];exact hown,fun m hm=>hnone m (by rw[hl] at hm;exact hm),fun b hb o hS=>?_⟩
        rw[hl];rcases hS with hS|hS
        .exact absurd hS (hseal b hb o)
        exact hS.2
      exact I4 (hH.blk i' b h1) le rfl rfl (fun _ _ _=>⟨rfl,rfl⟩) (fun _ _=>rfl) (fun bb o ho hS=>by
         rcases hS with hS|hS
         .exact hS
         exact absurd (hown2 bb hS.1 o) (fun h5=>hH.dis i' k b _ bb o hne h1 hk ho h5)) (fun _ _ _ _ h=>h)
    · obtain⟨c1,k1,k2⟩:=howns i' bi b o h1 o1
      obtain⟨c2,k3,k4⟩:=howns j bj b o h2 o2;exact hH.dis i' j c1 c2 b o hij k1 k3 k2 k4
    rcases hS with hS|hS
    .exact hH.sl b o hS
    exact KN hown hS.1
  refine⟨g',hheap,rfl,fun side s rds vv hre hs=>⟨le,hs,hheap,⟨rfl,rfl,rfl,aSE _,fun _ _ _=>rfl,fun _ _ _ _=>⟨rfl,rfl⟩,fun b o hS=>?_,fun _ _ h=> .inl h⟩,fun i' blk b o hm hg ho=>?_,fun _ _=>⟨rfl,rfl⟩,fun h=>by rw[hre] at h;cases h⟩⟩
  · rcases hS with hS|hS
    .exact .inl hS
    exact .inr (.inr ⟨k,_,by simp [qB],hk,hown2 b hS.1 o⟩)
  obtain⟨b0,k1,k2⟩:=howns i' blk b o hg ho
  exact .inr ⟨i',b0,hm,k1,k2⟩
theorem aJh {g:Gh}{w:pN}{H:s5}(hH:s9 g w H) {k:Nat}{e:TypeId}{t:Ty}{l:List t.den}{n:Nat}(hk:pZ H k=some (.row e t l n)):
    ∃g',g'.J=g.J∧g'.cur=g.cur∧rE g w H ⟨[],(.any,none),[(k,pW.grow e t.cells (List.length l))],[]⟩ g' w undef∧∀cs,BK g' (some (k,n)) cs→Rd g' w (.list t) l cs:=by
  obtain⟨hl,v,xs,hv,hown,hF,hnone,hseal⟩:=hH.blk k _ hk
  let g':Gh:={g with S:=fun b o=>g.S b o∨(v.ownBlock=some b∧o<n*t.cells)}
  have le:Le g w g' w:=⟨fun _ _ h=> .inl h,fun _ _ _=>rfl,fun _ _ h=>h,fun _ _ _ h=>h⟩;have hown2: ∀b,v.ownBlock=some b→∀o,s8 g k (.row e t l n) b o:=fun b hb o=>⟨v,hv,hb⟩
  have hlist: ∀u,g.cur k n=some u→((u= .slice none 0 0∧n=0)∨∃b cap,u= .slice (some ⟨b,0,none⟩) n cap∧n≤cap)→sW g' w (.list t) l u:=by
    intro u hu hshape;rw[hv] at hu;obtain rfl:=aSo hu;rcases hshape with⟨rfl,h0⟩ |⟨b,cap,rfl,hcap⟩
    · have:l=[]:=aSQ (by rw[hl,h0])
      subst this;exact .inr ⟨rfl,none,0,rfl,aSE _,.inl rfl⟩
    refine .inr ⟨rfl,some ⟨b,0,none⟩,cap,by rw[hl],by rw[hl];exact hcap,.inr ⟨b,0,rfl,I6 (CC (fun _ _ h=>wA le h) hF) (fun j u hu=>?_) (fun j hj=>?_)⟩⟩
    · have:=hown.cells (g:=b) rfl j u hu
      rwa [aTp] at this
    right
    exact⟨rfl,by rw[hl] at hj;omega⟩
  have hget: ∀i' b,pZ ((k,pW.grow e t.cells (List.length l))::H) i'=some b→(i'=k∧b= .grow e t.cells (List.length l))∨(i'≠k∧pZ H i'=some b):=by
    intro i' b hb;simp only[pZ] at hb;split at hb
    .rename_i e1;exact .inl ⟨e1.symm,(aSo hb).symm⟩
    rename_i e1;exact .inr ⟨Ne.symm e1,hb⟩
  have howns: ∀i' b bb o,pZ ((k,pW.grow e t.cells (List.length l))::H) i'=some b→s8 g' i' b bb o→∃b0,pZ H i'=some b0∧s8 g i' b0 bb o:=by
    intro i' b bb o hb ho;rcases hget i' b hb with⟨rfl,rfl⟩ |⟨_,h1⟩
    · obtain⟨u,hu,hub⟩:=ho
      have hu':g.cur i' (List.length l)=some u:=hu;rw[hl] at hu';exact⟨_,hk,u,hu',hub⟩
    exact⟨b,h1,(wW (g':=g') (g:=g) rfl rfl).1 ho⟩
  have hheap:s9 g' w ((k,pW.grow e t.cells (List.length l))::H):=by
    refine⟨fun i' b hb=>?_,fun i' j bi bj b o hij h1 h2 o1 o2=>?_,fun b o hS=>?_,hH.tab.1,fun i' b bb oo hb ho=>by
      obtain⟨c1,k1,k2⟩:=howns i' b bb oo hb ho;exact hH.tab.2 i' c1 bb oo k1 k2⟩
    · rcases hget i' b hb with⟨rfl,rfl⟩ |⟨hne,h1⟩
      · refine⟨v,xs,by rw[hl];exact hv,by rw[hl];exact hown,fun m hm=>hnone m (by rw[hl] at hm;exact hm),fun b hb o hS=>?_⟩
        rw[hl];rcases hS with hS|hS
        .exact absurd hS (hseal b hb o)
        exact hS.2
      exact I4 (hH.blk i' b h1) le rfl rfl (fun _ _ _=>⟨rfl,rfl⟩) (fun _ _=>rfl) (fun bb o ho hS=>by
         rcases hS with hS|hS
         .exact hS
         exact absurd (hown2 bb hS.1 o) (fun h5=>hH.dis i' k b _ bb o hne h1 hk ho h5)) (fun _ _ _ _ h=>h)
    · obtain⟨c1,k1,k2⟩:=howns i' bi b o h1 o1
      obtain⟨c2,k3,k4⟩:=howns j bj b o h2 o2;exact hH.dis i' j c1 c2 b o hij k1 k3 k2 k4
    rcases hS with hS|hS
    .exact hH.sl b o hS
    exact KN hown hS.1
  refine⟨g',rfl,rfl,⟨le,⟨trivial,trivial⟩,hheap,⟨rfl,rfl,rfl,aSE _,fun _ _ _=>rfl,fun _ _ _ _=>⟨rfl,rfl⟩,fun b o hS=>?_,fun _ _ h=> .inl h⟩,fun i' blk b o hm hg ho=>?_,fun _ _=>⟨rfl,rfl⟩,fun i' u y us hg=>?_⟩,?_⟩
  · rcases hS with hS|hS
    .exact .inl hS
    exact .inr (.inr ⟨k,_,by simp [qB],hk,hown2 b hS.1 o⟩)
  · obtain⟨b0,k1,k2⟩:=howns i' blk b o hg ho
    exact .inr ⟨i',b0,hm,k1,k2⟩
  · rcases hget i' _ hg with⟨_,h1⟩ |⟨_,h1⟩
    .cases h1
    exact .inl ⟨y,us,h1⟩
  rintro cs ⟨v1,z1,z2,z3⟩
  rw[z2];exact wZ rfl (hlist v1 z1 z3)
theorem aAi {g:Gh}{w:pN}{H:s5}(hH:s9 g w H) {k:Nat}{e:TypeId}{t:Ty}{l:List t.den}{n:Nat}(hk:pZ H k=some (.row e t l n)):
    ∃g',g'.J=g.J∧g'.cur=g.cur∧rE g w H ⟨[],(.any,none),[(k,pW.grow e t.cells n)],[]⟩ g' w undef∧∀cs,BK g' (some (k,n)) cs→Rd g' w (.list t) l cs:=by
  have hl:l.length=n:=(hH.blk k _ hk).1;obtain⟨g',h1,h2,h3,h4⟩:=aJh hH hk;rw[hl] at h3;exact⟨g',h1,h2,h3,h4⟩
theorem aAj {k:Nat}: ∀{r:pH},PO k r=false→∀p∈r,p.1≠k
  |[],_,p,hp=>by cases hp
  | (j,m)::r,h,p,hp=>by
    simp only[PO] at h;split at h
    .cases h
    rename_i hne
    rcases aSx.1 hp with rfl|hp
    .exact hne
    exact aAj h p hp
theorem aAk {w:pN}{H:s5}: ∀{ks:pH}{ps:List Prop}{bs:List (Nat×pW)}{g:Gh},s9 g w H→BI H ks=some (ps,bs)→(∀p∈ps,p)→
    ∃g',g'.J=g.J∧g'.cur=g.cur∧rE g w H ⟨[],(.any,none),bs,[]⟩ g' w undef∧(∀i,i∈qB bs→∃p∈ks,p.1=i)∧∀p∈ks,∀e t l m,pZ H p.1=some (.row e t l m)→∀cs,BK g' (some p) cs→Rd g' w (.list t) l cs
  | [],ps,bs,g,hH,h,_=>by
    simp only[BI,aSk,aSP] at h;obtain⟨rfl,rfl⟩:=h;exact⟨g,rfl,rfl,.pure hH ⟨trivial,trivial⟩,fun i hi=>(by cases hi),fun p hp=>(by cases hp)⟩
  | (k,n)::r,ps,bs,g,hH,h,hs=>by
    simp only[BI] at h;split at h
    .cases h
    rename_i hk
    have hk:PO k r=false:=by simpa using hk
    cases h1:TE k n (pZ H k) with
    |none=>rw[h1] at h;simp [K5] at h
    | some q=>
      obtain⟨pp,b⟩:=q;cases h2:BI H r with
      |none=>rw[h1,h2] at h;simp [K5] at h
      | some q2=>
        obtain⟨ps2,bs2⟩:=q2;rw[h1,h2] at h;simp only[K5,aSk,aSP] at h;obtain⟨rfl,rfl⟩:=h;obtain⟨g1,k1,k2,k3,k4,k5⟩:=aAk hH h2 (fun p hp=>hs p (aSy _ hp));unfold TE at h1;split at h1
        · rename_i e t l m hg
          cases h1;have hnm:n=m:=hs _ aSJ;subst hnm
          have hni:k∉qB bs2:=fun hi=>by
            obtain⟨p,hp,e1⟩:=k4 k hi;exact aAj hk p hp e1
          have hg2:pZ (qS bs2 H) k=some (.row e t l n):=(A0 hni).trans hg;obtain⟨g2,m1,m2,m3,m4⟩:=aAi k3.heap hg2;refine⟨g2,m1.trans k1,m2.trans k2,k3.trans m3,fun i hi=>?_,fun p hp e' t' l' m' hp2 cs hr=>?_⟩
          · simp only[qS,qB,aSx] at hi
            rcases hi with rfl|hi
            .exact⟨_,aSJ,rfl⟩
            obtain⟨p,hp,e1⟩:=k4 i hi
            exact⟨p,aSy _ hp,e1⟩
          rcases aSx.1 hp with rfl|hp
          · simp only at hp2
            rw[hg] at hp2;simp only[aSk,pW.row.injEq] at hp2;obtain⟨rfl,rfl,rfl,rfl⟩:=hp2;exact m4 cs hr
          obtain⟨j,q⟩:=p
          refine wA m3.le (k5 _ hp e' t' l' m' hp2 cs ?_);obtain⟨v,v1,v2⟩:=hr;exact⟨v,by rw[←m2];exact v1,v2⟩
        cases h1
theorem aJi {g:Gh}{w:pN}{H:s5}: ∀{t:Ty}{x:t.den}{y:(FX t).den}{cs:pJ},AL H t x=some y→Rd g w t x cs→(∀p∈AM t x,∀e t' l m,pZ H p.1=some (.row e t' l m)→∀cs,BK g (some p) cs→Rd g w (.list t') l cs)→Rd g w (FX t) y cs:=by
  intro t
  induction t with
  | rl e u=>
    intro x y cs h r hk;cases x with
    | none=>
      obtain rfl:[]=y:=aSo h;exact⟨none,0,r,aSE _,.inl rfl⟩
    | some p=>
      obtain⟨k,n⟩:=p;simp only[AL,YO] at h;unfold a9x at h;split at h
      · rename_i e' t' l m hg
        split at h
        · rename_i htu
          subst htu;cases h;exact hk (k,n) (by simp [AM,YP]) _ _ _ _ hg cs r
        cases h
      .cases h
  | pair a b iha ihb=>
    intro x y cs h r hk;simp only[AL] at h;obtain⟨c1,c2,e,r1,r2⟩:=r;cases h1:AL H a x.1 with
    |none=>rw[h1] at h;simp [EM] at h
    | some y1=>
      cases h2:AL H b x.2 with
      |none=>rw[h1,h2] at h;simp [EM] at h
      | some y2=>
        rw[h1,h2] at h;cases h;exact⟨c1,c2,e,iha h1 r1 (fun p hp=>hk p (by simp only[AM];exact G4.2 (.inl hp))),ihb h2 r2 (fun p hp=>hk p (by simp only[AM];exact G4.2 (.inr hp)))⟩
  |_=>intro x y cs h r _;cases h;exact r
section
variable {P:Program}{o:Oper}{a:Act}{g:Gh}{w:pN}{H:s5}{T:sI}(hT:wY P T) (hH:s9 g w H)
include hT hH
theorem N9 {t:TypeId}{ti:TI}(hty:sY P t ti) {x:ti.ty.den}{b off:Nat}{cs:pJ}(hra:w.rangeAt b off cs) (hR:Rd g w ti.ty x cs):
    ∃v,(Instr.loadAt t (.pointer (some ⟨b,off,none⟩))).run P w= .ok v w∧sW g w ti.ty x v∧v.cells.toList=cs:=by
  obtain⟨d,hd,hrow⟩:=UP hty;obtain⟨i,hi,hsz,_⟩:=DG hty;have hl:=sL hR;by_cases hr:ti.ty.isRow=true
  .refine⟨.agg cs.toArray,run_loadAt_mid w b off t cs d hra hd (by rw[hrow,hr]) (by rw[hi,Option.map_some,hsz,hl]),.inl ⟨hr,cs,rfl,hR⟩,by simp [Value.cells]⟩
  have hr':ti.ty.isRow=false:=by simpa using hr
  have h1:ti.ty.cells=1:=by
    obtain⟨ty,el,by',ar,ls⟩:=ti;cases ty<;>first|rfl|(simp [Ty.isRow] at hr')
  obtain⟨v,rfl⟩: ∃v,cs=[v]:=by rw[h1] at hl;exact aTt.1 hl
  have hv1:=zY hR v pE;refine⟨v,?_,.inr ⟨hr',hR⟩,by cases v<;>first|rfl|(simp [Value.oneCell'] at hv1)⟩
  have hc:w.cell? ⟨b,off,none⟩=some v:=by simpa using hra 0 v rfl
  have hagg:(isAgg t).run P w= .ok false w:=by
    unfold isAgg;rw[aSw,aSF hd w];rw[hr'] at hrow;cases d<;>simp_all [TypeDesc.isRow]
  simp [Instr.loadAt,Instr.sureAddr,loadVar,aSw,hagg,hc]
theorem KT {b off:Nat}{c1 c2 c3:pJ}(h:w.rangeAt b off (c1++c2++c3)):w.rangeAt b (off+c1.length) c2:=fun j v hj=>by
  have:=h (c1.length+j) v (by
    have hj':=(aSz.1 hj).1;rw[aSv,aSt pC,aS9,aSD hj'];exact hj)
  rw[aS3];exact this
theorem aAl {k n c:Nat}{i:Int}{o':Nat}{v:pO}(hx:yK g w (.elt k n c i o') v) {e:TypeId}{t:Ty}{l:List t.den}{m:Nat}(hk:pZ H k=some (.row e t l m)) (hnm:n=m) (hc:c=t.cells):
    ∃ b cap xs c1 c2 c3,v= .pointer (some ⟨b,i.toNat*c+o',none⟩)∧g.cur k m=some (.slice (some ⟨b,0,none⟩) m cap)∧w.ownsRow 0 e t.cells (.slice (some ⟨b,0,none⟩) m cap) m xs∧tV (Rd g w t) t.cells l xs∧l.length=m∧i.toNat<l.length∧0≤i∧
      xs=c1++c2++c3∧c1.length=i.toNat*c∧c2.length=c∧Rd g w t (qH t l i) c2:=by
  subst hnm;subst hc;obtain⟨b,cap,h1,h2,h3,hv⟩:=hx;obtain⟨hl,v0,xs,hv0,hown,hF,hnone,hseal⟩:=hH.blk k _ hk;rw[h1] at hv0;obtain rfl:=aSo hv0;have hi:i.toNat<l.length:=by rw[hl];omega
  obtain⟨c1,c2,c3,e1,e2,e3,e4⟩:=UU hF (aAh h2 hi);exact⟨b,cap,xs,c1,c2,c3,hv,h1,hown,hF,hl,hi,h2,e1,e2,e3,e4⟩
theorem aJj {e:TypeId}{c n:Nat}{q cap:Nat}{xs:pJ}(h:w.ownsRow 0 e c (.slice (some ⟨q,0,none⟩) n cap) n xs):w.rangeAt q 0 xs:=fun j u hu=>by
  have:=h.cells (g:=q) rfl j u hu;rwa [aTp] at this
theorem aJk {t:TypeId}{ti:TI}(hst:rO T t=some ti) {k n c:Nat}{i:Int}{o':Nat}{vx:pO}(hx:yK g w (.elt k n c i o') vx) {e:qJ}(hr:PN ti.ty k n c i o' (pZ H k)=some e) (hs: ∀p∈e.side,p):
    ∃v,(Instr.loadAt t vx).run P w= .ok v w∧rF g w e.slot v∧e.upd=[]:=by
  generalize hk:pZ H k=ob at hr;unfold PN at hr;split at hr
  · rename_i e' t' l m
    split at hr
    · rename_i hc
      generalize hga:qT ti.ty t' (qH t' l i) o'=oy at hr;cases oy with
      |none=>cases hr
      | some y=>
        cases hr;have hnm:=hs _ (aSC.2 rfl);obtain⟨b,cap,xs,c1,c2,c3,hv,hcur,hown,hF,hl,hi,h0,e1,e2,e3,e4⟩:=aAl hT hH hx hk hnm hc;obtain⟨d1,d2,d3,f1,f2,f3⟩:=BL e4 hga;have hra:=aJj hT hH hown;rw[e1] at hra;have hra2:=KT hT hH hra;rw[f1] at hra2;have hra3:=KT hT hH hra2;rw[aSS,e2,f2] at hra3;obtain⟨v,h1,h2,_⟩:=N9 hT hH (sP hT hst) hra3 f3;exact⟨v,by rw[hv];exact h1,⟨h2,trivial⟩,rfl⟩
    cases hr
  cases hr
theorem a0e: ∀{toks:pH}{q k:Nat},wT toks q=some k→(q,k)∈toks
  |[],_,_,h=>by simp [wT] at h
  | (q',k')::r,q,k,h=>by
    simp only[wT] at h;split at h
    · rename_i e
      subst e;simp only[aSk] at h;subst h;simp
    exact aSy _ (a0e h)
theorem aAm {u v:Ty}: ∀{t:Ty}{x:t.den}{q:Nat}{l:List u.den}{y:v.den},qT (.list u) t x q=some l→qT v t x q=some y→v.isRow=false→∃h:v= .list u,tZ h y=l:=by
  intro t
  induction t with
  | pair s t ihs iht=>
    intro x q l y h1 h2 hv
    have key: ∀q,(if q<s.cells then qT (.list u) s x.1 q else qT (.list u) t x.2 (q-s.cells))=some l→(if q<s.cells then qT v s x.1 q else qT v t x.2 (q-s.cells))=some y→∃h:v= .list u,tZ h y=l:=by
      intro q h1 h2;by_cases hq:q<s.cells
      .rw[aSj hq] at h1 h2;exact ihs h1 h2 hv
      rw[aSl hq] at h1 h2;exact iht h1 h2 hv
    cases q with
    | zero=>
      have e1:Ty.pair s t≠.list u:=by intro h;cases h
      have e2:Ty.pair s t≠v:=by intro h;subst h;simp [Ty.isRow] at hv
      unfold qT at h1 h2;rw[aTI e1] at h1;rw[aTI e2] at h2;exact key 0 (by simpa using h1) (by simpa using h2)
    |succ q=>exact key (q+1) (by simpa[qT] using h1) (by simpa[qT] using h2)
  | _=>
    intro x q l y h1 h2 hv;cases q with
    | zero=>
      unfold qT at h1 h2;split at h1
      · rename_i e1
        split at h2
        · rename_i e2
          first
          |(cases e1;done)
          | (subst e2
             injection e1 with e1'
             subst e1';simp only[tZ,aSk] at h1 h2;subst h1;subst h2;exact⟨rfl,rfl⟩)
        simp at h2
      .simp at h1
    |succ q=>simp [qT] at h1
theorem aJl {t:TypeId}{ti:TI}(hty:sY P t ti) (hr:ti.ty.isRow=false) {b off:Nat}{v:pO}(hc:w.cell? ⟨b,off,none⟩=some v):
    (Instr.loadAt t (.pointer (some ⟨b,off,none⟩))).run P w= .ok v w:=by
  obtain⟨d,hd,hrow⟩:=UP hty
  have hagg:(isAgg t).run P w= .ok false w:=by
    unfold isAgg;rw[aSw,aSF hd w];rw[hr] at hrow;cases d<;>simp_all [TypeDesc.isRow]
  simp [Instr.loadAt,Instr.sureAddr,loadVar,aSw,hagg,hc]
omit hT hH in
theorem aAn {a b:Option qJ}{e:qJ}(h:orE a b=some e):a=some e∨b=some e:=by
  cases a with
  |some r=>exact .inl h
  |none=>exact .inr h
omit hT hH in
theorem aAo {H:List (Nat×pW)}{t:Ty}{i off:Nat}{b:Option pW}{x:Option qJ}{e:qJ}(h:orS H t i off b x=some e):x=some e∨(x=none∧HT H t i off b=some e):=by
  cases x with
  |some r=>exact .inl h
  |none=>exact .inr ⟨rfl,h⟩
theorem aJm {t:TypeId}{ti:TI}{x:Operand}(ho:o.op= .load t x) (hs:rO T t=some ti) {i off:Nat}(hx:sW g w .ref (some (i,off)) (a.eval x)) {e:qJ}(hr:TB i off ti (pZ H i)=some e):rC P o a g w H e:=by
  have hty:=sP hT hs;generalize hb:pZ H i=ob at hr;unfold TB at hr;split at hr
  · rename_i u el _ _ _ v x' toks
    generalize hga:qT (.rl el u) v x' off=oy at hr;unfold YJ at hr;split at hr
    · rename_i k n
      cases hr;obtain⟨p,hp,hv⟩:=x7 hx;obtain⟨p',cs,hp',hR,hra,_⟩:=hH.blk i _ hb;rw[hp] at hp';obtain rfl:=aSo hp';obtain⟨c1,c2,c3,rfl,rfl,hR2⟩:=BL hR hga;obtain⟨v0,hcur,rfl,hsh⟩:=hR2;have hc:w.cell? ⟨p.1,p.2+c1.length,none⟩=some v0:=by simpa using KT hT hH hra 0 _ rfl
      have h1:=aJl (P:=P) hT hH hty rfl hc;exact rC.value (v:=v0) (g':=g) (w':=w) (by simp only[execOp,ho,hv,aSw,h1,aSr,aSI]) (.pure hH ⟨⟨hcur,hsh⟩,trivial⟩)
    cases hr
  cases hr
theorem aJn {t:TypeId}{ti:TI}{x:Operand}(ho:o.op= .load t x) (hs:rO T t=some ti) {i off:Nat}(hx:sW g w .ref (some (i,off)) (a.eval x)) {e:qJ}(hr:HT H ti.ty i off (pZ H i)=some e) (hside: ∀p∈e.side,p):rC P o a g w H e:=by
  have hty:=sP hT hs;generalize hb:pZ H i=ob at hr;unfold HT at hr;split at hr
  case h_2=>cases hr
  rename_i v z toks;generalize hf:BH v z=of at hr;cases of with
  |none=>cases hr
  | some kn=>
    obtain⟨k,n0⟩:=kn;simp only[TD] at hr;generalize hk:pZ H k=ok at hr;unfold TC at hr;split at hr
    case h_2=>cases hr
    rename_i el u0 l m;generalize hz:zK u0 l v z=oq at hr;cases oq with
    |none=>cases hr
    |some q=>
    obtain⟨v',x'⟩:=q;simp only[YN] at hr;generalize hga:qT ti.ty v' x' off=oy at hr;cases oy with
    |none=>cases hr
    | some y=>
      simp only[YM,aSk] at hr;subst hr;have hnm:n0=m:=hside _ (aSC.2 rfl);subst hnm;obtain⟨g',hH',hJ,heff⟩:=aJg hH hk hb hf hz;obtain⟨p,hp,hv⟩:=x7 hx;obtain⟨p',cs,hp',hR,hra,_,_,_⟩:=hH'.blk i (.cells v' x' []) (by simp [qS,pZ]);rw[hJ,hp] at hp';obtain rfl:=aSo hp';obtain⟨c1,c2,c3,rfl,rfl,hR2⟩:=BL hR hga;obtain⟨v0,h1,h2,_⟩:=N9 hT hH' hty (KT hT hH' hra) hR2;exact rC.valueW (v:=v0) (g':=g') (w':=w) (by simp only[execOp,ho,hv,aSw,h1,aSr,aSI]) (heff _ _ _ _ rfl ⟨h2,trivial⟩)
theorem aJo {t:TypeId}{ti:TI}{x:Operand}(ho:o.op= .load t x) (hs:rO T t=some ti) {i off:Nat}(hx:sW g w .ref (some (i,off)) (a.eval x)) {e:qJ}(hr:K6 H ti.ty i off (pZ H i)=some e) (hside: ∀p∈e.side,p):rC P o a g w H e:=by
  have hty:=sP hT hs;generalize hb:pZ H i=ob at hr;unfold K6 at hr;split at hr
  case h_2=>cases hr
  rename_i v z toks;generalize hu:AL H v z=ou at hr;cases ou with
  |none=>cases hr
  | some z2=>
    simp only[TG] at hr;generalize hsa:BI H (AM v z)=osa at hr;generalize hga:qT ti.ty (FX v) z2 off=oy at hr;cases osa with
    |none=>cases hr
    | some q=>
      obtain⟨ps,bs⟩:=q;cases oy with
      |none=>cases hr
      | some y=>
        simp only[TF,aSk] at hr;subst hr;obtain⟨g',k1,k2,k3,_,k5⟩:=aAk hH hsa hside;obtain⟨p,hp,hv⟩:=x7 hx;obtain⟨p',cs,hp',hR,hra,_,_,_⟩:=hH.blk i _ hb;rw[hp] at hp';obtain rfl:=aSo hp';have hRz:=aJi hu (wA k3.le hR) k5;obtain⟨c1,c2,c3,rfl,rfl,hR2⟩:=BL hRz hga;obtain⟨v0,h1,h2,_⟩:=N9 hT k3.heap hty (KT hT hH hra) hR2;exact rC.value (v:=v0) (g':=g') (w':=w) (by simp only[execOp,ho,hv,aSw,h1,aSr,aSI]) (k3.slot' ⟨h2,trivial⟩)
theorem aJp {t:TypeId}{x:Operand}(ho:o.op= .load t x) {sx:pX}(hx:rF g w sx (a.eval x)) {e:qJ}(hr:TH H (rO T t) sx=some e) (hside: ∀p∈e.side,p):rC P o a g w H e:=by
  generalize hs:rO T t=ot at hr;replace hx:=hx.1;unfold TH at hr;split at hr
  · rename_i ti k n c i o' _
    obtain⟨v,h1,h2,h3⟩:=aJk hT hH hs hx hr hside;obtain⟨side,slot,upd,rds⟩:=e;simp only at h2 h3;subst h3;exact rC.value (v:=v) (g':=g) (w':=w) (by simp only[execOp,ho,aSw,h1,aSr,aSI]) (.pure hH h2)
  · rename_i ti u y k
    split at hr
    · rename_i hu
      subst hu;cases hr;have hty:=sP hT hs;obtain⟨b,off,cs,hv,hra,hS,hR⟩:=hx;obtain⟨v,h1,h2,_⟩:=N9 hT hH hty hra hR;exact rC.pure hH (v:=v) (by simp only[execOp,ho,hv,aSw,h1,aSr,aSI]) h2
    cases hr
  · rename_i ti i off k
    split at hr
    .exact aJo hT hH ho hs hx hr hside
    rcases aAo hr with hr|⟨_,hr⟩
    case inr=>exact aJn hT hH ho hs hx hr hside
    rcases aAn hr with hr|hr
    case inr=>exact aJm hT hH ho hs hx hr
    have hty:=sP hT hs;generalize hb:pZ H i=ob at hr;unfold PM at hr;split at hr
    · rename_i u z toks
      generalize hga:qT ti.ty u z off=oy at hr;cases oy with
      |none=>cases hr
      | some y=>
        cases hr;obtain⟨p,hp,hv⟩:=x7 hx;obtain⟨p',cs,hp',hR,hra,_,_,htk⟩:=hH.blk i _ hb;rw[hp] at hp';obtain rfl:=aSo hp';obtain⟨c1,c2,c3,rfl,rfl,hR2⟩:=BL hR hga;obtain⟨v,h1,h2,h3⟩:=N9 hT hH hty (KT hT hH hra) hR2;refine rC.value (v:=v) (g':=g) (w':=w) (by simp only[execOp,ho,hv,aSw,h1,aSr,aSI]) (.pure hH ⟨h2,?_⟩);obtain⟨ty,el,by',ar,ls⟩:=ti;cases ty with
        | list u'=>
          simp only[EK];generalize htt:wT toks c1.length=ok;cases ok with
          |none=>trivial
          | some k=>
            obtain⟨u2,l,v',g1,g2,g3⟩:=htk _ _ (a0e hT hH htt);obtain⟨heq,hl⟩:=aAm hT hH g1 hga rfl;injection heq with heq'
            subst heq';have hlen:=sL hR2;obtain⟨v2,rfl⟩:=aTt.1 hlen
            have e2:v'=v2:=by
              have e:(c1++[v2]++c3)[c1.length]? =some v2:=by simp
              rw[e] at g2;exact(aSo g2).symm
            have e3:v=v2:=by
              have h4:=wZ rfl h2;have hone:=zY h4 v pE;have:v.cells= #[v]:=by cases v<;>first|rfl|(simp [Value.oneCell'] at hone)
              rw[this] at h3;simpa using h3
            subst e2;subst e3;have e4:(y:List u'.den)=l:=hl;subst e4;exact g3
        |_=>trivial
    cases hr
  cases hr
theorem UV {ρ:Operand→pX}{x:Option Operand}{n m:Int}(hρ: ∀y∈x.toList,rF g w (ρ y) (a.eval y)) (h:DA (zL ρ x) n=some m):(x=none∧m=n)∨∃y k,x=some y∧a.eval y= .int k m:=by
  cases x with
  |none=>simp only[zL,DA,aSk] at h;exact .inl ⟨rfl,h.symm⟩
  | some y=>
    have h0:=hρ y pE;simp only[zL] at h;unfold DA at h;split at h
    .cases ‹some _=none›
    · rename_i k q kk heq
      simp only[aSk] at heq h;rw[heq] at h0;subst h;exact .inr ⟨y,k,rfl,wF h0.1⟩
    cases h
theorem aAp {isSlice:Bool}{len cap:Nat}{lo hi:Option Operand}{m n:Int}(hlo:(lo=none∧m=0)∨∃y k,lo=some y∧a.eval y= .int k m) (hhi:(hi=none∧n=(len:Int))∨∃y k,hi=some y∧a.eval y= .int k n)
    (h0:0≤m) (h1:m≤n) (h2:n≤(len:Int)) (h3:len≤cap):(Instr.sliceBounds isSlice len cap (lo.map a.eval) (hi.map a.eval) none).run P w= .ok (m.toNat,n.toNat,cap) w:=by
  have e1:(n.toNat:Int)=n:=Int.toNat_of_nonneg pC;rcases hlo with⟨rfl,rfl⟩ |⟨y,k,rfl,hy⟩<;>rcases hhi with⟨rfl,rfl⟩ |⟨z,k',rfl,hz⟩
  .simp [Instr.sliceBounds]
  .simp [Instr.sliceBounds,hz,run_sliceBound,(by omega:0≤n),(by omega:n≤(cap:Int))]
  .simp [Instr.sliceBounds,hy,run_sliceBound,h0,h1]
  simp [Instr.sliceBounds,hy,hz,run_sliceBound,(by omega:0≤n),(by omega:n≤(cap:Int)),e1,h0,h1]
theorem aJq {t:TypeId}{x:Operand}{lo hi:Option Operand}(ho:o.op= .slice t x lo hi none) {ρ:Operand→pX}(hx:rF g w (ρ x) (a.eval x)) (hlo: ∀y∈lo.toList,rF g w (ρ y) (a.eval y)) (hhi: ∀y∈hi.toList,rF g w (ρ y) (a.eval y)) {e:qJ}
    (hr:AI (Y2 (rO T t) (ρ x) (zL ρ lo) (zL ρ hi))=some e) (hs: ∀p∈e.side,p):rC P o a g w H e:=by
  obtain⟨q,hq,rfl⟩:=I5 hr;replace hx:=hx.1;generalize hst:rO T t=ot at hq;generalize hsx:ρ x=sx at hq hx;unfold Y2 at hq;split at hq
  · rename_i el by' ar ls_ l k
    generalize hb1:DA (zL ρ lo) 0=o1 at hq;generalize hb2:DA (zL ρ hi) (List.length l)=o2 at hq;unfold SP at hq;split at hq
    · rename_i m n
      cases hq;obtain⟨k1,k2,k3⟩:=hs _ (aSC.2 rfl);have h2:=(sP hT hst).2;simp only[wX] at h2;have hv:=x6 hx;have hbd:=aAp (P:=P) (isSlice:=false) (cap:=List.length l) hT hH (UV hT hH hlo hb1) (UV hT hH hhi hb2) k1 k2 k3 (aSE _);refine rC.pure hH (v:= .string ⟨(qU l m n).toArray⟩) ?_ (KS _ _ _);have hsz:(⟨List.toArray l⟩:ByteArray).size=List.length l:=by simp [ByteArray.size]
      have hext:(⟨List.toArray l⟩:ByteArray).extract m.toNat n.toNat=⟨(qU l m n).toArray⟩:=by
        apply ByteArray.ext;apply aTn.1;simp [qU]
      simp only[execOp,ho,hv,Option.map_none,Instr.sliceAt,Instr.slice,aSw,aSF h2,aSr,Option.isSome_none,aTy,aUj,hsz,hbd,hext,aSI]
    cases hq
  · rename_i u el by' ar ls_ t1 l k
    split at hq
    · rename_i htu
      subst htu;generalize hb1:DA (zL ρ lo) 0=o1 at hq;generalize hb2:DA (zL ρ hi) (List.length l)=o2 at hq;unfold SP at hq;split at hq
      · rename_i m n
        cases hq;obtain⟨k1,k2,k3⟩:=hs _ (aSC.2 rfl);obtain⟨h2,h3,_⟩:=(sP hT hst).2;obtain⟨ei,hei,hz⟩:=aSA.1 h3;simp only[aSP] at hz;obtain⟨ad,cap,hv,hle,hl⟩:=EW hx;have hbd:=aAp (P:=P) (isSlice:=true) (cap:=cap) hT hH (UV hT hH hlo hb1) (UV hT hH hhi hb2) k1 k2 k3 hle;refine rC.pure hH (v:= .slice (if cap=m.toNat then ad else ad.map (·.add (m.toNat*t1.cells))) (n.toNat-m.toNat) (cap-m.toNat)) ?_ (.inr ⟨rfl,(if cap=m.toNat then ad else ad.map (·.add (m.toNat*t1.cells))),cap-m.toNat,?_,?_,?_⟩)
        .simp only[execOp,ho,hv,Option.map_none,Instr.sliceAt,Instr.slice,aSw,aSF h2,aSr,hbd,sizeOf,typeInfo,aTf,hei,hz.1,aSI]
        .rw[a0c k1 k2 k3]
        .rw[a0c k1 k2 k3];omega
        rcases hl with rfl|⟨b,off,rfl,hL⟩
        .exact .inl (by simp [qU])
        by_cases hc:cap=m.toNat
        · left
          apply aSQ;rw[a0c k1 k2 k3];omega
        right
        rw[aSl hc];refine⟨b,off+m.toNat*t1.cells,by simp [aTp],?_⟩;exact a97 _ (a96 _ hL pC)
      cases hq
    cases hq
  cases hq
end
theorem a0f {α:Type}{R:α->pJ->Prop}{c:Nat}(hR: ∀x cs,R x cs->∀v∈cs,v.oneCell'=true): ∀{l:List α}{cs:pJ},tV R c l cs->∀v∈cs,v.oneCell'=true
 |[],_,h=>by rw[h];simp
 |_::_,_,⟨c1,c2,e,_,h2,h3⟩=>by
  subst e;intro v hv;rcases aTx.1 hv with h|h
  .exact hR _ _ h2 v h
  exact a0f hR h3 v h
theorem UW {α:Type}{R:α->pJ->Prop}{c:Nat}: ∀{l:List α}{cs cy:pJ}{i:Nat}{y:α},tV R c l cs->R y cy->cy.length=c->i<l.length->
  ∃c1 c2 c3,cs=c1++c2++c3/\c1.length=i*c/\c2.length=c/\tV R c (l.set i y) (c1++cy++c3)
 |[],_,_,_,_,_,_,_,h=>by simp at h
 |_::l,_,cy,0,y,⟨c1,c2,e,h1,_,h3⟩,hy,hc,_=>⟨[],c1,c2,by simpa using e,by simp,h1,⟨cy,c2,by simp,hc,hy,h3⟩⟩
 |x::l,_,cy,i+1,y,⟨c1,c2,e,h1,h2,h3⟩,hy,hc,hi=>by
  obtain⟨d1,d2,d3,e1,e2,e3,e4⟩:=UW h3 hy hc (by simpa using hi);refine⟨c1++d1,d2,d3,by rw[e,e1];simp,by rw[aSp,h1,e2,aTD];omega,e3,⟨c1,d1++cy++d3,by simp,h1,h2,e4⟩⟩
theorem Q7 {α:Type}{R:α->pJ->Prop}{w:pN}{S:Nat->Nat->Prop}{c b:Nat}: ∀{l:List α}{o:Nat},yJ R w S c b o l->∃cs,tV R c l cs/\w.rangeAt b o cs/\∀j,j<l.length*c->S b (o+j)
 |[],o,_=>⟨[],rfl,fun j v h=>by simp at h,fun j h=>by simp at h⟩
 |x::l,o,⟨⟨c1,h1,h2,h3,h4⟩,h5⟩=>by
  obtain⟨c2,k1,k2,k3⟩:=Q7 h5;refine⟨c1++c2,⟨c1,c2,rfl,h1,h4,k1⟩,fun j v hv=>?_,fun j hj=>?_⟩
  .by_cases hj:j<c
   .exact h2 j v (by rwa [aSD pC] at hv)
   have:=k2 (j-c) v (by rw[aSt pC,h1] at hv;exact hv);rwa [show o+c+(j-c)=o+j from by omega] at this
  by_cases hj':j<c
  .exact h3 j hj'
  have:=k3 (j-c) (by rw[aSq,aTD] at hj;omega);rwa [show o+c+(j-c)=o+j from by omega] at this
theorem aAq {g:Gh}{w:pN}{t:Ty}: ∀n,tV (Rd g w t) t.cells (CU t n) (List.flatten (List.replicate n (u1 t)))
 |0=>rfl
 |n+1=>⟨u1 t,_,rfl,sL (DF g w t),DF g w t,aAq n⟩
theorem aAr (t:Ty): ∀n,(CU t n).length=n
 |0=>rfl
 |n+1=>by simp [CU,aAr t n]
def Gh.tok (g:Gh) (k n:Nat) (v:pO):Gh:={g with cur:=fun k' n'=>if k'=k/\n'=n then some v else g.cur k' n'}
def Gh.var (g:Gh) (i b:Nat) (k:Option (TypeId×Nat)):Gh:={g with J:=fun i'=>if i'=i then some ⟨b,0,k⟩ else g.J i'}
def Gh.shut (g:Gh) (b m:Nat):Gh:={g with S:=fun b' o=>g.S b' o\/(b'=b/\o<m)}
section
variable {g:Gh}{w:pN}{H:s5}(hH:s9 g w H)
include hH
theorem rE.nilTok {side:List Prop}{d:DV}{rds:pM}{base e c:Nat}{u:Ty}(hd:d= .val (.list u) []) (hf: ∀n,g.cur base n=none):
  rE g w H ⟨side,(d,some base),[(base,.grow e c 0)],rds⟩ (g.tok base 0 (.slice none 0 0)) w (.slice none 0 0):=by
 have le:Le g w (g.tok base 0 (.slice none 0 0)) w:=⟨fun _ _ h=>h,fun _ _ _=>rfl,fun _ _ h=>h,fun k n v h=>by
  show (if k=base/\n=0 then _ else _)=_;rw[aSl (fun⟨e1,_⟩=>by rw[e1,hf] at h;cases h)];exact h⟩
 have fr:Fr (sK g H (qB [(base,pW.grow e c 0)])) w w g.S (g.tok base 0 (.slice none 0 0)).S:= .refl _ _ _;have gho: ∀i,i∉qB [(base,pW.grow e c 0)]->(g.tok base 0 (.slice none 0 0)).J i=g.J i/\(g.tok base 0 (.slice none 0 0)).cur i=g.cur i:=fun i hi=>⟨rfl,by
  funext n;show (if i=base/\n=0 then _ else _)=_;rw[aSl (fun⟨e1,_⟩=>hi (by simp [qB,e1]))]⟩
 have cur0:(g.tok base 0 (.slice none 0 0)).cur base 0=some (.slice none 0 0):=by simp [Gh.tok]
 have own: ∀i blk b o,i∈qB [(base,pW.grow e c 0)]->pZ (qS [(base,pW.grow e c 0)] H) i=some blk->¬s8 (g.tok base 0 (.slice none 0 0)) i blk b o:=by
  intro i blk b o hi hg ho;simp only[qB,aSC] at hi;subst hi;simp only[qS,pZ,aTQ,aSk] at hg;subst hg;obtain⟨v,hv,hb⟩:=ho;rw[cur0] at hv;obtain rfl:=aSo hv;cases hb
 subst hd;refine⟨le,⟨.inr ⟨rfl,none,0,rfl,aSE _,.inl rfl⟩,cur0⟩,hH.upd le fr (fun i blk b o h1 h2 h3=>absurd h3 (own i blk b o h1 h2)) gho (fun i blk hi hg=>?_) (fun i j bi bj b o hi hj hij hgi hgj hoi hoj=>own i bi b o hi hgi hoi) hH.sl,fr,fun i blk b o h1 h2 h3=>absurd h3 (own i blk b o h1 h2),gho,fun i u' y us h=>by
  simp only[qS,pZ] at h;split at h
  .cases h
  exact .inl ⟨y,us,h⟩⟩
 simp only[qB,aSC] at hi;subst hi;simp only[qS,pZ,aTQ,aSk] at hg;subst hg;refine⟨.slice none 0 0,[],cur0,World.ownsRow_nil w 0 e c,fun m hm=>?_,fun b hb=>by cases hb⟩;show (if i=i/\m=0 then _ else _)=_;rw[aSl pC];exact hf m
theorem rE.row {side:List Prop}{rds:pM}{s:pX}{val:pO}{k:Nat}{e:TypeId}{t:Ty}{l:List t.den}{n:Nat}{v:pO}{xs:pJ}{w':pN}
  (hl:l.length=n) (hown:w'.ownsRow 0 e t.cells v n xs) (hF:tV (Rd g w t) t.cells l xs) (hnone: ∀m,n<m->g.cur k m=none) (hcur: ∀u,g.cur k n=some u->u=v)
  (hg:w.grownBy w' (v.ownBlock)\/∃q,w.grownBy w' q/\∀b,q=some b->∀o,sK g H [k] b o)
  (hcell: ∀b o,g.S b o->w'.cell? ⟨b,o,none⟩=w.cell? ⟨b,o,none⟩)
  (hseal: ∀b,v.ownBlock=some b->∀o,¬g.S b o)
  (hperm: ∀b,v.ownBlock=some b->w.heap.size<=b\/∀o,sK g H [k] b o)
  (hslot:rF (g.tok k n v) w' s val):rE g w H ⟨side,s,[(k,.row e t l n)],rds⟩ (g.tok k n v) w' val:=by
 have le:Le g w (g.tok k n v) w':=⟨fun _ _ h=>h,fun b o h=>hcell b o h,fun _ _ h=>h,fun k' n' v' h=>by
  show (if k'=k/\n'=n then _ else _)=_;by_cases hk:k'=k/\n'=n
  .obtain⟨rfl,rfl⟩:=hk;rw[aSj ⟨rfl,rfl⟩,hcur _ h]
  rw[aSl hk];exact h⟩
 have cur1:(g.tok k n v).cur k n=some v:=by simp [Gh.tok]
 have hblk: ∀b,b<w.heap.size->(∀o,¬sK g H (qB [(k,pW.row e t l n)]) b o)->w'.heap[b]? =w.heap[b]? :=by
  intro b hb hno;rcases hg with hg|⟨q,hg,hq⟩
  .refine hg.block b hb (fun e1=>?_);rcases hperm b e1.symm with h|h
   .omega
   exact hno 0 (h 0)
  exact hg.block b hb (fun e1=>hno 0 (hq b e1.symm 0))
 have hgo:w'.os=w.os/\w'.tape=w.tape/\w'.output=w.output/\w.heap.size<=w'.heap.size:=by
  rcases hg with hg|⟨q,hg,_⟩
  .exact⟨hg.os,hg.tape,hg.output,hg.size⟩
  exact⟨hg.os,hg.tape,hg.output,hg.size⟩
 have hall: ∀b o,sK g H (qB [(k,pW.row e t l n)]) b o->True:=fun _ _ _=>trivial;have hcell2: ∀b o,b<w.heap.size->¬sK g H (qB [(k,pW.row e t l n)]) b o->(w'.cell? ⟨b,o,none⟩=w.cell? ⟨b,o,none⟩/\w'.frozen? ⟨b,o,none⟩=w.frozen? ⟨b,o,none⟩):=by
  intro b o hb hno;have:w'.heap[b]? =w.heap[b]? :=by
   rcases hg with hg|⟨q,hg,hq⟩
   .refine hg.block b hb (fun e1=>?_);rcases hperm b e1.symm with h|h
    .omega
    exact hno (h o)
   exact hg.block b hb (fun e1=>hno (hq b e1.symm o))
  exact⟨aSH (a:=⟨b,o,none⟩) this,aS8 (a:=⟨b,o,none⟩) this⟩
 have hshape: ∀b s,w.shape? b=some s->w'.shape? b=some s\/∀o,sK g H (qB [(k,pW.row e t l n)]) b o:=by
  intro b s hs;rcases hg with hg|⟨q,hg,hq⟩
  .by_cases e1:v.ownBlock=some b
   .rcases hperm b e1 with h|h
    .have:=BM hs;omega
    exact .inr h
   exact .inl ((BN (hg.block b (BM hs) (fun h=>e1 h.symm))).trans hs)
  by_cases e1:q=some b
  .exact .inr (hq b e1)
  exact .inl ((BN (hg.block b (BM hs) (fun h=>e1 h.symm))).trans hs)
 have fr:Fr (sK g H (qB [(k,pW.row e t l n)])) w w' g.S (g.tok k n v).S:=⟨hgo.1,hgo.2.1,hgo.2.2.1,hgo.2.2.2,hblk,hcell2,fun b o h=> .inl h,hshape⟩;have gho: ∀i,i∉qB [(k,pW.row e t l n)]->(g.tok k n v).J i=g.J i/\(g.tok k n v).cur i=g.cur i:=fun i hi=>⟨rfl,by
  funext n';show (if i=k/\n'=n then _ else _)=_;rw[aSl (fun⟨e1,_⟩=>hi (by simp [qB,e1]))]⟩
 have get: ∀i blk,i∈qB [(k,pW.row e t l n)]->pZ (qS [(k,pW.row e t l n)] H) i=some blk->i=k/\blk= .row e t l n:=by
  intro i blk hi hg;simp only[qB,aSC] at hi;subst hi;simp only[qS,pZ,aTQ,aSk] at hg;exact⟨rfl,hg.symm⟩
 have perm: ∀i blk b o,i∈qB [(k,pW.row e t l n)]->pZ (qS [(k,pW.row e t l n)] H) i=some blk->s8 (g.tok k n v) i blk b o->w.heap.size<=b\/sK g H (qB [(k,pW.row e t l n)]) b o:=by
  intro i blk b o hi hgt ho;obtain⟨rfl,rfl⟩:=get i blk hi hgt;obtain⟨v',hv',hb⟩:=ho;rw[cur1] at hv';obtain rfl:=aSo hv';exact(hperm b hb).imp id (fun h=>h o)
 refine⟨le,hslot,hH.upd le fr perm gho (fun i blk hi hgt=>?_) (fun i j bi bj b o hi hj hij hgi hgj _ _=>hij ((get i bi hi hgi).1.trans (get j bj hj hgj).1.symm)) (fun b o h=>aSW (hH.sl b o h) hgo.2.2.2),fr,perm,gho,fun i u' y us h=>by
  simp only[qS,pZ] at h;split at h
  .cases h
  exact .inl ⟨y,us,h⟩⟩
 obtain⟨rfl,rfl⟩:=get i blk hi hgt;refine⟨hl,v,xs,cur1,hown,CC (fun _ _ h=>wA le h) hF,fun m hm=>?_,hseal⟩;show (if i=i/\m=n then _ else _)=_;rw[aSl pC];exact hnone m hm
theorem rE.newVarJ {side:List Prop}{rds:pM}{base:Nat}{t:Ty}{x:t.den}{toks:pH}{cs:pJ}{e:TypeId}(hR:Rd (g.var base w.heap.size (some (e,cs.length))) w t x cs) (htk:G3 g t x cs toks) (hf:g.J base=none) (hc:g.cur base=fun _=>none):
  rE g w H ⟨side,(.val .ref (some (base,0)),none),[(base,.cells t x toks)],rds⟩ (g.var base w.heap.size (some (e,cs.length))) (w.alloc (.cells cs.toArray e)) (.pointer (some ⟨w.heap.size,0,none⟩)):=by
 have hJ:(g.var base w.heap.size (some (e,cs.length))).J base=some ⟨w.heap.size,0,some (e,cs.length)⟩:=by simp [Gh.var]
 have le:Le g w (g.var base w.heap.size (some (e,cs.length))) (w.alloc (.cells cs.toArray e)):=⟨fun _ _ h=>h,fun b o h=>aSH (a:=⟨b,o,none⟩) (aSU _ _ _ (hH.sl b o h)),fun i p h=>by
  show (if i=base then _ else _)=_;rw[aSl (fun e1=>by rw[e1,hf] at h;cases h)];exact h,fun _ _ _ h=>h⟩
 have le2:Le (g.var base w.heap.size (some (e,cs.length))) w (g.var base w.heap.size (some (e,cs.length))) (w.alloc (.cells cs.toArray e)):=⟨fun _ _ h=>h,fun b o h=>aSH (a:=⟨b,o,none⟩) (aSU _ _ _ (hH.sl b o h)),fun _ _ h=>h,fun _ _ _ h=>h⟩;have fr:Fr (sK g H (qB [(base,pW.cells t x toks)])) w (w.alloc (.cells cs.toArray e)) g.S (g.var base w.heap.size (some (e,cs.length))).S:=
  ⟨rfl,rfl,rfl,by simp,fun b hb _=>aSU _ _ _ hb,fun b o hb _=>⟨aSH (a:=⟨b,o,none⟩) (aSU _ _ _ hb),aS8 (a:=⟨b,o,none⟩) (aSU _ _ _ hb)⟩,fun b o h=> .inl h,fun b s h=> .inl ((BN (aSU _ _ _ (BM h))).trans h)⟩
 have gho: ∀i,i∉qB [(base,pW.cells t x toks)]->(g.var base w.heap.size (some (e,cs.length))).J i=g.J i/\(g.var base w.heap.size (some (e,cs.length))).cur i=g.cur i:=fun i hi=>⟨by
  show (if i=base then _ else _)=_;rw[aSl (fun e1=>hi (by simp [qB,e1]))],rfl⟩
 have get: ∀i blk,i∈qB [(base,pW.cells t x toks)]->pZ (qS [(base,pW.cells t x toks)] H) i=some blk->i=base/\blk= .cells t x toks:=by
  intro i blk hi hg;simp only[qB,aSC] at hi;subst hi;simp only[qS,pZ,aTQ,aSk] at hg;exact⟨rfl,hg.symm⟩
 have perm: ∀i blk b o,i∈qB [(base,pW.cells t x toks)]->pZ (qS [(base,pW.cells t x toks)] H) i=some blk->s8 (g.var base w.heap.size (some (e,cs.length))) i blk b o->w.heap.size<=b\/sK g H (qB [(base,pW.cells t x toks)]) b o:=by
  intro i blk b o hi hg ho;obtain⟨rfl,rfl⟩:=get i blk hi hg;obtain⟨p,hp,h1,_⟩:=ho;rw[hJ] at hp;obtain rfl:=aSo hp;exact .inl (aTN h1.symm)
 have hl:=sL hR;refine⟨le,⟨.inr ⟨rfl,_,hJ,rfl⟩,trivial⟩,hH.upd le fr perm gho (fun i blk hi hg=>?_) (fun i j bi bj b o hi hj hij hgi hgj _ _=>hij ((get i bi hi hgi).1.trans (get j bj hj hgj).1.symm)) (fun b o h=>aSW (hH.sl b o h) pE),fr,perm,gho,fun i u' y us h=>by
  simp only[qS,pZ] at h;split at h
  .rename_i e1;subst e1;exact .inr ⟨hf,fun n=>by rw[hc]⟩
  exact .inl ⟨y,us,h⟩⟩
 obtain⟨rfl,rfl⟩:=get i blk hi hg;refine⟨_,cs,hJ,wA le2 hR,fun j v hv=>?_,⟨fun j hj=>?_,fun _ s hs=>?_⟩,fun j _ hs=>aT0 _ (hH.sl _ _ hs),a94 le.cur htk⟩
 .simp only[aSS];rw[aUl];simpa using hv
 .simp only[aSS];rw[aUl,World.frozen?_alloc_new];exact⟨by simp;omega,rfl⟩
 cases hs;show (match (w.heap.push (.cells cs.toArray e))[w.heap.size]? with|some (.cells c elem _)=>some (elem,c.size) |_=>none)=_
 rw[aUd];simp only[aTo]
theorem rE.newVar {side:List Prop}{rds:pM}{base:Nat}{t:Ty}{x:t.den}{toks:pH}{cs:pJ}{e:TypeId}(hR:Rd g w t x cs) (htk:G3 g t x cs toks) (hf:g.J base=none) (hc:g.cur base=fun _=>none):
  rE g w H ⟨side,(.val .ref (some (base,0)),none),[(base,.cells t x toks)],rds⟩ (g.var base w.heap.size (some (e,cs.length))) (w.alloc (.cells cs.toArray e)) (.pointer (some ⟨w.heap.size,0,none⟩)):=
 rE.newVarJ hH (wA (g:=g) (g':=g.var base w.heap.size (some (e,cs.length))) (w:=w) (w':=w) ⟨fun _ _ h=>h,fun _ _ _=>rfl,fun i p h=>by
  show (if i=base then _ else _)=_;rw[aSl (fun e1=>by rw[e1,hf] at h;cases h)];exact h,fun _ _ _ h=>h⟩ hR) htk hf hc
end
theorem aAs {P:Program}(w:pN) (t ty e:TypeId) (i:TypeInfo) (z:pO) (size bytes:Nat) (ht:P.underlying t=some (.slice e)) (hi:P.info? e=some i) (hz:i.zero=some z)
  (hsize:i.size=size) (hby:i.bytes=bytes) (hzs:z.cells.size=size)
  (v:pO) (n:Nat) (xs:pJ) (hown:w.ownsRow 0 e size v n xs)
  (a:Addr) (m c:Nat) (news:pJ) (hl:news.length=m*size) (hnews: ∀j u,news[j]? =some u->w.cell? (a.add j)=some u) (h1: ∀u∈news,u.oneCell'=true) (hm:0<m)
  (h63:n+m<=maxLen) (hbytes:(n+m)*bytes<=140737488355328):
  ∃q cap w',(Builtin.append_ #[t,t] ty #[v,.slice (some a) m c]).run P w= .ok (.slice (some ⟨q,0,none⟩) (n+m) cap) w'/\w'.ownsRow 0 e size (.slice (some ⟨q,0,none⟩) (n+m) cap) (n+m) (xs++news)/\
   (q=w.heap.size\/v.ownBlock=some q)/\w.grownBy w' v.ownBlock/\n+m<=cap/\
   ∀b o,b<w.heap.size->(v.ownBlock=some b->o<n*size)->w'.cell? ⟨b,o,none⟩=w.cell? ⟨b,o,none⟩:=by
 subst hsize;subst hby;have hsmall:n+m<=9223372036854775807:=by simp only[maxLen] at h63;omega
 have hlen:(xs++news).length=(n+m)*i.size:=by rw[aSp,hown.1,hl,Nat.add_mul]
 have grown: ∀(old:Nat),old<n+m->∀(row:pL),
   (w.drew.alloc (.cells (xs.toArray++news.toArray++Builtin.zeroCells z.cells (grownCap w (n+m) old e- (n+m))) e)).ownsRow 0 e i.size
    (.slice (some ⟨w.heap.size,0,none⟩) (n+m) (grownCap w (n+m) old e)) (n+m) (xs++news)/\
   w.grownBy (w.drew.alloc (.cells (xs.toArray++news.toArray++Builtin.zeroCells z.cells (grownCap w (n+m) old e- (n+m))) e)) row/\n+m<=grownCap w (n+m) old e/\
   ∀b o,b<w.heap.size->(w.drew.alloc (.cells (xs.toArray++news.toArray++Builtin.zeroCells z.cells (grownCap w (n+m) old e- (n+m))) e)).cell? ⟨b,o,none⟩=w.cell? ⟨b,o,none⟩:=by
  intro old ho row;have hge:=grownCap_ge w (n+m) old e;have hcm:grownCap w (n+m) old e<=maxLen:=grownCap_le_maxLen w (n+m) old e h63;refine⟨⟨hlen,.inr ⟨w.heap.size,_,_,rfl,aTg _,aUo w.drew _,hge,hcm,?_,?_⟩⟩,⟨rfl,rfl,rfl,by simp,fun k hk _=>aSU w.drew _ k hk⟩,hge,fun b o hb=>aSH (w:=w) (a:=⟨b,o,none⟩) (aSU w.drew _ b hb)⟩
  .simp only[aUp,aTo,size_zeroCells,hzs,hown.1,hl,<-Nat.add_mul];congr 1;omega
  simp only[Array.toList_append,aSv];rw[<-aSv,<-hlen];exact aT4
 rcases hown.2 with⟨rfl,rfl⟩ |⟨g,cap,cur,rfl,hbg,hg,hnc,hcm,hcs,htake⟩
 .have hx:xs=[]:=aSQ (by simpa using hown.1);subst hx;have hr:=run_append_nil (P:=P) w t ty e i z ht hi hz a m c news hl hnews pC pC (by have hb:=hbytes;simp only[aSS] at hb;omega);have hgr:=grown 0 pC (Value.ownBlock (.slice none 0 0));simp only[aSS,List.nil_append,Array.empty_append] at hgr|-;exact⟨_,_,_,hr,hgr.1,.inl rfl,hgr.2.1,hgr.2.2.1,fun b o hb _=>hgr.2.2.2 b o hb⟩
 by_cases hroom:n+m<=cap
 .have hfit:n*i.size+news.length<=cur.size:=by rw[hl,hcs,<-Nat.add_mul];exact Nat.mul_le_mul_right _ hroom
  have hr:=run_append_room (P:=P) w t ty e i ht hi g n cap cur hg a m c news hl hnews h1 hroom hfit;refine⟨_,_,_,hr,⟨hlen,.inr ⟨g,cap,_,rfl,hbg,aUq w g cur _ e _ hg,hroom,hcm,?_,?_⟩⟩,.inr rfl,⟨rfl,rfl,rfl,by simp,fun k _ hk=>aT7 w g k _ (fun e=>hk (by simp [Value.ownBlock,e]))⟩,hroom,fun b o hb hso=>?_⟩
  .simp only[aTo,aSp,aSX,aSR,aTd];omega
  .rw[htake,<-hlen];exact aT4
  by_cases hbg':b=g
  .subst hbg';have ho:=hso rfl;rw[cell_setRow_same w b o cur _ e _ hg,cell_of_row w b o cur e (0,0) hg];have hlt:o<(cur.toList.take (n*i.size)).length:=by rw[aSX,aTd];omega
   rw[aSv,List.getElem?_toArray,aSD hlt,List.getElem?_take,aSj ho,aTm]
  exact aSH (w:=w) (a:=⟨b,o,none⟩) (aT7 w g b _ hbg')
 have holds: ∀j u,xs[j]? =some u->w.cell? ((⟨g,0,none⟩:Addr).add j)=some u:=hown.cells (g:=g) rfl;have hr:=run_append_grow (P:=P) w t ty e i z ht hi hz ⟨g,0,none⟩ n cap xs hown.1 holds a m c news hl hnews pC pC (growslice_fits pC hbytes);have hgr:=grown cap pC (Value.ownBlock (.slice (some ⟨g,0,none⟩) n cap));exact⟨_,_,_,hr,hgr.1,.inl rfl,hgr.2.1,hgr.2.2.1,fun b o hb _=>hgr.2.2.2 b o hb⟩
theorem a0g {w:pN}{e:TypeId}{c n:Nat}{q cap:Nat}{xs:pJ}(h:w.ownsRow 0 e c (.slice (some ⟨q,0,none⟩) n cap) n xs):w.rangeAt q 0 xs:=fun j u hu=>by
 have:=h.cells (g:=q) rfl j u hu;rwa [aTp] at this
theorem aJr (w:pN) (a:Addr) (v:pO) (b:Nat):(w.setCell a v).shape? b=w.shape? b:=by
 unfold World.shape? World.setCell;simp only[aTj];by_cases h:a.block=b
 .rw[aSj h];cases hb:w.heap[b]? with
  |none=>rfl
  |some x=>
   cases x with
   |cells c e f=>
    simp only[Option.map_some];split<;>simp
   |_=>rfl
 rw[aSl h]
theorem Q8 (b:Nat): ∀(l:pJ) (o:Nat) (w:pN) (b':Nat),(w.setCells b o l).shape? b'=w.shape? b'
 |[],_,_,_=>rfl
 |v::l,o,w,b'=>by rw[World.setCells,Q8 b l,aJr]
section
variable {g:Gh}{w:pN}{H:s5}(hH:s9 g w H)
include hH
theorem rE.append {side:List Prop}{rds:pM}{k e c n:Nat}{u:Ty}{l r:List u.den}{w':pN}{q cap:Nat}{v:pO}{xs news:pJ}(hk:pZ H k=some (.grow e c n)) (hc:c=u.cells)
  (hln:l.length=n) (hv:g.cur k n=some v) (hown:w.ownsRow 0 e c v n xs) (hnone: ∀m,n<m->g.cur k m=none) (hseal: ∀b,v.ownBlock=some b->∀o,g.S b o->o<n*c) (hl:tV (Rd g w u) c l xs) (hr:tV (Rd g w u) c r news) (hm:0<r.length)
  (ho:w'.ownsRow 0 e c (.slice (some ⟨q,0,none⟩) (n+r.length) cap) (n+r.length) (xs++news)) (hq:q=w.heap.size\/v.ownBlock=some q) (hg:w.grownBy w' v.ownBlock) (hcap:n+r.length<=cap)
  (hcell: ∀b o,b<w.heap.size->(v.ownBlock=some b->o<n*c)->w'.cell? ⟨b,o,none⟩=w.cell? ⟨b,o,none⟩):
  rE g w H ⟨side,(.val (.list u) (l++r),some k),[(k,.grow e c (n+r.length))],rds⟩ ((g.tok k (n+r.length) (.slice (some ⟨q,0,none⟩) (n+r.length) cap)).shut q ((n+r.length)*c)) w' (.slice (some ⟨q,0,none⟩) (n+r.length) cap):=by
 have hnb:=hnone (n+r.length) pC;have hownk: ∀o b,v.ownBlock=some b->sK g H (qB [(k,pW.grow e c (n+r.length))]) b o:=fun o b hb=>⟨k,_,by simp [qB],hk,v,hv,hb⟩;have hqlt:q<w'.heap.size:=(ho.lt q rfl).2;have le:Le g w ((g.tok k (n+r.length) (.slice (some ⟨q,0,none⟩) (n+r.length) cap)).shut q ((n+r.length)*c)) w':=⟨fun _ _ h=> .inl h,fun b o h=>hcell b o (hH.sl b o h) (fun hb=>hseal b hb o h),fun _ _ h=>h,fun k' n' v' h=>by
  show (if k'=k/\n'=n+r.length then _ else _)=_;rw[aSl (fun⟨e1,e2⟩=>by rw[e1,e2,hnb] at h;cases h)];exact h⟩
 have fr:Fr (sK g H (qB [(k,pW.grow e c (n+r.length))])) w w' g.S ((g.tok k (n+r.length) (.slice (some ⟨q,0,none⟩) (n+r.length) cap)).shut q ((n+r.length)*c)).S:=by
  have hbk: ∀b,b<w.heap.size->∀o,¬sK g H (qB [(k,pW.grow e c (n+r.length))]) b o->w'.heap[b]? =w.heap[b]? :=fun b hb o hno=>hg.block b hb (fun e1=>hno (hownk o b e1.symm));refine⟨hg.os,hg.tape,hg.output,hg.size,fun b hb hno=>hbk b hb 0 (hno 0),fun b o hb hno=>⟨aSH (a:=⟨b,o,none⟩) (hbk b hb o hno),aS8 (a:=⟨b,o,none⟩) (hbk b hb o hno)⟩,fun b o h=>?_,fun b s hs=>?_⟩
  rotate_left
  .by_cases e1:v.ownBlock=some b
   .exact .inr fun o=>hownk o b e1
   exact .inl ((BN (hg.block b (BM hs) (fun h=>e1 h.symm))).trans hs)
  rcases h with h|⟨rfl,_⟩
  .exact .inl h
  rcases hq with h|h
  .exact .inr (.inl (aTN h.symm))
  exact .inr (.inr (hownk o b h))
 have gho: ∀i,i∉qB [(k,pW.grow e c (n+r.length))]->((g.tok k (n+r.length) (.slice (some ⟨q,0,none⟩) (n+r.length) cap)).shut q ((n+r.length)*c)).J i=g.J i/\((g.tok k (n+r.length) (.slice (some ⟨q,0,none⟩) (n+r.length) cap)).shut q ((n+r.length)*c)).cur i=g.cur i:=fun i hi=>⟨rfl,by
  funext n';show (if i=k/\n'=n+r.length then _ else _)=_;rw[aSl (fun⟨e1,_⟩=>hi (by simp [qB,e1]))]⟩
 have cur1:((g.tok k (n+r.length) (.slice (some ⟨q,0,none⟩) (n+r.length) cap)).shut q ((n+r.length)*c)).cur k (n+r.length)=some (.slice (some ⟨q,0,none⟩) (n+r.length) cap):=by
  show (if k=k/\n+r.length=n+r.length then _ else _)=_;simp
 have get: ∀i blk,i∈qB [(k,pW.grow e c (n+r.length))]->pZ (qS [(k,pW.grow e c (n+r.length))] H) i=some blk->i=k/\blk= .grow e c (n+r.length):=by
  intro i blk hi hg;simp only[qB,aSC] at hi;subst hi;simp only[qS,pZ,aTQ,aSk] at hg;exact⟨rfl,hg.symm⟩
 have perm: ∀i blk b o,i∈qB [(k,pW.grow e c (n+r.length))]->pZ (qS [(k,pW.grow e c (n+r.length))] H) i=some blk->s8 ((g.tok k (n+r.length) (.slice (some ⟨q,0,none⟩) (n+r.length) cap)).shut q ((n+r.length)*c)) i blk b o->w.heap.size<=b\/sK g H (qB [(k,pW.grow e c (n+r.length))]) b o:=by
  intro i blk b o hi hgt ho';obtain⟨rfl,rfl⟩:=get i blk hi hgt;obtain⟨v',hv',hb⟩:=ho';rw[cur1] at hv';obtain rfl:=aSo hv';cases hb;rcases hq with h|h
  .exact .inl (aTN h.symm)
  exact .inr (hownk o _ h)
 have hF:tV (Rd ((g.tok k (n+r.length) (.slice (some ⟨q,0,none⟩) (n+r.length) cap)).shut q ((n+r.length)*c)) w' u) u.cells (l++r) (xs++news):=hc▸CC (fun _ _ h=>wA le h) (ZR hl hr);have hlr:(l++r).length=n+r.length:=by rw[aSp,hln]
 refine⟨le,⟨.inr ⟨rfl,some ⟨q,0,none⟩,cap,by rw[hlr],by rw[hlr];exact hcap,.inr ⟨q,0,rfl,I6 hF (a0g ho) (fun j hj=>?_)⟩⟩,?_⟩,hH.upd le fr perm gho (fun i blk hi hgt=>?_) (fun i j bi bj b o hi hj hij hgi hgj _ _=>hij ((get i bi hi hgi).1.trans (get j bj hj hgj).1.symm)) (fun b o h=>?_),fr,perm,gho,fun i u' y us h=>by
  simp only[qS,pZ] at h;split at h
  .cases h
  exact .inl ⟨y,us,h⟩⟩
 .right;rw[hlr] at hj;exact⟨rfl,by rw[hc];omega⟩
 .show _=_;rw[hlr];exact cur1
 .obtain⟨rfl,rfl⟩:=get i blk hi hgt;refine⟨_,_,cur1,ho,fun m hm'=>?_,fun b hb o h=>?_⟩
  .show (if i=i/\m=n+r.length then _ else _)=_;rw[aSl pC];exact hnone m pC
  cases hb;rcases h with h|⟨_,h⟩
  .rcases hq with h2|h2
   .have:q<w.heap.size:=hH.sl _ _ h;omega
   have:=hseal _ h2 o h;rw[Nat.add_mul];omega
  exact h
 rcases h with h|⟨rfl,_⟩
 .exact aSW (hH.sl b o h) hg.size
 exact hqlt
theorem rE.lit {side:List Prop}{rds:pM}{base e c n:Nat}{u:Ty}{l:List u.den}{cs:pJ}(hc:c=u.cells) (hln:l.length=n) (hl:tV (Rd g w u) c l cs) (hn:n<=maxLen) (hf: ∀m,g.cur base m=none):
  rE g w H ⟨side,(.val (.list u) l,some base),[(base,.grow e c n)],rds⟩ ((g.tok base n (.slice (some ⟨w.heap.size,0,none⟩) n n)).shut w.heap.size (n*c)) (w.alloc (.cells cs.toArray e)) (.slice (some ⟨w.heap.size,0,none⟩) n n):=by
 have hlen:=KM hl;have le:Le g w ((g.tok base n (.slice (some ⟨w.heap.size,0,none⟩) n n)).shut w.heap.size (n*c)) (w.alloc (.cells cs.toArray e)):=⟨fun _ _ h=> .inl h,fun b o h=>aSH (a:=⟨b,o,none⟩) (aSU _ _ _ (hH.sl b o h)),fun _ _ h=>h,fun k' n' v' h=>by
  show (if k'=base/\n'=n then _ else _)=_;rw[aSl (fun⟨e1,e2⟩=>by rw[e1,hf] at h;cases h)];exact h⟩
 have fr:Fr (sK g H (qB [(base,pW.grow e c n)])) w (w.alloc (.cells cs.toArray e)) g.S ((g.tok base n (.slice (some ⟨w.heap.size,0,none⟩) n n)).shut w.heap.size (n*c)).S:=
  ⟨rfl,rfl,rfl,by simp,fun b hb _=>aSU _ _ _ hb,fun b o hb _=>⟨aSH (a:=⟨b,o,none⟩) (aSU _ _ _ hb),aS8 (a:=⟨b,o,none⟩) (aSU _ _ _ hb)⟩,fun b o h=>h.imp id fun h=> .inl (aTN h.1.symm),fun b s h=> .inl ((BN (aSU _ _ _ (BM h))).trans h)⟩
 have gho: ∀i,i∉qB [(base,pW.grow e c n)]->((g.tok base n (.slice (some ⟨w.heap.size,0,none⟩) n n)).shut w.heap.size (n*c)).J i=g.J i/\((g.tok base n (.slice (some ⟨w.heap.size,0,none⟩) n n)).shut w.heap.size (n*c)).cur i=g.cur i:=fun i hi=>⟨rfl,by
  funext n';show (if i=base/\n'=n then _ else _)=_;rw[aSl (fun⟨e1,_⟩=>hi (by simp [qB,e1]))]⟩
 have cur1:((g.tok base n (.slice (some ⟨w.heap.size,0,none⟩) n n)).shut w.heap.size (n*c)).cur base n=some (.slice (some ⟨w.heap.size,0,none⟩) n n):=by
  show (if base=base/\n=n then _ else _)=_;simp
 have get: ∀i blk,i∈qB [(base,pW.grow e c n)]->pZ (qS [(base,pW.grow e c n)] H) i=some blk->i=base/\blk= .grow e c n:=by
  intro i blk hi hg;simp only[qB,aSC] at hi;subst hi;simp only[qS,pZ,aTQ,aSk] at hg;exact⟨rfl,hg.symm⟩
 have perm: ∀i blk b o,i∈qB [(base,pW.grow e c n)]->pZ (qS [(base,pW.grow e c n)] H) i=some blk->s8 ((g.tok base n (.slice (some ⟨w.heap.size,0,none⟩) n n)).shut w.heap.size (n*c)) i blk b o->w.heap.size<=b\/sK g H (qB [(base,pW.grow e c n)]) b o:=by
  intro i blk b o hi hgt ho';obtain⟨rfl,rfl⟩:=get i blk hi hgt;obtain⟨v',hv',hb⟩:=ho';rw[cur1] at hv';obtain rfl:=aSo hv';cases hb;exact .inl (aSE _)
 have hF:tV (Rd ((g.tok base n (.slice (some ⟨w.heap.size,0,none⟩) n n)).shut w.heap.size (n*c)) (w.alloc (.cells cs.toArray e)) u) u.cells l cs:=hc▸CC (fun _ _ h=>wA le h) hl;have hra:(w.alloc (.cells cs.toArray e)).rangeAt w.heap.size 0 cs:=fun j v hv=>by
  rw[aSS,aUl];simpa using hv
 refine⟨le,⟨.inr ⟨rfl,some ⟨w.heap.size,0,none⟩,n,by rw[hln],by rw[hln];exact aSE _,.inr ⟨w.heap.size,0,rfl,I6 hF hra (fun j hj=>?_)⟩⟩,?_⟩,hH.upd le fr perm gho (fun i blk hi hgt=>?_) (fun i j bi bj b o hi hj hij hgi hgj _ _=>hij ((get i bi hi hgi).1.trans (get j bj hj hgj).1.symm)) (fun b o h=>?_),fr,perm,gho,fun i u' y us h=>by
  simp only[qS,pZ] at h;split at h
  .cases h
  exact .inl ⟨y,us,h⟩⟩
 .right;rw[hln] at hj;exact⟨rfl,by rw[hc];omega⟩
 .show _=_;rw[hln];exact cur1
 .obtain⟨rfl,rfl⟩:=get i blk hi hgt;refine⟨_,cs,cur1,⟨by rw[hlen,hln],.inr ⟨w.heap.size,n,cs.toArray,rfl,aTg _,aUo w _,aSE _,hn,by simp [hlen,hln],by simp [<-hln,<-hlen]⟩⟩,fun m hm'=>?_,fun b hb o h=>?_⟩
  .show (if i=i/\m=n then _ else _)=_;rw[aSl pC];exact hf m
  cases hb;rcases h with h|⟨_,h⟩
  .exact absurd (hH.sl _ _ h) (aT0 _)
  exact h
 rcases h with h|⟨rfl,_⟩
 .exact aSW (hH.sl b o h) pE
 simp
theorem a0h: ∀{toks:pH}{off n q k:Nat},(q,k)∈t6 toks off n->(q,k)∈toks/\¬(off<=q/\q<off+n)
 |[],_,_,_,_,h=>by simp [t6] at h
 |(q',k')::r,off,n,q,k,h=>by
  simp only[t6] at h;split at h
  .obtain⟨h1,h2⟩:=a0h h;exact⟨aSy _ h1,h2⟩
  rename_i hn;rcases aSx.1 h with h|h
  .cases h;exact⟨by simp,hn⟩
  obtain⟨h1,h2⟩:=a0h h;exact⟨aSy _ h1,h2⟩
theorem aJs {u:Ty}{y:u.den}: ∀{t:Ty}{x z:t.den}{o:Nat},u.isRow=false->sD u y t x o=some z->qT u t z o=some y:=by
 intro t
 induction t with
 |pair a b iha ihb=>
  intro x z o hu h;have hne:u≠.pair a b:=by intro e;rw[e] at hu;cases hu
  have key: ∀o,(if o<a.cells then(sD u y a x.1 o).map (fun q=>(q,x.2)) else(sD u y b x.2 (o-a.cells)).map (fun q=>(x.1,q)))=some z->
    (if o<a.cells then qT u a z.1 o else qT u b z.2 (o-a.cells))=some y:=by
   intro o h;by_cases ho:o<a.cells
   .rw[aSj ho] at h|-;obtain⟨q,hq,rfl⟩:=aSA.1 h;exact iha hu hq
   rw[aSl ho] at h|-;obtain⟨q,hq,rfl⟩:=aSA.1 h;exact ihb hu hq
  cases o with
  |zero=>
   unfold sD at h;unfold qT;rw[aTI hne] at h;rw[aTI (Ne.symm hne)];have:=key 0 (by simpa using h);simpa using this
  |succ o=>
   have:=key (o+1) (by simpa[sD] using h);simpa[qT] using this
 |_=>
  intro x z o hu h;cases o with
  |zero=>
   unfold sD at h;split at h
   .rename_i e;subst e;simp only[tZ,aSk] at h
    try subst h
    unfold qT;simp [tZ]
   .simp at h
  |succ o=>simp [sD] at h
theorem UX {u v:Ty}{y:u.den}: ∀{t:Ty}{x z:t.den}{o q:Nat}{l:(Ty.list v).den},sD u y t x o=some z->qT (.list v) t x q=some l->¬(o<=q/\q<o+u.cells)->qT (.list v) t z q=some l:=by
 intro t
 induction t with
 |pair a b iha ihb=>
  intro x z o q l h g hq;by_cases hu:o=0/\u= .pair a b
  .obtain⟨rfl,rfl⟩:=hu;exfalso;apply hq;have: ∀(t:Ty) (x:t.den) (q:Nat) (l:(Ty.list v).den),qT (.list v) t x q=some l->q<t.cells:=by
    intro t
    induction t with
    |pair s t ihs iht=>
     intro x q l g;have key: ∀q,(if q<s.cells then qT (.list v) s x.1 q else qT (.list v) t x.2 (q-s.cells))=some l->q<s.cells+t.cells:=by
      intro q g;by_cases h:q<s.cells
      .omega
      rw[aSl h] at g;have:=iht _ _ _ g;omega
     cases q with
     |zero=>
      unfold qT at g;rw[aTI (by intro e;cases e)] at g;exact key 0 (by simpa using g)
     |succ q=>exact key (q+1) (by simpa[qT] using g)
    |_=>
     intro x q l g;cases q with
     |zero=>first|(simp [Ty.cells];done) |(unfold qT at g;simp at g)
     |succ q=>simp [qT] at g
   exact⟨aTg _,by simpa using this _ _ _ _ g⟩
  .have keyh:(if o<a.cells then(sD u y a x.1 o).map (fun q=>(q,x.2)) else(sD u y b x.2 (o-a.cells)).map (fun q=>(x.1,q)))=some z:=by
    cases o with
    |zero=>
     unfold sD at h;rw[aTI (fun e=>hu ⟨rfl,e⟩)] at h;simpa using h
    |succ o=>simpa[sD] using h
   have keyg: ∀x:(Ty.pair a b).den,qT (.list v) (.pair a b) x q=(if q<a.cells then qT (.list v) a x.1 q else qT (.list v) b x.2 (q-a.cells)):=by
    intro x;cases q with
    |zero=>
     conv=>lhs;unfold qT
     rw[aTI (by intro e;cases e),Nat.zero_sub]
    |succ q=>simp [qT]
   rw[keyg] at g|-;by_cases ho:o<a.cells
   .rw[aSj ho] at keyh;obtain⟨z',hz',rfl⟩:=aSA.1 keyh;by_cases hqa:q<a.cells
    .rw[aSj hqa] at g|-;exact iha hz' g hq
    rw[aSl hqa] at g|-;exact g
   .rw[aSl ho] at keyh;obtain⟨z',hz',rfl⟩:=aSA.1 keyh;by_cases hqa:q<a.cells
    .rw[aSj hqa] at g|-;exact g
    .rw[aSl hqa] at g|-;exact ihb hz' g pC
 |unit=>
  intro x z o q l h g hq;cases q with
  |zero=>
   unfold qT at g;rw[aTI (by intro e;cases e)] at g;cases g
  |succ q=>simp [qT] at g
 |_=>
  intro x z o q l h g hq;cases o with
  |zero=>
   unfold sD at h;split at h
   .rename_i e;subst e;cases q with
    |zero=>exact absurd ⟨aSE _,Nat.zero_lt_one⟩ hq
    |succ q=>simp [qT] at g
   .simp at h
  |succ o=>simp [sD] at h
theorem rE.store {side:List Prop}{rds:pM}{i:Nat}{u t:Ty}{x z:u.den}{y:t.den}{off:Nat}{toks:pH}{k:pL}{p:Pl}{cy:pJ}{v:pO}(hb:pZ H i=some (.cells u x toks)) (hp:g.J i=some p)
  (hset:sD t y u x off=some z) (hy:Rd g w t y cy) (hk:CW g t y v k) (hk2: ∀a b,t= .pair a b->k=none) (hv:t.isRow=false->cy=[v]):
  rE g w H ⟨side,(.any,none),[(i,.cells u z (qS (xI k off) (t6 toks off t.cells)))],rds⟩ g (w.setCells p.1 (p.2+off) cy) undef/\w.there p.1 (p.2+off) cy.length:=by
 obtain⟨p',cs,hp',hR,hra,hth,hns,htk⟩:=hH.blk i _ hb;rw[hp] at hp';obtain rfl:=aSo hp';obtain⟨c1,c2,c3,hcs,hl1,hl2,hz⟩:=Q3 hy hR hset;subst hcs;subst hl1;have hcl:=sL hR;have hyl:=sL hy;simp only[aSp] at hcl;have hthere:w.there p.1 (p.2+c1.length) cy.length:=fun j hj=>by
  have:=hth.1 (c1.length+j) pC;rwa [<-aS3] at this
 have hout: ∀b o,(b=p.1->o<p.2+c1.length\/p.2+c1.length+cy.length<=o)->(w.setCells p.1 (p.2+c1.length) cy).cell? ⟨b,o,none⟩=w.cell? ⟨b,o,none⟩:=fun b o h=>World.cell?_setCells_out p.1 cy _ w ⟨b,o,none⟩ (fun e _=>h e);have hin: ∀b o,b=p.1->p.2+c1.length<=o->o<p.2+c1.length+cy.length->s8 g i (.cells u x toks) b o:=fun b o e h1 h2=>⟨p,hp,e,pC,pC⟩;have hsz:(w.setCells p.1 (p.2+c1.length) cy).heap.size=w.heap.size:=by
  have: ∀(l:pJ) (o:Nat) (w:pN),(w.setCells p.1 o l).heap.size=w.heap.size:=by
   intro l
   induction l with
   |nil=>intro o w;rfl
   |cons v l ih=>intro o w;rw[World.setCells,ih];simp [World.setCell]
  exact this _ _ _
 have hbk: ∀b,b≠p.1->(w.setCells p.1 (p.2+c1.length) cy).heap[b]? =w.heap[b]? :=by
  intro b hb;have: ∀(l:pJ) (o:Nat) (w:pN),(w.setCells p.1 o l).heap[b]? =w.heap[b]? :=by
   intro l
   induction l with
   |nil=>intro o w;rfl
   |cons v l ih=>intro o w;rw[World.setCells,ih];exact Below.heap_setCell _ _ _ _ hb
  exact this _ _ _
 have hos:(w.setCells p.1 (p.2+c1.length) cy).os=w.os/\(w.setCells p.1 (p.2+c1.length) cy).tape=w.tape/\(w.setCells p.1 (p.2+c1.length) cy).output=w.output:=by
  have: ∀(l:pJ) (o:Nat) (w:pN),(w.setCells p.1 o l).os=w.os/\(w.setCells p.1 o l).tape=w.tape/\(w.setCells p.1 o l).output=w.output:=by
   intro l
   induction l with
   |nil=>intro o w;exact⟨rfl,rfl,rfl⟩
   |cons v l ih=>intro o w;rw[World.setCells];exact ih _ _
  exact this _ _ _
 have hiS: ∀b o,g.S b o->¬(b=p.1/\p.2<=o/\o<p.2+u.cells):=fun b o hs ⟨e,h1,h2⟩=>hns (o-p.2) pC (by rw[show p.2+(o-p.2)=o from by omega,<-e];exact hs);have le:Le g w g (w.setCells p.1 (p.2+c1.length) cy):=⟨fun _ _ h=>h,fun b o h=>hout b o (fun e=>by
  have:=hiS b o h;rcases aTl o (p.2+c1.length) with h1|h1
  .exact .inl h1
  rcases aTl o (p.2+c1.length+cy.length) with h2|h2
  .exact absurd ⟨e,pC,pC⟩ this
  exact .inr h2),fun _ _ h=>h,fun _ _ _ h=>h⟩
 have hofI: ∀b o,s8 g i (.cells u x toks) b o->sK g H (qB [(i,pW.cells u z (qS (xI k c1.length) (t6 toks c1.length t.cells)))]) b o:=fun b o h=>⟨i,_,by simp [qB],hb,h⟩;have fr:Fr (sK g H (qB [(i,pW.cells u z (qS (xI k c1.length) (t6 toks c1.length t.cells)))])) w (w.setCells p.1 (p.2+c1.length) cy) g.S g.S:=by
  refine⟨hos.1,hos.2.1,hos.2.2,aTN hsz.symm,fun b hb' hno=>?_,fun b o hb' hno=>⟨hout b o (fun e=>?_),World.frozen?_setCells _ _ _ _ _⟩,fun b o h=> .inl h,fun b s hs=> .inl ((Q8 _ _ _ _ _).trans hs)⟩
  .by_cases e:b=p.1
   .cases hcy:cy with
    |nil=>rfl
    |cons q l=>exact absurd (hofI b (p.2+c1.length) (hin b _ e (aSE _) (by rw[hcy];simp))) (hno _)
   exact hbk b e
  rcases aTl o (p.2+c1.length) with h1|h1
  .exact .inl h1
  rcases aTl o (p.2+c1.length+cy.length) with h2|h2
  .exact absurd (hofI b o (hin b o e h1 h2)) hno
  exact .inr h2
 have gho: ∀j,j∉qB [(i,pW.cells u z (qS (xI k c1.length) (t6 toks c1.length t.cells)))]->g.J j=g.J j/\g.cur j=g.cur j:=fun _ _=>⟨rfl,rfl⟩;have get: ∀j blk,j∈qB [(i,pW.cells u z (qS (xI k c1.length) (t6 toks c1.length t.cells)))]->pZ (qS [(i,pW.cells u z (qS (xI k c1.length) (t6 toks c1.length t.cells)))] H) j=some blk->j=i/\blk= .cells u z (qS (xI k c1.length) (t6 toks c1.length t.cells)):=by
  intro j blk hi hg;simp only[qB,aSC] at hi;subst hi;simp only[qS,pZ,aTQ,aSk] at hg;exact⟨rfl,hg.symm⟩
 have perm: ∀j blk b o,j∈qB [(i,pW.cells u z (qS (xI k c1.length) (t6 toks c1.length t.cells)))]->pZ (qS [(i,pW.cells u z (qS (xI k c1.length) (t6 toks c1.length t.cells)))] H) j=some blk->s8 g j blk b o->w.heap.size<=b\/sK g H (qB [(i,pW.cells u z (qS (xI k c1.length) (t6 toks c1.length t.cells)))]) b o:=by
  intro j blk b o hi hg ho;obtain⟨rfl,rfl⟩:=get j blk hi hg;exact .inr (hofI b o ho)
 refine⟨⟨le,⟨trivial,trivial⟩,hH.upd le fr perm gho (fun j blk hi hg=>?_) (fun i j bi bj b o hi hj hij hgi hgj _ _=>hij ((get i bi hi hgi).1.trans (get j bj hj hgj).1.symm)) (fun b o h=>by rw[hsz];exact hH.sl b o h),fr,perm,gho,fun j u' y' us h=>by
  simp only[qS,pZ] at h;split at h
  .rename_i e1;subst e1;simp only[aSk,pW.cells.injEq] at h;obtain⟨rfl,_⟩:=h;exact .inl ⟨x,toks,hb⟩
  exact .inl ⟨y',us,h⟩⟩,hthere⟩
 obtain⟨rfl,rfl⟩:=get j blk hi hg;refine⟨p,_,hp,wA le hz,fun q v hq=>?_,⟨fun q hq=>?_,fun h0 s hs=>(Q8 _ _ _ _ _).trans (hth.2 h0 s hs)⟩,hns,?_⟩
 .by_cases h1:q<c1.length
  .rw[hout _ _ (fun _=> .inl pC)];refine hra q v ?_;rw[aSv,aSD h1] at hq|-;exact hq
  by_cases h2:q<c1.length+cy.length
  .have:=aTM p.1 cy (p.2+c1.length) w (fun j hj=>(hthere j hj).1) (q-c1.length) pC;rw[show p.2+c1.length+(q-c1.length)=p.2+q from by omega] at this;rw[this];rw[aSv,aSt pC,aSD pC] at hq;rw[<-hq,aSu pC]
  rw[hout _ _ (fun _=> .inr pC)];refine hra q v ?_;rw[aSv,aSt pC,aSt pC] at hq|-;rw[hl2];rw[hyl] at hq;exact hq
 .have hh:=hth.1 q hq;refine⟨?_,by rw[World.frozen?_setCells];exact hh.2⟩;by_cases h1:q<c1.length\/c1.length+cy.length<=q
  .rw[hout _ _ (fun _=>by omega)];exact hh.1
  have:=aTM p.1 cy (p.2+c1.length) w (fun j hj=>(hthere j hj).1) (q-c1.length) pC;rw[show p.2+c1.length+(q-c1.length)=p.2+q from by omega] at this;rw[this];rfl
 intro q kk hm;have hsplit:(q,kk)∈xI k c1.length\/(q,kk)∈t6 toks c1.length t.cells:=by
  cases k with
  |none=>exact .inr (by simpa[xI,qS] using hm)
  |some k=>
   simp only[xI,qS,aSx] at hm;rcases hm with hm|hm
   .exact .inl (by simp [xI,hm])
   exact .inr hm
 rcases hsplit with hm|hm
 .cases k with
  |none=>simp [xI] at hm
  |some k=>
   simp only[xI,aSC,aSP] at hm;obtain⟨rfl,rfl⟩:=hm;cases t with
   |list t=>
    obtain rfl:=hv rfl;exact⟨t,y,v,aJs hH rfl hset,by simp,hk⟩
   |pair a b=>cases hk2 a b rfl
   |_=>exact hk.elim
 obtain⟨h1,h2⟩:=a0h hH hm;obtain⟨v',l,v1,g1,g2,g3⟩:=htk q kk h1;refine⟨v',l,v1,UX hH hset g1 h2,?_,g3⟩;rcases aTl q c1.length with h3|h3
 .rw[aSv,aSD h3] at g2|-;exact g2
 have h4:c1.length+t.cells<=q:=by omega
 rw[aSv,aSt pC,aSt pC] at g2|-;rw[hyl];rw[hl2] at g2;exact g2
theorem zN.openS {side:List Prop}{rds:pM}{i:Nat}{u u0:Ty}{el:Nat}{kn:pK}{x:u.den}{z: Σ t:Ty,t.den}{off:Nat}{toks:pH}{p:Pl}{cy:pJ}(hb:pZ H i=some (.cells u x toks)) (hp:g.J i=some p)
  (hset:y9 el u0 kn u x off=some z) (hy:BK g kn cy) (hyl:cy.length=1) (hre:HP rds=true):
  zN g w H ⟨side,(.any,none),[(i,.cells z.1 z.2 [])],rds⟩ g (w.setCells p.1 (p.2+off) cy) undef/\w.there p.1 (p.2+off) cy.length:=by
 obtain⟨p',cs,hp',hR,hra,hth,hns,htk⟩:=hH.blk i _ hb;rw[hp] at hp';obtain rfl:=aSo hp';obtain⟨c1,c2,c3,hcs,hl1,hl2,hz⟩:=aIQ hy hR hset;subst hcs;subst hl1;have hcl:=sL hR;have hcz:=aIP hset;simp only[aSp] at hcl;have hthere:w.there p.1 (p.2+c1.length) cy.length:=fun j hj=>by
  have:=hth.1 (c1.length+j) pC;rwa [<-aS3] at this
 have hout: ∀b o,(b=p.1->o<p.2+c1.length\/p.2+c1.length+cy.length<=o)->(w.setCells p.1 (p.2+c1.length) cy).cell? ⟨b,o,none⟩=w.cell? ⟨b,o,none⟩:=fun b o h=>World.cell?_setCells_out p.1 cy _ w ⟨b,o,none⟩ (fun e _=>h e);have hin: ∀b o,b=p.1->p.2+c1.length<=o->o<p.2+c1.length+cy.length->s8 g i (.cells u x toks) b o:=fun b o e h1 h2=>⟨p,hp,e,pC,pC⟩;have hsz:(w.setCells p.1 (p.2+c1.length) cy).heap.size=w.heap.size:=by
  have: ∀(l:pJ) (o:Nat) (w:pN),(w.setCells p.1 o l).heap.size=w.heap.size:=by
   intro l
   induction l with
   |nil=>intro o w;rfl
   |cons v l ih=>intro o w;rw[World.setCells,ih];simp [World.setCell]
  exact this _ _ _
 have hbk: ∀b,b≠p.1->(w.setCells p.1 (p.2+c1.length) cy).heap[b]? =w.heap[b]? :=by
  intro b hb;have: ∀(l:pJ) (o:Nat) (w:pN),(w.setCells p.1 o l).heap[b]? =w.heap[b]? :=by
   intro l
   induction l with
   |nil=>intro o w;rfl
   |cons v l ih=>intro o w;rw[World.setCells,ih];exact Below.heap_setCell _ _ _ _ hb
  exact this _ _ _
 have hos:(w.setCells p.1 (p.2+c1.length) cy).os=w.os/\(w.setCells p.1 (p.2+c1.length) cy).tape=w.tape/\(w.setCells p.1 (p.2+c1.length) cy).output=w.output:=by
  have: ∀(l:pJ) (o:Nat) (w:pN),(w.setCells p.1 o l).os=w.os/\(w.setCells p.1 o l).tape=w.tape/\(w.setCells p.1 o l).output=w.output:=by
   intro l
   induction l with
   |nil=>intro o w;exact⟨rfl,rfl,rfl⟩
   |cons v l ih=>intro o w;rw[World.setCells];exact ih _ _
  exact this _ _ _
 have hiS: ∀b o,g.S b o->¬(b=p.1/\p.2<=o/\o<p.2+u.cells):=fun b o hs ⟨e,h1,h2⟩=>hns (o-p.2) pC (by rw[show p.2+(o-p.2)=o from by omega,<-e];exact hs);have le:Le g w g (w.setCells p.1 (p.2+c1.length) cy):=⟨fun _ _ h=>h,fun b o h=>hout b o (fun e=>by
  have:=hiS b o h;rcases aTl o (p.2+c1.length) with h1|h1
  .exact .inl h1
  rcases aTl o (p.2+c1.length+cy.length) with h2|h2
  .exact absurd ⟨e,pC,pC⟩ this
  exact .inr h2),fun _ _ h=>h,fun _ _ _ h=>h⟩
 have hofI: ∀b o,s8 g i (.cells u x toks) b o->sK g H (qB [(i,pW.cells z.1 z.2 [])]) b o:=fun b o h=>⟨i,_,by simp [qB],hb,h⟩;have fr:Fr (sK g H (qB [(i,pW.cells z.1 z.2 [])])) w (w.setCells p.1 (p.2+c1.length) cy) g.S g.S:=by
  refine⟨hos.1,hos.2.1,hos.2.2,aTN hsz.symm,fun b hb' hno=>?_,fun b o hb' hno=>⟨hout b o (fun e=>?_),World.frozen?_setCells _ _ _ _ _⟩,fun b o h=> .inl h,fun b s hs=> .inl ((Q8 _ _ _ _ _).trans hs)⟩
  .by_cases e:b=p.1
   .cases hcy:cy with
    |nil=>rfl
    |cons q l=>exact absurd (hofI b (p.2+c1.length) (hin b _ e (aSE _) (by rw[hcy];simp))) (hno _)
   exact hbk b e
  rcases aTl o (p.2+c1.length) with h1|h1
  .exact .inl h1
  rcases aTl o (p.2+c1.length+cy.length) with h2|h2
  .exact absurd (hofI b o (hin b o e h1 h2)) hno
  exact .inr h2
 have gho: ∀j,j∉qB [(i,pW.cells z.1 z.2 [])]->g.J j=g.J j/\g.cur j=g.cur j:=fun _ _=>⟨rfl,rfl⟩;have get: ∀j blk,j∈qB [(i,pW.cells z.1 z.2 [])]->pZ (qS [(i,pW.cells z.1 z.2 [])] H) j=some blk->j=i/\blk= .cells z.1 z.2 []:=by
  intro j blk hi hg;simp only[qB,aSC] at hi;subst hi;simp only[qS,pZ,aTQ,aSk] at hg;exact⟨rfl,hg.symm⟩
 have perm: ∀j blk b o,j∈qB [(i,pW.cells z.1 z.2 [])]->pZ (qS [(i,pW.cells z.1 z.2 [])] H) j=some blk->s8 g j blk b o->w.heap.size<=b\/sK g H (qB [(i,pW.cells z.1 z.2 [])]) b o:=by
  intro j blk b o hi hg ho;obtain⟨rfl,rfl⟩:=get j blk hi hg;obtain⟨q,hq,e1,e2,e3⟩:=ho;rw[hcz] at e3;exact .inr (hofI b o ⟨q,hq,e1,e2,e3⟩)
 refine⟨⟨le,⟨trivial,trivial⟩,hH.upd le fr perm gho (fun j blk hi hg=>?_) (fun i j bi bj b o hi hj hij hgi hgj _ _=>hij ((get i bi hi hgi).1.trans (get j bj hj hgj).1.symm)) (fun b o h=>by rw[hsz];exact hH.sl b o h),fr,perm,gho,fun h=>by rw[hre] at h;cases h⟩,hthere⟩;obtain⟨rfl,rfl⟩:=get j blk hi hg;refine⟨p,_,hp,wA le hz,fun q v hq=>?_,⟨fun q hq=>?_,fun h0 s hs=>(Q8 _ _ _ _ _).trans (hth.2 (by rw[<-hcz];exact h0) s hs)⟩,fun q hq=>hns q (by rw[<-hcz];exact hq),fun _ _ hm=>by cases hm⟩
 .by_cases h1:q<c1.length
  .rw[hout _ _ (fun _=> .inl pC)];refine hra q v ?_;rw[aSv,aSD h1] at hq|-;exact hq
  by_cases h2:q<c1.length+cy.length
  .have:=aTM p.1 cy (p.2+c1.length) w (fun j hj=>(hthere j hj).1) (q-c1.length) pC;rw[show p.2+c1.length+(q-c1.length)=p.2+q from by omega] at this;rw[this];rw[aSv,aSt pC,aSD pC] at hq;rw[<-hq,aSu pC]
  rw[hout _ _ (fun _=> .inr pC)];refine hra q v ?_;rw[aSv,aSt pC,aSt pC] at hq|-;rw[hl2];rw[hyl] at hq;exact hq
 have hh:=hth.1 q (by rw[<-hcz];exact hq);refine⟨?_,by rw[World.frozen?_setCells];exact hh.2⟩;by_cases h1:q<c1.length\/c1.length+cy.length<=q
 .rw[hout _ _ (fun _=>by omega)];exact hh.1
 have:=aTM p.1 cy (p.2+c1.length) w (fun j hj=>(hthere j hj).1) (q-c1.length) pC;rw[show p.2+c1.length+(q-c1.length)=p.2+q from by omega] at this;rw[this];rfl
end
end Go.Proofs.YtcpbaddnmpeipaaGreatDoor.Vc
