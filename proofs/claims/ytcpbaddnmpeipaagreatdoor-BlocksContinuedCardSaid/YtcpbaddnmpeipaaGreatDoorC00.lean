/- Packed by a program of mine (wip/tools/pack.py): the same texts with short names and few blanks. -/
import Derived.Below
import Derived.Calls
import Derived.Deep.MidRow
import Derived.Deep.Upon
import Derived.Laws.AppendOwn
import Derived.Laws.BitsLemmas
import Derived.Laws.OwnMore
import Derived.Shelf.Unicode.DecodeSlow
import Derived.Still
import Derived.WalkKit
set_option linter.defProp false
set_option linter.unusedVariables false
set_option linter.unusedSimpArgs false
set_option linter.unusedSectionVars false
set_option maxRecDepth 100000
set_option maxHeartbeats 4000000
namespace Go.Proofs
abbrev pM:=List UInt8
abbrev pN:=List pM
def aSm:=@_root_.Option.some.injEq
def aSn:=@_root_.if_pos
def aSo:=@_root_.if_neg
def aSp:=@_root_.List.length_append
def aSq:=@_root_.Option.bind_some
def aSr:=@_root_.Option.some.inj
def aSs:=@_root_.Option.isSome_iff_exists
def aSt:=@_root_.List.length_cons
def aSu:=@_root_.Go.Result.andThen_ok
def aSv:=@_root_.List.getElem?_eq_getElem
def aSw:=@_root_.List.getElem?_append_right
def aSx:=@_root_.decide_eq_true_eq
def aSy:=@_root_.List.mem_cons_of_mem
def aSz:=@_root_.Go.Sem.run_bind
def aSA:=@_root_.Bool.and_eq_true
def aSB:=@_root_.List.append_assoc
def aSC:=@_root_.List.mem_cons
def aSD:=@_root_.List.getElem?_eq_some_iff
def aSE:=@_root_.Option.map_eq_some_iff
def aSF:=@_root_.List.length_nil
def aSG:=@_root_.List.getElem?_append_left
def aSH:=@_root_.List.mem_cons_self
def aSI:=@_root_.List.mem_singleton
def aSJ:=@_root_.Nat.le_refl
def aSK:=@_root_.Go.run_underlying
def aSL:=@_root_.Go.World.cell?_of_block
def aSM:=@_root_.congrArg
def aSN:=@_root_.Go.Sem.run_pure
def aSO:=@_root_.List.getD_eq_getElem?_getD
def aSP:=@_root_.Array.getElem?_eq_some_iff
def aSQ:=@_root_.Prod.mk.injEq
def aSR:=@_root_.Bool.not_eq_true'
def aSS:=@_root_.List.eq_nil_of_length_eq_zero
def aST:=@_root_.Go.RowKit.Below.heap_alloc
def aSU:=@_root_.Nat.zero_add
def aSV:=@_root_.Array.getD_eq_getD_getElem?
def aSW:=@_root_.List.length_drop
def aSX:=@_root_.List.getElem?_cons_zero
def aSY:=@_root_.Nat.lt_of_lt_of_le
def aSZ:=@_root_.of_decide_eq_true
def aS0:=@_root_.List.length_take
def aS1:=@_root_.decide_eq_true
def aS2:=@_root_.decide_eq_false_iff_not
def aS3:=@_root_.List.reverse_cons
def aS4:=@_root_.List.drop_eq_getElem_cons
def aS5:=@_root_.Nat.add_assoc
def aS6:=@_root_.List.getElem?_cons_succ
def aS7:=@_root_.List.any_eq_false
def aS8:=@_root_.List.cons.injEq
def aS9:=@_root_.Go.World.frozen?_of_block
def aTa:=@_root_.List.pairwise_iff_getElem
def aTb:=@_root_.Nat.add_sub_cancel_left
def aTc:=@_root_.List.mem_append
def aTd:=@_root_.List.all_eq_true
def aTe:=@_root_.Array.length_toList
def aTf:=@_root_.List.getElem?_take_of_lt
def aTg:=@_root_.Go.run_program
def aTh:=@_root_.List.flatten_cons
def aTi:=@_root_.Int.toNat_natCast
def aTj:=@_root_.List.length_eq_zero_iff
def aTk:=@_root_.Array.getElem?_toList
def aTl:=@_root_.Array.getElem?_modify
def aTm:=@_root_.List.length_pos_iff
def aTn:=@_root_.Nat.le_trans
def aTo:=@_root_.Nat.zero_le
def aTp:=@_root_.List.size_toArray
def aTq:=@_root_.Int.le_refl
def aTr:=@_root_.List.length_singleton
def aTs:=@_root_.List.drop_length
def aTt:=@_root_.Array.toList_inj
def aTu:=@_root_.List.findIdx?_eq_none_iff
def aTv:=@_root_.Nat.add_zero
def aTw:=@_root_.List.map_cons
def aTx:=@_root_.List.findIdx?_eq_some_iff_getElem
def aTy:=@_root_.Nat.succ_mul
def aTz:=@_root_.List.take_append_drop
def aTA:=@_root_.Go.Addr.add_mid
def aTB:=@_root_.List.getElem_mem
def aTC:=@_root_.Bool.not_eq_true
def aTD:=@_root_.Array.getElem?_setIfInBounds_ne
def aTE:=@_root_.Nat.lt_or_ge
def aTF:=@_root_.List.length_eq_one_iff
def aTG:=@_root_.List.drop_zero
def aTH:=@_root_.Nat.mul_le_mul_right
def aTI:=@_root_.Bool.or_eq_false_iff
def aTJ:=@_root_.List.flatMap_cons
def aTK:=@_root_.List.take_left
def aTL:=@_root_.Go.World.cell?_alloc_new
def aTM:=@_root_.List.getElem?_eq_none
def aTN:=@_root_.Bool.or_eq_true
def aTO:=@_root_.Bool.false_eq_true
def aTP:=@_root_.dif_neg
def aTQ:=@_root_.List.not_mem_nil
def aTR:=@_root_.Array.toArray_toList
def aTS:=@_root_.Go.World.cell?_setCells_in
def aTT:=@_root_.Nat.sub_self
def aTU:=@_root_.Nat.le_of_eq
def aTV:=@_root_.List.length_map
def aTW:=@_root_.if_true
def aTX:=@_root_.decide_eq_decide
def aTY:=@_root_.Nat.le_of_ble_eq_true
def aTZ:=@_root_.List.findIdx?_cons
def aT0:=@_root_.Classical.choose_spec
def aT1:=@_root_.List.mem_range
def aT2:=@_root_.beq_iff_eq
def aT3:=@_root_.Go.Value.slice.injEq
def aT4:=@_root_.List.append_inj
def aT5:=@_root_.List.getElem_of_mem
def aT6:=@_root_.Go.wpIn_mono
def aT7:=@_root_.List.take_append_of_le_length
def aT8:=@_root_.List.range'_succ
def aT9:=@_root_.Go.IntKind.wrap_i64
def aUa:=@_root_.Bool.not_eq_false'
def aUb:=@_root_.Array.getElem?_setIfInBounds
def aUc:=@_root_.Go.setRow_other
def aUd:=@_root_.Nat.mul_one
def aUe:=@_root_.List.singleton_append
def aUf:=@_root_.Bool.eq_iff_iff
def aUg:=@_root_.Bool.and_eq_false_iff
def aUh:=@_root_.Nat.lt_irrefl
def aUi:=@_root_.Int.tmod_eq_emod_of_nonneg
def aUj:=@_root_.Array.getElem?_eq_getElem
def aUk:=@_root_.List.mem_toArray
def aUl:=@_root_.Array.getElem?_push_size
def aUm:=@_root_.dif_pos
def aUn:=@_root_.List.pairwise_singleton
def aUo:=@_root_.List.pairwise_cons
def aUp:=@_root_.Go.IntKind.wrap_u8
def aUq:=@_root_.Array.foldl_toList
def aUr:=@_root_.Option.getD_some
def aUs:=@_root_.List.pairwise_append
def aUt:=@_root_.if_false
def aUu:=@_root_.List.drop_succ_cons
def aUv:=@_root_.Go.heap_alloc_new
def aUw:=@_root_.List.drop_drop
def aUx:=@_root_.Array.size_append
def aUy:=@_root_.Go.setRow_heap
theorem pQ{p:Prop}(h:p:=by omega):p:=h
theorem pR{p:Prop}(h:p:=by decide):p:=h
theorem pS{p:Prop}(h:p:=by simp):p:=h
theorem pT{p:Prop}(h:p:=by simp;omega):p:=h
theorem qC{p:Prop}(h:p:=by first|rfl|trivial):p:=h
theorem qD{p:Prop}(h:p:=by kernel_rfl):p:=h
theorem qE{p:Prop}(h:p:=by rfl):p:=h
theorem qG{p:Prop}(h:p:=by first|rfl|(simp only[go_sem];done)|(simp only[go_sem];rfl)):p:=h
theorem pO{a:Type}{p q r:a->Prop}(k:a)(h1:p k:=by rfl)(h2:q k:=by rfl)(h3:r k:=by rfl): ∃k,p k/\q k/\r k:=⟨k,h1,h2,h3⟩
theorem pP{a:Type}{p q r:a->Prop}(k:a)(h1:p k:=by first|rfl|(simp only[go_sem];done)|(simp only[go_sem];rfl))(h2:q k:=by first|rfl|(simp only[go_sem];done)|(simp only[go_sem];rfl))(h3:r k:=by first|rfl|(simp only[go_sem];done)|(simp only[go_sem];rfl)): ∃k,p k/\q k/\r k:=⟨k,h1,h2,h3⟩
abbrev pU:=List (pM×Bool)
abbrev pV:=List (Nat×Nat)
abbrev pW:=List Int
abbrev pX:=List Value
abbrev pY:=Option (Nat×Nat)
abbrev pZ:=Option Nat
abbrev q8:=List Nat
abbrev q9:=World
abbrev qB:=Value
end Go.Proofs
namespace Go.Proofs.YtcpbaddnmpeipaaGreatDoor.Vc
def NG:Nat:=6
def a8G:Nat:=82
def I1:Nat:=188
def I2:Nat:=155
def G8:Nat:=98
def K4:Nat:=32
abbrev aHL:Nat:=6
abbrev aHM:Nat:=7
def a8H:List (Nat×Nat×qB):=[(5,15,.int .u8 4)]
def aHN (w:q9):Prop:= ∀x∈a8H,x.1<NG/\w.cell? ⟨x.1,x.2.1,none⟩=some x.2.2
def EV (w:q9):Prop:=NG<=w.heap.size/\Lib.Utf8Tabs 1 2 w/\(∃m,w.cell? ⟨0,0,none⟩=some (.int .i64 m))/\aHN w
theorem I3 {w w':q9}(h:EV w) (hs:w.heap.size<=w'.heap.size) (hb: ∀b,b<NG->w'.heap[b]? =w.heap[b]?):EV w':=by
 obtain⟨h0,⟨h1,h2⟩,⟨m,h3⟩,h4⟩:=h;have hc: ∀b o,b<NG->w'.cell? ⟨b,o,none⟩=w.cell? ⟨b,o,none⟩:=fun b o h=>aSL (a:=⟨b,o,none⟩) (hb b h);refine⟨aTn h0 hs,⟨fun c hc'=>?_,fun i hi=>⟨?_,?_⟩⟩,⟨m,?_⟩,fun x hx=>⟨(h4 x hx).1,(hc _ _ (h4 x hx).1).trans (h4 x hx).2⟩⟩
 .rw[hc _ _ pR];exact h1 c hc'
 .rw[hc _ _ pR];exact(h2 i hi).1
 .rw[hc _ _ pR];exact(h2 i hi).2
 rw[hc _ _ pR];exact h3
attribute [go_sem] a8G I2 G8 K4
inductive Ty where
 |bool|int (k:IntKind) |str|list (t:Ty) |unit|pair (a b:Ty) |ref|clo|mp|rl (e:Nat) (t:Ty) |mref|fn|ap
 deriving DecidableEq
@[go_sem] abbrev rE:Ty:= .pair .bool (.pair .str .unit)
@[go_sem] abbrev rW:Ty:= .pair .str (.pair .str .unit)
abbrev Ty.den:Ty->Type
 | .bool=>Bool
 | .int _=>Int
 | .str=>pM
 | .list t=>List t.den
 | .unit=>Unit
 | .pair a b=>a.den×b.den
 | .ref=>pY
 | .clo=>Option (Nat×pV)
 | .mp=>pZ
 | .rl _ _=>pY
 | .fn=>pZ
 | .mref=>pY
 | .ap=>Nat×Nat×(Nat×Nat)×(Nat×Nat)
@[go_sem] def Ty.cells:Ty->Nat
 | .unit=>0
 | .pair a b=>a.cells+b.cells
 | .bool| .int _| .str| .list _| .ref| .clo| .mp| .rl _ _| .mref| .fn| .ap=>1
@[go_sem] def Ty.zero:(t:Ty)->t.den
 | .bool=>false
 | .int _=>(0:Int)
 | .str=>[]
 | .list _=>[]
 | .unit=>()
 | .pair a b=>(a.zero,b.zero)
 | .ref=>none
 | .clo=>none
 | .mp=>none
 | .rl _ _=>none
 | .fn=>none
 | .mref=>none
 | .ap=>(0,0,(0,0),(0,0))
@[go_sem] def Ty.isRow:Ty->Bool
 | .unit| .pair _ _=>true
 | .bool| .int _| .str| .list _| .ref| .clo| .mp| .rl _ _| .mref| .fn| .ap=>false
@[go_sem] def Ty.pure:Ty->Bool
 | .ref| .clo| .mp| .rl _ _| .mref| .ap=>false
 | .list t=>t.pure
 | .pair a b=>a.pure&&b.pure
 | .bool| .int _| .str| .unit| .fn=>true
def qT (t:Ty) (l:List t.den) (i:Int):t.den:=l.getD i.toNat t.zero
def sH (l:pM) (i:Int):Int:=((l.getD i.toNat 0).toNat:Int)
def tV {t u:Ty}(h:t=u) (x:t.den):u.den:=h▸x
@[go_sem] theorem MS {t:Ty}(x:t.den):tV (rfl:t=t) x=x:=rfl
@[go_sem] def r9 (u:Ty):(t:Ty)->t.den->Nat->Option u.den
 |t,x,0=>if h:t=u then some (tV h x) else match t,x with
  | .pair a b,x=>if 0<a.cells then r9 u a x.1 0 else r9 u b x.2 0
  |_,_=>none
 | .pair a b,x,o+1=>if o+1<a.cells then r9 u a x.1 (o+1) else r9 u b x.2 (o+1-a.cells)
 |_,_,_=>none
@[go_sem] def sL (u:Ty) (y:u.den):(t:Ty)->t.den->Nat->Option t.den
 |t,x,0=>if h:u=t then some (tV h y) else match t,x with
  | .pair a b,x=>if 0<a.cells then(sL u y a x.1 0).map (fun z=>(z,x.2)) else(sL u y b x.2 0).map (fun z=>(x.1,z))
  |_,_=>none
 | .pair a b,x,o+1=>if o+1<a.cells then(sL u y a x.1 (o+1)).map (fun z=>(z,x.2)) else(sL u y b x.2 (o+1-a.cells)).map (fun z=>(x.1,z))
 |_,_,_=>none
@[go_sem] def Ty.proj:(t:Ty)->t.den->Nat->Option (Σ u:Ty,u.den)
 | .pair a _,x,0=>some ⟨a,x.1⟩
 | .pair _ b,x,i+1=>b.proj x.2 i
 |_,_,_=>none
@[go_sem] def Ty.offs:Ty->Nat->pZ
 | .pair _ _,0=>some 0
 | .pair a b,i+1=>(b.offs i).map fun o=>a.cells+o
 |_,_=>none
@[go_sem] def Ty.fld:Ty->Nat->Option Ty
 | .pair a _,0=>some a
 | .pair _ b,i+1=>b.fld i
 |_,_=>none
@[go_sem] def Ty.setPart (u:Ty) (y:u.den):(t:Ty)->t.den->Nat->Option t.den
 | .pair a b,x,0=>if h:u=a then some (tV h y,x.2) else none
 | .pair a b,x,i+1=>(Ty.setPart u y b x.2 i).map fun z=>(x.1,z)
 |_,_,_=>none
inductive DV where
 |any
 |nilS
 |val (t:Ty) (x:t.den)
 |at (t:Ty) (x:t.den)
 |tup (l:List ((Σ t:Ty,t.den)×pZ))
 |cond (p:Bool) (d:DV)
 |flag (p q:Prop)
 |own (k n:Nat)
 |elt (k n c:Nat) (i:Int) (o:Nat)
 |apd (d:DV)
 |nxt (b:Bool) (p c:Int)
abbrev qM:=DV×pZ
inductive qJ where
 |cells (t:Ty) (x:t.den) (toks:pV)
 |grow (e:TypeId) (c:Nat) (n:Nat)
 |row (e:TypeId) (t:Ty) (l:List t.den) (n:Nat)
 |map (k v:Ty) (l:List (k.den×v.den))
 |iter (s:pM) (p:Nat)
 |dead
structure St where
 env:List (Nat×qM)
 H:List (Nat×qJ)
 nb:Nat
 N:Nat
 np:Nat:=0
@[go_sem] def lk:List (Nat×qM)->Nat->qM
 |[],_=>(.any,none)
 |(k,s)::r,t=>if k=t then s else lk r t
@[go_sem] def qO:List (Nat×qJ)->Nat->Option qJ
 |[],_=>none
 |(k,s)::r,t=>if k=t then some s else qO r t
structure TI where
 ty:Ty
 elem:TypeId:=0
 bytes:Nat:=0
 arr:Bool:=false
 ls:List (Nat×TypeId×Nat):=[]
abbrev sS:=List (Nat×TI)
@[go_sem] def rR:sS->TypeId->Option TI
 |[],_=>none
 |(k,s)::r,t=>if k=t then some s else rR r t
inductive PK where
 |v|own|p (t:Ty) (os:q8) |m|r|f (ks:List (Ty×q8)) |q
structure qY where
 side:List Prop
 ret:List qM
 H:List qJ
structure rK where
 ps:List PK
 C:List qM->List qJ->Option qY
 gs:List (Nat×Nat×PK):=[]
 same:q8:=[]
 row:Option ((t:Ty)->List t.den->Option (List t.den)):=none
abbrev tC:=Nat->Option rK
structure qS where
 side:List Prop
 slot:qM
 upd:List (Nat×qJ)
 rds:q8
abbrev YJ:Nat:=900000000
@[go_sem] def I4:q8->Bool
 |[]=>false
 |i::_=>if i=1000000000 then true else false
@[go_sem] def orE:Option qS->Option qS->Option qS
 |some r,_=>some r
 |none,r=>r
@[go_sem] def AK:Option (List Prop×DV)->Option qS
 |some (p,d)=>some ⟨p,(d,none),[],[]⟩
 |none=>none
@[go_sem] def YK:qB->DV
 | .bool b=> .val .bool b
 | .int k n=> .val (.int k) n
 | .string s=> .val .str s.data.toList
 | .slice none 0 0=> .nilS
 | .pointer none=> .val .ref none
 | .nilFunc=> .val .clo none
 | .map none=> .val .mp none
 |_=> .any
@[go_sem] def tQ (env:List (Nat×qM)):Operand->qM
 | .tmp t=>lk env t
 | .const v=>(YK v,none)
 | .func f=>(.val .clo (some (f,[])),none)
 | .global _=>(.any,none)
@[go_sem] def MT:Option TI->qM->qM
 |some ⟨.list t,_,_,_,_⟩,(.nilS,_)=>(.val (.list t) [],none)
 |some ⟨.ap,_,_,_,_⟩,(.val .clo none,_)=>(.val .ap (0,0,(0,0),(0,0)),none)
 |_,s=>s
@[go_sem] def K5:IntKind->Int->List Prop×DV
 | .i64,n=>([-9223372036854775808<=n/\n<=9223372036854775807],.val (.int .i64) n)
 |k,n=>([],.val (.int k) (k.wrap n))
@[go_sem] def r6 {α:Type}:List α->List α->List α
 |[],m=>m
 |x::l,m=>x::r6 l m
@[go_sem] def C6:(t:Ty)->t.den->t.den->Option Bool
 | .bool,a,b=>some (a==b)
 | .int _,a,b=>some (decide ((a:Int)=b))
 | .str,a,b=>some (decide ((a:pM)=b))
 | .unit,_,_=>some true
 | .pair s t,a,b=>eqAnd (C6 s a.1 b.1) (C6 t a.2 b.2)
 |_,_,_=>none
where
 eqAnd:Option Bool->Option Bool->Option Bool
  |some x,some y=>some (x&&y)
  |_,_=>none
attribute [go_sem] C6.eqAnd
@[go_sem] def YL (k:IntKind) (a b:Int):BinOp->Option (List Prop×DV)
 | .add=>some (K5 k (a+b))
 | .sub=>some (K5 k (a-b))
 | .mul=>some (K5 k (a*b))
 | .eql=>some ([],.val .bool (decide (a=b)))
 | .neq=>some ([],.val .bool (!decide (a=b)))
 | .lss=>some ([],.val .bool (decide (a<b)))
 | .leq=>some ([],.val .bool (decide (a<=b)))
 | .gtr=>some ([],.val .bool (decide (b<a)))
 | .geq=>some ([],.val .bool (decide (b<=a)))
 | .quo=>some ([b≠0],.val (.int k) (k.wrap (Int.tdiv a b)))
 | .rem=>some ([b≠0],.val (.int k) (Int.tmod a b))
 | .and=>some ([],.val (.int k) (bits .and k a b))
 | .or=>some ([],.val (.int k) (bits .or k a b))
 | .xor=>some ([],.val (.int k) (bits .xor k a b))
 | .andNot=>some ([],.val (.int k) (bits .andNot k a b))
 |_=>none
def YM (k:IntKind) (a b:Int):Int:=k.wrap (a*2^min b.toNat k.bits)
def y9 (k:IntKind) (a b:Int):Int:=a.fdiv (2^min b.toNat k.bits)
@[go_sem] def a8J (k:IntKind) (a:Int) (k':IntKind) (b:Int):BinOp->Option (List Prop×DV)
 | .shl=>some ([0<=b],.val (.int k) (YM k a b))
 | .shr=>some ([0<=b],.val (.int k) (y9 k a b))
 |op=>if k=k' then YL k a b op else none
@[go_sem] def YN (a b:pM):BinOp->Option (List Prop×DV)
 | .add=>some ([((a++b).length:Int)<=9223372036854775807],.val .str (a++b))
 | .eql=>some ([],.val .bool (decide (a=b)))
 | .neq=>some ([],.val .bool (!decide (a=b)))
 | .lss=>some ([],.val .bool (Op.bytesLess a b))
 | .leq=>some ([],.val .bool (Op.bytesLess a b||decide (a=b)))
 | .gtr=>some ([],.val .bool (!(Op.bytesLess a b||decide (a=b))))
 | .geq=>some ([],.val .bool (!Op.bytesLess a b))
 |_=>none
@[go_sem] def MU:BinOp->Option Bool->Option (List Prop×DV)
 | .eql,some r=>some ([],.val .bool r)
 | .neq,some r=>some ([],.val .bool (!r))
 |_,_=>none
@[go_sem] def SQ (op:BinOp):qM->qM->Option (List Prop×DV)
 |(.val (.int k) a,_),(.val (.int k') b,_)=>a8J k a k' b op
 |(.val .str a,_),(.val .str b,_)=>YN a b op
 |_,_=>none
@[go_sem] def a8K (k:IntKind) (a b:Int):BinOp->Option (List Prop×DV)
 | .add=>some ([],.val (.int k) (k.wrap (a+b)))
 | .sub=>some ([],.val (.int k) (k.wrap (a-b)))
 | .mul=>some ([],.val (.int k) (k.wrap (a*b)))
 |_=>none
@[go_sem] def SR (op:BinOp):Option TI->qM->qM->Option (List Prop×DV)
 |some ⟨.int _,_,_,true,_⟩,(.val (.int k) a,_),(.val (.int k') b,_)=>if k=k' then a8K k a b op else none
 |_,_,_=>none
@[go_sem] def a8L (u:Ty) (b:Nat) (op:BinOp) (t t':Ty) (x:t.den) (y:t'.den):Option (List Prop×DV):=
 if h:t'=t then(if t=u/\(t= .bool\/(t.isRow=true/\b=1)) then MU op (C6 t x (tV h y)) else none) else none
@[go_sem] def SS {α:Type}(l:List α):BinOp->Option (List Prop×DV)
 | .eql=>some ([],.flag (l=[]) True)
 | .neq=>some ([],.flag True (l=[]))
 |_=>none
@[go_sem] def yW {α:Type}:Option α->Bool
 |none=>true
 |some _=>false
@[go_sem] def YO:Option TI->BinOp->qM->qM->Option (List Prop×DV)
 |some ⟨.list _,_,_,_,_⟩,op,(.val (.list _) l,_),(.nilS,_)=>SS l op
 |some ⟨.list _,_,_,_,_⟩,op,(.nilS,_),(.val (.list _) l,_)=>SS l op
 |some ⟨.ap,_,_,_,_⟩,op,(.val .ap x,_),(.val .clo none,_)=>MU op (some (decide (x.1=0)))
 |some ⟨.clo,_,_,_,_⟩,op,(.val .fn x,_),(.val .clo none,_)=>MU op (some (yW x))
 |some ⟨u,_,b,_,_⟩,op,(.val t x,_),(.val t' y,_)=>a8L u b op t t' x y
 |_,_,_,_=>none
@[go_sem] def YP:Option (List Prop×DV)->Option (List Prop×DV)->Option (List Prop×DV)
 |some r,_=>some r
 |none,r=>r
@[go_sem] def YQ:UnOp->qM->Option (List Prop×DV)
 | .not,(.val .bool b,_)=>some ([],.val .bool (!b))
 | .neg,(.val (.int k) n,_)=>some (K5 k (-(n:Int)))
 |_,_=>none
def tD (l:pW):pM:=l.map fun n=>UInt8.ofNat n.toNat
def uP (s:pM):pW:=s.map fun b=>(b.toNat:Int)
@[go_sem] def ST:Option TI->Option TI->qM->Option (List Prop×DV)
 |some _,some ⟨.int k,_,_,_,_⟩,(.val (.int _) n,_)=>some ([],.val (.int k) (k.wrap n))
 |some _,some ⟨.str,_,_,_,_⟩,(.val .str s,_)=>some ([],.val .str s)
 |_,_,_=>none
@[go_sem] def a8M (l:pW):Option TI->Option (List Prop×DV)
 |some ⟨.int .u8,_,_,_,_⟩=>some ([],.val .str (tD l))
 |_=>none
@[go_sem] def YR (T:sS):Option TI->Option TI->qM->Option (List Prop×DV)
 |some ⟨.list (.int .u8),e,_,_,_⟩,some ⟨.str,_,_,_,_⟩,(.val (.list (.int .u8)) l,_)=>a8M l (rR T e)
 |_,_,_=>none
def rV {α:Type}(l:List α) (lo hi:Int):List α:=(l.drop lo.toNat).take (hi.toNat-lo.toNat)
@[go_sem] def DN:Option qM->Int->Option Int
 |none,d=>some d
 |some (.val (.int _) n,_),_=>some n
 |_,_=>none
@[go_sem] def SU (t:Ty) (n:Nat) (f:Int->Int->t.den):Option Int->Option Int->Option (List Prop×DV)
 |some a,some b=>some ([0<=a/\a<=b/\b<=(n:Int)],.val t (f a b))
 |_,_=>none
@[go_sem] def YS:Option TI->qM->Option qM->Option qM->Option (List Prop×DV)
 |some ⟨.str,_,_,_,_⟩,(.val .str l,_),lo,hi=>SU .str (List.length l) (rV l) (DN lo 0) (DN hi (List.length l))
 |some ⟨.list u,_,_,_,_⟩,(.val (.list t) l,_),lo,hi=>if t=u then SU (.list t) (List.length l) (rV l) (DN lo 0) (DN hi (List.length l)) else none
 |_,_,_,_=>none
@[go_sem] def SV (t:Ty) (x:t.den) (i:Nat):Option Ty->Option t.den
 |some (.list u)=>Ty.setPart (.list u) [] t x i
 |_=>none
@[go_sem] def AL (t:Ty):Option t.den->List (Nat×qM)->Option t.den
 |some x,[]=>some x
 |some x,(i,(.val u y,_))::r=>AL t (Ty.setPart u y t x i) r
 |some x,(i,(.nilS,_))::r=>AL t (SV t x i (t.fld i)) r
 |_,_=>none
@[go_sem] def D7 (t:Ty):Nat->List t.den
 |0=>[]
 |n+1=>t.zero::D7 t n
@[go_sem] def a8N (t:Ty) (n:Nat) (l:List t.den) (i:Nat) (u:Ty) (y:u.den):Option (List t.den):=if h:u=t/\i<n then some (l.set i (tV h.1 y)) else none
@[go_sem] def BI (t:Ty) (n:Nat):Option (List t.den)->List (Nat×qM)->Option (List t.den)
 |some l,[]=>some l
 |some l,(i,(.val u y,_))::r=>BI t n (a8N t n l i u y) r
 |_,_=>none
attribute [go_sem] List.set_cons_zero List.set_cons_succ
@[go_sem] def K6:List qM->Option pV
 |[]=>some []
 |(.val .ref (some p),_)::r=>(K6 r).map (p:: ·)
 |_=>none
@[go_sem] def wZ:pV->Nat->pZ
 |[],_=>none
 |(o,k)::r,a=>if o=a then some k else wZ r a
@[go_sem] def xL:pZ->Nat->pV
 |some k,o=>[(o,k)]
 |none,_=>[]
@[go_sem] def tH:pV->Nat->Nat->pV
 |[],_,_=>[]
 |(q,k)::r,o,n=>if o<=q/\q<o+n then tH r o n else(q,k)::tH r o n
@[go_sem] def EW:Ty->pZ->pZ
 | .list _,k=>k
 |_,_=>none
@[go_sem] def yX {α:Type}:List α->List α->List α
 |[],acc=>acc
 |x::l,acc=>yX l (x::acc)
inductive rP where
 |box (id:Nat) (u:Ty) (x:u.den) (toks:pV) (o:Nat)
 |tok (id:Nat)
@[go_sem] def rP.id:rP->Nat
 | .box i _ _ _ _=>i
 | .tok k=>k
@[go_sem] def zY:Nat->q8->Bool
 |_,[]=>false
 |i,j::r=>if i=j then true else zY i r
@[go_sem] def sF:List rP->q8
 |[]=>[]
 |w::r=>w.id::sF r
structure t6 where
 args:List qM
 H:List qJ
 ws:List rP
 n:Nat
@[go_sem] def K7:q8->Nat->pV
 |[],_=>[]
 |q::qs,n=>(q,n)::K7 qs (n+1)
@[go_sem] def C7 (k:Nat):Option qJ->Option t6->Option t6
 |some (.grow e c m),some a=>if zY k (sF a.ws)=true then none else some ⟨a.args,.grow e c m::a.H,.tok k::a.ws,a.n+1⟩
 |_,_=>none
@[go_sem] def zK (H:List (Nat×qJ)):pZ->Option t6->Option t6
 |some k,a=>C7 k (qO H k) a
 |none,_=>none
@[go_sem] def yN (H:List (Nat×qJ)) (toks:pV) (o:Nat):q8->Option t6->Option t6
 |[],a=>a
 |q::qs,a=>yN H toks o qs (zK H (wZ toks (o+q)) a)
@[go_sem] def MV (n:Nat):q8->Bool
 |[]=>true
 |q::qs=>decide (q<n)&&MV n qs
@[go_sem] def EX (H:List (Nat×qJ)) (t:Ty) (os:q8) (i o:Nat) (u:Ty) (x:u.den) (toks:pV) (a:t6):Option t.den->Option t6
 |some y=>if (MV t.cells os&& !zY i (sF a.ws))=true then yN H toks o os (some ⟨(.val .ref (some (a.n,0)),none)::a.args,.cells t y (K7 os (a.n+1))::a.H,.box i u x toks o::a.ws,a.n+1⟩) else none
 |none=>none
@[go_sem] def vT (H:List (Nat×qJ)) (t:Ty) (os:q8) (i o:Nat) (a:t6):Option qJ->Option t6
 |some (.cells u x toks)=>EX H t os i o u x toks a (r9 t u x o)
 |_=>none
@[go_sem] def C8 (t:Ty) (x:t.den) (k:Nat) (a:t6):Option qJ->Option t6
 |some (.grow e c m)=>if (t.pure&& !zY k (sF a.ws))=true then some ⟨(.val t x,some a.n)::a.args,.grow e c m::a.H,.tok k::a.ws,a.n+1⟩ else none
 |_=>none
@[go_sem] def SW (t:Ty) (x:t.den) (a:t6):Option t6:=
 if t.pure=true then some ⟨(.val t x,none)::a.args,a.H,a.ws,a.n⟩ else none
@[go_sem] def SX (f:FuncId) (a:t6):Option t6:=some ⟨(.val .clo (some (f,[])),none)::a.args,a.H,a.ws,a.n⟩
@[go_sem] def SY (a:t6):Option t6:=some ⟨(.nilS,none)::a.args,a.H,a.ws,a.n⟩
@[go_sem] def C9 (i:Nat) (a:t6):Option qJ->Option t6
 |some (.map k v l)=>if (k.pure&&v.pure&& !zY i (sF a.ws))=true then some ⟨(.val .mp (some a.n),none)::a.args,.map k v l::a.H,.tok i::a.ws,a.n+1⟩ else none
 |_=>none
def xM (k n:Nat) (a:t6):Option qJ->Option t6
 |some (.row e t l m)=>if (t.pure&& !zY k (sF a.ws))=true then some ⟨(.own a.n n,none)::a.args,.row e t l m::a.H,.tok k::a.ws,a.n+1⟩ else none
 |some (.grow e c m)=>if (!zY k (sF a.ws))=true then some ⟨(.own a.n n,none)::a.args,.grow e c m::a.H,.tok k::a.ws,a.n+1⟩ else none
 |_=>none
attribute [go_sem] xM.eq_1 xM.eq_2 xM.eq_3
@[go_sem] def xN (H:List (Nat×qJ)) (f:FuncId) (args:List qM):List (Ty×q8)->pV->pV->Option t6->Option t6
 |[],[],ids,some a=>some ⟨(.val .clo (some (f,yX ids [])),none)::args,a.H,a.ws,a.n⟩
 |(t,os)::ks,(i,o)::cs,ids,some a=>xN H f args ks cs ((a.n,0)::ids) (vT H t os i o a (qO H i))
 |_,_,_,_=>none
@[go_sem] def D8 (i o:Nat):List rP->Nat->pY
 |[],_=>none
 | .box j _ _ _ oc::r,c=>if j=i/\oc<=o then some (c,o-oc) else D8 i o r (c+1)
 | .tok _::r,c=>D8 i o r (c+1)
@[go_sem] def PD (a:t6):pY->Option t6
 |some p=>some ⟨(.val .ref (some p),none)::a.args,a.H,a.ws,a.n⟩
 |none=>none
@[go_sem] def xO (H:List (Nat×qJ)) (a:t6):PK->qM->Option t6
 | .v,(.val .clo (some (f,[])),_)=>SX f a
 | .v,(.val t x,_)=>SW t x a
 | .v,(.nilS,_)=>SY a
 | .own,(.val (.list t) x,some k)=>C8 (.list t) x k a (qO H k)
 | .p t os,(.val .ref (some (i,o)),_)=>vT H t os i o a (qO H i)
 | .m,(.val .mp (some i),_)=>C9 i a (qO H i)
 | .r,(.own k n,_)=>xM k n a (qO H k)
 | .f ks,(.val .clo (some (f,cs)),_)=>xN H f a.args ks cs [] (some a)
 | .q,(.val .ref (some (i,o)),_)=>PD a (D8 i o (yX a.ws []) 0)
 |_,_=>none
@[go_sem] def xP (H:List (Nat×qJ)):List PK->List qM->Option t6->Option t6
 |_,_,none=>none
 |[],[],some a=>some a
 |p::ps,s::ss,some a=>xP H ps ss (xO H a p s)
 |_,_,some _=>none
@[go_sem] def aHO:Option pY->qM
 |some (some p)=>(.val .ref (some p),none)
 |_=>(.any,none)
@[go_sem] def aHP:Option pZ->qM
 |some (some i)=>(.val .mp (some i),none)
 |_=>(.any,none)
@[go_sem] def aHQ:Option pY->qM
 |some (some (k,n))=>(.own k n,none)
 |_=>(.any,none)
@[go_sem] def CA:(t:Ty)->t.den->Nat->Option pY
 | .rl _ _,x,0=>some x
 | .pair a b,x,o=>if o<a.cells then CA a x.1 o else CA b x.2 (o-a.cells)
 |_,_,_=>none
@[go_sem] def K8 (q:Nat):PK->Option qJ->qM
 | .r,some (.cells t y _)=>aHQ (CA t y q)
 | .p _ _,some (.cells t y _)=>aHO (r9 .ref t y q)
 | .m,some (.cells t y _)=>aHP (r9 .mp t y q)
 |_,_=>(.any,none)
@[go_sem] def I5:List qJ->Nat->Option qJ
 |[],_=>none
 |b::_,0=>some b
 |_::r,n+1=>I5 r n
@[go_sem] def MW (l:List qM):Option t6->Option t6
 |some a=>some ⟨l,a.H,a.ws,a.n⟩
 |none=>none
@[go_sem] def BJ (H:List (Nat×qJ)):List (Nat×Nat×PK)->Option t6->Option t6
 |_,none=>none
 |[],some a=>some a
 |(c,q,pk)::r,some a=>BJ H r (MW a.args (xO H a pk (K8 q pk (I5 a.H (a.n-1-c)))))
@[go_sem] def vU (i:Nat):List rP->Nat->pZ
 |[],_=>none
 | .tok j::r,c=>if j=i then some c else vU i r (c+1)
 | .box _ _ _ _ _::r,c=>vU i r (c+1)
@[go_sem] def EY {α β:Type}:Option α->Option β->Option (α×β)
 |some a,some b=>some (a,b)
 |_,_=>none
@[go_sem] def SZ (W:List rP):pY->Option pY
 |none=>some none
 |some (i,o)=>(D8 i o W 0).map some
@[go_sem] def a8O (W:List rP):pZ->Option pZ
 |none=>some none
 |some i=>(vU i W 0).map some
@[go_sem] def a8P (W:List rP):pY->Option pY
 |none=>some none
 |some (k,n)=>(vU k W 0).map fun c=>some (c,n)
@[go_sem] def PE:Option (Nat×pV)->Option (Option (Nat×pV))
 |none=>some none
 |some (f,[])=>some (some (f,[]))
 |_=>none
@[go_sem] def T0 (c n3 n4:Nat):pY->pZ->pZ->Option (Nat×Nat×(Nat×Nat)×(Nat×Nat))
 |some (i,0),some k3,some k4=>some (c,i,(k3,n3),(k4,n4))
 |_,_,_=>none
@[go_sem] def a8Q (W:List rP):Nat×Nat×(Nat×Nat)×(Nat×Nat)->Option (Nat×Nat×(Nat×Nat)×(Nat×Nat))
 |(c,i,(k3,n3),(k4,n4))=>T0 c n3 n4 (D8 i 0 W 0) (vU k3 W 0) (vU k4 W 0)
@[go_sem] def CB (W:List rP):(t:Ty)->t.den->Option t.den
 | .ref,x=>SZ W x
 | .clo,x=>PE x
 | .mp,x=>a8O W x
 | .pair a b,x=>EY (if a.pure=true then some x.1 else CB W a x.1) (if b.pure=true then some x.2 else CB W b x.2)
 | .list t,x=>if t.pure=true then some x else none
 | .bool,x=>some x
 | .int _,x=>some x
 | .str,x=>some x
 | .unit,x=>some x
 | .rl _ _,x=>a8P W x
 | .fn,x=>some x
 | .mref,x=>SZ W x
 | .ap,x=>a8Q W x
@[go_sem] def YT:Option qJ->Option (List qJ)->Option (List qJ)
 |some b,some l=>some (b::l)
 |_,_=>none
@[go_sem] def aHR (t:Ty) (ts:pV):Option t.den->Option qJ
 |some y=>some (.cells t y ts)
 |none=>none
def K9 (W:List rP):qJ->Option qJ
 | .cells t y ts=>if t.pure=true then some (.cells t y ts) else aHR t ts (CB W t y)
 |b=>some b
attribute [go_sem] K9.eq_1 K9.eq_2
@[go_sem] def I6 (W:List rP):List qJ->Option (List qJ)
 |[]=>some []
 |b::r=>YT (K9 W b) (I6 W r)
@[go_sem] def yY:List rP->Nat->Option rP
 |[],_=>none
 |w::_,0=>some w
 |_::r,n+1=>yY r n
@[go_sem] def MX (n:Nat) (c:Nat):Option rP->Bool
 |some _=>false
 |none=>decide (c<n)
@[go_sem] def zL (base n c:Nat):Option rP->pZ
 |some (.box _ _ _ _ _)=>none
 |some (.tok k)=>some k
 |none=>if c<n then some (base+c) else none
@[go_sem] def a8R (base n c o:Nat):Option rP->qM
 |some (.box i _ _ _ o')=>(.val .ref (some (i,o'+o)),none)
 |wh=>if MX n c wh=true then(.val .ref (some (base+c,o)),none) else(.any,none)
@[go_sem] def KA (base n:Nat) (W:List rP):pZ->pZ
 |some c=>zL base n c (yY W c)
 |none=>none
@[go_sem] def aHS (m:Nat):pZ->qM
 |some k=>(.own k m,none)
 |none=>(.any,none)
@[go_sem] def aHT:pZ->qM
 |some k=>(.val .mp (some k),none)
 |none=>(.any,none)
@[go_sem] def PF (base n c o:Nat):Option rP->pY
 |some (.box i _ _ _ o')=>some (i,o'+o)
 |wh=>if MX n c wh=true then some (base+c,o) else none
@[go_sem] def aHU:pY->Option pV->Option pV
 |some p,some l=>some (p::l)
 |_,_=>none
@[go_sem] def MY (base n:Nat) (W:List rP):pV->Option pV
 |[]=>some []
 |(c,o)::r=>aHU (PF base n c o (yY W c)) (MY base n W r)
@[go_sem] def aHV (f:Nat):Option pV->qM
 |some l=>(.val .clo (some (f,l)),none)
 |none=>(.any,none)
@[go_sem] def T5 (base n:Nat) (W:List rP):qM->qM
 |(.own c m,_)=>aHS m (KA base n W (some c))
 |(.val .ref (some (c,o)),_)=>a8R base n c o (yY W c)
 |(.val .ref none,_)=>(.val .ref none,none)
 |(.val .mp (some c),_)=>aHT (KA base n W (some c))
 |(.val .mp none,_)=>(.val .mp none,none)
 |(.val .clo (some (f,cs)),_)=>aHV f (MY base n W cs)
 |(.val t x,k)=>if t.pure=true then(.val t x,KA base n W (EW t k)) else(.any,none)
 |_=>(.any,none)
@[go_sem] def aHW (q:Nat):pZ->pV->pV
 |some k,r=>(q,k)::r
 |none,r=>r
@[go_sem] def DO (base n:Nat) (W:List rP) (o:Nat):pV->pV
 |[]=>[]
 |(q,c)::r=>aHW (o+q) (zL base n c (yY W c)) (DO base n W o r)
@[go_sem] def KB (base n:Nat) (W:List rP):pY->Option pY
 |none=>some none
 |some (c,o)=>back2 c o (yY W c)
where
 back2 (c o:Nat):Option rP->Option pY
  |some (.box i _ _ _ o')=>some (some (i,o'+o))
  |wh=>if MX n c wh=true then some (some (base+c,o)) else none
attribute [go_sem] KB.back2
@[go_sem] def a8S (base n:Nat) (W:List rP):pZ->Option pZ
 |none=>some none
 |some c=>(zL base n c (yY W c)).map some
@[go_sem] def a8T (base n:Nat) (W:List rP):pY->Option pY
 |none=>some none
 |some (c,q)=>(zL base n c (yY W c)).map fun k=>some (k,q)
@[go_sem] def a8U (base n:Nat) (W:List rP):Nat×Nat×(Nat×Nat)×(Nat×Nat)->Option (Nat×Nat×(Nat×Nat)×(Nat×Nat))
 |(c,i,(k3,n3),(k4,n4))=>T0 c n3 n4 (PF base n i 0 (yY W i)) (zL base n k3 (yY W k3)) (zL base n k4 (yY W k4))
@[go_sem] def BK (base n:Nat) (W:List rP):(t:Ty)->t.den->Option t.den
 | .ref,x=>KB base n W x
 | .clo,x=>PE x
 | .mp,x=>a8S base n W x
 | .pair a b,x=>EY (if a.pure=true then some x.1 else BK base n W a x.1) (if b.pure=true then some x.2 else BK base n W b x.2)
 | .list t,x=>if t.pure=true then some x else none
 | .bool,x=>some x
 | .int _,x=>some x
 | .str,x=>some x
 | .unit,x=>some x
 | .rl _ _,x=>a8T base n W x
 | .fn,x=>some x
 | .mref,x=>KB base n W x
 | .ap,x=>a8U base n W x
@[go_sem] def T6 (i o:Nat) (u t:Ty) (toks ts:pV):Option u.den->Option (Nat×qJ)
 |some z=>some (i,.cells u z (r6 ts (tH toks o t.cells)))
 |none=>none
@[go_sem] def a8V (i:Nat) (t:Ty) (ts:pV):Option t.den->Option (Nat×qJ)
 |some y=>some (i,.cells t y ts)
 |none=>none
def yA (base n c:Nat) (W:List rP):qJ->Option (Nat×qJ)
 | .cells t y ts=>if t.pure=true then some (base+c,.cells t y (DO base n W 0 ts)) else a8V (base+c) t (DO base n W 0 ts) (BK base n W t y)
 | .grow e m k=>some (base+c,.grow e m k)
 | .row e t l n=>if t.pure=true then some (base+c,.row e t l n) else none
 | .map k v l=>if (k.pure&&v.pure)=true then some (base+c,.map k v l) else none
 | .iter _ _=>none
 | .dead=>some (base+c,.dead)
attribute [go_sem] yA.eq_1 yA.eq_2 yA.eq_3 yA.eq_4 yA.eq_5 yA.eq_6
def wB (k:Nat):qJ->Option (Nat×qJ)
 | .cells _ _ _=>none
 | .grow e m n=>some (k,.grow e m n)
 | .row e t l n=>if t.pure=true then some (k,.row e t l n) else none
 | .map s v l=>if (s.pure&&v.pure)=true then some (k,.map s v l) else none
 | .iter _ _=>none
 | .dead=>some (k,.dead)
attribute [go_sem] wB.eq_1 wB.eq_2 wB.eq_3 wB.eq_4 wB.eq_5 wB.eq_6
@[go_sem] def a8W (i o:Nat) (u t:Ty) (toks ts:pV) (x:u.den):Option t.den->Option (Nat×qJ)
 |some y=>T6 i o u t toks ts (sL t y u x o)
 |none=>none
@[go_sem] def xQ (base n i o:Nat) (W:List rP) (u:Ty) (x:u.den) (toks:pV):qJ->Option (Nat×qJ)
 | .cells t y ts=>if t.pure=true then T6 i o u t toks (DO base n W o ts) (sL t y u x o) else a8W i o u t toks (DO base n W o ts) x (BK base n W t y)
 | .dead=>some (i,.dead)
 | .grow _ _ _=>none
 | .row _ _ _ _=>none
 | .map _ _ _=>none
 | .iter _ _=>none
@[go_sem] def PG:Option (Nat×qJ)->Option (List (Nat×qJ))->Option (List (Nat×qJ))
 |some q,some r=>some (q::r)
 |_,_=>none
@[go_sem] def BL (base n:Nat) (W:List rP):Nat->List rP->List qJ->Option (List (Nat×qJ))
 |_,[],[]=>some []
 |c,[],b::L=>PG (yA base n c W b) (BL base n W (c+1) [] L)
 |c,.box i u x toks o::ws,b::L=>PG (xQ base n i o W u x toks b) (BL base n W (c+1) ws L)
 |c,.tok k::ws,b::L=>PG (wB k b) (BL base n W (c+1) ws L)
 |_,_::_,[]=>none
@[go_sem] def G9:List qM->Option (List ((Σ t:Ty,t.den)×pZ))
 |[]=>some []
 |(.val t x,k)::r=>(G9 r).map ((⟨t,x⟩,k):: ·)
 |(.own k n,_)::r=>(G9 r).map ((⟨.rl 0 .unit,some (k,n)⟩,none):: ·)
 |_=>none
@[go_sem] def aHX:Option (List ((Σ t:Ty,t.den)×pZ))->qM
 |some q=>(.tup q,none)
 |none=>(.any,none)
@[go_sem] def MZ:List qM->Option qM
 |[]=>some (.tup [],none)
 |[s]=>some s
 |s::s'::l=>some (aHX (G9 (s::s'::l)))
@[go_sem] def YU (W:List rP):q8->q8
 |[]=>[]
 |c::r=>sameId (yY W c) (YU W r)
where
 sameId:Option rP->q8->q8
  |some w,r=>w.id::r
  |none,r=>r
attribute [go_sem] YU.sameId
@[go_sem] def PH (side:List Prop) (rds:q8):Option (List (Nat×qJ))->Option qM->Option qS
 |some H,some s=>some ⟨side,s,H,rds⟩
 |_,_=>none
@[go_sem] def PI (base n:Nat) (W:List rP):List qM->List qM
 |[]=>[]
 |s::r=>T5 base n W s::PI base n W r
@[go_sem] def rG:List qJ->Nat
 |[]=>0
 |_::r=>rG r+1
@[go_sem] def T7 (base:Nat) (W:List rP) (sm:q8):Option qY->Option qS
 |some r=>PH r.side (r6 (sF W) (YU W sm)) (BL base (rG r.H) W 0 W r.H) (MZ (PI base (rG r.H) W r.ret))
 |none=>none
@[go_sem] def T8 (C:List qM->List qJ->Option qY) (sm:q8) (base:Nat) (W:List rP) (args:List qM):Option (List qJ)->Option qS
 |some L=>T7 base W sm (C args L)
 |none=>none
@[go_sem] def PJ (C:List qM->List qJ->Option qY) (sm:q8) (base:Nat):Option t6->Option qS
 |some a=>T8 C sm base (yX a.ws []) (yX a.args []) (I6 (yX a.ws []) (yX a.H []))
 |none=>none
@[go_sem] def GA (H:List (Nat×qJ)) (base:Nat) (args:List qM):Option rK->Option qS
 |some g=>PJ g.C g.same base (BJ H g.gs (xP H g.ps args (some ⟨[],[],[],0⟩)))
 |none=>none
@[go_sem] def PL:List PK->List qM->pZ
 | .r::ps,_::ss=>PL ps ss
 |_::_,(.own k _,_)::_=>some k
 |_::ps,_::ss=>PL ps ss
 |_,_=>none
@[go_sem] def a8X (k:Nat) (t:Ty) (l:List t.den):qM->qM
 |(.own j m,x)=>if j=k then(.val (.list t) l,none) else(.own j m,x)
 |s=>s
@[go_sem] def PM (k:Nat) (t:Ty) (l:List t.den):List qM->List qM
 |[]=>[]
 |s::r=>a8X k t l s::PM k t l r
@[go_sem] def KC (k n:Nat):List qM->List Prop
 |[]=>[]
 |(.own j m,_)::r=>(j=k->m=n)::KC k n r
 |_::r=>KC k n r
@[go_sem] def GB:Ty->Bool
 | .list _=>false
 | .pair a b=>GB a&&GB b
 | .bool| .int _| .str| .unit| .fn=>true
 | .ref| .clo| .mp| .rl _ _| .mref| .ap=>false
@[go_sem] def qQ:List (Nat×qJ)->q8
 |[]=>[]
 |(i,_)::r=>i::qQ r
@[go_sem] def N0:List (Nat×qJ)->Bool
 |[]=>true
 |(_,.cells t _ [])::r=>GB t&&N0 r
 |_=>false
@[go_sem] def T9:List ((Σ t:Ty,t.den)×pZ)->Bool
 |[]=>true
 |(⟨t,_⟩,_)::r=>GB t&&T9 r
@[go_sem] def YV:List ((Σ t:Ty,t.den)×pZ)->List ((Σ t:Ty,t.den)×pZ)
 |[]=>[]
 |(q,_)::r=>(q,none)::YV r
@[go_sem] def TA:qM->Option qM
 |(.val t x,_)=>if GB t=true then some (.val t x,none) else none
 |(.tup l,_)=>if T9 l=true then some (.tup (YV l),none) else none
 |_=>none
@[go_sem] def YW (sd:List Prop) (k:Nat) (side:List Prop) (U:List (Nat×qJ)) (rds:q8):Option qM->Option qS
 |some s=>if (N0 U&& !zY k (qQ U))=true then some ⟨r6 sd side,s,U,k::rds⟩ else none
 |none=>none
@[go_sem] def YX (sd:List Prop) (k:Nat):Option qS->Option qS
 |some ⟨side,s,U,rds⟩=>YW sd k side U rds (TA s)
 |none=>none
@[go_sem] def PN (H:List (Nat×qJ)) (base:Nat) (args:List qM) (g:rK) (k:Nat):Option qJ->Option qS
 |some (.row _ t l m)=>YX (KC k m args) k (GA ((k,.dead)::H) base (PM k t l args) (some g))
 |_=>none
@[go_sem] def a8Y (H:List (Nat×qJ)) (base:Nat) (args:List qM) (g:rK):pZ->Option qS
 |some k=>PN H base args g k (qO H k)
 |none=>GA H base args (some g)
@[go_sem] def a8Z (k n m e:Nat) (t:Ty):Option (List t.den)->Option qS
 |some l=>some ⟨[n=m,m<4611686018427387904],(.tup [],none),[(k,.row e t l m)],[k]⟩
 |none=>none
@[go_sem] def YY (F:(t:Ty)->List t.den->Option (List t.den)) (k n:Nat):Option qJ->Option qS
 |some (.row e t l m)=>a8Z k n m e t (F t l)
 |_=>none
@[go_sem] def TB (H:List (Nat×qJ)) (F:(t:Ty)->List t.den->Option (List t.den)):List qM->Option qS
 |[(.own k n,_)]=>YY F k n (qO H k)
 |_=>none
@[go_sem] def YZ (base:Nat):Option TI->qM->Option qS
 |some ⟨.list u,e,_,true,_⟩,(.nilS,_)=>some ⟨[],(.own base 0,none),[(base,.row e u [] 0)],[]⟩
 |some ⟨.list u,e,_,false,_⟩,(.nilS,_)=>some ⟨[],(.val (.list u) [],some base),[(base,.grow e u.cells 0)],[]⟩
 |_,(.nilS,_)=>none
 |_,s=>some ⟨[],s,[],[]⟩
@[go_sem] def EZ:Ty->Nat->Bool
 | .list _,0=>true
 | .pair a b,o=>if o<a.cells then EZ a o else EZ b (o-a.cells)
 |_,_=>false
@[go_sem] def F0 (t:Ty):List (Nat×TypeId×Nat)->Bool
 |[]=>true
 |(o,_,_)::r=>EZ t o&&F0 t r
@[go_sem] def CC:List (Nat×TypeId×Nat)->Nat->pV
 |[],_=>[]
 |(o,_,_)::r,i=>(o,i)::CC r (i+1)
@[go_sem] def DP:List (Nat×TypeId×Nat)->Nat->List (Nat×qJ)
 |[],_=>[]
 |(_,e,c)::r,i=>r6 (DP r (i+1)) [(i,.grow e c 0)]
@[go_sem] def Z0 (e:Nat):Bool:=if e=82 then true else if e=a8G then true else false
@[go_sem] def Z1 (e:Nat) (u:Ty) (o:Nat):pY->List (Nat×Nat×Ty)
 |none=>[(o,e,u)]
 |some _=>[]
@[go_sem] def zM:(t:Ty)->t.den->Nat->List (Nat×Nat×Ty)
 | .rl e u,x,o=>Z1 e u o x
 | .pair a b,x,o=>r6 (zM a x.1 o) (zM b x.2 (o+a.cells))
 |_,_,_=>[]
@[go_sem] def Z2 (o:Nat):pY->q8
 |none=>[o]
 |some _=>[]
@[go_sem] def GC:(t:Ty)->t.den->Nat->q8
 | .mref,x,o=>Z2 o x
 | .pair a b,x,o=>r6 (GC a x.1 o) (GC b x.2 (o+a.cells))
 |_,_,_=>[]
@[go_sem] def a80:Nat->q8->q8
 |2,[0]=>[0]
 |_,_=>[]
@[go_sem] def TC (el:Nat) (t:Ty) (y:t.den):q8:=if Z0 el=true then a80 t.cells (GC t y 0) else[]
@[go_sem] def BM (t:Ty):Nat->List (Nat×Nat×Ty)->Option t.den->Option t.den
 |_,[],x=>x
 |i,(o,e,u)::r,some x=>BM t (i+1) r (sL (.rl e u) (some (i,0)) t x o)
 |_,_::_,none=>none
@[go_sem] def I7 (t:Ty) (i:Nat):q8->Option t.den->Option t.den
 |[],x=>x
 |q::r,some x=>I7 t i r (sL .mref (some (i,q)) t x q)
 |_::_,none=>none
@[go_sem] def F1:List (Nat×Nat×Ty)->Nat->List (Nat×qJ)
 |[],_=>[]
 |(_,e,u)::r,i=>r6 (F1 r (i+1)) [(i,.row e u [] 0)]
@[go_sem] def PO {α:Type}:List α->Nat
 |[]=>0
 |_::r=>PO r+1
@[go_sem] def a81 (base:Nat) (t:Ty) (ls:List (Nat×TypeId×Nat)) (R:List (Nat×Nat×Ty)):Option t.den->Option qS
 |some z=>some ⟨[],(.val .ref (some (base,0)),none),(base,.cells t z (CC ls (base+1)))::r6 (F1 R (base+1+PO ls)) (DP ls (base+1)),[]⟩
 |none=>none
@[go_sem] def PP (base el:Nat) (t:Ty) (y:t.den) (ls:List (Nat×TypeId×Nat)):Bool->Option qS
 |true=>a81 base t ls (zM t y 0) (I7 t base (TC el t y) (BM t (base+1+PO ls) (zM t y 0) (some y)))
 |false=>none
@[go_sem] def CD (k:Nat):List (Nat×TypeId×Nat)->List (Nat×TypeId×Nat)
 |[]=>[]
 |(o,e,c)::r=>if o+1=k then CD k r else(o,e,c)::CD k r
@[go_sem] def a82 (base el:Nat) (ls:List (Nat×TypeId×Nat)):(t:Ty)->t.den->pZ->Option qS
 | .pair a b,y,some k=>PP base el (.pair a b) y (CD k ls) (F0 (.pair a b) (CD k ls))
 | .list u,y,k=>some ⟨[],(.val .ref (some (base,0)),none),[(base,.cells (.list u) y (xL k 0))],[]⟩
 |t,y,_=>some ⟨[],(.val .ref (some (base,0)),none),[(base,.cells t y [])],[]⟩
@[go_sem] def PQ (base el:Nat):Option TI->Option qS
 |some ⟨.list u,e,_,_,_⟩=>some ⟨[],(.val .ref (some (base,0)),none),[(base,.cells (.list u) [] [(0,base+1)]),(base+1,.grow e u.cells 0)],[]⟩
 |some ti=>PP base el ti.ty ti.ty.zero ti.ls (F0 ti.ty ti.ls)
 |none=>none
@[go_sem] def Z3 (base el:Nat):Option TI->qM->Option qS
 |some ti,(.val t y,k)=>if t=ti.ty then a82 base el ti.ls t y k else none
 |_,_=>none
@[go_sem] def Z4 (base el:Nat):Option TI->qM->Option qS
 |some ⟨.list u,e,_,true,_⟩,(.nilS,_)=>PP base el (.rl e u) none [] true
 |some ⟨.list u,e,b,a,ls⟩,(.nilS,_)=>PQ base el (some ⟨.list u,e,b,a,ls⟩)
 |ti,s=>Z3 base el ti (MT ti s)
@[go_sem] def KD:Ty->Bool
 | .list _=>true
 | .pair a b=>KD a||KD b
 | .bool| .int _| .str| .unit| .ref| .clo| .mp| .rl _ _| .mref| .fn| .ap=>false
@[go_sem] def TD:pZ->pZ->pZ
 |some o,some m=>if m=0 then some (o+1) else none
 |_,_=>none
@[go_sem] def Z5:Ty->Bool
 | .list _=>true
 | .pair _ _| .bool| .int _| .str| .unit| .ref| .clo| .mp| .rl _ _| .mref| .fn| .ap=>false
@[go_sem] def TE (u:Ty) (o m:pZ):Bool->Bool->pZ
 |false,_=>m
 |true,true=>TD o m
 |true,false=>none
@[go_sem] def AM (t:Ty):List (Nat×qM)->pZ
 |[]=>some 0
 |(_,(.nilS,_))::r=>AM t r
 |(i,(.val u _,_))::r=>TE u (t.offs i) (AM t r) (KD u) (Z5 u)
 |_=>none
@[go_sem] def Z6:Ty->pZ->pZ
 | .pair _ _,m=>m
 |_,_=>none
@[go_sem] def aHY (t:Ty) (k:pZ):Option t.den->Option qS
 |some x=>some ⟨[],(.val t x,k),[],[]⟩
 |none=>none
@[go_sem] def Z7 (sl:List (Nat×qM)):Option TI->Option qS
 |some ti=>if ti.ty.isRow=true then aHY ti.ty (Z6 ti.ty (AM ti.ty sl)) (AL ti.ty (some ti.ty.zero) sl) else none
 |none=>none
@[go_sem] def TF (base e c n:Nat) (t:Ty):Option (List t.den)->Option qS
 |some l=>if n<=16777216/\n*c<=16777216 then some ⟨[],(.val (.list t) l,some base),[(base,.grow e c n)],[]⟩ else none
 |none=>none
@[go_sem] def a83 (base e n:Nat) (t:Ty):Option (List t.den)->Option qS
 |some l=>if t.pure=true/\n<=16777216/\n*t.cells<=16777216 then some ⟨[],(.own base n,none),[(base,.row e t l n)],[]⟩ else none
 |none=>none
@[go_sem] def Z8 (base n:Nat) (sl:List (Nat×qM)):Option TI->Option qS
 |some ⟨.list u,e,_,true,_⟩=>if n=0 then a83 base e n u (BI u n (some (D7 u n)) sl) else TF base e u.cells n u (BI u n (some (D7 u n)) sl)
 |some ⟨.list u,e,_,false,_⟩=>TF base e u.cells n u (BI u n (some (D7 u n)) sl)
 |_=>none
@[go_sem] def a84 (t:Ty) (k:pZ) (i:Nat):Option t.den->Option qS
 |some y=>some ⟨[],(.val t y,k),[],[i]⟩
 |none=>none
@[go_sem] def PR (t:Ty) (i off:Nat):Option qJ->Option qS
 |some (.cells u x toks)=>a84 t (EW t (wZ toks off)) i (r9 t u x off)
 |_=>none
@[go_sem] def a85 (u:Ty) (k n m:Nat):Option u.den->Option qS
 |some y=>some ⟨[n=m],(.val u y,none),[],[k]⟩
 |none=>none
@[go_sem] def PS (u:Ty) (k n c:Nat) (i:Int) (o:Nat):Option qJ->Option qS
 |some (.row _ t l m)=>if c=t.cells then a85 u k n m (r9 u t (qT t l i) o) else none
 |_=>none
@[go_sem] def Z9 (i:Nat):Option pY->Option qS
 |some (some (k,n))=>some ⟨[],(.own k n,none),[],[i]⟩
 |_=>none
@[go_sem] def TG (i off:Nat):TI->Option qJ->Option qS
 |⟨.list u,e,_,_,_⟩,some (.cells v x _)=>Z9 i (r9 (.rl e u) v x off)
 |_,_=>none
@[go_sem] def ZA:pY->pY->pY
 |some p,_=>some p
 |none,q=>q
@[go_sem] def BN:(t:Ty)->t.den->pY
 | .rl _ _,x=>x
 | .pair a b,x=>ZA (BN a x.1) (BN b x.2)
 |_,_=>none
@[go_sem] def ZB (u0:Ty) (l:List u0.den) (u:Ty):pY->Option (Σ t:Ty,t.den)
 |some _=>if u=u0 then some ⟨.list u0,l⟩ else none
 |none=>none
@[go_sem] def KE (a b:Ty) (x:a.den) (y:b.den):pY->Option (Σ t:Ty,t.den)->Option (Σ t:Ty,t.den)->Option (Σ t:Ty,t.den)
 |some _,some ⟨a',x'⟩,_=>some ⟨.pair a' b,(x',y)⟩
 |some _,none,_=>none
 |none,_,some ⟨b',y'⟩=>some ⟨.pair a b',(x,y')⟩
 |none,_,none=>none
@[go_sem] def zN (u0:Ty) (l:List u0.den):(t:Ty)->t.den->Option (Σ t:Ty,t.den)
 | .rl _ u,x=>ZB u0 l u x
 | .pair a b,x=>KE a b x.1 x.2 (BN a x.1) (zN u0 l a x.1) (zN u0 l b x.2)
 |_,_=>none
@[go_sem] def ZC (t:Ty) (i k:Nat) (sd:Prop) (e:TypeId) (c n:Nat) (v:Ty) (x:v.den):Option t.den->Option qS
 |some y=>some ⟨[sd],(.val t y,none),[(i,.cells v x []),(k,.grow e c n)],[1000000000,i,k]⟩
 |none=>none
@[go_sem] def ZD (t:Ty) (i off k:Nat) (sd:Prop) (e:TypeId) (c n:Nat):Option (Σ t:Ty,t.den)->Option qS
 |some ⟨v,x⟩=>ZC t i k sd e c n v x (r9 t v x off)
 |none=>none
@[go_sem] def TH (t:Ty) (i off k n0:Nat) (v:Ty) (x:v.den):Option qJ->Option qS
 |some (.row e u0 l m)=>ZD t i off k (n0=m) e u0.cells (List.length l) (zN u0 l v x)
 |_=>none
@[go_sem] def TJ (H:List (Nat×qJ)) (t:Ty) (i off:Nat) (v:Ty) (x:v.den):pY->Option qS
 |some (k,n0)=>TH t i off k n0 v x (qO H k)
 |none=>none
@[go_sem] def I8 (H:List (Nat×qJ)) (t:Ty) (i off:Nat):Option qJ->Option qS
 |some (.cells v x _)=>TJ H t i off v x (BN v x)
 |_=>none
@[go_sem] def GD:Ty->Ty
 | .rl _ u=> .list u
 | .pair a b=> .pair (GD a) (GD b)
 | .bool=> .bool
 | .int k=> .int k
 | .str=> .str
 | .list t=> .list t
 | .unit=> .unit
 | .ref=> .ref
 | .clo=> .clo
 | .mp=> .mp
 | .mref=> .mref
 | .fn=> .fn
 | .ap=> .ap
@[go_sem] def a86 (u:Ty):Option qJ->Option (List u.den)
 |some (.row _ t l _)=>if h:t=u then some (tV (t:= .list t) (u:= .list u) (by rw[h]) l) else none
 |_=>none
@[go_sem] def ZE (H:List (Nat×qJ)) (u:Ty):pY->Option (List u.den)
 |some (k,_)=>a86 u (qO H k)
 |none=>some []
@[go_sem] def AN (H:List (Nat×qJ)):(t:Ty)->t.den->Option (GD t).den
 | .rl _ u,x=>ZE H u x
 | .pair a b,x=>EY (AN H a x.1) (AN H b x.2)
 | .bool,x=>some x
 | .int _,x=>some x
 | .str,x=>some x
 | .list _,x=>some x
 | .unit,x=>some x
 | .ref,x=>some x
 | .clo,x=>some x
 | .mp,x=>some x
 | .mref,x=>some x
 | .fn,x=>some x
 | .ap,x=>some x
@[go_sem] def ZF:pY->pV
 |some p=>[p]
 |none=>[]
@[go_sem] def AO:(t:Ty)->t.den->pV
 | .rl _ _,x=>ZF x
 | .pair a b,x=>r6 (AO a x.1) (AO b x.2)
 |_,_=>[]
@[go_sem] def TK (k n:Nat):Option qJ->Option (Prop×qJ)
 |some (.row e t _ m)=>some (n=m,.grow e t.cells m)
 |_=>none
@[go_sem] def KF (k:Nat):Option (Prop×qJ)->Option (List Prop×List (Nat×qJ))->Option (List Prop×List (Nat×qJ))
 |some (p,b),some (ps,bs)=>some (p::ps,(k,b)::bs)
 |_,_=>none
@[go_sem] def PT (k:Nat):pV->Bool
 |[]=>false
 |(j,_)::r=>if j=k then true else PT k r
@[go_sem] def BO (H:List (Nat×qJ)):pV->Option (List Prop×List (Nat×qJ))
 |[]=>some ([],[])
 |(k,n)::r=>if PT k r=true then none else KF k (TK k n (qO H k)) (BO H r)
@[go_sem] def TL (t:Ty) (i:Nat):Option (List Prop×List (Nat×qJ))->Option t.den->Option qS
 |some (ps,bs),some y=>some ⟨ps,(.val t y,none),bs,i::qQ bs⟩
 |_,_=>none
@[go_sem] def TM (H:List (Nat×qJ)) (t:Ty) (i off:Nat) (v:Ty) (x:v.den):Option (GD v).den->Option qS
 |some z=>TL t i (BO H (AO v x)) (r9 t (GD v) z off)
 |none=>none
@[go_sem] def KG (H:List (Nat×qJ)) (t:Ty) (i off:Nat):Option qJ->Option qS
 |some (.cells v x _)=>TM H t i off v x (AN H v x)
 |_=>none
@[go_sem] def orS (H:List (Nat×qJ)) (t:Ty) (i off:Nat) (b:Option qJ):Option qS->Option qS
 |some r=>some r
 |none=>I8 H t i off b
@[go_sem] def TN (H:List (Nat×qJ)):Option TI->qM->Option qS
 |some ti,(.elt k n c i o,_)=>PS ti.ty k n c i o (qO H k)
 |some ti,(.at u x,_)=>if u=ti.ty then some ⟨[],(.val u x,none),[],[]⟩ else none
 |some ti,(.val .ref (some (i,off)),_)=>if ti.elem=YJ then KG H ti.ty i off (qO H i) else orS H ti.ty i off (qO H i) (orE (PR ti.ty i off (qO H i)) (TG i off ti (qO H i)))
 |_,_=>none
@[go_sem] def N1 (u:Ty) (i:Nat) (toks:pV):Option u.den->Option qS
 |some z=>some ⟨[],(.any,none),[(i,.cells u z toks)],[i]⟩
 |none=>none
@[go_sem] def TO (t:Ty) (y:t.den) (k:pZ) (i off:Nat):Option qJ->Option qS
 |some (.cells u x toks)=>N1 u i (r6 (xL (EW t k) off) (tH toks off t.cells)) (sL t y u x off)
 |_=>none
@[go_sem] def N2 (off:Nat):pV->pV
 |[]=>[]
 |(o,k)::r=>(off+o,k)::N2 off r
@[go_sem] def a88 (u:Ty) (i:Nat) (nt toks:pV) (bs:List (Nat×qJ)):Option u.den->Option qS
 |some z=>some ⟨[],(.any,none),(i,.cells u z (r6 nt toks))::r6 bs [(i,.cells u z toks)],[i]⟩
 |none=>none
@[go_sem] def TP (t:Ty) (y:t.den) (ls:List (Nat×TypeId×Nat)) (base i off:Nat):Option qJ->Bool->Option qS
 |some (.cells u x toks),true=>a88 u i (N2 off (CC ls base)) (tH toks off t.cells) (DP ls base) (sL t y u x off)
 |_,_=>none
@[go_sem] def GE (base i off:Nat) (b:Option qJ):List (Nat×TypeId×Nat)->(t:Ty)->t.den->pZ->Option qS
 |q::r,.pair a c,y,some k=>TP (.pair a c) y (CD k (q::r)) base i off b (F0 (.pair a c) (CD k (q::r)))
 |_,t,y,k=>TO t y k i off b
@[go_sem] def KH:Ty->Bool
 | .rl _ _=>true
 | .pair a b=>KH a||KH b
 |_=>false
@[go_sem] def TQ (base:Nat) (sd:List Prop) (s:qM) (i:Nat) (v:Ty) (ts:pV) (U:List (Nat×qJ)) (R:List (Nat×Nat×Ty)):Option v.den->Option qS
 |some z=>some ⟨sd,s,(i,.cells v z ts)::r6 (F1 R base) U,[i]⟩
 |none=>none
@[go_sem] def TR (n:Nat):List (Nat×qJ)->Bool
 |[]=>true
 |(i,_)::r=>if i<n then TR n r else false
@[go_sem] def PU (base:Nat):Option qS->Option qS
 |some ⟨sd,s,(i,.cells v z ts)::U,_⟩=>if TR base ((i,.cells v z ts)::U)=true then TQ base sd s i v ts ((i,.cells v z ts)::U) (zM v z 0) (BM v base (zM v z 0) (some z)) else none
 |_=>none
@[go_sem] def ZG (base:Nat) (e:Option qS):Bool->Option qS
 |true=>PU base e
 |false=>e
@[go_sem] def TS (i k n m e:Nat) (u v:Ty) (l:List u.den) (ts:pV):Option v.den->Option qS
 |some z=>some ⟨[n=m],(.any,none),[(i,.cells v z ts),(k,.grow e u.cells m)],[i,k]⟩
 |none=>none
@[go_sem] def PV (i off k n:Nat) (u v:Ty) (x:v.den) (ts:pV):Option qJ->Option qS
 |some (.row e t l m)=>if h:t=u then TS i k n m e t v l ts (sL (.list t) l v x off) else none
 |_=>none
@[go_sem] def TT:Option pY->Nat×Nat
 |some (some p)=>p
 |_=>(0,0)
@[go_sem] def a89 (i j o:Nat) (r3 r4:Nat×Nat):Option (List Prop×(Nat×Nat×(Nat×Nat)×(Nat×Nat))):=
 if j=i then(if o=6 then some ([],(1,i,r3,r4)) else if o=7 then some ([],(2,i,r3,r4)) else none) else none
@[go_sem] def a9a (i k n c o:Nat) (ix:Int) (r3 r4:Nat×Nat):Option (List Prop×(Nat×Nat×(Nat×Nat)×(Nat×Nat))):=
 if c=1 then(if o=0 then(if k=r3.1 then some ([n=r3.2,ix+1=(n:Int)],(3,i,(k,r3.2),r4)) else none) else none)
 else if c=2 then(if o=1 then(if k=r4.1 then some ([n=r4.2,ix+1=(n:Int)],(4,i,r3,(k,r4.2))) else none) else none) else none
@[go_sem] def TU (i:Nat):DV->Nat×Nat->Nat×Nat->Option (List Prop×(Nat×Nat×(Nat×Nat)×(Nat×Nat)))
 | .val .ref (some (j,o)),r3,r4=>a89 i j o r3 r4
 | .elt k n c ix o,r3,r4=>a9a i k n c o ix r3 r4
 |_,_,_=>none
@[go_sem] def ZH (i off:Nat) (v:Ty) (ts:pV) (sd:List Prop):Option v.den->Option qS
 |some z=>some ⟨sd,(.any,none),[(i,.cells v z (tH ts off 1))],[i]⟩
 |none=>none
@[go_sem] def ZI (i off:Nat) (v:Ty) (x:v.den) (ts:pV):Option (List Prop×(Nat×Nat×(Nat×Nat)×(Nat×Nat)))->Option qS
 |some (sd,y)=>ZH i off v ts sd (sL .ap y v x off)
 |none=>none
@[go_sem] def ZJ (i off:Nat) (d:DV):Ty->Option qJ->Option qS
 | .ap,some (.cells v x ts)=>ZI i off v x ts (TU i d (TT (CA v x 8)) (TT (CA v x 11)))
 |_,_=>none
@[go_sem] def a9b (k n m:Nat) (e:TypeId) (t:Ty) (l:List t.den) (i:Int):Option t.den->Option qS
 |some z=>some ⟨[n=m],(.any,none),[(k,.row e t (l.set i.toNat z) m)],[k]⟩
 |none=>none
@[go_sem] def TV (u:Ty) (y:u.den) (k n c:Nat) (i:Int) (o:Nat):Option qJ->Option qS
 |some (.row e t l m)=>if c=t.cells then a9b k n m e t l i (sL u y t (qT t l i) o) else none
 |_=>none
@[go_sem] def ZK (b:Ty) (y:b.den):Option (Σ t:Ty,t.den)->Option (Σ t:Ty,t.den)
 |some ⟨a,x⟩=>some ⟨.pair a b,(x,y)⟩
 |none=>none
@[go_sem] def ZL (a:Ty) (x:a.den):Option (Σ t:Ty,t.den)->Option (Σ t:Ty,t.den)
 |some ⟨b,y⟩=>some ⟨.pair a b,(x,y)⟩
 |none=>none
@[go_sem] def yB (e:Nat) (u:Ty) (kn:pY):(t:Ty)->t.den->Nat->Option (Σ t:Ty,t.den)
 | .list v,_,0=>if v=u then some ⟨.rl e u,kn⟩ else none
 | .pair a b,x,o=>if o<a.cells then ZK b x.2 (yB e u kn a x.1 o) else ZL a x.1 (yB e u kn b x.2 (o-a.cells))
 |_,_,_=>none
@[go_sem] def ZM (i:Nat):Option (Σ t:Ty,t.den)->Option qS
 |some ⟨v,z⟩=>some ⟨[],(.any,none),[(i,.cells v z [])],[1000000000,i]⟩
 |none=>none
@[go_sem] def a9c (H:List (Nat×qJ)) (i off k n e:Nat) (u v:Ty) (x:v.den) (ts:pV):List (Nat×TypeId×Nat)->Option qS
 |[]=>ZM i (yB e u (some (k,n)) v x off)
 |_::_=>PV i off k n u v x (tH ts off 1) (qO H k)
@[go_sem] def ZN (H:List (Nat×qJ)) (i off k n e:Nat) (u v:Ty) (x:v.den) (ts:pV) (ls:List (Nat×TypeId×Nat)):Option qS->Option qS
 |some r=>some r
 |none=>a9c H i off k n e u v x ts ls
@[go_sem] def N3 (H:List (Nat×qJ)) (i off k n:Nat):TI->Option qJ->Option qS
 |⟨.list u,e,_,_,ls⟩,some (.cells v x toks)=>ZN H i off k n e u v x toks ls (N1 v i (tH toks off 1) (sL (.rl e u) (some (k,n)) v x off))
 |_,_=>none
@[go_sem] def TW (base:Nat) (H:List (Nat×qJ)):Option TI->qM->qM->Option qS
 |some ti,(.val .ref (some (i,off)),_),(.own k n,_)=>N3 H i off k n ti (qO H i)
 |some ti,(.val .ref (some (i,off)),_),(.apd d,_)=>ZJ i off d ti.ty (qO H i)
 |some ti,(.elt k n c i o,_),(.val t y,_)=>if t=ti.ty then TV t y k n c i o (qO H k) else none
 |some ti,(.val .ref (some (i,off)),_),(.val t y,k)=>if t=ti.ty then ZG (base+16) (GE base i off (qO H i) ti.ls t y k) (KH t) else none
 |_,_,_=>none
@[go_sem] def ZO:qM->Option qS
 |(.val .ref (some p),_)=>some ⟨[],(.val .ref (some p),none),[],[]⟩
 |(.at t x,_)=>some ⟨[],(.at t x,none),[],[]⟩
 |(.elt k n c i o,_)=>some ⟨[],(.elt k n c i o,none),[],[]⟩
 |_=>none
@[go_sem] def a9d (f:FuncId):Option pV->Option qS
 |some l=>some ⟨[],(.val .clo (some (f,l)),none),[],[]⟩
 |none=>none
@[go_sem] def aHZ (f:FuncId) (l:Option pV):List Operand->Option qS
 |[]=>a9d f l
 |_=>none
@[go_sem] def TX (side:List Prop):Option (Σ t:Ty,t.den)->Option qS
 |some ⟨t,x⟩=>if 0<t.cells then some ⟨side,(.at t x,none),[],[]⟩ else none
 |none=>none
@[go_sem] def TY (side:List Prop) (i off:Nat):pZ->Option Ty->Option qS
 |some o,some u=>if 0<u.cells then some ⟨side,(.val .ref (some (i,off+o)),none),[],[]⟩ else none
 |_,_=>none
@[go_sem] def a9e (k n c:Nat) (i:Int) (o:Nat):pZ->Option Ty->Option qS
 |some q,some u=>if 0<u.cells then some ⟨[],(.elt k n c i (o+q),none),[],[]⟩ else none
 |_,_=>none
@[go_sem] def ZP (f:Nat):Option TI->qM->Option qS
 |some ⟨t,_,_,false,_⟩,(.elt k n c i o,_)=>a9e k n c i o (t.offs f) (t.fld f)
 |some ⟨t,_,_,false,_⟩,(.at u y,_)=>if u=t then TX [] (u.proj y f) else none
 |some ⟨t,_,_,false,_⟩,(.val .ref (some (i,off)),_)=>TY [] i off (t.offs f) (t.fld f)
 |_,_=>none
@[go_sem] def aH0:Option (Σ t:Ty,t.den)->Option qS
 |some ⟨t,x⟩=>some ⟨[],(.val t x,none),[],[]⟩
 |none=>none
@[go_sem] def ZQ (f:Nat):Option TI->qM->Option qS
 |some ⟨t,_,_,false,_⟩,(.val u y,_)=>if u=t then aH0 (u.proj y f) else none
 |_,_=>none
@[go_sem] def ZR:Option TI->qM->qM->Option qS
 |some ⟨.list t',_,_,_,_⟩,(.own k n,_),(.val (.int _) i,_)=>if 0<t'.cells then some ⟨[0<=i/\i<(n:Int)],(.elt k n t'.cells i 0,none),[],[]⟩ else none
 |some ⟨.list t',_,_,_,_⟩,(.val (.list t) l,_),(.val (.int _) i,_)=>if t=t' then some ⟨[0<=i/\i<(List.length l:Int)],(.at t (qT t l i),none),[],[]⟩ else none
 |some ⟨.pair a b,_,_,true,_⟩,(.val .ref (some (i,off)),_),(.val (.int _) n,_)=>TY [(0:Int)<=n] i off ((Ty.pair a b).offs (Int.toNat n)) ((Ty.pair a b).fld (Int.toNat n))
 |some ⟨.pair a b,_,_,true,_⟩,(.at u x,_),(.val (.int _) n,_)=>if u= .pair a b then TX [(0:Int)<=n] (u.proj x (Int.toNat n)) else none
 |_,_,_=>none
@[go_sem] def ZS:Option TI->qM->qM->Option qS
 |some ⟨.str,_,_,_,_⟩,(.val .str l,_),(.val (.int _) i,_)=>some ⟨[0<=i/\i<(List.length l:Int)],(.val (.int .u8) (sH l i),none),[],[]⟩
 |_,_,_=>none
@[go_sem] def aH1 (e:Nat) (u:Ty):pY->qM
 |some (k,n)=>(.own k n,none)
 |none=>(.val (.rl e u) none,none)
@[go_sem] def aH2:(t:Ty)->t.den->pZ->qM
 | .rl e u,x,_=>aH1 e u x
 | .bool,x,k=>(.val .bool x,k)
 | .int i,x,k=>(.val (.int i) x,k)
 | .str,x,k=>(.val .str x,k)
 | .list u,x,k=>(.val (.list u) x,k)
 | .unit,x,k=>(.val .unit x,k)
 | .pair a b,x,k=>(.val (.pair a b) x,k)
 | .ref,x,k=>(.val .ref x,k)
 | .clo,x,k=>(.val .clo x,k)
 | .mp,x,k=>(.val .mp x,k)
 | .mref,x,k=>(.val .mref x,k)
 | .ap,x,k=>(.val .ap x,k)
 | .fn,x,k=>(.val .fn x,k)
@[go_sem] def TZ:List ((Σ t:Ty,t.den)×pZ)->Nat->Option qS
 |[],_=>none
 |(⟨t,x⟩,k)::_,0=>some ⟨[],aH2 t x k,[],[]⟩
 |_::r,n+1=>TZ r n
@[go_sem] def a9f (b:Bool) (p c:Int):Nat->Option qS
 |0=>some ⟨[],(.val .bool b,none),[],[]⟩
 |1=>some ⟨[b=true],(.val (.int .i64) p,none),[],[]⟩
 |2=>some ⟨[b=true],(.val (.int .i32) c,none),[],[]⟩
 |_=>none
@[go_sem] def ZT (i:Nat):qM->Option qS
 |(.tup l,_)=>TZ l i
 |(.nxt b p c,_)=>a9f b p c i
 |_=>none
@[go_sem] def U0 (i:Nat):Option qJ->Option qS
 |some (.map _ _ l)=>some ⟨[],(.val (.int .i64) (List.length l:Int),none),[],[i]⟩
 |_=>none
@[go_sem] def ZU (H:List (Nat×qJ)):Option TI->List qM->Option qS
 |some ⟨.mp,_,_,_,_⟩,[(.val .mp (some i),_)]=>U0 i (qO H i)
 |some ⟨.str,_,_,_,_⟩,[(.val .str l,_)]=>some ⟨[],(.val (.int .i64) (List.length l:Int),none),[],[]⟩
 |some ⟨.list _,_,_,_,_⟩,[(.val (.list _) l,_)]=>some ⟨[],(.val (.int .i64) (List.length l:Int),none),[],[]⟩
 |some ⟨.list _,_,_,_,_⟩,[(.own _ n,_)]=>some ⟨[],(.val (.int .i64) (n:Int),none),[],[]⟩
 |_,_=>none
@[go_sem] def U1 (a:Ty) (l r:List a.den) (k e' by':Nat):Option qJ->Option qS
 |some (.grow e c n)=>if e=e'/\c=a.cells/\0<c/\0<by' then some ⟨[List.length l=n,(List.length l+List.length r)*by'<=140737488355328],(.val (.list a) (l++r),some k),[(k,.grow e c (List.length (l++r)))],[k]⟩ else none
 |_=>none
@[go_sem] def U3 (b:Ty) (r:List b.den) (k n e' by':Nat):Option qJ->Option qS
 |some (.row e t l m)=>if h:b=t then(if e=e'/\0<t.cells/\0<by' then some ⟨[n=m,(n+List.length r)*by'<=140737488355328],(.own k (List.length (l++tV (t:= .list b) (u:= .list t) (by rw[h]) r)),none),[(k,.row e t (l++tV (t:= .list b) (u:= .list t) (by rw[h]) r) (List.length (l++tV (t:= .list b) (u:= .list t) (by rw[h]) r)))],[k]⟩ else none) else none
 |_=>none
@[go_sem] def U4 (H:List (Nat×qJ)):Option TI->List qM->Option qS
 |some ⟨.list u,e,by',_,_⟩,[(.own k n,_),(.val (.list b) r,_)]=>if b=u then U3 b r k n e by' (qO H k) else none
 |some ⟨.list u,e,by',_,_⟩,[(.val (.list a) l,some k),(.val (.list b) r,_)]=>if h:b=a/\a=u then U1 a l (tV (t:= .list b) (u:= .list a) (by rw[h.1]) r) k e by' (qO H k) else none
 |_,_=>none
@[go_sem] def U5 (mx:Bool):List qM->Option (List Prop×DV)
 |[(.val (.int k) a,_),(.val (.int k') b,_)]=>if k=k' then some ([],.val (.int k) (if mx then max (a:Int) b else min (a:Int) b)) else none
 |_=>none
@[go_sem] def ZV:pV->List qM
 |[]=>[]
 |c::r=>(.val .ref (some c),none)::ZV r
@[go_sem] def U6 (H:List (Nat×qJ)) (base:Nat) (args:List qM) (g:rK):Option ((t:Ty)->List t.den->Option (List t.den))->Option qS
 |some F=>TB H F args
 |none=>a8Y H base args g (PL g.ps args)
@[go_sem] def KI (H:List (Nat×qJ)) (base:Nat) (args:List qM):Option rK->Option qS
 |some g=>U6 H base args g g.row
 |none=>none
@[go_sem] def I9 (Γ:tC) (f:Nat):Option rK:=if f<1000000000 then Γ f else none
@[go_sem] def KJ (Γ:tC) (H:List (Nat×qJ)) (base:Nat) (args:List qM):qM->Option qS
 |(.val .clo (some (f,caps)),_)=>KI H base (args++ZV caps) (I9 Γ f)
 |(.val .fn (some f),_)=>KI H base args (I9 Γ f)
 |_=>none
@[go_sem] def BP (T:sS) (ρ:Operand->qM):List Operand->List TypeId->List qM
 |x::xs,t::ts=>MT (rR T t) (ρ x)::BP T ρ xs ts
 |_,_=>[]
@[go_sem] def vN (ρ:Operand->qM):List Operand->List qM
 |[]=>[]
 |x::xs=>ρ x::vN ρ xs
@[go_sem] def u1 (ρ:Operand->qM):List (Nat×Operand)->List (Nat×qM)
 |[]=>[]
 |(i,x)::xs=>(i,ρ x)::u1 ρ xs
@[go_sem] def zO (ρ:Operand->qM):Option Operand->Option qM
 |some x=>some (ρ x)
 |none=>none
@[go_sem] def U7 (T:sS) (H:List (Nat×qJ)) (ss:List qM):List TypeId->Option qS
 |t::_=>ZU H (rR T t) ss
 |[]=>none
@[go_sem] def U8 (l:pW) (s:pM) (k e':Nat):Option qJ->Option qS
 |some (.grow e c n)=>if e=e'/\c=1 then some ⟨[List.length l=n,List.length l+List.length s<=140737488355328],(.val (.list (.int .u8)) (l++uP s),some k),[(k,.grow e c (List.length (l++uP s)))],[k]⟩ else none
 |_=>none
@[go_sem] def ZW (H:List (Nat×qJ)):Option TI->Option TI->List qM->Option qS
 |some ⟨.list (.int .u8),e,1,_,_⟩,some ⟨.str,_,_,_,_⟩,[(.val (.list (.int .u8)) l,some k),(.val .str s,_)]=>U8 l s k e (qO H k)
 |_,_,_=>none
@[go_sem] def U9 (T:sS) (H:List (Nat×qJ)) (ss:List qM):List TypeId->Option qS
 |[t,u]=>if t=u then U4 H (rR T t) ss else ZW H (rR T t) (rR T u) ss
 |_=>none
@[go_sem] def KK:List Operand->List TypeId->Bool
 |[],[]=>true
 |_::xs,_::ts=>KK xs ts
 |_,_=>false
@[go_sem] def ZX:List qM->Option TI->Option qS
 |[(.val .ref (some p),_)],some ⟨.ap,_,_,_,_⟩=>some ⟨[],(.apd (.val .ref (some p)),none),[],[]⟩
 |[(.elt k n c ix o,_)],some ⟨.ap,_,_,_,_⟩=>some ⟨[],(.apd (.elt k n c ix o),none),[],[]⟩
 |_,_=>none
@[go_sem] def a9g (args:List qM) (ti:Option TI):pV->Option qS
 |[]=>ZX args ti
 |_=>none
@[go_sem] def KL (c:Nat) (y1 y2 y3 y4:pM):pM:=if c=1 then y1 else if c=2 then y2 else if c=3 then y3 else y4
@[go_sem] def KM (b:Bool) (z y:pM):pM:=if b=true then z else y
abbrev GF:Ty:= .pair .str (.pair .str .unit)
def F2 (l:pN):pM:=l.getD (l.length-1) []
def IA (l:List (pM×pM×Unit)):pM:=(l.getD (l.length-1) ([],[],())).2.1
def F3 (b:Bool) (z:pM) (l:pN):pN:=if b=true then l.set (l.length-1) z else l
def F4 (b:Bool) (z:pM) (l:List (pM×pM×Unit)):List (pM×pM×Unit):=if b=true then l.set (l.length-1) ((l.getD (l.length-1) ([],[],())).1,z,()) else l
@[go_sem] def ZY (c i k3 n3 k4 n4:Nat) (u:Ty) (ts:pV) (e3:Nat) (l3:pN) (m3 e4:Nat) (l4:List (pM×pM×Unit)) (m4:Nat) (z:pM) (b:Bool) (sd:List Prop):Option u.den->Option qS
 |some x=>some ⟨(c≠0)::(n3=m3)::(n4=m4)::((z.length:Int)<=9223372036854775807)::sd,(.val .bool b,none),[(i,.cells u x (tH (tH ts 6 1) 7 1)),(k3,.row e3 .str (F3 (b&&decide (c=3)) z l3) m3),(k4,.row e4 GF (F4 (b&&decide (4<=c)) z l4) m4)],[i,k3,k4]⟩
 |none=>none
@[go_sem] def a9h {u:Ty}(b:Bool) (z:pM) (o:Nat) (x:u.den):Option pM->Option u.den
 |some y=>sL .str (KM b z y) u x o
 |none=>none
@[go_sem] def N4 {u:Ty}(b:Bool) (z:pM) (o:Nat):Option u.den->Option u.den
 |some x=>a9h b z o x (r9 .str u x o)
 |none=>none
@[go_sem] def ZZ (c i k3 n3 k4 n4:Nat) (u:Ty) (x:u.den) (ts:pV) (e3:Nat) (l3:pN) (m3 e4:Nat) (l4:List (pM×pM×Unit)) (m4:Nat) (z:pM):Option qY->Option qS
 |some ⟨sd,[(.val .bool b,none)],[]⟩=>ZY c i k3 n3 k4 n4 u ts e3 l3 m3 e4 l4 m4 z b sd (N4 (b&&decide (c=2)) z 7 (N4 (b&&decide (c=1)) z 6 (some x)))
 |_=>none
@[go_sem] def a0a (Γ:tC) (c i k3 n3 k4 n4:Nat) (s:pM) (u:Ty) (x:u.den) (ts:pV) (e3:Nat) (l3:pN) (m3 e4:Nat) (l4:List (pM×pM×Unit)) (m4:Nat):Option rK->Option pM->Option pM->Option qS
 |some g,some y1,some y2=>ZZ c i k3 n3 k4 n4 u x ts e3 l3 m3 e4 l4 m4 (KL c y1 y2 (F2 l3) (IA l4)++s) (g.C [(.val .str (KL c y1 y2 (F2 l3) (IA l4)++s),none)] [])
 |_,_,_=>none
@[go_sem] def a0b (Γ:tC) (c i k3 n3 k4 n4:Nat) (s:pM) (u:Ty) (x:u.den) (ts:pV):Option qJ->Option qJ->Option qS
 |some (.row e3 .str l3 m3),some (.row e4 (.pair .str (.pair .str .unit)) l4 m4)=>a0a Γ c i k3 n3 k4 n4 s u x ts e3 l3 m3 e4 l4 m4 (I9 Γ G8) (r9 .str u x 6) (r9 .str u x 7)
 |_,_=>none
@[go_sem] def a0c (i k3 k4:Nat):Bool:=if i=k3 then false else if i=k4 then false else if k3=k4 then false else true
@[go_sem] def UA (Γ:tC) (H:List (Nat×qJ)) (c i k3 n3 k4 n4:Nat) (s:pM):Option qJ->Bool->Option qS
 |some (.cells u x ts),true=>a0b Γ c i k3 n3 k4 n4 s u x ts (qO H k3) (qO H k4)
 |_,_=>none
@[go_sem] def KN (Γ:tC) (H:List (Nat×qJ)):Nat×Nat×(Nat×Nat)×(Nat×Nat)->List qM->Option TI->Option qS
 |(c,i,(k3,n3),(k4,n4)),[(.val .str s,_)],some ⟨.ap,_,_,_,_⟩=>UA Γ H c i k3 n3 k4 n4 s (qO H i) (a0c i k3 k4)
 |_,_,_=>none
@[go_sem] def a0d (T:sS) (Γ:tC) (base:Nat) (H:List (Nat×qJ)) (args:List qM) (f:Nat) (caps:pV):Option qS:=
 if f=I2 then a9g args (rR T K4) caps else KJ Γ H base args (.val .clo (some (f,caps)),none)
@[go_sem] def N5 (T:sS) (Γ:tC) (base:Nat) (H:List (Nat×qJ)) (args:List qM):qM->Option qS
 |(.val .ap x,_)=>KN Γ H x args (rR T K4)
 |(.val .clo (some (f,caps)),_)=>a0d T Γ base H args f caps
 |s=>KJ Γ H base args s
@[go_sem] def a0e (T:sS) (Γ:tC) (ρ:Operand->qM) (base:Nat) (H:List (Nat×qJ)) (args:List Operand) (tys:List TypeId) (f:qM):Bool->Option qS
 |true=>N5 T Γ base H (BP T ρ args tys) f
 |false=>none
@[go_sem] def KO (T:sS) (Γ:tC) (ρ:Operand->qM) (base:Nat) (H:List (Nat×qJ)) (args:Array Operand) (tys:Array TypeId):Callee->Option qS
 | .builtin .len=>U7 T H (vN ρ args.toList) tys.toList
 | .builtin .append=>U9 T H (vN ρ args.toList) tys.toList
 | .builtin .max=>AK (U5 true (vN ρ args.toList))
 | .builtin .min=>AK (U5 false (vN ρ args.toList))
 | .value f=>a0e T Γ ρ base H args.toList tys.toList (ρ f) (KK args.toList tys.toList)
 |_=>none
@[go_sem] def DQ:Ty->Bool
 | .int _| .str| .bool=>true
 |_=>false
def GG:(k:Ty)->k.den->k.den->Bool
 | .int _,a,b=>decide ((a:Int)=b)
 | .str,a,b=>decide ((a:pM)=b)
 | .bool,a,b=>a==b
 |_,_,_=>false
def sP (k v:Ty):List (k.den×v.den)->k.den->v.den
 |[],_=>v.zero
 |(x,y)::r,a=>if GG k a x=true then y else sP k v r a
def F5 (k v:Ty):List (k.den×v.den)->k.den->Bool
 |[],_=>false
 |(x,_)::r,a=>if GG k a x=true then true else F5 k v r a
def sY (k v:Ty) (a:k.den) (b:v.den):List (k.den×v.den)->List (k.den×v.den)
 |[]=>[(a,b)]
 |(x,y)::r=>if GG k a x=true then(a,b)::r else(x,y)::sY k v a b r
@[go_sem] def a9i (base:Nat):Option TI->Option TI->Option qS
 |some k,some v=>if DQ k.ty=true then some ⟨[],(.val .mp (some base),none),[(base,.map k.ty v.ty [])],[]⟩ else none
 |_,_=>none
@[go_sem] def a0f (T:sS) (base:Nat):Option TI->Option Operand->Option qS
 |some ⟨.mp,e,f,_,_⟩,none=>a9i base (rR T e) (rR T f)
 |_,_=>none
@[go_sem] def UB (k:Ty) (a:k.den) (u:Ty) (i:Nat) (ok:Bool):Option qJ->Option qS
 |some (.map k' v l)=>if h:k=k'/\v=u then(if DQ k=true then(match ok with
   |true=>some ⟨[],(.tup [(⟨v,sP k' v l (tV h.1 a)⟩,none),(⟨.bool,F5 k' v l (tV h.1 a)⟩,none)],none),[],[i]⟩
   |false=>some ⟨[],(.val v (sP k' v l (tV h.1 a)),none),[],[i]⟩) else none) else none
 |_=>none
@[go_sem] def a0g (H:List (Nat×qJ)) (ok:Bool) (i:Nat):Option TI->Option TI->qM->Option qS
 |some kt,some vt,(.val k a,_)=>if k=kt.ty then UB k a vt.ty i ok (qO H i) else none
 |_,_,_=>none
@[go_sem] def a9j (ok:Bool):Option TI->Option TI->qM->Option qS
 |some kt,some vt,(.val k _,_)=>if k=kt.ty then(if DQ k=true then(match ok with
   |true=>some ⟨[],(.tup [(⟨vt.ty,vt.ty.zero⟩,none),(⟨.bool,false⟩,none)],none),[],[]⟩
   |false=>some ⟨[],(.val vt.ty vt.ty.zero,none),[],[]⟩) else none) else none
 |_,_,_=>none
@[go_sem] def UC (T:sS) (H:List (Nat×qJ)) (ok:Bool):Option TI->qM->qM->Option qS
 |some ⟨.mp,e,f,_,_⟩,(.val .mp (some i),_),s=>a0g H ok i (rR T e) (rR T f) s
 |some ⟨.mp,e,f,_,_⟩,(.val .mp none,_),s=>a9j ok (rR T e) (rR T f) s
 |_,_,_=>none
@[go_sem] def N6 (k:Ty) (a:k.den) (u:Ty) (b:u.den) (i:Nat):Option qJ->Option qS
 |some (.map k' v l)=>if h:k=k'/\u=v then(if DQ k=true then some ⟨[],(.any,none),[(i,.map k' v (sY k' v (tV h.1 a) (tV h.2 b) l))],[i]⟩ else none) else none
 |_=>none
@[go_sem] def UD (H:List (Nat×qJ)) (i:Nat):Option TI->qM->qM->Option qS
 |some kt,(.val k a,_),(.val u b,_)=>if k=kt.ty then N6 k a u b i (qO H i) else none
 |_,_,_=>none
@[go_sem] def a9k:Option TI->qM->qM
 |some ⟨.fn,_,_,_,_⟩,(.val .clo (some (f,[])),_)=>(.val .fn (some f),none)
 |_,s=>s
@[go_sem] def UE (T:sS):Option TI->qM->qM
 |some ⟨.mp,_,f,_,_⟩,s=>a9k (rR T f) s
 |_,s=>s
@[go_sem] def N7 (T:sS) (H:List (Nat×qJ)):Option TI->qM->qM->qM->Option qS
 |some ⟨.mp,e,_,_,_⟩,(.val .mp (some i),_),s,x=>UD H i (rR T e) s x
 |_,_,_,_=>none
def x6 (s:pM) (p:Nat):Int:=((Utf8.decode ⟨s.toArray⟩ p).1:Int)
def a0h (s:pM) (p:Nat):Nat:=(Utf8.decode ⟨s.toArray⟩ p).2
def AP (s:pM) (p:Nat):Nat:=if p<s.length then p+a0h s p else p
@[go_sem] def a0i (base:Nat):Option TI->qM->Option qS
 |some ⟨.str,_,_,_,_⟩,(.val .str s,_)=>some ⟨[],(.val .ref (some (base,0)),none),[(base,.iter s 0)],[]⟩
 |_,_=>none
@[go_sem] def a0j (i:Nat):Option qJ->Option qS
 |some (.iter s p)=>some ⟨[],(.nxt (decide (p<List.length s)) ((p:Nat):Int) (x6 s p),none),[(i,.iter s (AP s p))],[i]⟩
 |_=>none
@[go_sem] def UF (H:List (Nat×qJ)):Bool->qM->Option qS
 |true,(.val .ref (some (i,0)),_)=>a0j i (qO H i)
 |_,_=>none
@[go_sem] def u6 (T:sS) (Γ:tC) (ty:TypeId) (ρ:Operand->qM) (base:Nat) (H:List (Nat×qJ)):Op->Option qS
 | .move x| .assign x=>YZ base (rR T ty) (ρ x)
 | .alloc e=>PQ base e (rR T e)
 | .box e x=>Z4 base e (rR T e) (ρ x)
 | .build t ps=>Z7 (u1 ρ ps.toList) (rR T t)
 | .buildSlice t n ps=>Z8 base n (u1 ρ ps.toList) (rR T t)
 | .load t a=>TN H (rR T t) (ρ a)
 | .store t a x=>TW base H (rR T t) (ρ a) (MT (rR T t) (ρ x))
 | .nilCheck x=>ZO (ρ x)
 | .binOp op t x y _=>AK (YP (SR op (rR T t) (ρ x) (ρ y)) (YP (SQ op (ρ x) (ρ y)) (YO (rR T t) op (ρ x) (ρ y))))
 | .unOp op _ x=>AK (YQ op (ρ x))
 | .convert src dst x=>AK (YP (ST (rR T src) (rR T dst) (ρ x)) (YR T (rR T src) (rR T dst) (ρ x)))
 | .makeFunc (.func f) first caps=>aHZ f (K6 (vN ρ caps.toList)) first.toList
 | .slice t x lo hi none=>AK (YS (rR T t) (ρ x) (zO ρ lo) (zO ρ hi))
 | .fieldAddr t x f=>ZP f (rR T t) (ρ x)
 | .field t x f=>ZQ f (rR T t) (ρ x)
 | .indexAddr t x ix=>ZR (rR T t) (ρ x) (ρ ix)
 | .index t x ix=>ZS (rR T t) (ρ x) (ρ ix)
 | .extract x i=>ZT i (ρ x)
 | .makeMap t r=>a0f T base (rR T t) r
 | .range t x=>a0i base (rR T t) (ρ x)
 | .next x b=>UF H b (ρ x)
 | .lookup t x i ok=>UC T H ok (rR T t) (ρ x) (ρ i)
 | .mapUpdate t m k x=>N7 T H (rR T t) (ρ m) (ρ k) (UE T (rR T t) (ρ x))
 | .insert t m k x=>N7 T H (rR T t) (ρ m) (ρ k) (UE T (rR T t) (ρ x))
 | .call c=>KO T Γ ρ base H c.args c.argTypes c.callee
 |_=>none
@[go_sem] def tS:qM->qM
 |(.cond _ d,_)=>(d,none)
 |s=>s
@[go_sem] def yZ (G:Bool):List qM->List Prop
 |[]=>[]
 |(.cond p _,_)::r=>(G=true->p=true)::yZ G r
 |_::r=>yZ G r
@[go_sem] def a9l (b:Bool):qM->Option Bool
 |(.val .bool c,_)=>some (c==b)
 |(.cond p (.val .bool c),_)=>some (p&&(c==b))
 |_=>none
@[go_sem] def zZ:List Oper->Nat->Option Tmp
 |[],_=>none
 |o::_,0=>o.dst
 |_::r,n+1=>zZ r n
@[go_sem] def GH (env:List (Nat×qM)) (b:Bool):Option Tmp->Option Bool
 |some t=>a9l b (lk env t)
 |none=>none
@[go_sem] def a9m (b:Bool):qM->Bool
 |(.val .bool c,_)=>c==b
 |(.cond p (.val .bool c),_)=>p&&(c==b)
 |(.cond p .any,_)=>p
 |_=>true
@[go_sem] def KP (env:List (Nat×qM)) (b:Bool):Option Tmp->Bool
 |some t=>a9m b (lk env t)
 |none=>true
@[go_sem] def UG (j:Nat) (b:Bool):Nat:=1000000000+(2*j+if b=true then 1 else 0)
@[go_sem] theorem aQI (x y:Bool):cond x y false=(x&&y):=by cases x<;>rfl
@[go_sem] theorem aQJ (x y:Bool):cond x true y=(x||y):=by cases x<;>rfl
@[go_sem] def a9n (x:Bool):qM->qM->Option qS
 |(.val .bool y,_),(.val .bool z,_)=>some ⟨[],(.val .bool (cond x y z),none),[],[]⟩
 |(.cond p (.val .bool y),_),(.val .bool z,_)=>some ⟨[x=true->p=true],(.val .bool (cond x y z),none),[],[]⟩
 |(.val .bool y,_),(.cond p (.val .bool z),_)=>some ⟨[x=false->p=true],(.val .bool (cond x y z),none),[],[]⟩
 |(.cond q (.val .bool y),_),(.cond p (.val .bool z),_)=>some ⟨[x=true->q=true,x=false->p=true],(.val .bool (cond x y z),none),[],[]⟩
 |(.val .bool y,_),(.cond _ .any,_)=>some ⟨[x=true],(.val .bool y,none),[],[]⟩
 |(.cond q (.val .bool y),_),(.cond _ .any,_)=>some ⟨[x=true,q=true],(.val .bool y,none),[],[]⟩
 |(.cond _ .any,_),(.val .bool z,_)=>some ⟨[x=false],(.val .bool z,none),[],[]⟩
 |(.cond _ .any,_),(.cond p (.val .bool z),_)=>some ⟨[x=false,p=true],(.val .bool z,none),[],[]⟩
 |_,_=>none
@[go_sem] def PW:qM->qM->qM->Option qS
 |(.val .bool x,_),a,b=>a9n x a b
 |_,_,_=>none
@[go_sem] def sR:Op->List Operand
 | .move x| .assign x| .box _ x| .load _ x| .nilCheck x| .unOp _ _ x| .convert _ _ x| .fieldAddr _ x _| .field _ x _| .extract x _=>[x]
 | .build _ ps| .buildSlice _ _ ps=>parts ps.toList
 | .store _ a v| .binOp _ _ a v _| .indexAddr _ a v| .index _ a v=>[a,v]
 | .lookup _ a v _=>[a,v]
 | .range _ x| .next x _=>[x]
 | .mapUpdate _ m k x=>[m,k,x]
 | .insert _ m k x=>[m,k,x]
 | .makeFunc _ _ caps=>caps.toList
 | .slice _ x l h _=>x::r6 (opt l) (opt h)
 | .call ⟨.value f,args,_⟩=>f::args.toList
 | .call ⟨_,args,_⟩=>args.toList
 |_=>[]
where
 parts:List (Nat×Operand)->List Operand
  |[]=>[]
  |(_,x)::r=>x::parts r
 opt:Option Operand->List Operand
  |some x=>[x]
  |none=>[]
attribute [go_sem] sR.parts sR.opt
@[go_sem] def N8 (l:List Prop):Option qS->Option qS
 |some e=>some ⟨r6 l e.side,e.slot,e.upd,e.rds⟩
 |none=>none
@[go_sem] def PX (G:Bool):List Prop->List Prop
 |[]=>[]
 |p::r=>(G=true->p)::PX G r
@[go_sem] def IB (G:Bool) (l:List Prop):Option qS->Option qS
 |some ⟨side,(d,_),[],rds⟩=>some ⟨r6 l (PX G side),(.cond G d,none),[],rds⟩
 |some ⟨side,s,u::us,rds⟩=>some ⟨(G=true)::r6 l (PX G side),s,u::us,rds⟩
 |none=>none
@[go_sem] def CE (env:List (Nat×qM)):List Operand->List qM
 |[]=>[]
 |x::r=>tQ env x::CE env r
@[go_sem] def N9 (T:sS) (Γ:tC) (o:Oper) (s:St):Option Bool->Op->Option qS
 |some G,.pick c a b=>IB G (yZ G [tQ s.env c]) (PW (tS (tQ s.env c)) (tQ s.env a) (tQ s.env b))
 |some G,op=>IB G (yZ G (CE s.env (sR op))) (u6 T Γ o.type (fun x=>tS (tQ s.env x)) s.nb s.H op)
 |none,_=>none
@[go_sem] def a9o:Op->Bool
 | .defer _=>true
 |_=>false
@[go_sem] def a9p (up:Bool):Bool->Option qS
 |true=>none
 |false=>some ⟨[up=false],(.cond false .any,none),[],[]⟩
@[go_sem] def PY (T:sS) (Γ:tC) (o:Oper) (s:St) (up:Bool) (g:Option Bool) (op:Op):Option rK->Option qS
 |some _=>a9p up (a9o op)
 |none=>N9 T Γ o s g op
@[go_sem] def NA (T:sS) (Γ:tC) (o:Oper) (s:St):Op->Option qS
 | .pick c a b=>PW (tQ s.env c) (tQ s.env a) (tQ s.env b)
 |op=>N8 (yZ true (CE s.env (sR op))) (u6 T Γ o.type (fun x=>tS (tQ s.env x)) s.nb s.H op)
@[go_sem] def IC (np:Nat):List (Nat×qJ)->Bool
 |[]=>true
 |(i,.cells _ _ _)::r=>if np<=i then IC np r else false
 |_::r=>IC np r
@[go_sem] def a9q (np:Nat) (e:qS):Bool->Option qS
 |true=>if IC np e.upd=true then some e else none
 |false=>some e
@[go_sem] def a0k (np:Nat):Option qS->Option qS
 |some e=>a9q np e (I4 e.rds)
 |none=>none
@[go_sem] def NB (T:sS) (Γ:tC) (ops:List Oper) (o:Oper) (s:St):Option qS:=
 match o.guard with
 |none=>NA T Γ o s o.op
 |some (j,b)=>PY T Γ o s (KP s.env b (zZ ops j)) (GH s.env b (zZ ops j)) o.op (Γ (UG j b))
@[go_sem] def zP (T:sS) (Γ:tC) (ops:List Oper) (o:Oper) (s:St):Option qS:=a0k s.np (NB T Γ ops o s)
@[go_sem] def u7:Option Tmp->qM->List (Nat×qM)->List (Nat×qM)
 |some d,s,env=>(d,s)::env
 |none,_,env=>env
structure vV where
 s:St
 side:List Prop
 es:List qS
@[go_sem] def ID (N:Nat):Option Tmp->Bool
 |some d=>decide (d<N)
 |none=>true
@[go_sem] def IE (n:Nat):List (Nat×qJ)->Bool
 |[]=>true
 |(i,_)::r=>decide (i<n)&&IE n r
@[go_sem] def CF (i:Nat):q8->Bool
 |[]=>false
 |j::r=>if j=i then zY i r else CF i r
@[go_sem] def KQ (H U:List (Nat×qJ)) (rds:q8):List (Nat×qJ)->List Prop
 |[]=>[]
 |(i,_)::r=>if CF i rds=true then(qO U i=qO H i)::KQ H U rds r else KQ H U rds r
@[go_sem] def IF (rds:q8):List (Nat×qJ)->List (Nat×qJ)
 |[]=>[]
 |(i,b)::r=>if CF i rds=true then IF rds r else(i,b)::IF rds r
@[go_sem] def xR (e:qS):List (Nat×qJ):=IF e.rds e.upd
@[go_sem] def UH (o:Oper) (a:vV):Option qS->Option vV
 |some e=>if (ID a.s.N o.dst&&IE (a.s.nb+32) e.upd)=true then some ⟨⟨u7 o.dst e.slot a.s.env,r6 e.upd a.s.H,a.s.nb+32,a.s.N,a.s.np⟩,r6 a.side (r6 (KQ a.s.H e.upd e.rds e.upd) e.side),e::a.es⟩ else none
 |none=>none
@[go_sem] def uJ (T:sS) (Γ:tC) (ops:List Oper):List Oper->Option vV->Option vV
 |[],a=>a
 |o::r,some a=>uJ T Γ ops r (UH o a (zP T Γ ops o a.s))
 |_::_,none=>none
@[go_sem] def PZ:List (Nat×qJ)->q8->Bool
 |[],_=>false
 |(i,_)::r,l=>l.contains i||PZ r l
@[go_sem] def GI (a b:qS):Bool:= !PZ (xR a) (r6 b.rds (qQ b.upd))&& !PZ (xR b) a.rds
def KR (lo:Nat):List (Nat×qJ)->Bool
 |[]=>true
 |(i,_)::r=>(decide (i<lo)||decide (lo+32<=i))&&KR lo r
def UI (i0 j0:Nat) (ops:Array Oper) (bs:q8) (nb i:Nat) (o:Oper) (e:qS):List Oper->List qS->Nat->Bool
 |p::ps,f::fs,j=>((bs.getD j 0).testBit i||(o.apart ops p&&(GI e f||(decide (i=i0)&&decide (j=j0)))&&KR (nb+32*i) f.upd))&&UI i0 j0 ops bs nb i o e ps fs (j+1)
 |_,_,_=>true
def UJ (i0 j0:Nat) (ops:Array Oper) (bs:q8) (nb:Nat):List Oper->List qS->Nat->Bool
 |o::os,e::es,i=>UI i0 j0 ops bs nb i o e os es (i+1)&&UJ i0 j0 ops bs nb os es (i+1)
 |_,_,_=>true
def UK:List Oper->Nat->Bool
 |[],_=>true
 |o::r,i=>o.after.toList.all (fun e=> !Region.binds .any e||decide (e.on<i))&&UK r (i+1)
def UL (i0 j0:Nat) (ops:Array Oper) (nb:Nat) (es:List qS):Bool:=UK ops.toList 0&&UJ i0 j0 ops (Region.before ops).toList nb ops.toList es 0
def KS (ops:Array Oper) (nb:Nat) (es:List qS):Bool:=UL ops.size 0 ops nb es
@[go_sem] def a9r (ops:Array Oper) (nb:Nat):Option vV->Option vV
 |some a=>if KS ops nb a.es.reverse then some a else none
 |none=>none
@[go_sem] def Q0 (T:sS) (Γ:tC) (ops:Array Oper) (s:St):Bool->Option vV
 |true=>a9r ops s.nb (uJ T Γ ops.toList ops.toList (some ⟨s,[],[]⟩))
 |false=>uJ T Γ ops.toList ops.toList (some ⟨s,[],[]⟩)
inductive Ex where
 |normal|exit (id:Nat) |ret
structure wC where
 slots:q8
 ids:pV:=[]
@[go_sem] def vZ:pV->Nat->pZ
 |[],_=>none
 |(n,o)::r,k=>if o=k then some n else vZ r k
@[go_sem] def a9s (m:pV):pY->pY
 |some (i,o)=>(vZ m i).map fun j=>(j,o)
 |none=>none
@[go_sem] def CG (m:pV):pV->Option pV
 |[]=>some []
 |(i,o)::r=>renCons (vZ m i) o (CG m r)
where
 renCons:pZ->Nat->Option pV->Option pV
  |some j,o,some r=>some ((j,o)::r)
  |_,_,_=>none
attribute [go_sem] CG.renCons
@[go_sem] def a9t (m:pV):pZ->pZ
 |some k=>vZ m k
 |none=>none
@[go_sem] def aH3 (n:Nat):pZ->qM
 |some k=>(.own k n,none)
 |none=>(.any,none)
@[go_sem] def a9u (m:pV):Option (Nat×pV)->Option (Option (Nat×pV))
 |none=>some none
 |some (f,l)=>(CG m l).map fun l'=>some (f,l')
@[go_sem] def UM (m:pV):pY->Option pY
 |none=>some none
 |some (i,o)=>(vZ m i).map fun j=>some (j,o)
@[go_sem] def a9v (m:pV):pZ->Option pZ
 |none=>some none
 |some i=>(vZ m i).map some
@[go_sem] def a9w (m:pV):pY->Option pY
 |none=>some none
 |some (k,n)=>(vZ m k).map fun j=>some (j,n)
@[go_sem] def a0l (c n3 n4:Nat):pZ->pZ->pZ->Option (Nat×Nat×(Nat×Nat)×(Nat×Nat))
 |some i,some k3,some k4=>some (c,i,(k3,n3),(k4,n4))
 |_,_,_=>none
@[go_sem] def a9x (m:pV):Nat×Nat×(Nat×Nat)×(Nat×Nat)->Option (Nat×Nat×(Nat×Nat)×(Nat×Nat))
 |(c,i,(k3,n3),(k4,n4))=>a0l c n3 n4 (vZ m i) (vZ m k3) (vZ m k4)
@[go_sem] def z6 (m:pV):(t:Ty)->t.den->Option t.den
 | .ref,x=>UM m x
 | .clo,x=>a9u m x
 | .mp,x=>a9v m x
 | .pair a b,x=>EY (if a.pure=true then some x.1 else z6 m a x.1) (if b.pure=true then some x.2 else z6 m b x.2)
 | .list t,x=>if t.pure=true then some x else none
 | .bool,x=>some x
 | .int _,x=>some x
 | .str,x=>some x
 | .unit,x=>some x
 | .rl _ _,x=>a9w m x
 | .fn,x=>some x
 | .mref,x=>UM m x
 | .ap,x=>a9x m x
@[go_sem] def A0 (m:pV):qM->qM
 |(.own k n,_)=>aH3 n (vZ m k)
 |(.val .ref none,_)=>(.val .ref none,none)
 |(.val .ref (some p),_)=>refSlot (a9s m (some p))
 |(.val .clo (some (f,l)),_)=>cloSlot f (CG m l)
 |(.val .mp (some i),_)=>mpSlot (vZ m i)
 |(.val t x,k)=>if t.pure then(.val t x,a9t m (EW t k)) else valSlot t (z6 m t x)
 |(.at t x,_)=>if t.pure then(.at t x,none) else(.any,none)
 |(.nilS,_)=>(.nilS,none)
 |_=>(.any,none)
where
 refSlot:pY->qM
  |some p=>(.val .ref (some p),none)
  |none=>(.any,none)
 cloSlot (f:Nat):Option pV->qM
  |some l=>(.val .clo (some (f,l)),none)
  |none=>(.any,none)
 valSlot (t:Ty):Option t.den->qM
  |some y=>(.val t y,none)
  |none=>(.any,none)
 mpSlot:pZ->qM
  |some j=>(.val .mp (some j),none)
  |none=>(.any,none)
attribute [go_sem] A0.refSlot A0.cloSlot A0.mpSlot A0.valSlot
@[go_sem] def UN (q j:Nat):pV->pV
 |[]=>[(q,j)]
 |(a,b)::r=>if q<=a then(q,j)::(a,b)::r else(a,b)::UN q j r
@[go_sem] def KT (m:pV):pV->pV
 |[]=>[]
 |(q,k)::r=>renTok1 q (vZ m k) (KT m r)
where
 renTok1 (q:Nat):pZ->pV->pV
  |some j,r=>UN q j r
  |none,r=>r
attribute [go_sem] KT.renTok1
@[go_sem] def a0m (t:Ty) (toks:pV):Option t.den->qJ
 |some y=> .cells t y toks
 |none=> .dead
def z7 (m:pV):Option qJ->qJ
 |some (.cells t x toks)=>if t.pure then .cells t x (KT m toks) else a0m t (KT m toks) (z6 m t x)
 |some (.grow e c n)=> .grow e c n
 |some (.row e t l n)=>if t.pure then .row e t l n else .dead
 |some (.map k v l)=>if k.pure&&v.pure then .map k v l else .dead
 |some (.iter s p)=> .iter s p
 |_=> .dead
attribute [go_sem] z7.eq_1 z7.eq_2 z7.eq_3 z7.eq_4 z7.eq_5 z7.eq_6
@[go_sem] def Q1 (m:pV) (env:List (Nat×qM)):q8->List (Nat×qM)
 |[]=>[]
 |t::r=>(t,A0 m (lk env t))::Q1 m env r
@[go_sem] def UO (m:pV) (H:List (Nat×qJ)):pV->List (Nat×qJ)
 |[]=>[]
 |(n,o)::r=>(n,z7 m (qO H o))::UO m H r
@[go_sem] def UP:pV->Nat
 |[]=>0
 |(n,_)::r=>max (n+1) (UP r)
@[go_sem] def NC (n o:Nat):pV->Bool
 |[]=>false
 |(n',o')::r=>decide (n'=n)||decide (o'=o)||NC n o r
@[go_sem] def x7 (np:Nat):pV->Bool
 |[]=>true
 |(n,o)::r=>(decide (np<=n)||decide (n=o))&& !NC n o r&&x7 np r
@[go_sem] def Q2 (s:St) (k:wC):Bool->St
 |true=>⟨Q1 k.ids s.env k.slots,UO k.ids s.H k.ids,max s.np (UP k.ids),s.N,s.np⟩
 |false=>⟨[],[],s.nb,s.N,s.np⟩
@[go_sem] def St.keep (s:St) (k:wC):St:=Q2 s k (x7 s.np k.ids)
@[go_sem] def rN:List Prop->Prop
 |[]=>True
 |[p]=>p
 |p::q::r=>p/\rN (q::r)
@[go_sem] def a9y (Q:Ex->St->Prop):Option vV->Prop
 |some a=>rN a.side/\Q .normal a.s
 |none=>False
@[go_sem] def a9z (A B:Prop):qM->Prop
 |(.val .bool x,_)=>(x=true->A)/\(x=false->B)
 |(.flag p q,_)=>(p->A)/\(q->B)
 |_=>False
@[go_sem] def Q3 (f:St->Prop) (Q:Ex->St->Prop):Ex->St->Prop
 | .normal,s=>f s
 | .exit j,s=>Q (.exit j) s
 | .ret,s=>Q .ret s
@[go_sem] def KU (id:Nat) (Q:Ex->St->Prop):Ex->St->Prop
 | .normal,s=>Q .normal s
 | .exit j,s=>if j=id then Q .normal s else Q (.exit j) s
 | .ret,s=>Q .ret s
@[go_sem] def aH4 (I:St->Prop) (μ:St->Nat) (m:Nat) (Q:Ex->St->Prop):Ex->St->Prop
 | .normal,s=> ∃k:wC,I (s.keep k)/\μ (s.keep k)<m
 | .exit j,s=>Q (.exit j) s
 | .ret,s=>Q .ret s
def wD (T:sS) (Γ:tC):Code->St->(Ex->St->Prop)->Prop
 | .skip,s,Q=>Q .normal s
 | .label _,s,Q=>Q .normal s
 | .region _ ops draw,s,Q=>a9y Q (Q0 T Γ ops s draw)
 | .seq a b,s,Q=>wD T Γ a s (Q3 (fun s'=>wD T Γ b s' Q) Q)
 | .cond c a b,s,Q=>a9z (wD T Γ a s Q) (wD T Γ b s Q) (tQ s.env c)
 | .block id c,s,Q=>wD T Γ c s (KU id Q)
 | .loop c,s,Q=> ∃(k:wC) (I:St->Prop) (μ:St->Nat),I (s.keep k)/\∀s,I s->wD T Γ c s (aH4 I μ (μ s) Q)
 | .exit id,s,Q=>Q (.exit id) s
 | .ret,s,Q=>Q .ret s
 |_,_,_=>False
attribute [go_sem] Ty.list.injEq Ty.pair.injEq Ty.int.injEq
section
variable {T:sS}{Γ:tC}{s:St}{Q:Ex->St->Prop}
theorem aH5 {id:Nat}{ops:Array Oper}{a:vV}(h:uJ T Γ ops.toList ops.toList (some ⟨s,[],[]⟩)=some a) (hp:rN a.side) (hq:Q .normal a.s):wD T Γ (.region id ops false) s Q:=by
 unfold wD Q0;rw[h];exact⟨hp,hq⟩
theorem aH6 {id:Nat}{ops:Array Oper}{a:vV}(h:uJ T Γ ops.toList ops.toList (some ⟨s,[],[]⟩)=some a) (hf:KS ops s.nb a.es.reverse=true) (hp:rN a.side) (hq:Q .normal a.s):wD T Γ (.region id ops true) s Q:=by
 unfold wD Q0;rw[h];show a9y Q (if KS ops s.nb a.es.reverse=true then some a else none);rw[aSn hf];exact⟨hp,hq⟩
end
end Go.Proofs.YtcpbaddnmpeipaaGreatDoor.Vc
namespace Go.Proofs.YtcpbaddnmpeipaaGreatDoor.Vc
open Go.RowKit
abbrev s7:=List (Nat×qJ)
structure Pl where
 b:Nat
 o:Nat
 k:Option (TypeId×Nat):=none
structure Gh where
 S:Nat->Nat->Prop
 J:Nat->Option Pl
 cur:Nat->Nat->Option qB
def yC {α:Type}(R:α->pX->Prop) (w:q9) (S:Nat->Nat->Prop) (c b:Nat):Nat->List α->Prop
 |_,[]=>True
 |o,x::xs=>(∃cs,cs.length=c/\w.rangeAt b o cs/\(∀j,j<c->S b (o+j))/\R x cs)/\yC R w S c b (o+c) xs
def yD (g:Gh):pV->pX->Prop
 |[],vs=>vs=[]
 |(i,o)::l,vs=> ∃p vs',g.J i=some p/\vs= .pointer (some ⟨p.1,p.2+o,none⟩)::vs'/\yD g l vs'
def Q4 (g:Gh):pY->pX->Prop
 |none,cs=>cs=[.pointer none]
 |some (i,o),cs=> ∃p,g.J i=some p/\cs=[.pointer (some ⟨p.1,p.2+o,none⟩)]
def IG (g:Gh):Option (Nat×pV)->pX->Prop
 |none,cs=>cs=[.nilFunc]
 |some (f,l),cs=> ∃vs,yD g l vs/\cs=[.func (.func f) #[] vs.toArray]
def KV (g:Gh):pZ->pX->Prop
 |none,cs=>cs=[.map none]
 |some i,cs=> ∃p,g.J i=some p/\cs=[.map (some p.1)]
def a0n (k:Option (TypeId×Nat)) (o:Nat):Prop:=o=0/\∃e,Z0 e=true/\k=some (e,2)
def BQ (g:Gh):pY->pX->Prop
 |none,cs=>cs=[.slice none 0 0]
 |some (k,n),cs=> ∃v,g.cur k n=some v/\cs=[v]/\((v= .slice none 0 0/\n=0)\/∃b cap,v= .slice (some ⟨b,0,none⟩) n cap/\n<=cap)
def Q5 (g:Gh):pY->pX->Prop
 |none,cs=>cs=[.pointer none]
 |some (i,o),cs=> ∃p,g.J i=some p/\a0n p.3 (p.2+o)/\(cs=[.pointer none]\/cs=[.pointer (some ⟨p.1,p.2+o,none⟩)])
def F6 (g:Gh) (w:q9):Nat×Nat×(Nat×Nat)×(Nat×Nat)->pX->Prop
 |(c,i,(k3,n3),(k4,n4)),cs=>(c=0/\cs=[.nilFunc])\/(c≠0/\∃b α,cs=[.func (.func I1) #[] #[.pointer (some ⟨b,0,none⟩)]]/\g.S b 0/\w.cell? ⟨b,0,none⟩=some (.pointer (some α))/\
   (c=1->∃p,g.J i=some p/\α=⟨p.1,p.2+aHL,none⟩)/\(c=2->∃p,g.J i=some p/\α=⟨p.1,p.2+aHM,none⟩)/\
   (c=3->∃bb cap,g.cur k3 n3=some (.slice (some ⟨bb,0,none⟩) n3 cap)/\0<n3/\α=⟨bb,n3-1,none⟩)/\
   (4<=c->∃bb cap,g.cur k4 n4=some (.slice (some ⟨bb,0,none⟩) n4 cap)/\0<n4/\α=⟨bb,(n4-1)*2+1,none⟩))
def UQ:pZ->pX->Prop
 |none,cs=>cs=[.nilFunc]
 |some f,cs=>cs=[.func (.func f) #[] #[]]
def Rd (g:Gh) (w:q9):(t:Ty)->t.den->pX->Prop
 | .bool,x,cs=>cs=[.bool x]
 | .int k,n,cs=>cs=[.int k n]
 | .str,l,cs=>cs=[.string ⟨List.toArray l⟩]
 | .list t,l,cs=> ∃a cap,cs=[.slice a (List.length l) cap]/\List.length l<=cap/\(l=[]\/∃b o,a=some ⟨b,o,none⟩/\yC (Rd g w t) w g.S t.cells b o l)
 | .unit,_,cs=>cs=[]
 | .pair s t,x,cs=> ∃c1 c2,cs=c1++c2/\Rd g w s x.1 c1/\Rd g w t x.2 c2
 | .ref,x,cs=>Q4 g x cs
 | .clo,x,cs=>IG g x cs
 | .mp,x,cs=>KV g x cs
 | .rl _ _,x,cs=>BQ g x cs
 | .fn,x,cs=>UQ x cs
 | .mref,x,cs=>Q5 g x cs
 | .ap,x,cs=>F6 g w x cs
def tB (g:Gh) (w:q9) (t:Ty) (x:t.den) (v:qB):Prop:=
 (t.isRow=true/\∃cs:pX,v= .agg cs.toArray/\Rd g w t x cs)\/(t.isRow=false/\Rd g w t x [v])
def xS (k:Nat):Ty->Nat->pX->Prop
 | .list _,o,cs=>o+1=k\/cs=[.slice none 0 0]
 | .pair a b,o,cs=> ∃c1 c2,cs=c1++c2/\c1.length=a.cells/\xS k a o c1/\xS k b (o+a.cells) c2
 |_,_,_=>True
def D9 (g:Gh) (t:Ty) (x:t.den) (v:qB):pZ->Prop
 |none=>True
 |some k=>match t,x with
  | .list _,l=>g.cur k (List.length l)=some v
  | .pair a b,_=>xS k (.pair a b) 0 v.cells.toList
  |_,_=>False
def IH (g:Gh) (w:q9):List ((Σ t:Ty,t.den)×pZ)->pX->Prop
 |[],vs=>vs=[]
 |(⟨t,x⟩,k)::l,vs=> ∃v vs',vs=v::vs'/\tB g w t x v/\D9 g t x v k/\IH g w l vs'
def yO (g:Gh) (w:q9):DV->qB->Prop
 | .any,_=>True
 | .nilS,v=>v= .slice none 0 0
 | .val t x,v=>tB g w t x v
 | .at t x,v=> ∃b o cs,v= .pointer (some ⟨b,o,none⟩)/\w.rangeAt b o cs/\(∀j,j<t.cells->g.S b (o+j))/\Rd g w t x cs
 | .tup l,v=> ∃vs:pX,v= .tuple vs.toArray/\IH g w l vs
 | .cond p d,v=>(p=true->yO g w d v)/\(p=false->v=undef)
 | .flag p q,v=> ∃b,v= .bool b/\(b=true->p)/\(b=false->q)
 | .own k n,v=>g.cur k n=some v/\((v= .slice none 0 0/\n=0)\/∃b cap,v= .slice (some ⟨b,0,none⟩) n cap/\n<=cap)
 | .nxt b p c,v=>(b=true->v= .tuple #[.bool true,.int .i64 p,.int .i32 c])/\(b=false->v= .tuple #[.bool false])
 | .elt k n c i o,v=> ∃b cap,g.cur k n=some (.slice (some ⟨b,0,none⟩) n cap)/\0<=i/\i<(n:Int)/\v= .pointer (some ⟨b,i.toNat*c+o,none⟩)
 | .apd d,v=> ∃b u,v= .func (.func I1) #[] #[.pointer (some ⟨b,0,none⟩)]/\g.S b 0/\w.cell? ⟨b,0,none⟩=some u/\yO g w d u
def rO (g:Gh) (w:q9) (s:qM) (v:qB):Prop:=
 yO g w s.1 v/\match s with
  |(_,none)=>True
  |(.val t x,some k)=>D9 g t x v (some k)
  |(_,some _)=>False
structure Le (g:Gh) (w:q9) (g':Gh) (w':q9):Prop where
 S: ∀b o,g.S b o->g'.S b o
 cell: ∀b o,g.S b o->w'.cell? ⟨b,o,none⟩=w.cell? ⟨b,o,none⟩
 J: ∀i p,g.J i=some p->g'.J i=some p
 cur: ∀k n v,g.cur k n=some v->g'.cur k n=some v
def Le.refl (g:Gh) (w:q9):Le g w g w:=⟨fun _ _ h=>h,fun _ _ _=>rfl,fun _ _ h=>h,fun _ _ _ h=>h⟩
def Le.trans {g g' g'':Gh}{w w' w'':q9}(h:Le g w g' w') (k:Le g' w' g'' w''):Le g w g'' w'':=
 ⟨fun b o x=>k.S b o (h.S b o x),fun b o x=>(k.cell b o (h.S b o x)).trans (h.cell b o x),fun i p x=>k.J i p (h.J i p x),fun i n v x=>k.cur i n v (h.cur i n v x)⟩
def a0o {g g':Gh}(hJ: ∀i p,g.J i=some p->g'.J i=some p): ∀{l:pV}{vs:pX},yD g l vs->yD g' l vs
 |[],_,h=>h
 |(_,_)::_,_,⟨p,vs',h1,h2,h3⟩=>⟨p,vs',hJ _ _ h1,h2,a0o hJ h3⟩
def aH7 {g g':Gh}(hJ: ∀i p,g.J i=some p->g'.J i=some p): ∀{x:pY}{cs:pX},Q4 g x cs->Q4 g' x cs
 |none,_,h=>h
 |some (_,_),_,⟨p,h1,h2⟩=>⟨p,hJ _ _ h1,h2⟩
def aH8 {g g':Gh}(hJ: ∀i p,g.J i=some p->g'.J i=some p): ∀{x:Option (Nat×pV)}{cs:pX},IG g x cs->IG g' x cs
 |none,_,h=>h
 |some (_,_),_,⟨vs,h1,h2⟩=>⟨vs,a0o hJ h1,h2⟩
def aH9 {g g':Gh}(hJ: ∀i p,g.J i=some p->g'.J i=some p): ∀{x:pZ}{cs:pX},KV g x cs->KV g' x cs
 |none,_,h=>h
 |some _,_,⟨p,h1,h2⟩=>⟨p,hJ _ _ h1,h2⟩
def aIa {g g':Gh}(hc: ∀k n v,g.cur k n=some v->g'.cur k n=some v): ∀{x:pY}{cs:pX},BQ g x cs->BQ g' x cs
 |none,_,h=>h
 |some (_,_),_,⟨v,h1,h2⟩=>⟨v,hc _ _ _ h1,h2⟩
def aIb {g g':Gh}(hJ: ∀i p,g.J i=some p->g'.J i=some p): ∀{x:pY}{cs:pX},Q5 g x cs->Q5 g' x cs
 |none,_,h=>h
 |some (_,_),_,⟨p,h1,h2⟩=>⟨p,hJ _ _ h1,h2⟩
def aIc {g g':Gh}{w w':q9}(h:Le g w g' w'): ∀{x:Nat×Nat×(Nat×Nat)×(Nat×Nat)}{cs:pX},F6 g w x cs->F6 g' w' x cs
 |(_,_,(_,_),(_,_)),_,.inl r=> .inl r
 |(_,_,(_,_),(_,_)),_,.inr ⟨h0,b,α,e,hS,hc,h1,h2,h3,h4⟩=> .inr ⟨h0,b,α,e,h.S _ _ hS,(h.cell _ _ hS).trans hc,fun q=>let ⟨p,a1,a2⟩:=h1 q;⟨p,h.J _ _ a1,a2⟩,fun q=>let ⟨p,a1,a2⟩:=h2 q;⟨p,h.J _ _ a1,a2⟩,fun q=>let ⟨bb,cap,a1,a2⟩:=h3 q;⟨bb,cap,h.cur _ _ _ a1,a2⟩,fun q=>let ⟨bb,cap,a1,a2⟩:=h4 q;⟨bb,cap,h.cur _ _ _ a1,a2⟩⟩
def a0p {α:Type}{R R':α->pX->Prop}{w w':q9}{S S':Nat->Nat->Prop}{c b:Nat}(hR: ∀x cs,R x cs->R' x cs) (hS: ∀o,S b o->S' b o)
  (hc: ∀o,S b o->w'.cell? ⟨b,o,none⟩=w.cell? ⟨b,o,none⟩): ∀{l:List α}{o:Nat},yC R w S c b o l->yC R' w' S' c b o l
 |[],_,_=>trivial
 |_::_,o,⟨⟨cs,h1,h2,h3,h4⟩,h5⟩=>⟨⟨cs,h1,fun j v hv=>by
   have hj:j<c:=h1▸(aSD.1 hv).1;rw[hc _ (h3 j hj)];exact h2 j v hv,fun j hj=>hS _ (h3 j hj),hR _ _ h4⟩,a0p hR hS hc h5⟩
def wE {g g':Gh}{w w':q9}(h:Le g w g' w'): ∀{t:Ty}{x:t.den}{cs:pX},Rd g w t x cs->Rd g' w' t x cs
 | .bool,_,_,r=>r
 | .int _,_,_,r=>r
 | .str,_,_,r=>r
 | .unit,_,_,r=>r
 | .ref,_,_,r=>aH7 h.J r
 | .clo,_,_,r=>aH8 h.J r
 | .mp,_,_,r=>aH9 h.J r
 | .rl _ _,_,_,r=>aIa h.cur r
 | .fn,_,_,r=>r
 | .mref,_,_,r=>aIb h.J r
 | .ap,_,_,r=>aIc h r
 | .pair _ _,_,_,⟨c1,c2,e,r1,r2⟩=>⟨c1,c2,e,wE h r1,wE h r2⟩
 | .list _,_,_,⟨a,cap,e,hle,hl⟩=>⟨a,cap,e,hle,hl.imp id fun⟨b,o,ea,hr⟩=>⟨b,o,ea,a0p (fun _ _=>wE h) (fun _=>h.S _ _) (fun _=>h.cell _ _) hr⟩⟩
def sV {g:Gh}{w:q9}: ∀{t:Ty}{x:t.den}{cs:pX},Rd g w t x cs->cs.length=t.cells
 | .bool,_,_,r=>by cases r;rfl
 | .int _,_,_,r=>by cases r;rfl
 | .str,_,_,r=>by cases r;rfl
 | .unit,_,_,r=>by cases r;rfl
 | .ref,none,_,r=>by cases r;rfl
 | .ref,some (_,_),_,⟨_,_,e⟩=>by cases e;rfl
 | .clo,none,_,r=>by cases r;rfl
 | .clo,some (_,_),_,⟨_,_,e⟩=>by cases e;rfl
 | .mp,none,_,r=>by cases r;rfl
 | .mp,some _,_,⟨_,_,e⟩=>by cases e;rfl
 | .fn,none,_,r=>by cases r;rfl
 | .fn,some _,_,r=>by cases r;rfl
 | .rl _ _,none,_,r=>by cases r;rfl
 | .rl _ _,some (_,_),_,⟨_,_,e,_⟩=>by cases e;rfl
 | .mref,none,_,r=>by cases r;rfl
 | .mref,some (_,_),_,⟨_,_,_,e⟩=>by rcases e with e|e<;>(cases e;rfl)
 | .ap,(_,_,(_,_),(_,_)),_,.inl ⟨_,e⟩=>by cases e;rfl
 | .ap,(_,_,(_,_),(_,_)),_,.inr ⟨_,_,_,e,_⟩=>by cases e;rfl
 | .pair _ _,_,_,⟨c1,c2,e,r1,r2⟩=>by rw[e,aSp,sV r1,sV r2];rfl
 | .list _,_,_,⟨_,_,e,_,_⟩=>by cases e;rfl
def UR {g g':Gh}{w w':q9}(h:Le g w g' w') {t:Ty}{x:t.den}{v:qB}(r:tB g w t x v):tB g' w' t x v:=
 r.imp (fun⟨a,cs,e,q⟩=>⟨a,cs,e,wE h q⟩) (fun⟨a,q⟩=>⟨a,wE h q⟩)
def a9A {g g':Gh}{w w':q9}(h:Le g w g' w') {t:Ty}{x:t.den}{v:qB}{k:pZ}(r:D9 g t x v k):D9 g' t x v k:=by
 cases k with
 |none=>trivial
 |some k=>
  cases t with
  |list u=>exact h.cur _ _ _ r
  |pair a b=>exact r
  |_=>exact r.elim
def a9B {g g':Gh}{w w':q9}(h:Le g w g' w'): ∀{l:List ((Σ t:Ty,t.den)×pZ)}{vs:pX},IH g w l vs->IH g' w' l vs
 |[],_,r=>r
 |(⟨_,_⟩,_)::_,_,⟨v,vs',e,r1,r2,r3⟩=>⟨v,vs',e,UR h r1,a9A h r2,a9B h r3⟩
def Q6 {g g':Gh}{w w':q9}(h:Le g w g' w'): ∀{d:DV}{v:qB},yO g w d v->yO g' w' d v
 | .any,_,r=>r
 | .nilS,_,r=>r
 | .val _ _,_,r=>UR h r
 | .at t _,_,⟨b,o,cs,e,h1,h2,h3⟩=>⟨b,o,cs,e,fun j v hv=>by
   by_cases hj:j<t.cells
   .rw[h.cell _ _ (h2 j hj)];exact h1 j v hv
   .exact absurd (aSD.1 hv).1 (by rw[sV h3];exact hj),fun j hj=>h.S _ _ (h2 j hj),wE h h3⟩
 | .tup _,_,⟨vs,e,r⟩=>⟨vs,e,a9B h r⟩
 | .cond _ _,_,⟨r1,r2⟩=>⟨fun p=>Q6 h (r1 p),r2⟩
 | .flag _ _,_,r=>r
 | .own _ _,_,⟨h1,h2⟩=>⟨h.cur _ _ _ h1,h2⟩
 | .nxt _ _ _,_,r=>r
 | .elt _ _ _ _ _,_,⟨b,cap,h1,h2⟩=>⟨b,cap,h.cur _ _ _ h1,h2⟩
 | .apd _,_,⟨b,u,e,hS,hc,r⟩=>⟨b,u,e,h.S _ _ hS,(h.cell _ _ hS).trans hc,Q6 h r⟩
def DA {g g':Gh}{w w':q9}(h:Le g w g' w') {s:qM}{v:qB}(r:rO g w s v):rO g' w' s v:=by
 obtain⟨d,k⟩:=s;refine⟨Q6 h r.1,?_⟩;have r2:=r.2;cases k with
 |none=>trivial
 |some k=>
  cases d with
  |val t x=>exact a9A h r2
  |_=>exact r2.elim
def A1 {g:Gh}{w:q9}: ∀{t:Ty}{x:t.den}{cs:pX},Rd g w t x cs->∀v∈cs,v.oneCell'=true
 | .bool,_,_,r=>by cases r;intro v hv;simp at hv;subst hv;rfl
 | .int _,_,_,r=>by cases r;intro v hv;simp at hv;subst hv;rfl
 | .str,_,_,r=>by cases r;intro v hv;simp at hv;subst hv;rfl
 | .unit,_,_,r=>by cases r;intro v hv;simp at hv
 | .ref,none,_,r=>by cases r;intro v hv;simp at hv;subst hv;rfl
 | .ref,some (_,_),_,⟨_,_,e⟩=>by cases e;intro v hv;simp at hv;subst hv;rfl
 | .clo,none,_,r=>by cases r;intro v hv;simp at hv;subst hv;rfl
 | .clo,some (_,_),_,⟨_,_,e⟩=>by cases e;intro v hv;simp at hv;subst hv;rfl
 | .mp,none,_,r=>by cases r;intro v hv;simp at hv;subst hv;rfl
 | .mp,some _,_,⟨_,_,e⟩=>by cases e;intro v hv;simp at hv;subst hv;rfl
 | .fn,none,_,r=>by cases r;intro v hv;simp at hv;subst hv;rfl
 | .fn,some _,_,r=>by cases r;intro v hv;simp at hv;subst hv;rfl
 | .rl _ _,none,_,r=>by cases r;intro v hv;simp at hv;subst hv;rfl
 | .rl _ _,some (_,_),_,⟨_,_,e,hs⟩=>by
  cases e;intro v hv;simp at hv;subst hv;rcases hs with⟨rfl,_⟩ |⟨_,_,rfl,_⟩<;>rfl
 | .mref,none,_,r=>by cases r;intro v hv;simp at hv;subst hv;rfl
 | .mref,some (_,_),_,⟨_,_,_,e⟩=>by rcases e with e|e<;>(cases e;intro v hv;simp at hv;subst hv;rfl)
 | .ap,(_,_,(_,_),(_,_)),_,.inl ⟨_,e⟩=>by cases e;intro v hv;simp at hv;subst hv;rfl
 | .ap,(_,_,(_,_),(_,_)),_,.inr ⟨_,_,_,e,_⟩=>by cases e;intro v hv;simp at hv;subst hv;rfl
 | .pair _ _,_,_,⟨c1,c2,e,r1,r2⟩=>by
  subst e;intro v hv;rcases aTc.1 hv with h|h
  .exact A1 r1 v h
  .exact A1 r2 v h
 | .list _,_,_,⟨_,_,e,_,_⟩=>by cases e;intro v hv;simp at hv;subst hv;rfl
def vW {g g':Gh}{w:q9}(hS:g'.S=g.S): ∀{t:Ty}{x:t.den}{cs:pX},t.pure=true->Rd g w t x cs->Rd g' w t x cs
 | .bool,_,_,_,r=>r
 | .int _,_,_,_,r=>r
 | .str,_,_,_,r=>r
 | .unit,_,_,_,r=>r
 | .ref,_,_,h,_=>by simp [Ty.pure] at h
 | .clo,_,_,h,_=>by simp [Ty.pure] at h
 | .mp,_,_,h,_=>by simp [Ty.pure] at h
 | .rl _ _,_,_,h,_=>by simp [Ty.pure] at h
 | .fn,_,_,_,r=>r
 | .mref,_,_,h,_=>by simp [Ty.pure] at h
 | .ap,_,_,h,_=>by simp [Ty.pure] at h
 | .pair _ _,_,_,h,⟨c1,c2,e,r1,r2⟩=>by
  simp only[Ty.pure,aSA] at h;exact⟨c1,c2,e,vW hS h.1 r1,vW hS h.2 r2⟩
 | .list _,_,_,h,⟨a,cap,e,hle,hl⟩=>by
  simp only[Ty.pure] at h;exact⟨a,cap,e,hle,hl.imp id fun⟨b,o,ea,hr⟩=>⟨b,o,ea,a0p (fun _ _ r=>vW hS h r) (fun _ q=>by rw[hS];exact q) (fun _ _=>rfl) hr⟩⟩
def DR (g:Gh) (w:q9) (k v:Ty):List (k.den×v.den)->List MapEntry->Prop
 |[],es=>es=[]
 |(a,b)::l,es=> ∃e es',es=e::es'/\tB g w k a e.key/\tB g w v b e.val/\DR g w k v l es'
def a0q {g g':Gh}{w w':q9}(h:Le g w g' w') {k v:Ty}: ∀{l:List (k.den×v.den)}{es:List MapEntry},DR g w k v l es->DR g' w' k v l es
 |[],_,r=>r
 |_::_,_,⟨e,es',h1,h2,h3,h4⟩=>⟨e,es',h1,UR h h2,UR h h3,a0q h h4⟩
def a9C {g g':Gh}{w:q9}(hS:g'.S=g.S) {t:Ty}{x:t.den}{v:qB}(hp:t.pure=true) (r:tB g w t x v):tB g' w t x v:=
 r.imp (fun⟨a,cs,e,q⟩=>⟨a,cs,e,vW hS hp q⟩) (fun⟨a,q⟩=>⟨a,vW hS hp q⟩)
def Q7 {g g':Gh}{w:q9}(hS:g'.S=g.S) {k v:Ty}(hk:k.pure=true) (hv:v.pure=true): ∀{l:List (k.den×v.den)}{es:List MapEntry},DR g w k v l es->DR g' w k v l es
 |[],_,r=>r
 |_::_,_,⟨e,es',h1,h2,h3,h4⟩=>⟨e,es',h1,a9C hS hk h2,a9C hS hv h3,Q7 hS hk hv h4⟩
def tT {α:Type}(R:α->pX->Prop) (c:Nat):List α->pX->Prop
 |[],cs=>cs=[]
 |x::xs,cs=> ∃c1 c2,cs=c1++c2/\c1.length=c/\R x c1/\tT R c xs c2
def KW {α:Type}{R:α->pX->Prop}{c:Nat}: ∀{l:List α}{cs:pX},tT R c l cs->cs.length=l.length*c
 |[],_,h=>by rw[h];simp
 |_::l,_,⟨c1,c2,e,h1,_,h3⟩=>by rw[e,aSp,h1,KW h3,aSt,aTy];omega
def a0r {α:Type}{R:α->pX->Prop}{c:Nat}: ∀{l m:List α}{cs ds:pX},tT R c l cs->tT R c m ds->tT R c (l++m) (cs++ds)
 |[],_,_,_,h,k=>by rw[h];exact k
 |_::_,_,_,_,⟨c1,c2,e,h1,h2,h3⟩,k=>⟨c1,c2++_,by rw[e,aSB],h1,h2,a0r h3 k⟩
def CH {α:Type}{R R':α->pX->Prop}{c:Nat}(hR: ∀x cs,R x cs->R' x cs): ∀{l:List α}{cs:pX},tT R c l cs->tT R' c l cs
 |[],_,h=>h
 |_::_,_,⟨c1,c2,e,h1,h2,h3⟩=>⟨c1,c2,e,h1,hR _ _ h2,CH hR h3⟩
def BR {g:Gh}{w:q9}{u:Ty}: ∀{t:Ty}{x:t.den}{cs:pX}{o:Nat}{y:u.den},Rd g w t x cs->r9 u t x o=some y->
  ∃c1 c2 c3,cs=c1++c2++c3/\c1.length=o/\Rd g w u y c2:=by
 intro t
 induction t with
 |pair a b iha ihb=>
  intro x cs o y r h;obtain⟨c1,c2,e,r1,r2⟩:=r;have key: ∀o,(if o<a.cells then r9 u a x.1 o else r9 u b x.2 (o-a.cells))=some y->∃d1 d2 d3,cs=d1++d2++d3/\d1.length=o/\Rd g w u y d2:=by
   intro o h;by_cases ho:o<a.cells
   .rw[aSn ho] at h;obtain⟨d1,d2,d3,e',hl,hr⟩:=iha r1 h;exact⟨d1,d2,d3++c2,by rw[e,e'];simp,hl,hr⟩
   rw[aSo ho] at h;obtain⟨d1,d2,d3,e',hl,hr⟩:=ihb r2 h;refine⟨c1++d1,d2,d3,by rw[e,e'];simp,?_,hr⟩;rw[aSp,hl,sV r1];omega
  cases o with
  |zero=>
   unfold r9 at h;by_cases hu:Ty.pair a b=u
   .rw[aUm hu] at h;subst hu;simp only[tV,aSm] at h;subst h;exact⟨[],cs,[],by simp,rfl,⟨c1,c2,e,r1,r2⟩⟩
   .rw[aTP hu] at h;refine key 0 ?_;simpa using h
  |succ o=>exact key (o+1) (by simpa[r9] using h)
 |_=>
  intro x cs o y r h;cases o with
  |zero=>
   unfold r9 at h;split at h
   .rename_i hu;subst hu;simp only[tV,aSm] at h
    try subst h
    exact⟨[],cs,[],by simp,rfl,r⟩
   .simp at h
  |succ o=>simp [r9] at h
def Q8 {g:Gh}{w:q9}{u:Ty}{y:u.den}{cy:pX}(hy:Rd g w u y cy): ∀{t:Ty}{x z:t.den}{cs:pX}{o:Nat},Rd g w t x cs->sL u y t x o=some z->
  ∃c1 c2 c3,cs=c1++c2++c3/\c1.length=o/\c2.length=u.cells/\Rd g w t z (c1++cy++c3):=by
 intro t
 induction t with
 |pair a b iha ihb=>
  intro x z cs o r h;obtain⟨c1,c2,e,r1,r2⟩:=r;have key: ∀o,(if o<a.cells then(sL u y a x.1 o).map (fun q=>(q,x.2)) else(sL u y b x.2 (o-a.cells)).map (fun q=>(x.1,q)))=some z->
    ∃d1 d2 d3,cs=d1++d2++d3/\d1.length=o/\d2.length=u.cells/\Rd g w (.pair a b) z (d1++cy++d3):=by
   intro o h;by_cases ho:o<a.cells
   .rw[aSn ho] at h;obtain⟨q,hq,rfl⟩:=aSE.1 h;obtain⟨d1,d2,d3,e',hl,hl2,hr⟩:=iha r1 hq;exact⟨d1,d2,d3++c2,by rw[e,e'];simp,hl,hl2,⟨d1++cy++d3,c2,by simp,hr,r2⟩⟩
   rw[aSo ho] at h;obtain⟨q,hq,rfl⟩:=aSE.1 h;obtain⟨d1,d2,d3,e',hl,hl2,hr⟩:=ihb r2 hq;refine⟨c1++d1,d2,d3,by rw[e,e'];simp,?_,hl2,⟨c1,d1++cy++d3,by simp,r1,hr⟩⟩;rw[aSp,hl,sV r1];omega
  cases o with
  |zero=>
   unfold sL at h;by_cases hu:u=Ty.pair a b
   .rw[aUm hu] at h;subst hu;simp only[tV,aSm] at h;subst h;exact⟨[],cs,[],by simp,rfl,sV (t:= .pair a b) (x:=x) ⟨c1,c2,e,r1,r2⟩,by simpa using hy⟩
   .rw[aTP hu] at h;refine key 0 ?_;simpa using h
  |succ o=>exact key (o+1) (by simpa[sL] using h)
 |_=>
  intro x z cs o r h;cases o with
  |zero=>
   unfold sL at h;split at h
   .rename_i hu;subst hu;simp only[tV,aSm] at h
    try subst h
    exact⟨[],cs,[],by simp,rfl,sV r,by simpa using hy⟩
   .simp at h
  |succ o=>simp [sL] at h
def aId {e:Nat}{u:Ty}{kn:pY}: ∀{t:Ty}{x:t.den}{o:Nat}{q: Σ t:Ty,t.den},yB e u kn t x o=some q->q.1.cells=t.cells:=by
 intro t
 induction t with
 |pair a b iha ihb=>
  intro x o q h;unfold yB at h;split at h
  .cases hq:yB e u kn a x.1 o with
   |none=>rw[hq] at h;cases h
   |some r=>
    obtain⟨a',x'⟩:=r;rw[hq] at h;simp only[ZK,aSm] at h;subst h;have:=iha hq;simp only[Ty.cells] at this|-;omega
  .cases hq:yB e u kn b x.2 (o-a.cells) with
   |none=>rw[hq] at h;cases h
   |some r=>
    obtain⟨b',y'⟩:=r;rw[hq] at h;simp only[ZL,aSm] at h;subst h;have:=ihb hq;simp only[Ty.cells] at this|-;omega
 |list v=>
  intro x o q h;cases o with
  |zero=>
   simp only[yB] at h;split at h
   .simp only[aSm] at h;subst h;rfl
   .cases h
  |succ o=>simp [yB] at h
 |_=>intro x o q h;cases o<;>simp [yB] at h
def aIe {g:Gh}{w:q9}{e:Nat}{u:Ty}{kn:pY}{cy:pX}(hy:BQ g kn cy): ∀{t:Ty}{x:t.den}{cs:pX}{o:Nat}{q: Σ t:Ty,t.den},Rd g w t x cs->yB e u kn t x o=some q->
  ∃c1 c2 c3,cs=c1++c2++c3/\c1.length=o/\c2.length=1/\Rd g w q.1 q.2 (c1++cy++c3):=by
 intro t
 induction t with
 |pair a b iha ihb=>
  intro x cs o q r h;obtain⟨c1,c2,e1,r1,r2⟩:=r;unfold yB at h;split at h
  .cases hq:yB e u kn a x.1 o with
   |none=>rw[hq] at h;cases h
   |some z=>
    obtain⟨a',x'⟩:=z;rw[hq] at h;simp only[ZK,aSm] at h;subst h;obtain⟨d1,d2,d3,e',hl,hl2,hr⟩:=iha r1 hq;exact⟨d1,d2,d3++c2,by rw[e1,e'];simp,hl,hl2,⟨d1++cy++d3,c2,by simp,hr,r2⟩⟩
  .cases hq:yB e u kn b x.2 (o-a.cells) with
   |none=>rw[hq] at h;cases h
   |some z=>
    obtain⟨b',y'⟩:=z;rw[hq] at h;simp only[ZL,aSm] at h;subst h;obtain⟨d1,d2,d3,e',hl,hl2,hr⟩:=ihb r2 hq;refine⟨c1++d1,d2,d3,by rw[e1,e'];simp,?_,hl2,⟨c1,d1++cy++d3,by simp,r1,hr⟩⟩;rw[aSp,hl,sV r1];omega
 |list v=>
  intro x cs o q r h;cases o with
  |zero=>
   simp only[yB] at h;split at h
   .simp only[aSm] at h;subst h;exact⟨[],cs,[],by simp,rfl,sV r,by rw[List.nil_append,List.append_nil];exact hy⟩
   .cases h
  |succ o=>simp [yB] at h
 |_=>intro x cs o q r h;cases o<;>simp [yB] at h
def GJ (g:Gh) (t:Ty) (x:t.den) (cs:pX) (toks:pV):Prop:=
 ∀o k,(o,k)∈toks->∃(u:Ty) (l:List u.den) (v:qB),r9 (.list u) t x o=some l/\cs[o]? =some v/\g.cur k l.length=some v
def aIf (w:q9) (p:Pl) (n:Nat):Prop:=w.there p.1 p.2 n/\(0<n->∀s,p.3=some s->w.shape? p.1=some s)
def BS {w:q9}{b:Nat}{s:TypeId×Nat}(h:w.shape? b=some s):b<w.heap.size:=by
 unfold World.shape? at h;cases hb:w.heap[b]? with
 |none=>rw[hb] at h;cases h
 |some x=>exact(aSP.1 hb).1
def BT {w w':q9}{b:Nat}(h:w'.heap[b]? =w.heap[b]?):w'.shape? b=w.shape? b:=by
 unfold World.shape?;rw[h]
def A2 (g:Gh) (w:q9) (i:Nat):qJ->Prop
 | .cells t x toks=> ∃p cs,g.J i=some p/\Rd g w t x cs/\w.rangeAt p.1 p.2 cs/\aIf w p t.cells/\(∀j,j<t.cells->¬g.S p.1 (p.2+j))/\GJ g t x cs toks
 | .grow e c n=> ∃v xs,g.cur i n=some v/\w.ownsRow 0 e c v n xs/\(∀m,n<m->g.cur i m=none)/\∀b,v.ownBlock=some b->∀o,g.S b o->o<n*c
 | .row e t l n=>l.length=n/\∃v xs,g.cur i n=some v/\w.ownsRow 0 e t.cells v n xs/\tT (Rd g w t) t.cells l xs/\(∀m,n<m->g.cur i m=none)/\∀b,v.ownBlock=some b->∀o,¬g.S b o
 | .map k v l=> ∃p es clock,g.J i=some p/\p.2=0/\w.heap[p.1]? =some (.map es clock)/\DR g w k v l es.toList/\∀o,¬g.S p.1 o
 | .iter s n=> ∃p,g.J i=some p/\p.2=0/\w.heap[p.1]? =some (.stringIter ⟨s.toArray⟩ n)/\∀o,¬g.S p.1 o
 | .dead=>True
def s9 (g:Gh) (i:Nat):qJ->Nat->Nat->Prop
 | .cells t _ _,b,o=> ∃p,g.J i=some p/\b=p.1/\p.2<=o/\o<p.2+t.cells
 | .grow _ _ n,b,_=> ∃v,g.cur i n=some v/\v.ownBlock=some b
 | .row _ _ _ n,b,_=> ∃v,g.cur i n=some v/\v.ownBlock=some b
 | .map _ _ _,b,_=> ∃p,g.J i=some p/\b=p.1
 | .iter _ _,b,_=> ∃p,g.J i=some p/\b=p.1
 | .dead,_,_=>False
structure sE (g:Gh) (w:q9) (H:s7):Prop where
 blk: ∀i b,qO H i=some b->A2 g w i b
 dis: ∀i j bi bj b o,i≠j->qO H i=some bi->qO H j=some bj->s9 g i bi b o->s9 g j bj b o->False
 sl: ∀b o,g.S b o->b<w.heap.size
 tab:EV w/\∀i blk b o,qO H i=some blk->s9 g i blk b o->NG<=b
def sU (g:Gh) (H:s7) (ids:q8) (b o:Nat):Prop:= ∃i blk,i∈ids/\qO H i=some blk/\s9 g i blk b o
structure Fr (A:Nat->Nat->Prop) (w w':q9) (S S':Nat->Nat->Prop):Prop where
 os:w'.os=w.os
 tape:w'.tape=w.tape
 output:w'.output=w.output
 size:w.heap.size<=w'.heap.size
 blk: ∀b,b<w.heap.size->(∀o,¬A b o)->w'.heap[b]? =w.heap[b]?
 cell: ∀b o,b<w.heap.size->¬A b o->w'.cell? ⟨b,o,none⟩=w.cell? ⟨b,o,none⟩/\w'.frozen? ⟨b,o,none⟩=w.frozen? ⟨b,o,none⟩
 new: ∀b o,S' b o->S b o\/w.heap.size<=b\/A b o
 shape: ∀b s,w.shape? b=some s->w'.shape? b=some s\/∀o,A b o
def Fr.refl (A:Nat->Nat->Prop) (w:q9) (S:Nat->Nat->Prop):Fr A w w S S:=
 ⟨rfl,rfl,rfl,aSJ _,fun _ _ _=>rfl,fun _ _ _ _=>⟨rfl,rfl⟩,fun _ _ h=> .inl h,fun _ _ h=> .inl h⟩
def Fr.trans {A B:Nat->Nat->Prop}{w w' w'':q9}{S S' S'':Nat->Nat->Prop}(h:Fr A w w' S S') (k:Fr B w' w'' S' S'') (hB: ∀b o,B b o->w.heap.size<=b\/A b o):Fr A w w'' S S'':=by
 refine⟨k.os.trans h.os,k.tape.trans h.tape,k.output.trans h.output,aTn h.size k.size,fun b hb hA=>?_,fun b o hb hA=>?_,fun b o hs=>?_,fun b s hs=>?_⟩
 .refine(k.blk b (aSY hb h.size) fun o ho=>?_).trans (h.blk b hb hA);rcases hB b o ho with h1|h1
  .omega
  exact hA o h1
 .have h1:=h.cell b o hb hA;have h2:=k.cell b o (aSY hb h.size) (fun ho=>by
   rcases hB b o ho with h1|h1
   .omega
   exact hA h1)
  exact⟨h2.1.trans h1.1,h2.2.trans h1.2⟩
 .rcases k.new b o hs with h1|h1|h1
  .exact h.new b o h1
  .exact .inr (.inl (aTn h.size h1))
  exact .inr (hB b o h1)
 rcases h.shape b s hs with h1|h1
 .rcases k.shape b s h1 with h2|h2
  .exact .inl h2
  refine .inr fun o=>(hB b o (h2 o)).resolve_left ?_;have:=BS hs;omega
 exact .inr h1
structure rL (g:Gh) (w:q9) (H:s7) (e:qS) (g':Gh) (w':q9) (v:qB):Prop where
 le:Le g w g' w'
 slot:rO g' w' e.slot v
 heap:sE g' w' (r6 e.upd H)
 fr:Fr (sU g H (qQ e.upd)) w w' g.S g'.S
 perm: ∀i blk b o,i∈qQ e.upd->qO (r6 e.upd H) i=some blk->s9 g' i blk b o->w.heap.size<=b\/sU g H (qQ e.upd) b o
 gho: ∀i,i∉qQ e.upd->g'.J i=g.J i/\g'.cur i=g.cur i
 ty: ∀i u y us,qO (r6 e.upd H) i=some (.cells u y us)->(∃x ts,qO H i=some (.cells u x ts))\/(g.J i=none/\∀n,g.cur i n=none)
structure zQ (g:Gh) (w:q9) (H:s7) (e:qS) (g':Gh) (w':q9) (v:qB):Prop where
 le:Le g w g' w'
 slot:rO g' w' e.slot v
 heap:sE g' w' (r6 e.upd H)
 fr:Fr (sU g H (qQ e.upd)) w w' g.S g'.S
 perm: ∀i blk b o,i∈qQ e.upd->qO (r6 e.upd H) i=some blk->s9 g' i blk b o->w.heap.size<=b\/sU g H (qQ e.upd) b o
 gho: ∀i,i∉qQ e.upd->g'.J i=g.J i/\g'.cur i=g.cur i
 ty:I4 e.rds=false->∀i u y us,qO (r6 e.upd H) i=some (.cells u y us)->(∃x ts,qO H i=some (.cells u x ts))\/(g.J i=none/\∀n,g.cur i n=none)
def rL.w {g:Gh}{w:q9}{H:s7}{e:qS}{g':Gh}{w':q9}{v:qB}(h:rL g w H e g' w' v):zQ g w H e g' w' v:=⟨h.le,h.slot,h.heap,h.fr,h.perm,h.gho,fun _=>h.ty⟩
def KX {w:q9}{B:Nat}{e:TypeId}{c n:Nat}{v:qB}{xs:pX}(h:w.ownsRow B e c v n xs) {b:Nat}(hb:v.ownBlock=some b):b<w.heap.size:=(h.lt b hb).2
def Q9 {w:q9}{b o:Nat}{v:qB}(h:w.cell? ⟨b,o,none⟩=some v):b<w.heap.size:=by
 have:=World.block_lt_of_cell? w ⟨b,o,none⟩ h;exact this
def KY {g:Gh}{w:q9}{i:Nat}{blk:qJ}(h:A2 g w i blk) {b o:Nat}(ho:s9 g i blk b o):b<w.heap.size:=by
 cases blk with
 |cells t x toks=>
  obtain⟨p,cs,hp,_,_,ht,_⟩:=h;obtain⟨q,hq,rfl,h1,h2⟩:=ho;rw[hp] at hq;obtain rfl:=aSr hq;have:=(ht.1 (o-p.2) pQ).1;obtain⟨v,hv⟩:=aSs.1 this;exact Q9 hv
 |grow e c n=>
  obtain⟨v,xs,hv,hr,_⟩:=h;obtain⟨v',hv',hb⟩:=ho;rw[hv] at hv';obtain rfl:=aSr hv';exact KX hr hb
 |row e t l n=>
  obtain⟨_,v,xs,hv,hr,_⟩:=h;obtain⟨v',hv',hb⟩:=ho;rw[hv] at hv';obtain rfl:=aSr hv';exact KX hr hb
 |map k v l=>
  obtain⟨p,es,cl,hp,_,hh,_,_⟩:=h;obtain⟨q,hq,rfl⟩:=ho;rw[hp] at hq;obtain rfl:=aSr hq;exact(aSP.1 hh).1
 |iter s n=>
  obtain⟨p,hp,_,hh,_⟩:=h;obtain⟨q,hq,rfl⟩:=ho;rw[hp] at hq;obtain rfl:=aSr hq;exact(aSP.1 hh).1
 |dead=>exact ho.elim
def a9D {g g':Gh}(hc: ∀k n v,g.cur k n=some v->g'.cur k n=some v) {t:Ty}{x:t.den}{cs:pX}{toks:pV}(h:GJ g t x cs toks):GJ g' t x cs toks:=
 fun o k hm=>let ⟨u,l,v,h1,h2,h3⟩:=h o k hm;⟨u,l,v,h1,h2,hc _ _ _ h3⟩
def II {g g':Gh}{w w':q9}{i:Nat}{blk:qJ}(h:A2 g w i blk) (le:Le g w g' w') (hJ:g'.J i=g.J i) (hcur:g'.cur i=g.cur i)
  (hc: ∀b o,s9 g i blk b o->w'.cell? ⟨b,o,none⟩=w.cell? ⟨b,o,none⟩/\w'.frozen? ⟨b,o,none⟩=w.frozen? ⟨b,o,none⟩)
  (hb: ∀b,(∀o,s9 g i blk b o)->w'.heap[b]? =w.heap[b]?) (hS: ∀b o,s9 g i blk b o->g'.S b o->g.S b o) (hsh: ∀b o s,s9 g i blk b o->w.shape? b=some s->w'.shape? b=some s):A2 g' w' i blk:=by
 cases blk with
 |cells t x toks=>
  obtain⟨p,cs,hp,hr,hra,ht,hs,htk⟩:=h;have ho: ∀j,j<t.cells->s9 g i (.cells t x toks) p.1 (p.2+j):=fun j hj=>⟨p,hp,rfl,pQ,pQ⟩;refine⟨p,cs,hJ.trans hp,wE le hr,fun j v hv=>?_,⟨fun j hj=>?_,fun h0 s hs3=>hsh _ _ _ (ho 0 h0) (ht.2 h0 s hs3)⟩,fun j hj hs'=>hs j hj (hS _ _ (ho j hj) hs'),a9D le.cur htk⟩
  .have hj:j<t.cells:=sV hr▸(aSD.1 hv).1;rw[(hc _ _ (ho j hj)).1];exact hra j v hv
  .rw[(hc _ _ (ho j hj)).1,(hc _ _ (ho j hj)).2];exact ht.1 j hj
 |grow e c n=>
  obtain⟨v,xs,hv,hr,hn,hs⟩:=h;have hbl: ∀b,v.ownBlock=some b->∀o,s9 g i (.grow e c n) b o:=fun b hb o=>⟨v,hv,hb⟩;refine⟨v,xs,by rw[hcur];exact hv,⟨hr.1,?_⟩,fun m hm=>by rw[hcur];exact hn m hm,fun b hvb o hs'=>hs b hvb o (hS _ _ (hbl b hvb o) hs')⟩;rcases hr.2 with h0|⟨q,cap,cur,e1,e2,e3,e4⟩
  .exact .inl h0
  .subst e1;exact .inr ⟨q,cap,cur,rfl,e2,by rw[hb q (hbl q rfl)];exact e3,e4⟩
 |row e t l n=>
  obtain⟨hl,v,xs,hv,hr,hF,hn,hs⟩:=h;have hbl: ∀b,v.ownBlock=some b->∀o,s9 g i (.row e t l n) b o:=fun b hb o=>⟨v,hv,hb⟩;refine⟨hl,v,xs,by rw[hcur];exact hv,⟨hr.1,?_⟩,CH (fun _ _ h=>wE le h) hF,fun m hm=>by rw[hcur];exact hn m hm,fun b hvb o hs'=>hs b hvb o (hS _ _ (hbl b hvb o) hs')⟩;rcases hr.2 with h0|⟨q,cap,cur,e1,e2,e3,e4⟩
  .exact .inl h0
  .subst e1;exact .inr ⟨q,cap,cur,rfl,e2,by rw[hb q (hbl q rfl)];exact e3,e4⟩
 |map k v l=>
  obtain⟨p,es,cl,hp,h0,hh,hM,hs⟩:=h;have hbl: ∀o,s9 g i (.map k v l) p.1 o:=fun o=>⟨p,hp,rfl⟩;exact⟨p,es,cl,hJ.trans hp,h0,(hb _ hbl).trans hh,a0q le hM,fun o hs'=>hs o (hS _ _ (hbl o) hs')⟩
 |iter s n=>
  obtain⟨p,hp,h0,hh,hs⟩:=h;have hbl: ∀o,s9 g i (.iter s n) p.1 o:=fun o=>⟨p,hp,rfl⟩;exact⟨p,hJ.trans hp,h0,(hb _ hbl).trans hh,fun o hs'=>hs o (hS _ _ (hbl o) hs')⟩
 |dead=>trivial
def x8 {g g':Gh}{i:Nat}{blk:qJ}(hJ:g'.J i=g.J i) (hcur:g'.cur i=g.cur i) {b o:Nat}:s9 g' i blk b o↔s9 g i blk b o:=by
 cases blk<;>simp [s9,hJ,hcur]
def A3 {i:Nat}: ∀{u:List (Nat×qJ)}{H:s7},i∉qQ u->qO (r6 u H) i=qO H i
 |[],_,_=>rfl
 |(k,b)::r,H,h=>by
  simp only[qQ,aSC,not_or] at h;simp only[r6,qO];rw[aSo (Ne.symm h.1)];exact A3 h.2
def sE.upd {g g':Gh}{w w':q9}{H:s7}{u:List (Nat×qJ)}(h:sE g w H) (le:Le g w g' w') (fr:Fr (sU g H (qQ u)) w w' g.S g'.S)
  (perm: ∀i blk b o,i∈qQ u->qO (r6 u H) i=some blk->s9 g' i blk b o->w.heap.size<=b\/sU g H (qQ u) b o)
  (gho: ∀i,i∉qQ u->g'.J i=g.J i/\g'.cur i=g.cur i)
  (hb: ∀i blk,i∈qQ u->qO (r6 u H) i=some blk->A2 g' w' i blk)
  (hd: ∀i j bi bj b o,i∈qQ u->j∈qQ u->i≠j->qO (r6 u H) i=some bi->qO (r6 u H) j=some bj->s9 g' i bi b o->s9 g' j bj b o->False)
  (sl: ∀b o,g'.S b o->b<w'.heap.size):sE g' w' (r6 u H):=by
 have out: ∀i blk,i∉qQ u->qO H i=some blk->∀b o,s9 g i blk b o->b<w.heap.size/\¬sU g H (qQ u) b o:=fun i blk hi hg b o ho=>
  ⟨KY (h.blk i blk hg) ho,fun⟨j,bj,hj,hgj,hoj⟩=>h.dis i j blk bj b o (fun e=>hi (e▸hj)) hg hgj ho hoj⟩
 refine⟨fun i blk hg=>?_,fun i j bi bj b o hij hgi hgj hoi hoj=>?_,sl,I3 h.tab.1 fr.size (fun b hb=>fr.blk b (aSY hb h.tab.1.1) (fun o ⟨j,bj,_,k1,k2⟩=>Nat.not_lt.2 (h.tab.2 j bj b o k1 k2) hb)),fun i blk b o hg ho=>?_⟩
 rotate_right
 .by_cases hi:i∈qQ u
  .rcases perm i blk b o hi hg ho with h1|⟨j,bj,_,k1,k2⟩
   .exact aTn h.tab.1.1 h1
   exact h.tab.2 j bj b o k1 k2
  exact h.tab.2 i blk b o ((A3 hi).symm.trans hg) ((x8 (gho i hi).1 (gho i hi).2).1 ho)
 .by_cases hi:i∈qQ u
  .exact hb i blk hi hg
  have hg0:=(A3 hi).symm.trans hg;have hk:=gho i hi;refine II (h.blk i blk hg0) le hk.1 hk.2 (fun b o ho=>?_) (fun b ho=>?_) (fun b o ho hs=>?_) (fun b o s ho hs=>(fr.shape b s hs).resolve_right fun h1=>(out i blk hi hg0 b o ho).2 (h1 o))
  .exact fr.cell b o (out i blk hi hg0 b o ho).1 (out i blk hi hg0 b o ho).2
  .exact fr.blk b (out i blk hi hg0 b 0 (ho 0)).1 (fun o=>(out i blk hi hg0 b o (ho o)).2)
  rcases fr.new b o hs with h1|h1|h1
  .exact h1
  .have:=(out i blk hi hg0 b o ho).1;omega
  exact absurd h1 (out i blk hi hg0 b o ho).2
 by_cases hi:i∈qQ u<;>by_cases hj:j∈qQ u
 .exact hd i j bi bj b o hi hj hij hgi hgj hoi hoj
 .have hg0:=(A3 hj).symm.trans hgj;have ho0:=(x8 (gho j hj).1 (gho j hj).2).1 hoj;rcases perm i bi b o hi hgi hoi with h1|h1
  .have:=(out j bj hj hg0 b o ho0).1;omega
  exact(out j bj hj hg0 b o ho0).2 h1
 .have hg0:=(A3 hi).symm.trans hgi;have ho0:=(x8 (gho i hi).1 (gho i hi).2).1 hoi;rcases perm j bj b o hj hgj hoj with h1|h1
  .have:=(out i bi hi hg0 b o ho0).1;omega
  exact(out i bi hi hg0 b o ho0).2 h1
 exact h.dis i j bi bj b o hij ((A3 hi).symm.trans hgi) ((A3 hj).symm.trans hgj) ((x8 (gho i hi).1 (gho i hi).2).1 hoi) ((x8 (gho j hj).1 (gho j hj).2).1 hoj)
def rL.pure {g:Gh}{w:q9}{H:s7}{side:List Prop}{s:qM}{rds:q8}{v:qB}(h:sE g w H) (hs:rO g w s v):rL g w H ⟨side,s,[],rds⟩ g w v:=
 ⟨.refl _ _,hs,h,.refl _ _ _,fun _ _ _ _ hi=>(by cases hi),fun _ _=>⟨rfl,rfl⟩,fun _ _ y us h=> .inl ⟨y,us,h⟩⟩
def zQ.pure {g:Gh}{w:q9}{H:s7}{side:List Prop}{s:qM}{rds:q8}{v:qB}(h:sE g w H) (hs:rO g w s v):zQ g w H ⟨side,s,[],rds⟩ g w v:=(rL.pure h hs).w
def KZ {α:Type}: ∀(l m n:List α),r6 (r6 l m) n=r6 l (r6 m n)
 |[],_,_=>rfl
 |x::l,m,n=>by simp only[r6,KZ l m n]
def CI {i:Nat}: ∀{l m:List (Nat×qJ)},i∈qQ (r6 l m)↔i∈qQ l\/i∈qQ m
 |[],m=>by simp [r6,qQ]
 |(k,b)::l,m=>by simp only[r6,qQ,aSC,CI (l:=l),or_assoc]
def rL.trans {g:Gh}{w:q9}{H:s7}{e1 e2:qS}{g1 g2:Gh}{w1 w2:q9}{v1 v2:qB}{side:List Prop}{rds:q8}(h:rL g w H e1 g1 w1 v1) (k:rL g1 w1 (r6 e1.upd H) e2 g2 w2 v2):rL g w H ⟨side,e2.slot,r6 e2.upd e1.upd,rds⟩ g2 w2 v2:=by
 have hB: ∀b o,sU g1 (r6 e1.upd H) (qQ e2.upd) b o->w.heap.size<=b\/sU g H (qQ (r6 e2.upd e1.upd)) b o:=by
  rintro b o ⟨i,blk,hi,hg,ho⟩;by_cases h1:i∈qQ e1.upd
  .refine(h.perm i blk b o h1 hg ho).imp id fun⟨j,bj,hj,q⟩=>⟨j,bj,CI.2 (.inr hj),q⟩
  exact .inr ⟨i,blk,CI.2 (.inl hi),(A3 h1).symm.trans hg,(x8 (h.gho i h1).1 (h.gho i h1).2).1 ho⟩
 have mono: ∀b o,sU g H (qQ e1.upd) b o->sU g H (qQ (r6 e2.upd e1.upd)) b o:=fun b o ⟨j,bj,hj,q⟩=>⟨j,bj,CI.2 (.inr hj),q⟩;refine⟨h.le.trans k.le,k.slot,by simp only[KZ];exact k.heap,?_,fun i blk b o hi hg ho=>?_,fun i hi=>?_,fun i u y us hg=>?_⟩
 .have h1:Fr (sU g H (qQ (r6 e2.upd e1.upd))) w w1 g.S g1.S:=⟨h.fr.os,h.fr.tape,h.fr.output,h.fr.size,fun b hb hn=>h.fr.blk b hb (fun o ho=>hn o (mono b o ho)),fun b o hb hn=>h.fr.cell b o hb (fun ho=>hn (mono b o ho)),fun b o hs=>(h.fr.new b o hs).imp id (Or.imp id (mono b o)),fun b s hs=>(h.fr.shape b s hs).imp id fun h o=>mono b o (h o)⟩;exact h1.trans k.fr hB
 .simp only[KZ] at hg;by_cases h2:i∈qQ e2.upd
  .rcases k.perm i blk b o h2 hg ho with h3|h3
   .exact .inl (aTn h.fr.size h3)
   exact hB b o h3
  have hi1:i∈qQ e1.upd:=(CI.1 hi).resolve_left h2;rw[A3 h2] at hg;exact(h.perm i blk b o hi1 hg ((x8 (k.gho i h2).1 (k.gho i h2).2).1 ho)).imp id (mono b o)
 .have h2:i∉qQ e2.upd:=fun q=>hi (CI.2 (.inl q));have h1:i∉qQ e1.upd:=fun q=>hi (CI.2 (.inr q));exact⟨(k.gho i h2).1.trans (h.gho i h1).1,(k.gho i h2).2.trans (h.gho i h1).2⟩
 simp only[KZ] at hg;rcases k.ty i u y us hg with⟨x,ts,h3⟩ |⟨h3,h4⟩
 .exact h.ty i u x ts h3
 right;refine⟨?_,fun n=>?_⟩
 .cases hj:g.J i with
  |none=>rfl
  |some p=>rw[h.le.J i p hj] at h3;cases h3
 cases hj:g.cur i n with
 |none=>rfl
 |some p=>rw[<-h4 n,h.le.cur i n p hj]
def rL.congrH {g:Gh}{w:q9}{H H':s7}{e:qS}{g':Gh}{w':q9}{v:qB}(h:rL g w H e g' w' v) (hH:H=H'):rL g w H' e g' w' v:=hH▸h
def GK {α:Type}{x:α}: ∀{l m:List α},x∈r6 l m↔x∈l\/x∈m
 |[],m=>by simp [r6]
 |y::l,m=>by simp only[r6,aSC,GK (l:=l),or_assoc]
def rL.slot' {g:Gh}{w:q9}{H:s7}{sd sd2:List Prop}{s s2:qM}{U:List (Nat×qJ)}{r r2:q8}{g':Gh}{w':q9}{v v2:qB}(h:rL g w H ⟨sd,s,U,r⟩ g' w' v) (hs:rO g' w' s2 v2):rL g w H ⟨sd2,s2,U,r2⟩ g' w' v2:=
 ⟨h.le,hs,h.heap,h.fr,h.perm,h.gho,h.ty⟩
def sE.ext0 {g:Gh}{w:q9}{H H':s7}(h:sE g w H) (e: ∀i,qO H i=qO H' i):sE g w H':=
 ⟨fun i b hb=>h.blk i b (by rw[e];exact hb),fun i j bi bj b o hij h1 h2=>h.dis i j bi bj b o hij (by rw[e];exact h1) (by rw[e];exact h2),h.sl,h.tab.1,fun i b bb oo hb ho=>h.tab.2 i b bb oo (by rw[e];exact hb) ho⟩
def rL.more {g:Gh}{w:q9}{H:s7}{sd sd2:List Prop}{s:qM}{U U2:List (Nat×qJ)}{r r2:q8}{g':Gh}{w':q9}{v:qB}(h:rL g w H ⟨sd,s,U,r⟩ g' w' v) (hg: ∀i,qO (r6 U2 H) i=qO (r6 U H) i) (hm: ∀i,i∈qQ U->i∈qQ U2):rL g w H ⟨sd2,s,U2,r2⟩ g' w' v:=by
 have mono: ∀b o,sU g H (qQ U) b o->sU g H (qQ U2) b o:=fun b o ⟨j,bj,hj,q⟩=>⟨j,bj,hm j hj,q⟩;refine⟨h.le,h.slot,h.heap.ext0 (fun i=>(hg i).symm),⟨h.fr.os,h.fr.tape,h.fr.output,h.fr.size,fun b hb hn=>h.fr.blk b hb (fun o ho=>hn o (mono b o ho)),fun b o hb hn=>h.fr.cell b o hb (fun ho=>hn (mono b o ho)),fun b o hs=>(h.fr.new b o hs).imp id (Or.imp id (mono b o)),fun b s hs=>(h.fr.shape b s hs).imp id fun h o=>mono b o (h o)⟩,fun i blk b o hi hg2 ho=>?_,fun i hi=>h.gho i (fun q=>hi (hm i q)),fun i u y us hg2=>h.ty i u y us ((hg i).symm.trans hg2)⟩;rw[hg] at hg2;by_cases h1:i∈qQ U
 .exact(h.perm i blk b o h1 hg2 ho).imp id (mono b o)
 exact .inr ⟨i,blk,hi,(A3 h1).symm.trans hg2,(x8 (h.gho i h1).1 (h.gho i h1).2).1 ho⟩
def tX:Ty->pX
 | .bool=>[.bool false]
 | .int k=>[.int k 0]
 | .str=>[.string ⟨#[]⟩]
 | .list _=>[.slice none 0 0]
 | .unit=>[]
 | .pair a b=>tX a++tX b
 | .ref=>[.pointer none]
 | .clo=>[.nilFunc]
 | .mp=>[.map none]
 | .rl _ _=>[.slice none 0 0]
 | .fn=>[.nilFunc]
 | .mref=>[.pointer none]
 | .ap=>[.nilFunc]
def xT (t:Ty):qB:=if t.isRow then .agg (tX t).toArray else(tX t).headD undef
def ND (P:Program):Ty->Nat->List Field->Prop
 | .unit,_,[]=>True
 | .pair a b,o,f::r=>f.offset=o/\(P.info? f.type).map (·.size)=some a.cells/\(P.underlying f.type).map (·.isRow)=some a.isRow/\ND P b (o+a.cells) r
 |_,_,_=>False
def QA (P:Program) (e:TypeId):Ty->Nat->Prop
 | .unit,0=>True
 | .pair a b,n+1=>(P.info? e).map (·.size)=some a.cells/\(P.underlying e).map (·.isRow)=some a.isRow/\QA P e b n
 |_,_=>False
inductive a0s where
 |ty (t:TypeId) |fs (o:Nat) (l:List Field) |el (e:TypeId) (i m:Nat)
inductive yP (P:Program):Nat->a0s->Ty->Prop
 |bool {h t}:P.underlying t=some .bool->yP P h (.ty t) .bool
 |int {h t k}:P.underlying t=some (.int k)->yP P h (.ty t) (.int k)
 |str {h t}:P.underlying t=some .string->yP P h (.ty t) .str
 |struct {h t fs ty}:ty.isRow=true->P.underlying t=some (.struct fs)->P.stoodInHeld t=false->yP P h (.fs 0 fs.toList) ty->yP P (h+1) (.ty t) ty
 |arr {h t e n ty}:ty.isRow=true->P.underlying t=some (.array n e)->(P.info? e).isSome=true->yP P h (.el e 0 n) ty->yP P (h+1) (.ty t) ty
 |nil {h o}:yP P h (.fs o []) .unit
 |cons {h o}{f:Field}{r a b}:f.name≠ "_" ->f.offset=o->(P.info? f.type).map (·.size)=some a.cells->(P.underlying f.type).map (·.isRow)=some a.isRow->yP P h (.ty f.type) a->yP P h (.fs (o+a.cells) r) b->yP P h (.fs o (f::r)) (.pair a b)
 |anil {h e i}:yP P h (.el e i 0) .unit
 |acons {h e i m a b}:(P.info? e).map (·.size)=some a.cells->(P.underlying e).map (·.isRow)=some a.isRow->yP P h (.ty e) a->yP P h (.el e (i+1) m) b->yP P h (.el e i (m+1)) (.pair a b)
def a9E (P:Program):Prop:=
 (∀(w:q9) (p:Option Addr),Calls P I2 #[.pointer p] w fun e w'=> ∃b,e= .returned (.func (.func I1) #[] #[.pointer (some ⟨b,0,none⟩)])/\w.heap.size<=b/\b<w'.heap.size/\w'.cell? ⟨b,0,none⟩=some (.pointer p)/\Below w.heap.size w w')/\
 (∀args w,(callFunc I2 args).run P w= .ok (.enter I2 args) w)/\(∀args w,(callFunc I1 args).run P w= .ok (.enter I1 args) w)/\
 ∀(w:q9) (b:Nat) (α:Addr) (y s:pM) (ok:Bool),w.cell? ⟨b,0,none⟩=some (.pointer (some α))->w.cell? α=some (.string ⟨y.toArray⟩)->w.frozen? α=false->α.spot=none->((y++s).length:Int)<=9223372036854775807->
  (∀w1,Below w.heap.size w w1->Calls P G8 #[.string ⟨(y++s).toArray⟩] w1 fun e w'=>e= .returned (.bool ok)/\Below w1.heap.size w1 w')->
  Calls P I1 #[.string ⟨s.toArray⟩,.pointer (some ⟨b,0,none⟩)] w fun e w'=>e= .returned (.bool ok)/\∃w1,Below w.heap.size w w1/\w'=if ok=true then w1.setCells α.block α.off [.string ⟨(y++s).toArray⟩] else w1
def x9 (P:Program) (t:TypeId) (ti:TI):Prop:=
 match ti.ty with
 | .bool=>P.underlying t=some .bool
 | .int k=>P.underlying t=some (.int k)
 | .str=>P.underlying t=some .string
 | .ref=> ∃e,P.underlying t=some (.pointer e)
 | .clo=> ∃a b c,P.underlying t=some (.func a b c)
 | .mp=>P.underlying t=some (.map ti.elem ti.bytes)
 | .rl _ _=> ∃e,P.underlying t=some (.slice e)
 | .fn=> ∃a b c,P.underlying t=some (.func a b c)
 | .mref=> ∃e,P.underlying t=some (.pointer e)
 | .ap=>(∃a b c,P.underlying t=some (.func a b c))/\a9E P
 | .list u=>P.underlying t=some (.slice ti.elem)/\(P.info? ti.elem).map (fun i=>(i.size,i.bytes,i.zero))=some (u.cells,ti.bytes,some (xT u))/\(P.underlying ti.elem).map (·.isRow)=some u.isRow
 |ty=>((ti.arr=false/\∃fs,P.underlying t=some (.struct fs)/\ND P ty 0 fs.toList)\/(ti.arr=true/\∃n e,P.underlying t=some (.array n e)/\QA P e ty n/\(P.info? e).isSome=true))/\(ti.bytes=1->P.eqGuardType P.depth t=false/\∃h,h<9000/\yP P h (.ty t) ty)
def tI (P:Program) (t:TypeId) (ti:TI):Prop:=(P.info? t).map (fun i=>(i.size,i.zero))=some (ti.ty.cells,some (xT ti.ty))/\x9 P t ti
def xA (P:Program):sS->Prop
 |[]=>True
 |(t,ti)::r=>tI P t ti/\xA P r
theorem sZ {P:Program}: ∀{T:sS},xA P T->∀{t:TypeId}{ti:TI},rR T t=some ti->tI P t ti
 |[],_,_,_,h=>by simp [rR] at h
 |(k,ti)::r,hT,t,ti',h=>by
  simp only[rR] at h;by_cases hk:k=t
  .rw[aSn hk] at h;subst hk;rw[<-aSr h];exact hT.1
  rw[aSo hk] at h;exact sZ hT.2 h
theorem DS (g:Gh) (w:q9): ∀t:Ty,Rd g w t t.zero (tX t)
 | .bool=>rfl
 | .int _=>rfl
 | .str=>rfl
 | .list _=>⟨none,0,rfl,aSJ _,.inl rfl⟩
 | .unit=>rfl
 | .pair a b=>⟨_,_,rfl,DS g w a,DS g w b⟩
 | .ref=>rfl
 | .clo=>rfl
 | .mp=>rfl
 | .rl _ _=>rfl
 | .fn=>rfl
 | .mref=>rfl
 | .ap=> .inl ⟨rfl,rfl⟩
theorem L1 (g:Gh) (w:q9) (t:Ty):tB g w t t.zero (xT t):=by
 unfold tB xT;by_cases h:t.isRow=true
 .left;rw[aSn h];exact⟨h,_,rfl,DS g w t⟩
 right;rw[aSo h];refine⟨by simpa using h,?_⟩;cases t<;>first|exact DS g w _|(simp [Ty.isRow] at h)
theorem F7 {g:Gh}{w:q9}{t:Ty}{x:t.den}{v:qB}(h:tB g w t x v):Rd g w t x v.cells.toList:=by
 rcases h with⟨_,cs,rfl,r⟩ |⟨hr,r⟩
 .simpa[Value.cells] using r
 have h1:=A1 r v pS;have:v.cells= #[v]:=by cases v<;>first|rfl|(simp [Value.oneCell'] at h1)
 rw[this];exact r
theorem xB {g:Gh}{w:q9}{t:Ty}{x:t.den}{v:qB}(hr:t.isRow=false) (h:tB g w t x v):Rd g w t x [v]:=by
 rcases h with⟨h1,_⟩ |⟨_,r⟩
 .rw[hr] at h1;cases h1
 exact r
theorem vX {g:Gh}{w:q9}{k:IntKind}{n:Int}{v:qB}(h:tB g w (.int k) n v):v= .int k n:=by
 have:=xB rfl h;simp only[Rd,aS8,and_true] at this;exact this
theorem vF {g:Gh}{w:q9}{n:Bool}{v:qB}(h:tB g w .bool n v):v= .bool n:=by
 have:=xB rfl h;simp only[Rd,aS8,and_true] at this;exact this
theorem wI {g:Gh}{w:q9}{l:pM}{v:qB}(h:tB g w .str l v):v= .string ⟨l.toArray⟩:=by
 have:=xB rfl h;simp only[Rd,aS8,and_true] at this;exact this
theorem DT {g:Gh}{w:q9}{t:Ty}{l:List t.den}{v:qB}(h:tB g w (.list t) l v): ∃a cap,v= .slice a l.length cap/\l.length<=cap/\(l=[]\/∃b o,a=some ⟨b,o,none⟩/\yC (Rd g w t) w g.S t.cells b o l):=by
 have:=xB rfl h;obtain⟨a,cap,e,h1,h2⟩:=this;simp only[aS8,and_true] at e;exact⟨a,cap,e,h1,h2⟩
theorem xC {g:Gh}{w:q9}{i o:Nat}{v:qB}(h:tB g w .ref (some (i,o)) v): ∃p,g.J i=some p/\v= .pointer (some ⟨p.1,p.2+o,none⟩):=by
 have:=xB rfl h;obtain⟨p,h1,e⟩:=this;simp only[aS8,and_true] at e;exact⟨p,h1,e⟩
theorem L2 {g:Gh}{w:q9}{t:Ty}{x:t.den}{v:qB}(hr:t.isRow=true) (h:tB g w t x v): ∃cs:pX,v= .agg cs.toArray/\Rd g w t x cs:=by
 rcases h with⟨_,r⟩ |⟨h1,_⟩
 .exact r
 rw[hr] at h1;cases h1
theorem wF (g:Gh) (w:q9) (k:IntKind) (n:Int):tB g w (.int k) n (.int k n):= .inr ⟨rfl,rfl⟩
theorem vG (g:Gh) (w:q9) (b:Bool):tB g w .bool b (.bool b):= .inr ⟨rfl,rfl⟩
theorem DB (g:Gh) (w:q9) (l:pM):tB g w .str l (.string ⟨l.toArray⟩):= .inr ⟨rfl,rfl⟩
def rH (P:Program) (o:Oper) (a:Act) (g:Gh) (w:q9) (H:s7) (e:qS):Prop:=
 ∀(K:Act->q9->Prop) (Q:Exit->Act->q9->Prop),(∀g' w' v,zQ g w H e g' w' v->K (a.put o.dst v) w')->o.wp P a w K Q
theorem rH.valueW {P:Program}{o:Oper}{a:Act}{g g':Gh}{w w':q9}{H:s7}{e:qS}{v:qB}(hr:(execOp a.eval o).run P w= .ok (.value v) w') (h:zQ g w H e g' w' v):rH P o a g w H e:=by
 intro K Q hK;unfold Oper.wp;rw[hr];exact hK g' w' v h
theorem rH.skipW {P:Program}{o:Oper}{a:Act}{g g':Gh}{w w':q9}{H:s7}{e:qS}(hr:(execOp a.eval o).run P w= .ok .skip w') (h:zQ g w H e g' w' undef):rH P o a g w H e:=by
 intro K Q hK;unfold Oper.wp;rw[hr];exact hK g' w' undef h
theorem rH.value {P:Program}{o:Oper}{a:Act}{g g':Gh}{w w':q9}{H:s7}{e:qS}{v:qB}(hr:(execOp a.eval o).run P w= .ok (.value v) w') (h:rL g w H e g' w' v):rH P o a g w H e:= .valueW hr h.w
theorem rH.skip {P:Program}{o:Oper}{a:Act}{g g':Gh}{w w':q9}{H:s7}{e:qS}(hr:(execOp a.eval o).run P w= .ok .skip w') (h:rL g w H e g' w' undef):rH P o a g w H e:= .skipW hr h.w
theorem rH.pure {P:Program}{o:Oper}{a:Act}{g:Gh}{w:q9}{H:s7}{side:List Prop}{d:DV}{rds:q8}{v:qB}(hH:sE g w H) (hr:(execOp a.eval o).run P w= .ok (.value v) w) (h:yO g w d v):
  rH P o a g w H ⟨side,(d,none),[],rds⟩:= .value hr (.pure hH ⟨h,trivial⟩)
section
variable {P:Program}{o:Oper}{a:Act}{g:Gh}{w:q9}{H:s7}
theorem US {g:Gh}{w:q9}{k:IntKind}(q:Int) (hq: ∀p∈(K5 k q).1,p):yO g w (K5 k q).2 (.int k (k.wrap q)):=by
 cases k<;>simp only[K5] at hq|- <;>first|exact wF _ _ _ _|skip
 have h0:=hq _ (aSI.2 rfl);rw[show IntKind.i64.wrap q=q from IntWalk.i64_in q pQ];exact wF _ _ _ _
theorem aIg (g:Gh) {op:BinOp}{xt:TypeId}{x y:Operand}{k:IntKind}{m n:Int}{r:List Prop×DV}(hr:YL k m n op=some r) (hs: ∀p∈r.1,p):
  ∃v,(do eqGuard op xt x y (.int k m) (.int k n);Go.binOp op xt (.int k m) (.int k n):Sem qB).run P w= .ok v w/\yO g w r.2 v:=by
 cases op<;>simp only[YL,aSm,reduceCtorEq] at hr
 all_goals subst hr
 case add=>exact⟨.int k (k.wrap _),by simp [eqGuard,Go.binOp,Op.intArith],US _ hs⟩
 case sub=>exact⟨.int k (k.wrap _),by simp [eqGuard,Go.binOp,Op.intArith],US _ hs⟩
 case mul=>exact⟨.int k (k.wrap _),by simp [eqGuard,Go.binOp,Op.intArith],US _ hs⟩
 case eql=>exact⟨.bool (decide (m=n)),by simp [eqGuard,Go.binOp,Op.intCmp];rfl,vG _ _ _⟩
 case neq=>exact⟨.bool (!decide (m=n)),by simp [eqGuard,Go.binOp,Op.intCmp,bne];rfl,vG _ _ _⟩
 case lss=>exact⟨.bool (decide _),by simp [eqGuard,Go.binOp,Op.intCmp],vG _ _ _⟩
 case leq=>exact⟨.bool (decide _),by simp [eqGuard,Go.binOp,Op.intCmp],vG _ _ _⟩
 case gtr=>exact⟨.bool (decide (n<m)),by simp [eqGuard,Go.binOp,Op.intCmp],vG _ _ _⟩
 case geq=>exact⟨.bool (decide (n<=m)),by simp [eqGuard,Go.binOp,Op.intCmp],vG _ _ _⟩
 case quo=>
  have h0:=hs _ (aSI.2 rfl);exact⟨.int k (k.wrap (Int.tdiv m n)),by simp [eqGuard,Go.binOp,Op.intDiv,h0],wF _ _ _ _⟩
 case rem=>
  have h0:=hs _ (aSI.2 rfl);exact⟨.int k (Int.tmod m n),by simp [eqGuard,Go.binOp,Op.intDiv,h0],wF _ _ _ _⟩
 case and=>exact⟨.int k (bits .and k m n),by simp [eqGuard,Go.binOp,intBits_and],wF _ _ _ _⟩
 case or=>exact⟨.int k (bits .or k m n),by simp [eqGuard,Go.binOp,intBits_or],wF _ _ _ _⟩
 case xor=>exact⟨.int k (bits .xor k m n),by simp [eqGuard,Go.binOp,intBits_xor],wF _ _ _ _⟩
 case andNot=>exact⟨.int k (bits .andNot k m n),by simp [eqGuard,Go.binOp,intBits_andNot],wF _ _ _ _⟩
theorem QB (m n:pM):(m==n)=decide (m=n):=by rw[aUf];simp
theorem aIh (g:Gh) {op:BinOp}{xt:TypeId}{x y:Operand}{m n:pM}{r:List Prop×DV}(hr:YN m n op=some r) (hs: ∀p∈r.1,p):
  ∃v,(do eqGuard op xt x y (.string ⟨m.toArray⟩) (.string ⟨n.toArray⟩);Go.binOp op xt (.string ⟨m.toArray⟩) (.string ⟨n.toArray⟩):Sem qB).run P w= .ok v w/\yO g w r.2 v:=by
 have hl: ∀l:pM,(⟨l.toArray⟩:ByteArray).size=l.length:=fun l=>by simp [ByteArray.size]
 cases op<;>simp only[YN,aSm,reduceCtorEq] at hr
 all_goals subst hr
 case add=>
  have h0:=hs _ (aSI.2 rfl);refine⟨.string ⟨(m++n).toArray⟩,?_,DB _ _ _⟩;rw[aSp] at h0;have h1: ¬(((⟨m.toArray⟩:ByteArray).size+(⟨n.toArray⟩:ByteArray).size:Nat):Int) >IntKind.i64.max:=by rw[hl,hl,show IntKind.i64.max=9223372036854775807 from by decide];omega
  simp only[eqGuard,Go.binOp,Op.stringOp,aSz,aSo h1];simp;rfl
 case eql=>exact⟨.bool (decide (m=n)),by simp [eqGuard,Go.binOp,Op.stringOp,QB],vG _ _ _⟩
 case neq=>exact⟨.bool (!decide (m=n)),by simp [eqGuard,Go.binOp,Op.stringOp,QB],vG _ _ _⟩
 case lss=>exact⟨.bool (Op.bytesLess m n),by simp [eqGuard,Go.binOp,Op.stringOp],vG _ _ _⟩
 case leq=>exact⟨.bool (Op.bytesLess m n||decide (m=n)),by simp [eqGuard,Go.binOp,Op.stringOp,QB],vG _ _ _⟩
 case gtr=>exact⟨.bool (!(Op.bytesLess m n||decide (m=n))),by simp [eqGuard,Go.binOp,Op.stringOp,QB],vG _ _ _⟩
 case geq=>exact⟨.bool (!Op.bytesLess m n),by simp [eqGuard,Go.binOp,Op.stringOp],vG _ _ _⟩
theorem IJ {r:Option (List Prop×DV)}{e:qS}(h:AK r=some e): ∃q,r=some q/\e=⟨q.1,(q.2,none),[],[]⟩:=by
 cases r with
 |none=>cases h
 |some q=>obtain⟨p,d⟩:=q;exact⟨(p,d),rfl,(aSr h).symm⟩
theorem aIi (hH:sE g w H) {op:BinOp}{xt yt:TypeId}{x y:Operand}(ho:o.op= .binOp op xt x y yt) {sx sy:qM}(hx:rO g w sx (a.eval x)) (hy:rO g w sy (a.eval y)) {e:qS}
  (hr:AK (SQ op sx sy)=some e) (hs: ∀p∈e.side,p):rH P o a g w H e:=by
 obtain⟨q,hq,rfl⟩:=IJ hr;have go: ∀{u v:qB},a.eval x=u->a.eval y=v->(∃z,(do eqGuard op xt x y u v;Go.binOp op xt u v:Sem qB).run P w= .ok z w/\yO g w q.2 z)->rH P o a g w H ⟨q.1,(q.2,none),[],[]⟩:=by
  rintro u v rfl rfl ⟨z,hz,hd⟩;refine rH.pure hH (v:=z) ?_ hd;unfold execOp;rw[ho];simp only[aSz,aSN] at hz|-;rw[hz];rfl
 obtain⟨dx,kx⟩:=sx;obtain⟨dy,ky⟩:=sy;replace hx:=hx.1;replace hy:=hy.1;unfold SQ at hq;split at hq
 .rename_i k m k1 k' n k2 e1 e2;simp only[aSQ] at e1 e2;obtain⟨rfl,-⟩:=e1;obtain⟨rfl,-⟩:=e2;unfold a8J at hq;split at hq
  .cases hq;have h0:=hs _ (aSI.2 rfl);exact go (vX hx) (vX hy) ⟨.int k (YM k m n),by simp [eqGuard,Go.binOp,Op.shift,YM,Int.not_lt.2 h0],wF _ _ _ _⟩
  .cases hq;have h0:=hs _ (aSI.2 rfl);exact go (vX hx) (vX hy) ⟨.int k (y9 k m n),by simp [eqGuard,Go.binOp,Op.shift,y9,Int.not_lt.2 h0],wF _ _ _ _⟩
  by_cases hk:k=k'
  .subst hk;rw[aSn rfl] at hq;exact go (vX hx) (vX hy) (aIg g hq hs)
  rw[aSo hk] at hq;cases hq
 .rename_i m k1 n k2 e1 e2;simp only[aSQ] at e1 e2;obtain⟨rfl,-⟩:=e1;obtain⟨rfl,-⟩:=e2;exact go (wI hx) (wI hy) (aIh g hq hs)
 cases hq
theorem aIj (hH:sE g w H) {op:BinOp}{xt yt:TypeId}{x y:Operand}(ho:o.op= .binOp op xt x y yt) {ti:Option TI}{sx sy:qM}(hx:rO g w sx (a.eval x)) (hy:rO g w sy (a.eval y)) {e:qS}
  (hr:AK (SR op ti sx sy)=some e):rH P o a g w H e:=by
 obtain⟨q,hq,rfl⟩:=IJ hr;unfold SR at hq;split at hq
 .rename_i k m _ k' n _;by_cases hk:k=k'
  .subst hk;rw[aSn rfl] at hq;have hx1:=vX hx.1;have hy1:=vX hy.1;cases op<;>simp only[a8K,aSm,reduceCtorEq] at hq
   all_goals subst hq
   all_goals refine rH.pure hH (v:= .int k (k.wrap _)) ?_ (wF _ _ _ _)
   all_goals
    unfold execOp;rw[ho];simp [hx1,hy1,eqGuard,Go.binOp,Op.intArith]
  rw[aSo hk] at hq;cases hq
 cases hq
theorem aIk (hH:sE g w H) {op:UnOp}{xt:TypeId}{x:Operand}(ho:o.op= .unOp op xt x) {sx:qM}(hx:rO g w sx (a.eval x)) {e:qS}
  (hr:AK (YQ op sx)=some e) (hs: ∀p∈e.side,p):rH P o a g w H e:=by
 obtain⟨q,hq,rfl⟩:=IJ hr;replace hx:=hx.1;unfold YQ at hq;split at hq
 .have:=vF hx;cases hq;refine rH.pure hH (v:= .bool _) ?_ (vG _ _ _);simp [execOp,ho,this,Op.unary]
 .rename_i k n _;have:=vX hx;cases hq;refine rH.pure hH (v:= .int k (k.wrap (-n))) ?_ (US _ hs);simp [execOp,ho,this,Op.unary,Op.intArith]
 cases hq
theorem UT {t:TypeId}{ti:TI}(h:tI P t ti): ∃d,P.underlying t=some d/\d.isRow=ti.ty.isRow:=by
 have h2:=h.2;unfold x9 at h2;obtain⟨ty,el,by',ar,ls⟩:=ti;cases ty<;>simp only at h2
 case bool=>exact⟨_,h2,rfl⟩
 case int=>exact⟨_,h2,rfl⟩
 case str=>exact⟨_,h2,rfl⟩
 case list=>exact⟨_,h2.1,rfl⟩
 case ref=>obtain⟨e,h⟩:=h2;exact⟨_,h,rfl⟩
 case clo=>obtain⟨a,b,c,h⟩:=h2;exact⟨_,h,rfl⟩
 case mp=>exact⟨_,h2,rfl⟩
 case rl=>obtain⟨e,h⟩:=h2;exact⟨_,h,rfl⟩
 case fn=>obtain⟨a,b,c,h⟩:=h2;exact⟨_,h,rfl⟩
 case ap=>obtain⟨⟨a,b,c,h⟩,_⟩:=h2;exact⟨_,h,rfl⟩
 case mref=>obtain⟨e,h⟩:=h2;exact⟨_,h,rfl⟩
 all_goals
  rcases h2.1 with⟨_,fs,h,_⟩ |⟨_,n,e,h,_⟩
  .exact⟨_,h,rfl⟩
  exact⟨_,h,rfl⟩
theorem DU {t:TypeId}{ti:TI}(h:tI P t ti): ∃i,P.info? t=some i/\i.size=ti.ty.cells/\i.zero=some (xT ti.ty):=by
 obtain⟨i,hi,he⟩:=aSE.1 h.1;simp only[aSQ] at he;exact⟨i,hi,he.1,he.2⟩
theorem aIl {T:sS}(hT:xA P T) (hH:sE g w H) {st dt:TypeId}{x:Operand}(ho:o.op= .convert st dt x) {sx:qM}(hx:rO g w sx (a.eval x)) {e:qS}
  (hr:AK (ST (rR T st) (rR T dt) sx)=some e):rH P o a g w H e:=by
 obtain⟨q,hq,rfl⟩:=IJ hr;replace hx:=hx.1;generalize hs:rR T st=os at hq;generalize hd:rR T dt=od at hq;unfold ST at hq;split at hq
 .rename_i k' k _ _ _ _ k0 n _;obtain⟨d,hd1,_⟩:=UT (sZ hT hs);have hd2:=(sZ hT hd).2;simp only[x9] at hd2;have:=vX hx;cases hq;refine rH.pure hH (v:= .int k (k.wrap n)) ?_ (wF _ _ _ _);simp [execOp,ho,this,Go.convert,aSK hd1,aSK hd2,Conv.intToInt]
 .rename_i k' _ _ _ _ s _;obtain⟨d,hd1,_⟩:=UT (sZ hT hs);have hd2:=(sZ hT hd).2;simp only[x9] at hd2;have:=wI hx;cases hq;refine rH.pure hH (v:= .string ⟨List.toArray s⟩) ?_ (DB _ _ _);simp [execOp,ho,this,Go.convert,aSK hd1,aSK hd2]
 cases hq
theorem NE {α:Type}{R:α->pX->Prop}{w:q9}{S:Nat->Nat->Prop}{c b:Nat}: ∀{l:List α}{o i:Nat}{x:α},yC R w S c b o l->l[i]? =some x->
  ∃cs,cs.length=c/\w.rangeAt b (o+i*c) cs/\(∀j,j<c->S b (o+i*c+j))/\R x cs
 |y::l,o,0,x,⟨⟨cs,h1,h2,h3,h4⟩,_⟩,h=>by
  simp only[aSX,aSm] at h;subst h;exact⟨cs,h1,by simpa using h2,by simpa using h3,h4⟩
 |y::l,o,i+1,x,⟨_,h5⟩,h=>by
  simp only[aS6] at h;obtain⟨cs,h1,h2,h3,h4⟩:=NE h5 h;have e:o+c+i*c=o+(i+1)*c:=by rw[aTy];omega
  exact⟨cs,h1,by rw[<-e];exact h2,by rw[<-e];exact h3,h4⟩
theorem a9F {α:Type}{R:α->pX->Prop}{w:q9}{S:Nat->Nat->Prop}{c b:Nat}: ∀{l:List α}{o:Nat}(i:Nat),yC R w S c b o l->i<=l.length->yC R w S c b (o+i*c) (l.drop i)
 |_,o,0,h,_=>by simpa using h
 |[],o,i+1,_,h=>by simp at h
 |y::l,o,i+1,⟨_,h5⟩,h=>by
  have:=a9F i h5 (by simpa using h);have e:o+c+i*c=o+(i+1)*c:=by rw[aTy];omega
  rw[<-e];simpa using this
theorem a9G {α:Type}{R:α->pX->Prop}{w:q9}{S:Nat->Nat->Prop}{c b:Nat}: ∀{l:List α}{o:Nat}(i:Nat),yC R w S c b o l->yC R w S c b o (l.take i)
 |_,_,0,_=>by simp [yC]
 |[],_,_+1,_=>by simp [yC]
 |_::_,_,i+1,⟨h,h5⟩=>by simpa[yC] using⟨h,a9G i h5⟩
theorem a0t {g:Gh}{w:q9}: ∀{t:Ty}{x:t.den}{cs:pX}{f:Nat}{u:Ty}{y:u.den},Rd g w t x cs->t.proj x f=some ⟨u,y⟩->
  ∃o c1 c2 c3,t.offs f=some o/\t.fld f=some u/\cs=c1++c2++c3/\c1.length=o/\Rd g w u y c2:=by
 intro t
 induction t with
 |pair a b _ ihb=>
  intro x cs f u y r h;obtain⟨c1,c2,e,r1,r2⟩:=r;cases f with
  |zero=>
   simp only[Ty.proj,aSm,Sigma.mk.injEq] at h;obtain⟨rfl,h2⟩:=h;obtain rfl:=eq_of_heq h2;exact⟨0,[],c1,c2,rfl,rfl,by simpa using e,rfl,r1⟩
  |succ f=>
   simp only[Ty.proj] at h;obtain⟨o,d1,d2,d3,h1,h2,h3,h4,h5⟩:=ihb r2 h;refine⟨a.cells+o,c1++d1,d2,d3,by simp [Ty.offs,h1],by simpa[Ty.fld] using h2,by rw[e,h3];simp,?_,h5⟩;rw[aSp,h4,sV r1]
 |_=>intro x cs f u y r h;cases f<;>simp [Ty.proj] at h
theorem a0u {P:Program}: ∀{ty:Ty}{off:Nat}{fs:List Field}{f o:Nat}{u:Ty},ND P ty off fs->ty.offs f=some o->ty.fld f=some u->
  ∃fd,fs[f]? =some fd/\fd.offset=off+o/\(P.info? fd.type).map (·.size)=some u.cells/\(P.underlying fd.type).map (·.isRow)=some u.isRow:=by
 intro ty
 induction ty with
 |pair a b _ ihb=>
  intro off fs f o u h ho hu;cases fs with
  |nil=>exact h.elim
  |cons fd fs=>
   obtain⟨h1,h2,h3,h4⟩:=h;cases f with
   |zero=>
    simp only[Ty.offs,aSm] at ho;simp only[Ty.fld,aSm] at hu;subst ho;subst hu;exact⟨fd,rfl,pQ,h2,h3⟩
   |succ f=>
    simp only[Ty.offs,aSE] at ho;obtain⟨o',ho',rfl⟩:=ho;obtain⟨fd',k1,k2,k3,k4⟩:=ihb h4 ho' hu;exact⟨fd',by simpa using k1,pQ,k3,k4⟩
 |_=>intro off fs f o u h ho hu;cases f<;>simp [Ty.offs] at ho
theorem a0v {P:Program}{e:TypeId}: ∀{ty:Ty}{n f o:Nat}{u:Ty},QA P e ty n->ty.offs f=some o->ty.fld f=some u->
  f<n/\(P.info? e).map (·.size)=some u.cells/\(P.underlying e).map (·.isRow)=some u.isRow/\o=f*u.cells:=by
 intro ty
 induction ty with
 |pair a b _ ihb=>
  intro n f o u h ho hu;cases n with
  |zero=>exact h.elim
  |succ n=>
   obtain⟨h2,h3,h4⟩:=h;cases f with
   |zero=>
    simp only[Ty.offs,aSm] at ho;simp only[Ty.fld,aSm] at hu;subst ho;subst hu;exact⟨pQ,h2,h3,by simp⟩
   |succ f=>
    simp only[Ty.offs,aSE] at ho;obtain⟨o',ho',rfl⟩:=ho;obtain⟨k1,k2,k3,k4⟩:=ihb h4 ho' hu;rw[h2] at k2;have hc:a.cells=u.cells:=aSr k2;exact⟨pQ,by rw[h2,hc],k3,by rw[k4,hc,aTy];omega⟩
 |_=>intro n f o u h ho hu;cases f<;>simp [Ty.offs] at ho
theorem QC {t:TypeId}{u:Ty}(hi:(P.info? t).map (·.size)=some u.cells) (hr:(P.underlying t).map (·.isRow)=some u.isRow) {y:u.den}{c1 c2 c3:pX}(h:Rd g w u y c2):
  ∃v,(part t (c1++c2++c3).toArray c1.length).run P w= .ok v w/\tB g w u y v:=by
 obtain⟨i,hi,hsz⟩:=aSE.1 hi;obtain⟨d,hd,hrow⟩:=aSE.1 hr;have hl:=sV h;by_cases hu:u.isRow=true
 .refine⟨.agg c2.toArray,?_,.inl ⟨hu,c2,rfl,h⟩⟩;have hagg:(isAgg t).run P w= .ok true w:=by
   unfold isAgg;rw[aSz,aSK hd w];rw[hu] at hrow;cases d<;>simp_all [TypeDesc.isRow]
  simp only[part,aSz,hagg,aSu,aTW,sizeOf,typeInfo,aTg,hi,hsz,aSN];congr 2;apply aTt.1;simp [<-hl]
 have hu':u.isRow=false:=by simpa using hu
 have h1:u.cells=1:=by cases u<;>first|rfl|(simp [Ty.isRow] at hu')
 obtain⟨v,rfl⟩: ∃v,c2=[v]:=by
  rw[h1] at hl;exact aTF.1 hl
 refine⟨v,?_,.inr ⟨hu',h⟩⟩;have hagg:(isAgg t).run P w= .ok false w:=by
  unfold isAgg;rw[aSz,aSK hd w];rw[hu'] at hrow;cases d<;>simp_all [TypeDesc.isRow]
 simp only[part,aSz,hagg,aSu];simp
theorem a0w {t:TypeId}{ti:TI}(h:tI P t ti) (hr:ti.ty.isRow=true):
  (ti.arr=false/\∃fs,P.underlying t=some (.struct fs)/\ND P ti.ty 0 fs.toList)\/(ti.arr=true/\∃n e,P.underlying t=some (.array n e)/\QA P e ti.ty n/\(P.info? e).isSome=true):=by
 have h2:=h.2;unfold x9 at h2;obtain⟨ty,el,by',ar,ls⟩:=ti;cases ty<;>simp only[Ty.isRow,aTO] at hr<;>exact h2.1
theorem a9H {t:TypeId}{ti:TI}(h:tI P t ti) (hr:ti.ty.isRow=true) (ha:ti.arr=false): ∃fs,P.underlying t=some (.struct fs)/\ND P ti.ty 0 fs.toList:=by
 rcases a0w h hr with⟨_,h⟩ |⟨h,_⟩
 .exact h
 rw[ha] at h;cases h
theorem a9I {t:TypeId}{ti:TI}(h:tI P t ti) (hr:ti.ty.isRow=true) (ha:ti.arr=true): ∃n e,P.underlying t=some (.array n e)/\QA P e ti.ty n/\(P.info? e).isSome=true:=by
 rcases a0w h hr with⟨h,_⟩ |⟨_,h⟩
 .rw[ha] at h;cases h
 exact h
theorem aIm {t:Ty}{x:t.den}{f:Nat}{q: Σ u:Ty,u.den}(h:t.proj x f=some q):t.isRow=true:=by
 cases t<;>first|rfl|(cases f<;>simp [Ty.proj] at h)
theorem aIn {t:Ty}{f o:Nat}(h:t.offs f=some o):t.isRow=true:=by
 cases t<;>first|rfl|(cases f<;>simp [Ty.offs] at h)
end
theorem aIo (l:pM) (n:Nat) (h:n<l.length):(⟨l.toArray⟩:ByteArray)[n]? =some l[n]:=by
 have:n<(⟨l.toArray⟩:ByteArray).size:=by simpa[ByteArray.size] using h
 rw[getElem?_pos (⟨l.toArray⟩:ByteArray) n this];rfl
theorem xU {i:Int}{n:Nat}(h0:0<=i) (h1:i<n):i.toNat<n:=by omega
theorem a9J {i:Int}{n:Nat}(h0:0<=i) (h1:i.toNat<n):i<n:=by omega
section
variable {P:Program}{o:Oper}{a:Act}{g:Gh}{w:q9}{H:s7}{T:sS}(hT:xA P T) (hH:sE g w H)
include hT hH
theorem aIp {t:TypeId}{x:Operand}{f:Nat}(ho:o.op= .field t x f) {sx:qM}(hx:rO g w sx (a.eval x)) {e:qS}(hr:ZQ f (rR T t) sx=some e):rH P o a g w H e:=by
 generalize hs:rR T t=ot at hr;replace hx:=hx.1;unfold ZQ at hr;split at hr
 .rename_i ty el by' ls_ u y _;split at hr
  .rename_i hu;subst hu;have hty:=sZ hT hs;generalize hp:u.proj y f=q at hr;cases q with
   |none=>cases hr
   |some q=>
    obtain⟨u,z⟩:=q;cases hr;have hrow:=aIm hp;obtain⟨cs,hv,hR⟩:=L2 hrow hx;obtain⟨oo,c1,c2,c3,h1,h2,rfl,rfl,h5⟩:=a0t hR hp;obtain⟨fs,hfs,hfe⟩:=a9H hty hrow rfl;obtain⟨fd,k1,k2,k3,k4⟩:=a0u hfe h1 h2;obtain⟨v,hv1,hv2⟩:=QC k3 k4 (P:=P) (c1:=c1) (c3:=c3) h5;refine rH.pure hH (v:=v) ?_ hv2;have k1':fs[f]? =some fd:=by simpa using k1
    simp only[execOp,ho,hv,Instr.field,aSz,aSK hfs,aSu,k1',asAgg,aSN,k2,aSU,hv1]
  cases hr
 cases hr
theorem a0x {t:TypeId}{ti:TI}(hty:tI P t ti) (har:ti.arr=false) {f oo:Nat}{u:Ty}(h1:ti.ty.offs f=some oo) (h2:ti.ty.fld f=some u) (hpos:0<u.cells) (b off:Nat):
  (Instr.fieldAt t (.pointer (some ⟨b,off,none⟩)) f).run P w= .ok (.pointer (some ⟨b,off+oo,none⟩)) w:=by
 obtain⟨fs,hfs,hfe⟩:=a9H hty (aIn h1) har;obtain⟨fd,k1,k2,k3,k4⟩:=a0u hfe h1 h2;obtain⟨i,hi,hsz⟩:=aSE.1 k3;have k1':fs[f]? =some fd:=by simpa using k1
 have hne: ¬(u.cells=0):=by omega
 simp only[Instr.fieldAt,aSz,aSK hfs,aSu,k1',Instr.sureAddr,aSN,fieldPlace,sizeOf,typeInfo,aTg,hi,hsz,aSo hne,k2,aSU,aTA]
theorem aIq {t:TypeId}{x:Operand}{f:Nat}(ho:o.op= .fieldAddr t x f) {sx:qM}(hx:rO g w sx (a.eval x)) {e:qS}(hr:ZP f (rR T t) sx=some e):rH P o a g w H e:=by
 generalize hs:rR T t=ot at hr;replace hx:=hx.1;unfold ZP at hr;split at hr
 .rename_i ty el by' ls_ k n c i o' _;have hty:=sZ hT hs;generalize h1:ty.offs f=o1 at hr;generalize h2:ty.fld f=o2 at hr;unfold a9e at hr;split at hr
  .split at hr
   .rename_i oo u hpos;cases hr;obtain⟨b,cap,hc,hi0,hi1,hv⟩:=hx;refine rH.pure hH (v:= .pointer (some ⟨b,i.toNat*c+o'+oo,none⟩)) ?_ ⟨b,cap,hc,hi0,hi1,by rw[aS5]⟩;simp only[execOp,ho,hv,aSz,a0x hT hH hty rfl h1 h2 hpos,aSu,aSN]
   cases hr
  cases hr
 .rename_i ty el by' ls_ u y _;split at hr
  .rename_i hu;subst hu;have hty:=sZ hT hs;generalize hp:u.proj y f=q at hr;cases q with
   |none=>cases hr
   |some q=>
    obtain⟨u,z⟩:=q;simp only[TX] at hr;split at hr
    .rename_i hpos;cases hr;obtain⟨b,off,cs,hv,hra,hS,hR⟩:=hx;obtain⟨oo,c1,c2,c3,h1,h2,rfl,rfl,h5⟩:=a0t hR hp;refine rH.pure hH (v:= .pointer (some ⟨b,off+c1.length,none⟩)) ?_ ⟨b,off+c1.length,c2,rfl,fun j v hj=>?_,fun j hj=>?_,h5⟩
     .simp only[execOp,ho,hv,aSz,a0x hT hH hty rfl h1 h2 hpos,aSu,aSN]
     .have:=hra (c1.length+j) v (by
       have hj':=(aSD.1 hj).1;rw[aSB,aSw pQ,aTb,aSG hj'];exact hj)
      rw[aS5];exact this
     have:=hS (c1.length+j) (by
      have:=sV hR;have h6:=sV h5;simp only[aSp] at this;omega)
     rw[aS5];exact this
    cases hr
  cases hr
 .rename_i ty el by' ls_ i off _;have hty:=sZ hT hs;generalize h1:ty.offs f=o1 at hr;generalize h2:ty.fld f=o2 at hr;unfold TY at hr;split at hr
  .split at hr
   .rename_i oo u hpos;cases hr;obtain⟨p,hp,hv⟩:=xC hx;refine rH.pure hH (v:= .pointer (some ⟨p.1,p.2+off+oo,none⟩)) ?_ (.inr ⟨rfl,p,hp,by rw[aS5]⟩);simp only[execOp,ho,hv,aSz,a0x hT hH hty rfl h1 h2 hpos,aSu,aSN]
   cases hr
  cases hr
 cases hr
theorem aIr {x:Operand}{i:Nat}(ho:o.op= .extract x i) {sx:qM}(hx:rO g w sx (a.eval x)) {e:qS}(hr:ZT i sx=some e) (hs: ∀p∈e.side,p):rH P o a g w H e:=by
 replace hx:=hx.1;unfold ZT at hr;split at hr
 rotate_left
 .rename_i b p c _;have run: ∀(v:qB) (vs:Array qB),a.eval x= .tuple vs->vs[i]? =some v->(execOp a.eval o).run P w= .ok (.value v) w:=by
   intro v vs h1 h2;simp [execOp,ho,h1,Instr.extract,h2]
  obtain⟨h1,h2⟩:=hx;unfold a9f at hr;split at hr
  .cases hr;cases b with
   |true=>exact rH.pure hH (run (.bool true) _ (h1 rfl) rfl) (vG _ _ _)
   |false=>exact rH.pure hH (run (.bool false) _ (h2 rfl) rfl) (vG _ _ _)
  .cases hr;have hb:=hs (b=true) pS;exact rH.pure hH (run (.int .i64 p) _ (h1 hb) rfl) (wF _ _ _ _)
  .cases hr;have hb:=hs (b=true) pS;exact rH.pure hH (run (.int .i32 c) _ (h1 hb) rfl) (wF _ _ _ _)
  cases hr
 rotate_left
 .rename_i l _;obtain⟨vs,hv,hl⟩:=hx;have key: ∀(l:List ((Σ t:Ty,t.den)×pZ)) (vs:pX) (i:Nat),IH g w l vs->TZ l i=some e->∃v,vs[i]? =some v/\rO g w e.slot v/\e.upd=[]/\e.rds=[]:=by
   intro l
   induction l with
   |nil=>intro vs i _ h;cases i<;>cases h
   |cons q l ih=>
    obtain⟨⟨t,x⟩,k⟩:=q;rintro vs i ⟨v,vs',rfl,r1,r2,r3⟩ h;cases i with
    |zero=>
     simp only[TZ,aSm] at h;subst h;refine⟨v,rfl,?_,rfl,rfl⟩;have gen:rO g w (.val t x,k) v:=⟨r1,by
      cases k with
      |none=>trivial
      |some k=>exact r2⟩
     cases t with
     |rl e u=>
      cases x with
      |none=>exact⟨r1,trivial⟩
      |some q=>
       obtain⟨k',n⟩:=q;obtain⟨v',h1,h2,h3⟩:=xB rfl r1;simp only[aS8,and_true] at h2;subst h2;exact⟨⟨h1,h3⟩,trivial⟩
     |_=>exact gen
    |succ i=>
     obtain⟨v',h1,h2,h3,h4⟩:=ih vs' i r3 h;exact⟨v',by simpa using h1,h2,h3,h4⟩
  obtain⟨v,h1,h2,h3,h4⟩:=key l vs i hl hr;obtain⟨side,slot,upd,rds⟩:=e;simp only at h2 h3 h4;subst h3;refine rH.value (v:=v) (g':=g) (w':=w) ?_ (.pure hH h2);have:vs.toArray[i]? =some v:=by simpa using h1
  simp [execOp,ho,hv,Instr.extract,this]
 cases hr
theorem aIs {x:Operand}(ho:o.op= .nilCheck x) {sx:qM}(hx:rO g w sx (a.eval x)) {e:qS}(hr:ZO sx=some e):rH P o a g w H e:=by
 replace hx:=hx.1;unfold ZO at hr;split at hr
 .rename_i p _;obtain⟨i,off⟩:=p;cases hr;obtain⟨p,hp,hv⟩:=xC hx;refine rH.pure hH (v:=a.eval x) ?_ hx;simp [execOp,ho,hv]
 .cases hr;obtain⟨b,off,cs,hv,h⟩:=hx;refine rH.pure hH (v:=a.eval x) ?_ ⟨b,off,cs,hv,h⟩;simp [execOp,ho,hv]
 .cases hr;obtain⟨b,cap,h1,h2,h3,hv⟩:=hx;refine rH.pure hH (v:=a.eval x) ?_ ⟨b,cap,h1,h2,h3,hv⟩;simp [execOp,ho,hv]
 cases hr
theorem aIt {t:TypeId}{x ix:Operand}(ho:o.op= .index t x ix) {sx si:qM}(hx:rO g w sx (a.eval x)) (hi:rO g w si (a.eval ix)) {e:qS}(hr:ZS (rR T t) sx si=some e) (hs: ∀p∈e.side,p):rH P o a g w H e:=by
 generalize hst:rR T t=ot at hr;replace hx:=hx.1;replace hi:=hi.1;unfold ZS at hr;split at hr
 .rename_i _ _ _ _ l _ k i _;cases hr;have hb:=hs _ (aSI.2 rfl);have h2:=(sZ hT hst).2;simp only[x9] at h2;have hv:=wI hx;have hvi:=vX hi;have hlt:(Int.toNat i)<List.length l:=xU hb.1 hb.2;refine rH.pure hH (v:= .int .u8 (sH l i)) ?_ (wF _ _ _ _);have hget:(if (0:Int)<=i then(⟨List.toArray l⟩:ByteArray)[Int.toNat i]? else none)=some (l[Int.toNat i]):=by
   rw[aSn hb.1];exact aIo l _ hlt
  have hbyte:sH l i=((l[Int.toNat i]).toNat:Int):=by
   unfold sH;rw[aSO,aSv hlt];rfl
  simp only[execOp,ho,hv,hvi,Instr.index,asIntOf,aSz,aSN,aSu,aSK h2,hget,hbyte]
 cases hr
theorem aIu {t:TypeId}{x ix:Operand}(ho:o.op= .indexAddr t x ix) {sx si:qM}(hx:rO g w sx (a.eval x)) (hi:rO g w si (a.eval ix)) {e:qS}(hr:ZR (rR T t) sx si=some e) (hs: ∀p∈e.side,p):rH P o a g w H e:=by
 generalize hst:rR T t=ot at hr;replace hx:=hx.1;replace hi:=hi.1;unfold ZR at hr;split at hr
 .rename_i t' el by' ar ls_ k n _ k' i _;split at hr
  .rename_i hpos;cases hr;have hb:=hs _ (aSI.2 rfl);obtain⟨h2,h3,_⟩:=(sZ hT hst).2;obtain⟨ei,hei,hz⟩:=aSE.1 h3;simp only[aSQ] at hz;have hvi:=vX hi;obtain⟨hc,hv⟩:=hx;rcases hv with⟨_,rfl⟩ |⟨b,cap,hv,hcap⟩
   .exact absurd (Int.lt_of_le_of_lt hb.1 hb.2) (Int.lt_irrefl 0)
   refine rH.pure hH (v:= .pointer (some ⟨b,0+Int.toNat i*t'.cells,none⟩)) ?_ ⟨b,cap,by rw[<-hv];exact hc,hb.1,hb.2,by rw[aSU,aTv]⟩;simp only[execOp,ho,hv,hvi,Instr.indexAt,asIntOf,aSz,aSN,aSu,aSK h2,sizeOf,typeInfo,aTg,hei,hz.1,aSn hb,aTA]
  cases hr
 .rename_i t' el by' ar ls_ t1 l _ k i _;split at hr
  .rename_i htt;subst htt;cases hr;have hb:=hs _ (aSI.2 rfl);obtain⟨h2,h3,_⟩:=(sZ hT hst).2;obtain⟨ei,hei,hz⟩:=aSE.1 h3;simp only[aSQ] at hz;have hvi:=vX hi;obtain⟨ad,cap,hv,hle,hl⟩:=DT hx;have hlt:(Int.toNat i)<List.length l:=xU hb.1 hb.2;rcases hl with rfl|⟨b,off,rfl,hL⟩
   .simp at hlt
   have hnth:l[Int.toNat i]? =some (qT t1 l i):=by
    unfold qT;rw[aSO,aSv hlt];rfl
   obtain⟨cs,hc1,hc2,hc3,hc4⟩:=NE hL hnth;refine rH.pure hH (v:= .pointer (some ⟨b,off+Int.toNat i*t1.cells,none⟩)) ?_ ⟨b,_,cs,rfl,hc2,hc3,hc4⟩;simp only[execOp,ho,hv,hvi,Instr.indexAt,asIntOf,aSz,aSN,aSu,aSK h2,sizeOf,typeInfo,aTg,hei,hz.1,aSn hb,aTA]
  cases hr
 .rename_i s u el by' ls_ i off _ k n _;have hty:=sZ hT hst;generalize h1:(Ty.pair s u).offs (Int.toNat n)=o1 at hr;generalize h2:(Ty.pair s u).fld (Int.toNat n)=o2 at hr;unfold TY at hr;split at hr
  .split at hr
   .rename_i oo v hpos;cases hr;have hn0:=hs _ (aSI.2 rfl);obtain⟨p,hp,hv⟩:=xC hx;have hvi:=vX hi;obtain⟨len,el',hu,hel,_⟩:=a9I hty rfl rfl;obtain⟨k1,k2,k3,k4⟩:=a0v hel h1 h2;obtain⟨ei,hei,hz⟩:=aSE.1 k2;have hb:(0:Int)<=n/\(n:Int)<(len:Int):=⟨hn0,a9J hn0 k1⟩;refine rH.pure hH (v:= .pointer (some ⟨p.1,p.2+off+oo,none⟩)) ?_ (.inr ⟨rfl,p,hp,by rw[aS5]⟩);simp only[execOp,ho,hv,hvi,Instr.indexAt,Instr.sureAddr,asIntOf,aSz,aSN,aSu,aSK hu,sizeOf,typeInfo,aTg,hei,hz,aSn hb,aTA,k4]
   cases hr
  cases hr
 .rename_i s u el by' ls_ u' y _ k n _;split at hr
  .rename_i hu';subst hu';have hty:=sZ hT hst;generalize hp:(Ty.pair s u).proj y (Int.toNat n)=q at hr;cases q with
   |none=>cases hr
   |some q=>
    obtain⟨v,z⟩:=q;simp only[TX] at hr;split at hr
    .rename_i hpos;cases hr;have hn0:=hs _ (aSI.2 rfl);obtain⟨b,off,cs,hv,hra,hS,hR⟩:=hx;have hvi:=vX hi;obtain⟨oo,c1,c2,c3,h1,h2,rfl,rfl,h5⟩:=a0t hR hp;obtain⟨len,el',hu,hel,_⟩:=a9I hty rfl rfl;obtain⟨k1,k2,k3,k4⟩:=a0v hel h1 h2;obtain⟨ei,hei,hz⟩:=aSE.1 k2;have hb:(0:Int)<=n/\(n:Int)<(len:Int):=⟨hn0,a9J hn0 k1⟩;refine rH.pure hH (v:= .pointer (some ⟨b,off+c1.length,none⟩)) ?_ ⟨b,off+c1.length,c2,rfl,fun j v hj=>?_,fun j hj=>?_,h5⟩
     .simp only[execOp,ho,hv,hvi,Instr.indexAt,Instr.sureAddr,asIntOf,aSz,aSN,aSu,aSK hu,sizeOf,typeInfo,aTg,hei,hz,aSn hb,aTA,<-k4]
     .have:=hra (c1.length+j) v (by
       have hj':=(aSD.1 hj).1;rw[aSB,aSw pQ,aTb,aSG hj'];exact hj)
      rw[aS5];exact this
     have:=hS (c1.length+j) (by
      have:=sV hR;have h6:=sV h5;simp only[aSp] at this;omega)
     rw[aS5];exact this
    cases hr
  cases hr
 cases hr
end
theorem a9K (off:Nat): ∀(vl:pX) (k:Nat) (cs:Array qB) (c1 c2 c3:pX),cs.toList=c1++c2++c3->c1.length=off+k->c2.length=vl.length->
  ((vl.zipIdx k).foldl (fun(cs:Array qB) (p:qB×Nat)=>cs.setIfInBounds (off+p.2) p.1) cs).toList=c1++vl++c3
 |[],_,cs,c1,c2,c3,h,_,h2=>by
  have:c2=[]:=aSS (by simpa using h2);subst this;simpa using h
 |v::vl,k,cs,c1,c2,c3,h,h1,h2=>by
  cases c2 with
  |nil=>simp at h2
  |cons u c2=>
   simp only[List.zipIdx_cons,List.foldl_cons];have:=a9K off vl (k+1) (cs.setIfInBounds (off+k) v) (c1++[v]) c2 c3 (by
    rw[Array.toList_setIfInBounds,h,<-h1];simp) pT (by simpa using h2)
   rw[this];simp
theorem aIv (off:Nat) (vs cs:Array qB) (c1 c2 c3:pX) (h:cs.toList=c1++c2++c3) (h1:c1.length=off) (h2:c2.length=vs.size):
  (vs.zipIdx.foldl (fun(cs:Array qB) (x:qB×Nat)=>match x with|(c,j)=>cs.setIfInBounds (off+j) c) cs).toList=c1++vs.toList++c3:=by
 rw[<-aUq,Array.toList_zipIdx];exact a9K off vs.toList 0 cs c1 c2 c3 h pQ (by simpa using h2)
theorem a9L {place:Nat->pY}{cells:Array qB}{i:Nat}{v:qB}{rest:List (Nat×qB)}{off size:Nat}{c1 c2 c3:pX}(hp:place i=some (off,size)) (hs:v.cells.size=size)
  (h:cells.toList=c1++c2++c3) (h1:c1.length=off) (h2:c2.length=size):
  Instr.fill place cells ((i,v)::rest)=Instr.fill place (c1++v.cells.toList++c3).toArray rest:=by
 have hsz:cells.size=c1.length+c2.length+c3.length:=by rw[<-aTe,h];simp;omega
 simp only[Instr.fill,hp];rw[aSo (by simp [hs];omega)];congr 1;apply aTt.1;rw[aIv off v.cells cells c1 c2 c3 h h1 pQ]
theorem a0y {k:Nat}: ∀{t:Ty}{o:Nat}{cs:pX},KD t=false->cs.length=t.cells->xS k t o cs
 | .bool,_,_,_,_=>trivial
 | .int _,_,_,_,_=>trivial
 | .str,_,_,_,_=>trivial
 | .unit,_,_,_,_=>trivial
 | .ref,_,_,_,_=>trivial
 | .clo,_,_,_,_=>trivial
 | .mp,_,_,_,_=>trivial
 | .rl _ _,_,_,_,_=>trivial
 | .fn,_,_,_,_=>trivial
 | .mref,_,_,_,_=>trivial
 | .ap,_,_,_,_=>trivial
 | .list _,_,_,h,_=>by simp [KD] at h
 | .pair a b,_,cs,h,hl=>by
  simp only[KD,aTI] at h;simp only[Ty.cells] at hl;exact⟨cs.take a.cells,cs.drop a.cells,by simp,by rw[aS0];omega,a0y h.1 (by rw[aS0];omega),a0y h.2 (by rw[aSW];omega)⟩
theorem a0z: ∀t:Ty,(tX t).length=t.cells
 | .bool=>rfl
 | .int _=>rfl
 | .str=>rfl
 | .unit=>rfl
 | .ref=>rfl
 | .clo=>rfl
 | .mp=>rfl
 | .rl _ _=>rfl
 | .fn=>rfl
 | .mref=>rfl
 | .ap=>rfl
 | .list _=>rfl
 | .pair a b=>by simp only[tX,aSp,a0z a,a0z b,Ty.cells]
theorem UU {k:Nat}: ∀(t:Ty) (o:Nat),xS k t o (tX t)
 | .bool,_=>trivial
 | .int _,_=>trivial
 | .str,_=>trivial
 | .unit,_=>trivial
 | .ref,_=>trivial
 | .clo,_=>trivial
 | .mp,_=>trivial
 | .rl _ _,_=>trivial
 | .fn,_=>trivial
 | .mref,_=>trivial
 | .ap,_=>trivial
 | .list _,_=> .inr rfl
 | .pair a b,_=>⟨tX a,tX b,rfl,a0z a,UU a _,UU b _⟩
theorem a9M {g:Gh}{w:q9}{k:Nat}: ∀{t:Ty}{x:t.den}{cs:pX}{off o:Nat},xS k t off cs->Rd g w t x cs->EZ t o=true->off+o+1≠k->∃(u:Ty),r9 (.list u) t x o=some []/\cs[o]? =some (.slice none 0 0):=by
 intro t
 induction t with
 |pair a b iha ihb=>
  intro x cs off o hn hr hl hk;obtain⟨c1,c2,e,h1,h2,h3⟩:=hn;obtain⟨d1,d2,e',r1,r2⟩:=hr;have hd:c1=d1/\c2=d2:=aT4 (e.symm.trans e') (by rw[h1,sV r1]);obtain⟨rfl,rfl⟩:=hd;have key: ∀(u:Ty) q,r9 (.list u) (.pair a b) x q=if q<a.cells then r9 (.list u) a x.1 q else r9 (.list u) b x.2 (q-a.cells):=by
   intro u q;cases q with
   |zero=>
    conv=>lhs;unfold r9
    rw[aTP (by intro e;cases e),Nat.zero_sub]
   |succ q=>simp [r9]
  have hl':(if o<a.cells then EZ a o else EZ b (o-a.cells))=true:=by
   cases o<;>simpa[EZ] using hl
  by_cases ho:o<a.cells
  .rw[aSn ho] at hl';obtain⟨u,k1,k2⟩:=iha h2 r1 hl' hk;exact⟨u,by rw[key,aSn ho];exact k1,by rw[e,aSG pQ];exact k2⟩
  .rw[aSo ho] at hl';obtain⟨u,k1,k2⟩:=ihb h3 r2 hl' pQ;exact⟨u,by rw[key,aSo ho];exact k1,by rw[e,aSw pQ,h1];exact k2⟩
 |list u=>
  intro x cs off o hn hr hl hk;cases o with
  |succ o=>simp [EZ] at hl
  |zero=>
   obtain⟨a,cap,e,_,_⟩:=hr;have hn':cs=[.slice none 0 0]:=hn.resolve_left (by simpa using hk);rw[hn'] at e;simp only[aS8,aT3,and_true] at e;have:(x:List u.den)=[]:=aSS e.2.1.symm;subst this;exact⟨u,by unfold r9;simp [tV],by rw[hn'];rfl⟩
 |_=>intro x cs off o hn hr hl;cases o<;>simp [EZ] at hl
theorem aIw {g:Gh}{w:q9}{u:Ty}{y:u.den}{cy:pX}(hy:Rd g w u y cy): ∀{t:Ty}{x z:t.den}{cs:pX}{f:Nat},Rd g w t x cs->Ty.setPart u y t x f=some z->
  ∃o c1 c2 c3,t.offs f=some o/\t.fld f=some u/\cs=c1++c2++c3/\c1.length=o/\c2.length=u.cells/\Rd g w t z (c1++cy++c3)/\(∀k off,xS k t off cs->xS k u (off+o) cy->xS k t off (c1++cy++c3)):=by
 intro t
 induction t with
 |pair a b _ ihb=>
  intro x z cs f r h;obtain⟨c1,c2,e,r1,r2⟩:=r;cases f with
  |zero=>
   simp only[Ty.setPart] at h;split at h
   .rename_i hu;subst hu;simp only[tV,aSm] at h;subst h;refine⟨0,[],c1,c2,rfl,rfl,by simpa using e,rfl,sV r1,⟨cy,c2,by simp,hy,r2⟩,fun k off ⟨d1,d2,e',k1,_,k3⟩ hcy=>?_⟩;obtain⟨rfl,rfl⟩:=aT4 (e'.symm.trans e) (by rw[k1,sV r1]);exact⟨cy,d2,by simp,sV hy,hcy,k3⟩
   .cases h
  |succ f=>
   simp only[Ty.setPart,aSE] at h;obtain⟨q,hq,rfl⟩:=h;obtain⟨o,d1,d2,d3,h1,h2,h3,h4,h5,h6,h7⟩:=ihb r2 hq;refine⟨a.cells+o,c1++d1,d2,d3,by simp [Ty.offs,h1],by simpa[Ty.fld] using h2,by rw[e,h3];simp,?_,h5,⟨c1,d1++cy++d3,by simp,r1,h6⟩,fun k off ⟨k1,k2,e',k3,k4,k5⟩ hcy=>by
    obtain⟨rfl,rfl⟩:=aT4 (e'.symm.trans e) (by rw[k3,sV r1]);exact⟨k1,d1++cy++d3,by simp,k3,k4,h7 k _ k5 (by rw[aS5];exact hcy)⟩⟩
   rw[aSp,h4,sV r1]
 |_=>intro x z cs f r h;cases f<;>simp [Ty.setPart] at h
theorem a0A {g:Gh}{w:q9}{t:Ty}{ev:Operand->qB}{ρ:Operand->qM}{place:Nat->pY}(hp: ∀f o u,t.offs f=some o->t.fld f=some u->place f=some (o,u.cells)):
  ∀(ps:List (Nat×Operand)) (x z:t.den) (cs:pX),Rd g w t x cs->(∀q∈ps,rO g w (ρ q.2) (ev q.2))->AL t (some x) (u1 ρ ps)=some z->
  ∃cs',Instr.fill place cs.toArray (ps.map fun q=>(q.1,ev q.2))=some cs'.toArray/\Rd g w t z cs'/\(∀m k,AM t (u1 ρ ps)=some m->m=0\/m=k->xS k t 0 cs->xS k t 0 cs')
 |[],x,z,cs,r,_,h=>by
  simp only[u1,AL,aSm] at h;subst h;exact⟨cs,rfl,r,fun _ _ _ _ h=>h⟩
 |(i,q)::ps,x,z,cs,r,hq,h=>by
  have h0:=hq (i,q) pS;have step: ∀{u:Ty}{y:u.den}{z1:t.den},tB g w u y (ev q)->Ty.setPart u y t x i=some z1->AL t (some z1) (u1 ρ ps)=some z->(∀m k,AM t (u1 ρ ((i,q)::ps))=some m->m=0\/m=k->(∀o,t.offs i=some o->xS k u o (ev q).cells.toList)/\∃m',AM t (u1 ρ ps)=some m'/\(m'=0\/m'=k))->
    ∃cs',Instr.fill place cs.toArray (((i,q)::ps).map fun q=>(q.1,ev q.2))=some cs'.toArray/\Rd g w t z cs'/\(∀m k,AM t (u1 ρ ((i,q)::ps))=some m->m=0\/m=k->xS k t 0 cs->xS k t 0 cs'):=by
   intro u y z1 hv hset h hpl;obtain⟨o,c1,c2,c3,h1,h2,rfl,h4,h5,h6,h7⟩:=aIw (F7 hv) r hset;obtain⟨cs',hf,hr,hn⟩:=a0A hp ps z1 z _ h6 (fun q hq'=>hq q (by simp [hq'])) h;refine⟨cs',?_,hr,fun m k hpp hm hcs=>?_⟩
   rotate_left
   .obtain⟨q1,m',q2,q3⟩:=hpl m k hpp hm;exact hn m' k q2 q3 (h7 k 0 hcs (by rw[aSU];exact q1 o h1))
   simp only[aTw];rw[a9L (hp i o u h1 h2) (by have:=sV (F7 hv);simpa using this) (c1:=c1) (c2:=c2) (c3:=c3) pS h4 h5];exact hf
  generalize hs:ρ q=s at h0;simp only[u1,hs] at h;obtain⟨d,k⟩:=s;cases d with
  |val u y=>
   simp only[AL] at h;generalize hset:Ty.setPart u y t x i=o1 at h;cases o1 with
   |none=>cases ps with
    |nil=>simp [u1,AL] at h
    |cons p ps=>simp [u1,AL] at h
   |some z1=>
    have hpl: ∀m k,AM t (u1 ρ ((i,q)::ps))=some m->m=0\/m=k->(∀o,t.offs i=some o->xS k u o (ev q).cells.toList)/\∃m',AM t (u1 ρ ps)=some m'/\(m'=0\/m'=k):=by
     intro m k hpp hm;simp only[u1,hs,AM] at hpp;cases hu:KD u with
     |false=>
      rw[hu] at hpp;simp only[TE] at hpp;exact⟨fun o _=>a0y hu (sV (F7 h0.1)),m,hpp,hm⟩
     |true=>
      rw[hu] at hpp;cases hu2:Z5 u with
      |false=>rw[hu2] at hpp;simp [TE] at hpp
      |true=>
       rw[hu2] at hpp;simp only[TE] at hpp;cases ho:t.offs i with
       |none=>rw[ho] at hpp;simp [TD] at hpp
       |some o=>
        rw[ho] at hpp;cases hm2:AM t (u1 ρ ps) with
        |none=>rw[hm2] at hpp;simp [TD] at hpp
        |some m'=>
         rw[hm2] at hpp;simp only[TD] at hpp;split at hpp
         .rename_i hm0;subst hm0;simp only[aSm] at hpp;refine⟨fun o' ho'=>?_,0,rfl,.inl rfl⟩;obtain rfl:=aSr ho';cases u with
          |list u=>exact .inl pQ
          |_=>simp [Z5] at hu2
         cases hpp
    obtain⟨cs',k1,k2,k3⟩:=step h0.1 hset h hpl;exact⟨cs',k1,k2,k3⟩
  |nilS=>
   simp only[AL] at h;generalize hfl:t.fld i=fl at h;cases fl with
   |none=>cases ps<;>simp [SV,u1,AL] at h
   |some u=>
    cases u with
    |list u=>
     simp only[SV] at h;generalize hset:Ty.setPart (.list u) [] t x i=o1 at h;cases o1 with
     |none=>cases ps<;>simp [u1,AL] at h
     |some z1=>
      have hev:ev q= .slice none 0 0:=h0.1;refine step (u:= .list u) (y:=[]) ?_ hset h (fun m k hpp hm=>?_)
      .rw[hev];exact .inr ⟨rfl,none,0,rfl,aSJ _,.inl rfl⟩
      .simp only[u1,hs,AM] at hpp;exact⟨fun o _=>by rw[hev];exact .inr rfl,m,hpp,hm⟩
    |_=>cases ps<;>simp [SV,u1,AL] at h
  |_=>simp [AL] at h
section
variable {P:Program}{o:Oper}{a:Act}{g:Gh}{w:q9}{H:s7}{T:sS}(hT:xA P T) (hH:sE g w H)
include hT hH
theorem a9N {P:Program}(w:q9): ∀(fs:List Field),(∀f∈fs,∃n,(P.info? f.type).map (·.size)=some n)->
  (fs.mapM (fun f=>do pure (f.offset,<-sizeOf f.type):Field->Sem (Nat×Nat))).run P w= .ok (fs.map fun f=>(f.offset,((P.info? f.type).map (·.size)).getD 0)) w
 |[],_=>rfl
 |f::fs,h=>by
  obtain⟨n,hn⟩:=h f pS;obtain⟨i,hi,hsz⟩:=aSE.1 hn;rw[List.mapM_cons];simp only[aSz,sizeOf,typeInfo,aTg,hi,aSu,aSN];have:=a9N w fs (fun f hf=>h f (by simp [hf]));simp only[sizeOf,typeInfo,aSz,aTg] at this;rw[this];simp [hi]
theorem aIx {P:Program}: ∀{ty:Ty}{off:Nat}{fs:List Field},ND P ty off fs->∀f∈fs,∃n,(P.info? f.type).map (·.size)=some n:=by
 intro ty
 induction ty with
 |pair a b _ ihb=>
  intro off fs h f hf;cases fs with
  |nil=>cases hf
  |cons fd fs=>
   obtain⟨_,h2,_,h4⟩:=h;rcases aSC.1 hf with rfl|hf
   .exact⟨_,h2⟩
   .exact ihb h4 f hf
 |unit=>intro off fs h f hf;cases fs with|nil=>cases hf|cons=>exact h.elim
 |_=>intro off fs h f hf;cases fs<;>exact h.elim
omit hT hH in
theorem a9O {t:Ty}{x:t.den}{cs:pX}{ps:List (Nat×qM)}(h: ∀m k,AM t ps=some m->m=0\/m=k->xS k t 0 (tX t)->xS k t 0 cs):match ((DV.val t x,Z6 t (AM t ps)):qM) with
  |(_,none)=>True
  |(.val t x,some k)=>D9 g t x (.agg cs.toArray) (some k)
  |(_,some _)=>False:=by
 cases hp:AM t ps with
 |none=>cases t<;>trivial
 |some m=>
  cases t with
  |pair a b=>
   have:=h m m hp (.inr rfl) (UU _ _);simpa[Z6,D9,Value.cells] using this
  |_=>trivial
omit hT in
theorem rH.pureS {s:qM}{v:qB}(hr:(execOp a.eval o).run P w= .ok (.value v) w) (hs:rO g w s v):rH P o a g w H ⟨[],s,[],[]⟩:=
 rH.value hr (.pure hH hs)
theorem aIy {t:TypeId}{ps:Array (Nat×Operand)}(ho:o.op= .build t ps) {ρ:Operand->qM}(hρ: ∀q∈ps.toList,rO g w (ρ q.2) (a.eval q.2)) {e:qS}(hr:Z7 (u1 ρ ps.toList) (rR T t)=some e):rH P o a g w H e:=by
 generalize hs:rR T t=ot at hr;cases ot with
 |none=>cases hr
 |some ti=>
  have hty:=sZ hT hs;simp only[Z7] at hr;by_cases hrow:ti.ty.isRow=true
  case neg=>rw[aSo hrow] at hr;cases hr
  rw[aSn hrow] at hr;generalize hb:AL ti.ty (some ti.ty.zero) (u1 ρ ps.toList)=ox at hr;cases ox with
  |none=>cases hr
  |some x=>
   cases hr;obtain⟨i,hi,hsz,hz⟩:=DU hty;have hzv:xT ti.ty= .agg (tX ti.ty).toArray:=by unfold xT;rw[aSn hrow]
   have hzr: ∀w,(zeroValue t).run P w= .ok (.agg (tX ti.ty).toArray) w:=by
    intro w;simp [zeroValue,typeInfo,hi,hz,hzv]
   have hmap:(ps.map fun(q:Nat×Operand)=>(q.1,a.eval q.2)).toList=ps.toList.map fun q=>(q.1,a.eval q.2):=by simp
   rcases a0w hty hrow with⟨har,fs,hfs,hfe⟩ |⟨har,n,el,hu,hel,hsome⟩
   .have hpl:=a9N (P:=P) hT hH w fs.toList (aIx hT hH hfe);obtain⟨cs',hf,hR,hN⟩:=a0A (g:=g) (w:=w) (ev:=a.eval) (ρ:=ρ) (t:=ti.ty) (place:=fun j=>((fs.map fun f=>(f.offset,((P.info? f.type).map (·.size)).getD 0))[j]?)) (fun f oo u h1 h2=>by
     obtain⟨fd,k1,k2,k3,_⟩:=a0u hfe h1 h2;have k1':fs[f]? =some fd:=by simpa using k1
     simp [k1',k2,k3]) ps.toList ti.ty.zero x (tX ti.ty) (DS g w ti.ty) hρ hb
    refine rH.pureS hH (v:= .agg cs'.toArray) ?_ ⟨.inl ⟨hrow,cs',rfl,hR⟩,a9O hN⟩;have hmp:(fs.mapM (fun f=>do pure (f.offset,<-sizeOf f.type):Field->Sem (Nat×Nat))).run P w= .ok (fs.map fun f=>(f.offset,((P.info? f.type).map (·.size)).getD 0)) w:=by
     rw[Array.mapM_eq_mapM_toList,Sem.run_map,hpl];simp only[aSu];congr 1;apply aTt.1;simp
    simp only[execOp,ho,Instr.build,aSz,hzr,aSu,aSK hfs,hmp,Value.cells];rw[hmap,hf];rfl
   obtain⟨cs',hf,hR,hN⟩:=a0A (g:=g) (w:=w) (ev:=a.eval) (ρ:=ρ) (t:=ti.ty) (place:=fun j=>some (j*((P.info? el).map (·.size)).getD 0,((P.info? el).map (·.size)).getD 0)) (fun f oo u h1 h2=>by
    obtain⟨k1,k2,k3,k4⟩:=a0v hel h1 h2;simp [k2,k4]) ps.toList ti.ty.zero x (tX ti.ty) (DS g w ti.ty) hρ hb
   refine rH.pureS hH (v:= .agg cs'.toArray) ?_ ⟨.inl ⟨hrow,cs',rfl,hR⟩,a9O hN⟩;obtain⟨ei,hei⟩:=aSs.1 hsome;simp only[hei,Option.map_some,aUr] at hf;simp only[execOp,ho,Instr.build,aSz,hzr,aSu,aSK hu,sizeOf,typeInfo,aTg,hei,aSN,Value.cells];rw[hmap,hf];rfl
theorem a0B {ρ:Operand->qM}{ev:Operand->qB}: ∀{xs:List Operand}{ss:List qM},(∀x∈xs,rO g w (ρ x) (ev x))->vN ρ xs=ss->∃vs,xs.map ev=vs/\vs.length=ss.length/\∀(i:Nat) (s:qM) (v:qB),ss[i]? =some s->vs[i]? =some v->rO g w s v
 |[],_,_,h=>⟨[],rfl,by rw[<-h];rfl,fun i s v _ hv=>by simp at hv⟩
 |x::xs,ss,hx,h=>by
  subst h;obtain⟨vs,h1,h2,h3⟩:=a0B (fun y hy=>hx y (by simp [hy])) rfl (xs:=xs);refine⟨ev x::vs,by simp [h1],by simp [vN,h2],fun i s v hs hv=>?_⟩;cases i with
  |zero=>
   simp only[vN,aSX,aSm] at hs hv;subst hs;subst hv;exact hx x pS
  |succ i=>
   simp only[vN,aS6] at hs hv;exact h3 i s v hs hv
theorem UV {ρ:Operand->qM}{ev:Operand->qB}{args:Array Operand}{s:qM}(hρ: ∀x∈args.toList,rO g w (ρ x) (ev x)) (h:vN ρ args.toList=[s]): ∃v,args.map ev= #[v]/\rO g w s v:=by
 obtain⟨vs,h1,h2,h3⟩:=a0B hT hH hρ h;obtain⟨v,rfl⟩:=aTF.1 h2;exact⟨v,by apply aTt.1;simpa using h1,h3 0 s v rfl rfl⟩
theorem UW {ρ:Operand->qM}{ev:Operand->qB}{args:Array Operand}{s t:qM}(hρ: ∀x∈args.toList,rO g w (ρ x) (ev x)) (h:vN ρ args.toList=[s,t]): ∃v u,args.map ev= #[v,u]/\rO g w s v/\rO g w t u:=by
 obtain⟨vs,h1,h2,h3⟩:=a0B hT hH hρ h
 match vs,h2 with
 |[v,u],_=>exact⟨v,u,by apply aTt.1;simpa using h1,h3 0 s v rfl rfl,h3 1 t u rfl rfl⟩
theorem GL {b:Builtin}{args:Array Operand}{tys:Array TypeId}(ho:o.op= .call ⟨.builtin b,args,tys⟩):
  ∃cs,execOp a.eval o=builtin b tys o.type cs (args.map a.eval):=by
 refine⟨args.map fun| .const _=>true|_=>false,?_⟩
 unfold execOp;rw[ho];rfl
theorem aIz (x y:Int):(if y<x then y else x)=min x y:=by rw[Int.min_def];split<;>split<;>omega
theorem aIA (x y:Int):(if y>x then y else x)=max x y:=by rw[Int.max_def];split<;>split<;>omega
theorem aIB {args:Array Operand}{tys:Array TypeId}(ho:o.op= .call ⟨.builtin .len,args,tys⟩) {ρ:Operand->qM}(hρ: ∀x∈args.toList,rO g w (ρ x) (a.eval x)) {e:qS}
  (hr:U7 T H (vN ρ args.toList) tys.toList=some e):rH P o a g w H e:=by
 obtain⟨t0,tr,htl⟩: ∃t0 tr,tys.toList=t0::tr:=by cases h:tys.toList with|nil=>(rw[h] at hr;cases hr) |cons t r=>exact⟨t,r,rfl⟩
 have ht0:tys[0]? =some t0:=by rw[<-aTk,htl];rfl
 rw[htl] at hr;simp only[U7] at hr;generalize hst:rR T t0=ot at hr;generalize hss:vN ρ args.toList=ss at hr;unfold ZU at hr;split at hr
 .rename_i el fl ar ls_ i k;generalize hb:qO H i=ob at hr;unfold U0 at hr;split at hr
  .rename_i kt vt l;cases hr;obtain⟨v,hv,hs⟩:=UV hT hH hρ hss;have h2:=(sZ hT hst).2;simp only[x9] at h2;obtain⟨p,es,cl,hp,hp0,hh,hM,hS⟩:=hH.blk i _ hb;obtain⟨p',hp',hxv⟩: ∃p,g.J i=some p/\v= .map (some p.1):=by
    rcases hs.1 with⟨h1,_⟩ |⟨_,p,h3,h4⟩
    .cases h1
    simp only[aS8,and_true] at h4;exact⟨p,h3,h4⟩
   rw[hp] at hp';obtain rfl:=aSr hp';have hlen: ∀{l:List (kt.den×vt.den)}{es:List MapEntry},DR g w kt vt l es->es.length=l.length:=by
    intro l
    induction l with
    |nil=>intro es h;rw[show es=[] from h];rfl
    |cons q l ih=>intro es h;obtain⟨e,es',rfl,_,_,h5⟩:=h;simp [ih h5]
   refine rH.pure hH (v:= .int .i64 (List.length l:Int)) ?_ (wF _ _ _ _);obtain⟨cs,hx⟩:=GL (a:=a) hT hH ho;rw[hx,hv,hxv];have harg:(#[Value.map (some p.1)]:Array qB)[0]? =some (.map (some p.1)):=rfl;have hobj:(getObj p.1).run P w= .ok (.map es cl) w:=by simp [getObj,Sem.run,hh]
   simp only[builtin,Builtin.len_,ht0,harg,aSz,aSK h2,aSu,aSN,goInt,hobj];rw[<-hlen hM,aTe]
  cases hr
 .rename_i el by' ar ls_ l k;cases hr;obtain⟨v,hv,hs⟩:=UV hT hH hρ hss;have h2:=(sZ hT hst).2;simp only[x9] at h2;have hv':=wI hs.1;refine rH.pure hH (v:= .int .i64 (List.length l:Int)) ?_ (wF _ _ _ _);subst hv';obtain⟨cs,hx⟩:=GL (a:=a) hT hH ho;rw[hx,hv];have harg:(#[Value.string ⟨List.toArray l⟩]:Array qB)[0]? =some (.string ⟨List.toArray l⟩):=rfl;simp only[builtin,Builtin.len_,ht0,harg,aSz,aSK h2,aSu,aSN,goInt];rfl
 .rename_i u el by' ar ls_ t l k;cases hr;obtain⟨v,hv,hs⟩:=UV hT hH hρ hss;have h2:=(sZ hT hst).2.1;obtain⟨ad,cap,rfl,_⟩:=DT hs.1;refine rH.pure hH (v:= .int .i64 (List.length l:Int)) ?_ (wF _ _ _ _);obtain⟨cs,hx⟩:=GL (a:=a) hT hH ho;rw[hx,hv];have harg:(#[Value.slice ad (List.length l) cap]:Array qB)[0]? =some (.slice ad (List.length l) cap):=rfl;simp only[builtin,Builtin.len_,ht0,harg,aSz,aSK h2,aSu,aSN,goInt]
 .rename_i u el by' ar ls_ ko n k;cases hr;obtain⟨v,hv,hs⟩:=UV hT hH hρ hss;have h2:=(sZ hT hst).2.1;obtain⟨ad,cap,rfl⟩: ∃ad cap,v= .slice ad n cap:=by
   rcases hs.1.2 with⟨h,rfl⟩ |⟨b,cap,h,_⟩
   .exact⟨_,_,h⟩
   exact⟨_,_,h⟩
  refine rH.pure hH (v:= .int .i64 (n:Int)) ?_ (wF _ _ _ _);obtain⟨cs,hx⟩:=GL (a:=a) hT hH ho;rw[hx,hv];have harg:(#[Value.slice ad n cap]:Array qB)[0]? =some (.slice ad n cap):=rfl;simp only[builtin,Builtin.len_,ht0,harg,aSz,aSK h2,aSu,aSN,goInt]
 cases hr
theorem a9P {args:Array Operand}{tys:Array TypeId}{mx:Bool}(ho:o.op= .call ⟨.builtin (if mx then .max else .min),args,tys⟩) {ρ:Operand->qM}(hρ: ∀x∈args.toList,rO g w (ρ x) (a.eval x)) {e:qS}
  (hr:AK (U5 mx (vN ρ args.toList))=some e):rH P o a g w H e:=by
 obtain⟨q,hq,rfl⟩:=IJ hr;generalize hss:vN ρ args.toList=ss at hq;unfold U5 at hq;split at hq
 .rename_i k x k1 k' y k2;split at hq
  .rename_i hk;subst hk;cases hq;obtain⟨v,u,hv,hs1,hs2⟩:=UW hT hH hρ hss;have e1:=vX hs1.1;have e2:=vX hs2.1;subst e1;subst e2;cases mx
   .refine rH.pure hH (v:= .int k (min (x:Int) y)) ?_ (wF _ _ _ _);obtain⟨cs,hx⟩:=GL (a:=a) hT hH ho;rw[hx,hv];have:=aIz hT hH x y;simp [builtin,Builtin.min_,Builtin.min2,this]
   refine rH.pure hH (v:= .int k (max (x:Int) y)) ?_ (wF _ _ _ _);obtain⟨cs,hx⟩:=GL (a:=a) hT hH ho;rw[hx,hv];have:=aIA hT hH x y;simp [builtin,Builtin.max_,Builtin.max2,this]
  cases hq
 cases hq
theorem aIC {f:FuncId}{caps:Array Operand}(ho:o.op= .makeFunc (.func f) #[] caps) {ρ:Operand->qM}(hρ: ∀x∈caps.toList,rO g w (ρ x) (a.eval x)) {e:qS}
  (hr:a9d f (K6 (vN ρ caps.toList))=some e):rH P o a g w H e:=by
 generalize hc:K6 (vN ρ caps.toList)=oc at hr;cases oc with
 |none=>cases hr
 |some l=>
  cases hr;have key: ∀(xs:List Operand) (l:pV),(∀x∈xs,rO g w (ρ x) (a.eval x))->K6 (vN ρ xs)=some l->yD g l (xs.map a.eval):=by
   intro xs
   induction xs with
   |nil=>intro l _ h;simp only[vN,K6,aSm] at h;subst h;rfl
   |cons x xs ih=>
    intro l hx h;have h0:=hx x pS;generalize hs:ρ x=s at h0;simp only[vN,hs] at h;obtain⟨d,k⟩:=s;unfold K6 at h;split at h
    .cases ‹_=[]›
    .rename_i p k r heq;simp only[aS8,aSQ] at heq;obtain⟨⟨rfl,rfl⟩,rfl⟩:=heq;obtain⟨l',hl',rfl⟩:=aSE.1 h;obtain⟨i,off⟩:=p;obtain⟨p,hp,hv⟩:=xC h0.1;exact⟨p,_,hp,by rw[aTw,hv],ih l' (fun y hy=>hx y (by simp [hy])) hl'⟩
    cases h
  refine rH.pure hH (v:= .func (.func f) #[] (caps.map a.eval)) ?_ (.inr ⟨rfl,caps.toList.map a.eval,key _ _ hρ hc,by congr 2;apply aTt.1;simp⟩);simp [execOp,ho,Instr.makeFunc]
end
theorem a0C {α:Type}{l:List α}{m n:Int}(h0:0≤m) (h1:m≤n) (h2:n≤(l.length:Int)):(rV l m n).length=n.toNat-m.toNat:=by
  unfold rV;rw[aS0,aSW];omega
theorem UX {α:Type}{R:α→pX→Prop}{c:Nat}: ∀{l:List α}{cs:pX}{i:Nat}{x:α},tT R c l cs→l[i]? =some x→∃c1 c2 c3,cs=c1++c2++c3∧c1.length=i*c∧c2.length=c∧R x c2
  | y::l,_,0,x,⟨c1,c2,e,h1,h2,h3⟩,h=>by
    simp only[aSX,aSm] at h;subst h;exact⟨[],c1,c2,by simpa using e,by simp,h1,h2⟩
  | y::l,_,i+1,x,⟨c1,c2,e,h1,h2,h3⟩,h=>by
    simp only[aS6] at h;obtain⟨d1,d2,d3,e1,e2,e3,e4⟩:=UX h3 h;exact⟨c1++d1,d2,d3,by rw[e,e1];simp,by rw[aSp,h1,e2,aTy];omega,e3,e4⟩
theorem a9Q {t:Ty}{l:List t.den}{i:Int}(h0:0≤i) (h:i.toNat<l.length):l[i.toNat]? =some (qT t l i):=by
  unfold qT;rw[aSO,aSv h];rfl
theorem IK {α:Type}{R:α→pX→Prop}{w:q9}{S:Nat→Nat→Prop}{c b:Nat}: ∀{l:List α}{o:Nat}{cs:pX},tT R c l cs→w.rangeAt b o cs→(∀j,j<l.length*c→S b (o+j))→yC R w S c b o l
  |[],_,_,_,_,_=>trivial
  | x::l,o,cs,⟨c1,c2,e,h1,h2,h3⟩,hr,hS=>by
    subst e;refine⟨⟨c1,h1,fun j v hv=>hr j v (by rw[aSG (aSD.1 hv).1];exact hv),fun j hj=>hS j (by rw[aSt,aTy];omega),h2⟩,IK h3 (fun j v hv=>?_) (fun j hj=>?_)⟩
    · have:=hr (c+j) v (by rw[aSw pQ,h1,aTb];exact hv)
      rwa [←aS5] at this
    have:=hS (c+j) (by rw[aSt,aTy];omega)
    rwa [←aS5] at this
theorem a0D {u0:Ty}{l:List u0.den}: ∀{t:Ty}{x:t.den}{q: Σ t:Ty,t.den},zN u0 l t x=some q→q.1.cells=t.cells:=by
  intro t
  induction t with
  | rl e u=>
    intro x q h;cases x with
    |none=>cases h
    | some p=>
      simp only[zN,ZB] at h;split at h
      .cases h;rfl
      .cases h
  | pair a b iha ihb=>
    intro x q h;simp only[zN] at h;cases hf:BN a x.1 with
    | some p=>
      rw[hf] at h;cases hq:zN u0 l a x.1 with
      |none=>rw[hq] at h;cases h
      | some r=>
        obtain⟨a',x'⟩:=r;rw[hq] at h;simp only[KE,aSm] at h;subst h;have:=iha hq;simp only[Ty.cells] at this|-;omega
    | none=>
      rw[hf] at h;cases hq:zN u0 l b x.2 with
      |none=>rw[hq] at h;simp [KE] at h
      | some r=>
        obtain⟨b',y'⟩:=r;rw[hq] at h;simp only[KE,aSm] at h;subst h;have:=ihb hq;simp only[Ty.cells] at this|-;omega
  |_=>intro x q h;simp [zN] at h
theorem aID {g:Gh}{w:q9}{k n:Nat}{u0:Ty}{l:List u0.den}(hk: ∀cs,BQ g (some (k,n)) cs→Rd g w (.list u0) l cs): ∀{t:Ty}{x:t.den}{cs:pX}{q: Σ t:Ty,t.den},BN t x=some (k,n)→zN u0 l t x=some q→Rd g w t x cs→Rd g w q.1 q.2 cs:=by
  intro t
  induction t with
  | rl e u=>
    intro x cs q hf h r;simp only[BN] at hf;subst hf;simp only[zN,ZB] at h;split at h
    · cases h
      exact hk _ r
    .cases h
  | pair a b iha ihb=>
    intro x cs q hf h r;obtain⟨c1,c2,e,r1,r2⟩:=r;simp only[BN] at hf;simp only[zN] at h;cases hfa:BN a x.1 with
    | some p=>
      rw[hfa] at h hf;simp only[ZA,aSm] at hf;subst hf;cases hq:zN u0 l a x.1 with
      |none=>rw[hq] at h;cases h
      | some z=>
        obtain⟨a',x'⟩:=z;rw[hq] at h;simp only[KE,aSm] at h;subst h;exact⟨c1,c2,e,iha hfa hq r1,r2⟩
    | none=>
      rw[hfa] at h hf;simp only[ZA] at hf;cases hq:zN u0 l b x.2 with
      |none=>rw[hq] at h;simp [KE] at h
      | some z=>
        obtain⟨b',y'⟩:=z;rw[hq] at h;simp only[KE,aSm] at h;subst h;exact⟨c1,c2,e,r1,ihb hf hq r2⟩
  |_=>intro x cs q hf;simp [BN] at hf
theorem aIE {g:Gh}{w:q9}{H:s7}(hH:sE g w H) {k i:Nat}{e:TypeId}{t:Ty}{l:List t.den}{n:Nat}(hk:qO H k=some (.row e t l n)) {u:Ty}{x:u.den}{toks:pV}(hi:qO H i=some (.cells u x toks)) (hfr:BN u x=some (k,n)) {q: Σ t:Ty,t.den}(hq:zN t l u x=some q):
    ∃ g',sE g' w (r6 [(i,qJ.cells q.1 q.2 []),(k,qJ.grow e t.cells (List.length l))] H)∧g'.J=g.J∧
      ∀side s rds v,I4 rds=true→rO g' w s v→zQ g w H ⟨side,s,[(i,qJ.cells q.1 q.2 []),(k,qJ.grow e t.cells (List.length l))],rds⟩ g' w v:=by
  obtain⟨hl,v,xs,hv,hown,hF,hnone,hseal⟩:=hH.blk k _ hk
  let g':Gh:={g with S:=fun b o=>g.S b o∨(v.ownBlock=some b∧o<n*t.cells)}
  have le:Le g w g' w:=⟨fun _ _ h=> .inl h,fun _ _ _=>rfl,fun _ _ h=>h,fun _ _ _ h=>h⟩;have hown2: ∀b,v.ownBlock=some b→∀o,s9 g k (.row e t l n) b o:=fun b hb o=>⟨v,hv,hb⟩
  have hlist: ∀u,g.cur k n=some u→((u= .slice none 0 0∧n=0)∨∃b cap,u= .slice (some ⟨b,0,none⟩) n cap∧n≤cap)→tB g' w (.list t) l u:=by
    intro u hu hshape;rw[hv] at hu;obtain rfl:=aSr hu;rcases hshape with⟨rfl,h0⟩ |⟨b,cap,rfl,hcap⟩
    · have:l=[]:=aSS (by rw[hl,h0])
      subst this;exact .inr ⟨rfl,none,0,rfl,aSJ _,.inl rfl⟩
    refine .inr ⟨rfl,some ⟨b,0,none⟩,cap,by rw[hl],by rw[hl];exact hcap,.inr ⟨b,0,rfl,IK (CH (fun _ _ h=>wE le h) hF) (fun j u hu=>?_) (fun j hj=>?_)⟩⟩
    · have:=hown.cells (g:=b) rfl j u hu
      rwa [aTA] at this
    right
    exact⟨rfl,by rw[hl] at hj;omega⟩
  have hik:i≠k:=fun e1=>by rw[e1,hk] at hi;cases hi
  obtain⟨p0,cs0,hp0,hR0,hra0,hth0,hns0,_⟩:=hH.blk i _ hi
  let b':qJ:= .cells q.1 q.2 []
  let H':s7:=(i,b')::(k,qJ.grow e t.cells (List.length l))::H
  have hget: ∀i' b,qO H' i'=some b→(i'=i∧b=b')∨(i'=k∧b= .grow e t.cells (List.length l))∨(i'≠k∧i'≠i∧qO H i'=some b):=by
    intro i' b hb;simp only[H',qO] at hb;split at hb
    .rename_i e1;exact .inl ⟨e1.symm,(aSr hb).symm⟩
    rename_i e1
    split at hb
    .rename_i e2;exact .inr (.inl ⟨e2.symm,(aSr hb).symm⟩)
    rename_i e2;exact .inr (.inr ⟨Ne.symm e2,Ne.symm e1,hb⟩)
  have howns: ∀i' b bb o,qO H' i'=some b→s9 g' i' b bb o→∃b0,qO H i'=some b0∧s9 g i' b0 bb o:=by
    intro i' b bb o hb ho;rcases hget i' b hb with⟨rfl,rfl⟩ |⟨rfl,rfl⟩ |⟨_,_,h1⟩
    · obtain⟨p,hp,e1,e2,e3⟩:=ho
      rw[a0D hq] at e3;exact⟨_,hi,p,hp,e1,e2,e3⟩
    · obtain⟨u,hu,hub⟩:=ho
      have hu':g.cur i' (List.length l)=some u:=hu;rw[hl] at hu';exact⟨_,hk,u,hu',hub⟩
    exact⟨b,h1,(x8 (g':=g') (g:=g) rfl rfl).1 ho⟩
  have hheap:sE g' w H':=by
    refine⟨fun i' b hb=>?_,fun i' j bi bj b o hij h1 h2 o1 o2=>?_,fun b o hS=>?_,hH.tab.1,fun i' b bb oo hb ho=>by
      obtain⟨c1,k1,k2⟩:=howns i' b bb oo hb ho;exact hH.tab.2 i' c1 bb oo k1 k2⟩
    · rcases hget i' b hb with⟨rfl,rfl⟩ |⟨rfl,rfl⟩ |⟨hne,_,h1⟩
      · have hk2: ∀cs,BQ g' (some (k,n)) cs→Rd g' w (.list t) l cs:=by
          rintro cs ⟨v1,z1,z2,z3⟩;rw[z2];exact xB rfl (hlist v1 z1 z3)
        refine⟨p0,cs0,hp0,aID (n:=n) hk2 hfr hq (wE le hR0),hra0,?_,?_,fun _ _ hm=>by cases hm⟩
        .rw[a0D hq];exact⟨hth0.1,hth0.2⟩
        rw[a0D hq]
        intro j hj hS;rcases hS with hS|hS
        .exact hns0 j hj hS
        exact hH.dis i' k _ _ p0.1 (p0.2+j) hik hi hk ⟨p0,hp0,rfl,pQ,pQ⟩ (hown2 _ hS.1 _)
      · refine⟨v,xs,by rw[hl];exact hv,by rw[hl];exact hown,fun m hm=>hnone m (by rw[hl] at hm;exact hm),fun b hb o hS=>?_⟩
        rw[hl];rcases hS with hS|hS
        .exact absurd hS (hseal b hb o)
        exact hS.2
      exact II (hH.blk i' b h1) le rfl rfl (fun _ _ _=>⟨rfl,rfl⟩) (fun _ _=>rfl) (fun bb o ho hS=>by
         rcases hS with hS|hS
         .exact hS
         exact absurd (hown2 bb hS.1 o) (fun h5=>hH.dis i' k b _ bb o hne h1 hk ho h5)) (fun _ _ _ _ h=>h)
    · obtain⟨c1,k1,k2⟩:=howns i' bi b o h1 o1
      obtain⟨c2,k3,k4⟩:=howns j bj b o h2 o2;exact hH.dis i' j c1 c2 b o hij k1 k3 k2 k4
    rcases hS with hS|hS
    .exact hH.sl b o hS
    exact KX hown hS.1
  refine⟨g',hheap,rfl,fun side s rds vv hre hs=>⟨le,hs,hheap,⟨rfl,rfl,rfl,aSJ _,fun _ _ _=>rfl,fun _ _ _ _=>⟨rfl,rfl⟩,fun b o hS=>?_,fun _ _ h=> .inl h⟩,fun i' blk b o hm hg ho=>?_,fun _ _=>⟨rfl,rfl⟩,fun h=>by rw[hre] at h;cases h⟩⟩
  · rcases hS with hS|hS
    .exact .inl hS
    exact .inr (.inr ⟨k,_,by simp [qQ],hk,hown2 b hS.1 o⟩)
  obtain⟨b0,k1,k2⟩:=howns i' blk b o hg ho
  exact .inr ⟨i',b0,hm,k1,k2⟩
theorem aIF {g:Gh}{w:q9}{H:s7}(hH:sE g w H) {k:Nat}{e:TypeId}{t:Ty}{l:List t.den}{n:Nat}(hk:qO H k=some (.row e t l n)):
    ∃g',g'.J=g.J∧g'.cur=g.cur∧rL g w H ⟨[],(.any,none),[(k,qJ.grow e t.cells (List.length l))],[]⟩ g' w undef∧∀cs,BQ g' (some (k,n)) cs→Rd g' w (.list t) l cs:=by
  obtain⟨hl,v,xs,hv,hown,hF,hnone,hseal⟩:=hH.blk k _ hk
  let g':Gh:={g with S:=fun b o=>g.S b o∨(v.ownBlock=some b∧o<n*t.cells)}
  have le:Le g w g' w:=⟨fun _ _ h=> .inl h,fun _ _ _=>rfl,fun _ _ h=>h,fun _ _ _ h=>h⟩;have hown2: ∀b,v.ownBlock=some b→∀o,s9 g k (.row e t l n) b o:=fun b hb o=>⟨v,hv,hb⟩
  have hlist: ∀u,g.cur k n=some u→((u= .slice none 0 0∧n=0)∨∃b cap,u= .slice (some ⟨b,0,none⟩) n cap∧n≤cap)→tB g' w (.list t) l u:=by
    intro u hu hshape;rw[hv] at hu;obtain rfl:=aSr hu;rcases hshape with⟨rfl,h0⟩ |⟨b,cap,rfl,hcap⟩
    · have:l=[]:=aSS (by rw[hl,h0])
      subst this;exact .inr ⟨rfl,none,0,rfl,aSJ _,.inl rfl⟩
    refine .inr ⟨rfl,some ⟨b,0,none⟩,cap,by rw[hl],by rw[hl];exact hcap,.inr ⟨b,0,rfl,IK (CH (fun _ _ h=>wE le h) hF) (fun j u hu=>?_) (fun j hj=>?_)⟩⟩
    · have:=hown.cells (g:=b) rfl j u hu
      rwa [aTA] at this
    right
    exact⟨rfl,by rw[hl] at hj;omega⟩
  have hget: ∀i' b,qO ((k,qJ.grow e t.cells (List.length l))::H) i'=some b→(i'=k∧b= .grow e t.cells (List.length l))∨(i'≠k∧qO H i'=some b):=by
    intro i' b hb;simp only[qO] at hb;split at hb
    .rename_i e1;exact .inl ⟨e1.symm,(aSr hb).symm⟩
    rename_i e1;exact .inr ⟨Ne.symm e1,hb⟩
  have howns: ∀i' b bb o,qO ((k,qJ.grow e t.cells (List.length l))::H) i'=some b→s9 g' i' b bb o→∃b0,qO H i'=some b0∧s9 g i' b0 bb o:=by
    intro i' b bb o hb ho;rcases hget i' b hb with⟨rfl,rfl⟩ |⟨_,h1⟩
    · obtain⟨u,hu,hub⟩:=ho
      have hu':g.cur i' (List.length l)=some u:=hu;rw[hl] at hu';exact⟨_,hk,u,hu',hub⟩
    exact⟨b,h1,(x8 (g':=g') (g:=g) rfl rfl).1 ho⟩
  have hheap:sE g' w ((k,qJ.grow e t.cells (List.length l))::H):=by
    refine⟨fun i' b hb=>?_,fun i' j bi bj b o hij h1 h2 o1 o2=>?_,fun b o hS=>?_,hH.tab.1,fun i' b bb oo hb ho=>by
      obtain⟨c1,k1,k2⟩:=howns i' b bb oo hb ho;exact hH.tab.2 i' c1 bb oo k1 k2⟩
    · rcases hget i' b hb with⟨rfl,rfl⟩ |⟨hne,h1⟩
      · refine⟨v,xs,by rw[hl];exact hv,by rw[hl];exact hown,fun m hm=>hnone m (by rw[hl] at hm;exact hm),fun b hb o hS=>?_⟩
        rw[hl];rcases hS with hS|hS
        .exact absurd hS (hseal b hb o)
        exact hS.2
      exact II (hH.blk i' b h1) le rfl rfl (fun _ _ _=>⟨rfl,rfl⟩) (fun _ _=>rfl) (fun bb o ho hS=>by
         rcases hS with hS|hS
         .exact hS
         exact absurd (hown2 bb hS.1 o) (fun h5=>hH.dis i' k b _ bb o hne h1 hk ho h5)) (fun _ _ _ _ h=>h)
    · obtain⟨c1,k1,k2⟩:=howns i' bi b o h1 o1
      obtain⟨c2,k3,k4⟩:=howns j bj b o h2 o2;exact hH.dis i' j c1 c2 b o hij k1 k3 k2 k4
    rcases hS with hS|hS
    .exact hH.sl b o hS
    exact KX hown hS.1
  refine⟨g',rfl,rfl,⟨le,⟨trivial,trivial⟩,hheap,⟨rfl,rfl,rfl,aSJ _,fun _ _ _=>rfl,fun _ _ _ _=>⟨rfl,rfl⟩,fun b o hS=>?_,fun _ _ h=> .inl h⟩,fun i' blk b o hm hg ho=>?_,fun _ _=>⟨rfl,rfl⟩,fun i' u y us hg=>?_⟩,?_⟩
  · rcases hS with hS|hS
    .exact .inl hS
    exact .inr (.inr ⟨k,_,by simp [qQ],hk,hown2 b hS.1 o⟩)
  · obtain⟨b0,k1,k2⟩:=howns i' blk b o hg ho
    exact .inr ⟨i',b0,hm,k1,k2⟩
  · rcases hget i' _ hg with⟨_,h1⟩ |⟨_,h1⟩
    .cases h1
    exact .inl ⟨y,us,h1⟩
  rintro cs ⟨v1,z1,z2,z3⟩
  rw[z2];exact xB rfl (hlist v1 z1 z3)
theorem a9R {g:Gh}{w:q9}{H:s7}(hH:sE g w H) {k:Nat}{e:TypeId}{t:Ty}{l:List t.den}{n:Nat}(hk:qO H k=some (.row e t l n)):
    ∃g',g'.J=g.J∧g'.cur=g.cur∧rL g w H ⟨[],(.any,none),[(k,qJ.grow e t.cells n)],[]⟩ g' w undef∧∀cs,BQ g' (some (k,n)) cs→Rd g' w (.list t) l cs:=by
  have hl:l.length=n:=(hH.blk k _ hk).1;obtain⟨g',h1,h2,h3,h4⟩:=aIF hH hk;rw[hl] at h3;exact⟨g',h1,h2,h3,h4⟩
theorem a9S {k:Nat}: ∀{r:pV},PT k r=false→∀p∈r,p.1≠k
  |[],_,p,hp=>by cases hp
  | (j,m)::r,h,p,hp=>by
    simp only[PT] at h;split at h
    .cases h
    rename_i hne
    rcases aSC.1 hp with rfl|hp
    .exact hne
    exact a9S h p hp
theorem a9T {w:q9}{H:s7}: ∀{ks:pV}{ps:List Prop}{bs:List (Nat×qJ)}{g:Gh},sE g w H→BO H ks=some (ps,bs)→(∀p∈ps,p)→
    ∃g',g'.J=g.J∧g'.cur=g.cur∧rL g w H ⟨[],(.any,none),bs,[]⟩ g' w undef∧(∀i,i∈qQ bs→∃p∈ks,p.1=i)∧∀p∈ks,∀e t l m,qO H p.1=some (.row e t l m)→∀cs,BQ g' (some p) cs→Rd g' w (.list t) l cs
  | [],ps,bs,g,hH,h,_=>by
    simp only[BO,aSm,aSQ] at h;obtain⟨rfl,rfl⟩:=h;exact⟨g,rfl,rfl,.pure hH ⟨trivial,trivial⟩,fun i hi=>(by cases hi),fun p hp=>(by cases hp)⟩
  | (k,n)::r,ps,bs,g,hH,h,hs=>by
    simp only[BO] at h;split at h
    .cases h
    rename_i hk
    have hk:PT k r=false:=by simpa using hk
    cases h1:TK k n (qO H k) with
    |none=>rw[h1] at h;simp [KF] at h
    | some q=>
      obtain⟨pp,b⟩:=q;cases h2:BO H r with
      |none=>rw[h1,h2] at h;simp [KF] at h
      | some q2=>
        obtain⟨ps2,bs2⟩:=q2;rw[h1,h2] at h;simp only[KF,aSm,aSQ] at h;obtain⟨rfl,rfl⟩:=h;obtain⟨g1,k1,k2,k3,k4,k5⟩:=a9T hH h2 (fun p hp=>hs p (aSy _ hp));unfold TK at h1;split at h1
        · rename_i e t l m hg
          cases h1;have hnm:n=m:=hs _ aSH;subst hnm
          have hni:k∉qQ bs2:=fun hi=>by
            obtain⟨p,hp,e1⟩:=k4 k hi;exact a9S hk p hp e1
          have hg2:qO (r6 bs2 H) k=some (.row e t l n):=(A3 hni).trans hg;obtain⟨g2,m1,m2,m3,m4⟩:=a9R k3.heap hg2;refine⟨g2,m1.trans k1,m2.trans k2,k3.trans m3,fun i hi=>?_,fun p hp e' t' l' m' hp2 cs hr=>?_⟩
          · simp only[r6,qQ,aSC] at hi
            rcases hi with rfl|hi
            .exact⟨_,aSH,rfl⟩
            obtain⟨p,hp,e1⟩:=k4 i hi
            exact⟨p,aSy _ hp,e1⟩
          rcases aSC.1 hp with rfl|hp
          · simp only at hp2
            rw[hg] at hp2;simp only[aSm,qJ.row.injEq] at hp2;obtain⟨rfl,rfl,rfl,rfl⟩:=hp2;exact m4 cs hr
          obtain⟨j,q⟩:=p
          refine wE m3.le (k5 _ hp e' t' l' m' hp2 cs ?_);obtain⟨v,v1,v2⟩:=hr;exact⟨v,by rw[←m2];exact v1,v2⟩
        cases h1
theorem aIG {g:Gh}{w:q9}{H:s7}: ∀{t:Ty}{x:t.den}{y:(GD t).den}{cs:pX},AN H t x=some y→Rd g w t x cs→(∀p∈AO t x,∀e t' l m,qO H p.1=some (.row e t' l m)→∀cs,BQ g (some p) cs→Rd g w (.list t') l cs)→Rd g w (GD t) y cs:=by
  intro t
  induction t with
  | rl e u=>
    intro x y cs h r hk;cases x with
    | none=>
      obtain rfl:[]=y:=aSr h;exact⟨none,0,r,aSJ _,.inl rfl⟩
    | some p=>
      obtain⟨k,n⟩:=p;simp only[AN,ZE] at h;unfold a86 at h;split at h
      · rename_i e' t' l m hg
        split at h
        · rename_i htu
          subst htu;cases h;exact hk (k,n) (by simp [AO,ZF]) _ _ _ _ hg cs r
        cases h
      .cases h
  | pair a b iha ihb=>
    intro x y cs h r hk;simp only[AN] at h;obtain⟨c1,c2,e,r1,r2⟩:=r;cases h1:AN H a x.1 with
    |none=>rw[h1] at h;simp [EY] at h
    | some y1=>
      cases h2:AN H b x.2 with
      |none=>rw[h1,h2] at h;simp [EY] at h
      | some y2=>
        rw[h1,h2] at h;cases h;exact⟨c1,c2,e,iha h1 r1 (fun p hp=>hk p (by simp only[AO];exact GK.2 (.inl hp))),ihb h2 r2 (fun p hp=>hk p (by simp only[AO];exact GK.2 (.inr hp)))⟩
  |_=>intro x y cs h r _;cases h;exact r
section
variable {P:Program}{o:Oper}{a:Act}{g:Gh}{w:q9}{H:s7}{T:sS}(hT:xA P T) (hH:sE g w H)
include hT hH
theorem NF {t:TypeId}{ti:TI}(hty:tI P t ti) {x:ti.ty.den}{b off:Nat}{cs:pX}(hra:w.rangeAt b off cs) (hR:Rd g w ti.ty x cs):
    ∃v,(Instr.loadAt t (.pointer (some ⟨b,off,none⟩))).run P w= .ok v w∧tB g w ti.ty x v∧v.cells.toList=cs:=by
  obtain⟨d,hd,hrow⟩:=UT hty;obtain⟨i,hi,hsz,_⟩:=DU hty;have hl:=sV hR;by_cases hr:ti.ty.isRow=true
  .refine⟨.agg cs.toArray,run_loadAt_mid w b off t cs d hra hd (by rw[hrow,hr]) (by rw[hi,Option.map_some,hsz,hl]),.inl ⟨hr,cs,rfl,hR⟩,by simp [Value.cells]⟩
  have hr':ti.ty.isRow=false:=by simpa using hr
  have h1:ti.ty.cells=1:=by
    obtain⟨ty,el,by',ar,ls⟩:=ti;cases ty<;>first|rfl|(simp [Ty.isRow] at hr')
  obtain⟨v,rfl⟩: ∃v,cs=[v]:=by rw[h1] at hl;exact aTF.1 hl
  have hv1:=A1 hR v pS;refine⟨v,?_,.inr ⟨hr',hR⟩,by cases v<;>first|rfl|(simp [Value.oneCell'] at hv1)⟩
  have hc:w.cell? ⟨b,off,none⟩=some v:=by simpa using hra 0 v rfl
  have hagg:(isAgg t).run P w= .ok false w:=by
    unfold isAgg;rw[aSz,aSK hd w];rw[hr'] at hrow;cases d<;>simp_all [TypeDesc.isRow]
  simp [Instr.loadAt,Instr.sureAddr,loadVar,aSz,hagg,hc]
theorem L3 {b off:Nat}{c1 c2 c3:pX}(h:w.rangeAt b off (c1++c2++c3)):w.rangeAt b (off+c1.length) c2:=fun j v hj=>by
  have:=h (c1.length+j) v (by
    have hj':=(aSD.1 hj).1;rw[aSB,aSw pQ,aTb,aSG hj'];exact hj)
  rw[aS5];exact this
theorem a9U {k n c:Nat}{i:Int}{o':Nat}{v:qB}(hx:yO g w (.elt k n c i o') v) {e:TypeId}{t:Ty}{l:List t.den}{m:Nat}(hk:qO H k=some (.row e t l m)) (hnm:n=m) (hc:c=t.cells):
    ∃ b cap xs c1 c2 c3,v= .pointer (some ⟨b,i.toNat*c+o',none⟩)∧g.cur k m=some (.slice (some ⟨b,0,none⟩) m cap)∧w.ownsRow 0 e t.cells (.slice (some ⟨b,0,none⟩) m cap) m xs∧tT (Rd g w t) t.cells l xs∧l.length=m∧i.toNat<l.length∧0≤i∧
      xs=c1++c2++c3∧c1.length=i.toNat*c∧c2.length=c∧Rd g w t (qT t l i) c2:=by
  subst hnm;subst hc;obtain⟨b,cap,h1,h2,h3,hv⟩:=hx;obtain⟨hl,v0,xs,hv0,hown,hF,hnone,hseal⟩:=hH.blk k _ hk;rw[h1] at hv0;obtain rfl:=aSr hv0;have hi:i.toNat<l.length:=by rw[hl];omega
  obtain⟨c1,c2,c3,e1,e2,e3,e4⟩:=UX hF (a9Q h2 hi);exact⟨b,cap,xs,c1,c2,c3,hv,h1,hown,hF,hl,hi,h2,e1,e2,e3,e4⟩
theorem aIH {e:TypeId}{c n:Nat}{q cap:Nat}{xs:pX}(h:w.ownsRow 0 e c (.slice (some ⟨q,0,none⟩) n cap) n xs):w.rangeAt q 0 xs:=fun j u hu=>by
  have:=h.cells (g:=q) rfl j u hu;rwa [aTA] at this
theorem aII {t:TypeId}{ti:TI}(hst:rR T t=some ti) {k n c:Nat}{i:Int}{o':Nat}{vx:qB}(hx:yO g w (.elt k n c i o') vx) {e:qS}(hr:PS ti.ty k n c i o' (qO H k)=some e) (hs: ∀p∈e.side,p):
    ∃v,(Instr.loadAt t vx).run P w= .ok v w∧rO g w e.slot v∧e.upd=[]:=by
  generalize hk:qO H k=ob at hr;unfold PS at hr;split at hr
  · rename_i e' t' l m
    split at hr
    · rename_i hc
      generalize hga:r9 ti.ty t' (qT t' l i) o'=oy at hr;cases oy with
      |none=>cases hr
      | some y=>
        cases hr;have hnm:=hs _ (aSI.2 rfl);obtain⟨b,cap,xs,c1,c2,c3,hv,hcur,hown,hF,hl,hi,h0,e1,e2,e3,e4⟩:=a9U hT hH hx hk hnm hc;obtain⟨d1,d2,d3,f1,f2,f3⟩:=BR e4 hga;have hra:=aIH hT hH hown;rw[e1] at hra;have hra2:=L3 hT hH hra;rw[f1] at hra2;have hra3:=L3 hT hH hra2;rw[aSU,e2,f2] at hra3;obtain⟨v,h1,h2,_⟩:=NF hT hH (sZ hT hst) hra3 f3;exact⟨v,by rw[hv];exact h1,⟨h2,trivial⟩,rfl⟩
    cases hr
  cases hr
theorem a0E: ∀{toks:pV}{q k:Nat},wZ toks q=some k→(q,k)∈toks
  |[],_,_,h=>by simp [wZ] at h
  | (q',k')::r,q,k,h=>by
    simp only[wZ] at h;split at h
    · rename_i e
      subst e;simp only[aSm] at h;subst h;simp
    exact aSy _ (a0E h)
theorem a9V {u v:Ty}: ∀{t:Ty}{x:t.den}{q:Nat}{l:List u.den}{y:v.den},r9 (.list u) t x q=some l→r9 v t x q=some y→v.isRow=false→∃h:v= .list u,tV h y=l:=by
  intro t
  induction t with
  | pair s t ihs iht=>
    intro x q l y h1 h2 hv
    have key: ∀q,(if q<s.cells then r9 (.list u) s x.1 q else r9 (.list u) t x.2 (q-s.cells))=some l→(if q<s.cells then r9 v s x.1 q else r9 v t x.2 (q-s.cells))=some y→∃h:v= .list u,tV h y=l:=by
      intro q h1 h2;by_cases hq:q<s.cells
      .rw[aSn hq] at h1 h2;exact ihs h1 h2 hv
      rw[aSo hq] at h1 h2;exact iht h1 h2 hv
    cases q with
    | zero=>
      have e1:Ty.pair s t≠.list u:=by intro h;cases h
      have e2:Ty.pair s t≠v:=by intro h;subst h;simp [Ty.isRow] at hv
      unfold r9 at h1 h2;rw[aTP e1] at h1;rw[aTP e2] at h2;exact key 0 (by simpa using h1) (by simpa using h2)
    |succ q=>exact key (q+1) (by simpa[r9] using h1) (by simpa[r9] using h2)
  | _=>
    intro x q l y h1 h2 hv;cases q with
    | zero=>
      unfold r9 at h1 h2;split at h1
      · rename_i e1
        split at h2
        · rename_i e2
          first
          |(cases e1;done)
          | (subst e2
             injection e1 with e1'
             subst e1';simp only[tV,aSm] at h1 h2;subst h1;subst h2;exact⟨rfl,rfl⟩)
        simp at h2
      .simp at h1
    |succ q=>simp [r9] at h1
theorem aIJ {t:TypeId}{ti:TI}(hty:tI P t ti) (hr:ti.ty.isRow=false) {b off:Nat}{v:qB}(hc:w.cell? ⟨b,off,none⟩=some v):
    (Instr.loadAt t (.pointer (some ⟨b,off,none⟩))).run P w= .ok v w:=by
  obtain⟨d,hd,hrow⟩:=UT hty
  have hagg:(isAgg t).run P w= .ok false w:=by
    unfold isAgg;rw[aSz,aSK hd w];rw[hr] at hrow;cases d<;>simp_all [TypeDesc.isRow]
  simp [Instr.loadAt,Instr.sureAddr,loadVar,aSz,hagg,hc]
omit hT hH in
theorem a9W {a b:Option qS}{e:qS}(h:orE a b=some e):a=some e∨b=some e:=by
  cases a with
  |some r=>exact .inl h
  |none=>exact .inr h
omit hT hH in
theorem a9X {H:List (Nat×qJ)}{t:Ty}{i off:Nat}{b:Option qJ}{x:Option qS}{e:qS}(h:orS H t i off b x=some e):x=some e∨(x=none∧I8 H t i off b=some e):=by
  cases x with
  |some r=>exact .inl h
  |none=>exact .inr ⟨rfl,h⟩
theorem aIK {t:TypeId}{ti:TI}{x:Operand}(ho:o.op= .load t x) (hs:rR T t=some ti) {i off:Nat}(hx:tB g w .ref (some (i,off)) (a.eval x)) {e:qS}(hr:TG i off ti (qO H i)=some e):rH P o a g w H e:=by
  have hty:=sZ hT hs;generalize hb:qO H i=ob at hr;unfold TG at hr;split at hr
  · rename_i u el _ _ _ v x' toks
    generalize hga:r9 (.rl el u) v x' off=oy at hr;unfold Z9 at hr;split at hr
    · rename_i k n
      cases hr;obtain⟨p,hp,hv⟩:=xC hx;obtain⟨p',cs,hp',hR,hra,_⟩:=hH.blk i _ hb;rw[hp] at hp';obtain rfl:=aSr hp';obtain⟨c1,c2,c3,rfl,rfl,hR2⟩:=BR hR hga;obtain⟨v0,hcur,rfl,hsh⟩:=hR2;have hc:w.cell? ⟨p.1,p.2+c1.length,none⟩=some v0:=by simpa using L3 hT hH hra 0 _ rfl
      have h1:=aIJ (P:=P) hT hH hty rfl hc;exact rH.value (v:=v0) (g':=g) (w':=w) (by simp only[execOp,ho,hv,aSz,h1,aSu,aSN]) (.pure hH ⟨⟨hcur,hsh⟩,trivial⟩)
    cases hr
  cases hr
theorem aIL {t:TypeId}{ti:TI}{x:Operand}(ho:o.op= .load t x) (hs:rR T t=some ti) {i off:Nat}(hx:tB g w .ref (some (i,off)) (a.eval x)) {e:qS}(hr:I8 H ti.ty i off (qO H i)=some e) (hside: ∀p∈e.side,p):rH P o a g w H e:=by
  have hty:=sZ hT hs;generalize hb:qO H i=ob at hr;unfold I8 at hr;split at hr
  case h_2=>cases hr
  rename_i v z toks;generalize hf:BN v z=of at hr;cases of with
  |none=>cases hr
  | some kn=>
    obtain⟨k,n0⟩:=kn;simp only[TJ] at hr;generalize hk:qO H k=ok at hr;unfold TH at hr;split at hr
    case h_2=>cases hr
    rename_i el u0 l m;generalize hz:zN u0 l v z=oq at hr;cases oq with
    |none=>cases hr
    |some q=>
    obtain⟨v',x'⟩:=q;simp only[ZD] at hr;generalize hga:r9 ti.ty v' x' off=oy at hr;cases oy with
    |none=>cases hr
    | some y=>
      simp only[ZC,aSm] at hr;subst hr;have hnm:n0=m:=hside _ (aSI.2 rfl);subst hnm;obtain⟨g',hH',hJ,heff⟩:=aIE hH hk hb hf hz;obtain⟨p,hp,hv⟩:=xC hx;obtain⟨p',cs,hp',hR,hra,_,_,_⟩:=hH'.blk i (.cells v' x' []) (by simp [r6,qO]);rw[hJ,hp] at hp';obtain rfl:=aSr hp';obtain⟨c1,c2,c3,rfl,rfl,hR2⟩:=BR hR hga;obtain⟨v0,h1,h2,_⟩:=NF hT hH' hty (L3 hT hH' hra) hR2;exact rH.valueW (v:=v0) (g':=g') (w':=w) (by simp only[execOp,ho,hv,aSz,h1,aSu,aSN]) (heff _ _ _ _ rfl ⟨h2,trivial⟩)
theorem aIM {t:TypeId}{ti:TI}{x:Operand}(ho:o.op= .load t x) (hs:rR T t=some ti) {i off:Nat}(hx:tB g w .ref (some (i,off)) (a.eval x)) {e:qS}(hr:KG H ti.ty i off (qO H i)=some e) (hside: ∀p∈e.side,p):rH P o a g w H e:=by
  have hty:=sZ hT hs;generalize hb:qO H i=ob at hr;unfold KG at hr;split at hr
  case h_2=>cases hr
  rename_i v z toks;generalize hu:AN H v z=ou at hr;cases ou with
  |none=>cases hr
  | some z2=>
    simp only[TM] at hr;generalize hsa:BO H (AO v z)=osa at hr;generalize hga:r9 ti.ty (GD v) z2 off=oy at hr;cases osa with
    |none=>cases hr
    | some q=>
      obtain⟨ps,bs⟩:=q;cases oy with
      |none=>cases hr
      | some y=>
        simp only[TL,aSm] at hr;subst hr;obtain⟨g',k1,k2,k3,_,k5⟩:=a9T hH hsa hside;obtain⟨p,hp,hv⟩:=xC hx;obtain⟨p',cs,hp',hR,hra,_,_,_⟩:=hH.blk i _ hb;rw[hp] at hp';obtain rfl:=aSr hp';have hRz:=aIG hu (wE k3.le hR) k5;obtain⟨c1,c2,c3,rfl,rfl,hR2⟩:=BR hRz hga;obtain⟨v0,h1,h2,_⟩:=NF hT k3.heap hty (L3 hT hH hra) hR2;exact rH.value (v:=v0) (g':=g') (w':=w) (by simp only[execOp,ho,hv,aSz,h1,aSu,aSN]) (k3.slot' ⟨h2,trivial⟩)
theorem aIN {t:TypeId}{x:Operand}(ho:o.op= .load t x) {sx:qM}(hx:rO g w sx (a.eval x)) {e:qS}(hr:TN H (rR T t) sx=some e) (hside: ∀p∈e.side,p):rH P o a g w H e:=by
  generalize hs:rR T t=ot at hr;replace hx:=hx.1;unfold TN at hr;split at hr
  · rename_i ti k n c i o' _
    obtain⟨v,h1,h2,h3⟩:=aII hT hH hs hx hr hside;obtain⟨side,slot,upd,rds⟩:=e;simp only at h2 h3;subst h3;exact rH.value (v:=v) (g':=g) (w':=w) (by simp only[execOp,ho,aSz,h1,aSu,aSN]) (.pure hH h2)
  · rename_i ti u y k
    split at hr
    · rename_i hu
      subst hu;cases hr;have hty:=sZ hT hs;obtain⟨b,off,cs,hv,hra,hS,hR⟩:=hx;obtain⟨v,h1,h2,_⟩:=NF hT hH hty hra hR;exact rH.pure hH (v:=v) (by simp only[execOp,ho,hv,aSz,h1,aSu,aSN]) h2
    cases hr
  · rename_i ti i off k
    split at hr
    .exact aIM hT hH ho hs hx hr hside
    rcases a9X hr with hr|⟨_,hr⟩
    case inr=>exact aIL hT hH ho hs hx hr hside
    rcases a9W hr with hr|hr
    case inr=>exact aIK hT hH ho hs hx hr
    have hty:=sZ hT hs;generalize hb:qO H i=ob at hr;unfold PR at hr;split at hr
    · rename_i u z toks
      generalize hga:r9 ti.ty u z off=oy at hr;cases oy with
      |none=>cases hr
      | some y=>
        cases hr;obtain⟨p,hp,hv⟩:=xC hx;obtain⟨p',cs,hp',hR,hra,_,_,htk⟩:=hH.blk i _ hb;rw[hp] at hp';obtain rfl:=aSr hp';obtain⟨c1,c2,c3,rfl,rfl,hR2⟩:=BR hR hga;obtain⟨v,h1,h2,h3⟩:=NF hT hH hty (L3 hT hH hra) hR2;refine rH.value (v:=v) (g':=g) (w':=w) (by simp only[execOp,ho,hv,aSz,h1,aSu,aSN]) (.pure hH ⟨h2,?_⟩);obtain⟨ty,el,by',ar,ls⟩:=ti;cases ty with
        | list u'=>
          simp only[EW];generalize htt:wZ toks c1.length=ok;cases ok with
          |none=>trivial
          | some k=>
            obtain⟨u2,l,v',g1,g2,g3⟩:=htk _ _ (a0E hT hH htt);obtain⟨heq,hl⟩:=a9V hT hH g1 hga rfl;injection heq with heq'
            subst heq';have hlen:=sV hR2;obtain⟨v2,rfl⟩:=aTF.1 hlen
            have e2:v'=v2:=by
              have e:(c1++[v2]++c3)[c1.length]? =some v2:=by simp
              rw[e] at g2;exact(aSr g2).symm
            have e3:v=v2:=by
              have h4:=xB rfl h2;have hone:=A1 h4 v pS;have:v.cells= #[v]:=by cases v<;>first|rfl|(simp [Value.oneCell'] at hone)
              rw[this] at h3;simpa using h3
            subst e2;subst e3;have e4:(y:List u'.den)=l:=hl;subst e4;exact g3
        |_=>trivial
    cases hr
  cases hr
theorem UY {ρ:Operand→qM}{x:Option Operand}{n m:Int}(hρ: ∀y∈x.toList,rO g w (ρ y) (a.eval y)) (h:DN (zO ρ x) n=some m):(x=none∧m=n)∨∃y k,x=some y∧a.eval y= .int k m:=by
  cases x with
  |none=>simp only[zO,DN,aSm] at h;exact .inl ⟨rfl,h.symm⟩
  | some y=>
    have h0:=hρ y pS;simp only[zO] at h;unfold DN at h;split at h
    .cases ‹some _=none›
    · rename_i k q kk heq
      simp only[aSm] at heq h;rw[heq] at h0;subst h;exact .inr ⟨y,k,rfl,vX h0.1⟩
    cases h
theorem a9Y {isSlice:Bool}{len cap:Nat}{lo hi:Option Operand}{m n:Int}(hlo:(lo=none∧m=0)∨∃y k,lo=some y∧a.eval y= .int k m) (hhi:(hi=none∧n=(len:Int))∨∃y k,hi=some y∧a.eval y= .int k n)
    (h0:0≤m) (h1:m≤n) (h2:n≤(len:Int)) (h3:len≤cap):(Instr.sliceBounds isSlice len cap (lo.map a.eval) (hi.map a.eval) none).run P w= .ok (m.toNat,n.toNat,cap) w:=by
  have e1:(n.toNat:Int)=n:=Int.toNat_of_nonneg pQ;rcases hlo with⟨rfl,rfl⟩ |⟨y,k,rfl,hy⟩<;>rcases hhi with⟨rfl,rfl⟩ |⟨z,k',rfl,hz⟩
  .simp [Instr.sliceBounds]
  .simp [Instr.sliceBounds,hz,run_sliceBound,(by omega:0≤n),(by omega:n≤(cap:Int))]
  .simp [Instr.sliceBounds,hy,run_sliceBound,h0,h1]
  simp [Instr.sliceBounds,hy,hz,run_sliceBound,(by omega:0≤n),(by omega:n≤(cap:Int)),e1,h0,h1]
theorem aIO {t:TypeId}{x:Operand}{lo hi:Option Operand}(ho:o.op= .slice t x lo hi none) {ρ:Operand→qM}(hx:rO g w (ρ x) (a.eval x)) (hlo: ∀y∈lo.toList,rO g w (ρ y) (a.eval y)) (hhi: ∀y∈hi.toList,rO g w (ρ y) (a.eval y)) {e:qS}
    (hr:AK (YS (rR T t) (ρ x) (zO ρ lo) (zO ρ hi))=some e) (hs: ∀p∈e.side,p):rH P o a g w H e:=by
  obtain⟨q,hq,rfl⟩:=IJ hr;replace hx:=hx.1;generalize hst:rR T t=ot at hq;generalize hsx:ρ x=sx at hq hx;unfold YS at hq;split at hq
  · rename_i el by' ar ls_ l k
    generalize hb1:DN (zO ρ lo) 0=o1 at hq;generalize hb2:DN (zO ρ hi) (List.length l)=o2 at hq;unfold SU at hq;split at hq
    · rename_i m n
      cases hq;obtain⟨k1,k2,k3⟩:=hs _ (aSI.2 rfl);have h2:=(sZ hT hst).2;simp only[x9] at h2;have hv:=wI hx;have hbd:=a9Y (P:=P) (isSlice:=false) (cap:=List.length l) hT hH (UY hT hH hlo hb1) (UY hT hH hhi hb2) k1 k2 k3 (aSJ _);refine rH.pure hH (v:= .string ⟨(rV l m n).toArray⟩) ?_ (DB _ _ _);have hsz:(⟨List.toArray l⟩:ByteArray).size=List.length l:=by simp [ByteArray.size]
      have hext:(⟨List.toArray l⟩:ByteArray).extract m.toNat n.toNat=⟨(rV l m n).toArray⟩:=by
        apply ByteArray.ext;apply aTt.1;simp [rV]
      simp only[execOp,ho,hv,Option.map_none,Instr.sliceAt,Instr.slice,aSz,aSK h2,aSu,Option.isSome_none,aTO,aUt,hsz,hbd,hext,aSN]
    cases hq
  · rename_i u el by' ar ls_ t1 l k
    split at hq
    · rename_i htu
      subst htu;generalize hb1:DN (zO ρ lo) 0=o1 at hq;generalize hb2:DN (zO ρ hi) (List.length l)=o2 at hq;unfold SU at hq;split at hq
      · rename_i m n
        cases hq;obtain⟨k1,k2,k3⟩:=hs _ (aSI.2 rfl);obtain⟨h2,h3,_⟩:=(sZ hT hst).2;obtain⟨ei,hei,hz⟩:=aSE.1 h3;simp only[aSQ] at hz;obtain⟨ad,cap,hv,hle,hl⟩:=DT hx;have hbd:=a9Y (P:=P) (isSlice:=true) (cap:=cap) hT hH (UY hT hH hlo hb1) (UY hT hH hhi hb2) k1 k2 k3 hle;refine rH.pure hH (v:= .slice (if cap=m.toNat then ad else ad.map (·.add (m.toNat*t1.cells))) (n.toNat-m.toNat) (cap-m.toNat)) ?_ (.inr ⟨rfl,(if cap=m.toNat then ad else ad.map (·.add (m.toNat*t1.cells))),cap-m.toNat,?_,?_,?_⟩)
        .simp only[execOp,ho,hv,Option.map_none,Instr.sliceAt,Instr.slice,aSz,aSK h2,aSu,hbd,sizeOf,typeInfo,aTg,hei,hz.1,aSN]
        .rw[a0C k1 k2 k3]
        .rw[a0C k1 k2 k3];omega
        rcases hl with rfl|⟨b,off,rfl,hL⟩
        .exact .inl (by simp [rV])
        by_cases hc:cap=m.toNat
        · left
          apply aSS;rw[a0C k1 k2 k3];omega
        right
        rw[aSo hc];refine⟨b,off+m.toNat*t1.cells,by simp [aTA],?_⟩;exact a9G _ (a9F _ hL pQ)
      cases hq
    cases hq
  cases hq
end
theorem a0F {α:Type}{R:α->pX->Prop}{c:Nat}(hR: ∀x cs,R x cs->∀v∈cs,v.oneCell'=true): ∀{l:List α}{cs:pX},tT R c l cs->∀v∈cs,v.oneCell'=true
 |[],_,h=>by rw[h];simp
 |_::_,_,⟨c1,c2,e,_,h2,h3⟩=>by
  subst e;intro v hv;rcases aTc.1 hv with h|h
  .exact hR _ _ h2 v h
  exact a0F hR h3 v h
theorem UZ {α:Type}{R:α->pX->Prop}{c:Nat}: ∀{l:List α}{cs cy:pX}{i:Nat}{y:α},tT R c l cs->R y cy->cy.length=c->i<l.length->
  ∃c1 c2 c3,cs=c1++c2++c3/\c1.length=i*c/\c2.length=c/\tT R c (l.set i y) (c1++cy++c3)
 |[],_,_,_,_,_,_,_,h=>by simp at h
 |_::l,_,cy,0,y,⟨c1,c2,e,h1,_,h3⟩,hy,hc,_=>⟨[],c1,c2,by simpa using e,by simp,h1,⟨cy,c2,by simp,hc,hy,h3⟩⟩
 |x::l,_,cy,i+1,y,⟨c1,c2,e,h1,h2,h3⟩,hy,hc,hi=>by
  obtain⟨d1,d2,d3,e1,e2,e3,e4⟩:=UZ h3 hy hc (by simpa using hi);refine⟨c1++d1,d2,d3,by rw[e,e1];simp,by rw[aSp,h1,e2,aTy];omega,e3,⟨c1,d1++cy++d3,by simp,h1,h2,e4⟩⟩
theorem QD {α:Type}{R:α->pX->Prop}{w:q9}{S:Nat->Nat->Prop}{c b:Nat}: ∀{l:List α}{o:Nat},yC R w S c b o l->∃cs,tT R c l cs/\w.rangeAt b o cs/\∀j,j<l.length*c->S b (o+j)
 |[],o,_=>⟨[],rfl,fun j v h=>by simp at h,fun j h=>by simp at h⟩
 |x::l,o,⟨⟨c1,h1,h2,h3,h4⟩,h5⟩=>by
  obtain⟨c2,k1,k2,k3⟩:=QD h5;refine⟨c1++c2,⟨c1,c2,rfl,h1,h4,k1⟩,fun j v hv=>?_,fun j hj=>?_⟩
  .by_cases hj:j<c
   .exact h2 j v (by rwa [aSG pQ] at hv)
   have:=k2 (j-c) v (by rw[aSw pQ,h1] at hv;exact hv);rwa [show o+c+(j-c)=o+j from by omega] at this
  by_cases hj':j<c
  .exact h3 j hj'
  have:=k3 (j-c) (by rw[aSt,aTy] at hj;omega);rwa [show o+c+(j-c)=o+j from by omega] at this
theorem a9Z {g:Gh}{w:q9}{t:Ty}: ∀n,tT (Rd g w t) t.cells (D7 t n) (List.flatten (List.replicate n (tX t)))
 |0=>rfl
 |n+1=>⟨tX t,_,rfl,sV (DS g w t),DS g w t,a9Z n⟩
theorem a90 (t:Ty): ∀n,(D7 t n).length=n
 |0=>rfl
 |n+1=>by simp [D7,a90 t n]
def Gh.tok (g:Gh) (k n:Nat) (v:qB):Gh:={g with cur:=fun k' n'=>if k'=k/\n'=n then some v else g.cur k' n'}
def Gh.var (g:Gh) (i b:Nat) (k:Option (TypeId×Nat)):Gh:={g with J:=fun i'=>if i'=i then some ⟨b,0,k⟩ else g.J i'}
def Gh.shut (g:Gh) (b m:Nat):Gh:={g with S:=fun b' o=>g.S b' o\/(b'=b/\o<m)}
section
variable {g:Gh}{w:q9}{H:s7}(hH:sE g w H)
include hH
theorem rL.nilTok {side:List Prop}{d:DV}{rds:q8}{base e c:Nat}{u:Ty}(hd:d= .val (.list u) []) (hf: ∀n,g.cur base n=none):
  rL g w H ⟨side,(d,some base),[(base,.grow e c 0)],rds⟩ (g.tok base 0 (.slice none 0 0)) w (.slice none 0 0):=by
 have le:Le g w (g.tok base 0 (.slice none 0 0)) w:=⟨fun _ _ h=>h,fun _ _ _=>rfl,fun _ _ h=>h,fun k n v h=>by
  show (if k=base/\n=0 then _ else _)=_;rw[aSo (fun⟨e1,_⟩=>by rw[e1,hf] at h;cases h)];exact h⟩
 have fr:Fr (sU g H (qQ [(base,qJ.grow e c 0)])) w w g.S (g.tok base 0 (.slice none 0 0)).S:= .refl _ _ _;have gho: ∀i,i∉qQ [(base,qJ.grow e c 0)]->(g.tok base 0 (.slice none 0 0)).J i=g.J i/\(g.tok base 0 (.slice none 0 0)).cur i=g.cur i:=fun i hi=>⟨rfl,by
  funext n;show (if i=base/\n=0 then _ else _)=_;rw[aSo (fun⟨e1,_⟩=>hi (by simp [qQ,e1]))]⟩
 have cur0:(g.tok base 0 (.slice none 0 0)).cur base 0=some (.slice none 0 0):=by simp [Gh.tok]
 have own: ∀i blk b o,i∈qQ [(base,qJ.grow e c 0)]->qO (r6 [(base,qJ.grow e c 0)] H) i=some blk->¬s9 (g.tok base 0 (.slice none 0 0)) i blk b o:=by
  intro i blk b o hi hg ho;simp only[qQ,aSI] at hi;subst hi;simp only[r6,qO,aTW,aSm] at hg;subst hg;obtain⟨v,hv,hb⟩:=ho;rw[cur0] at hv;obtain rfl:=aSr hv;cases hb
 subst hd;refine⟨le,⟨.inr ⟨rfl,none,0,rfl,aSJ _,.inl rfl⟩,cur0⟩,hH.upd le fr (fun i blk b o h1 h2 h3=>absurd h3 (own i blk b o h1 h2)) gho (fun i blk hi hg=>?_) (fun i j bi bj b o hi hj hij hgi hgj hoi hoj=>own i bi b o hi hgi hoi) hH.sl,fr,fun i blk b o h1 h2 h3=>absurd h3 (own i blk b o h1 h2),gho,fun i u' y us h=>by
  simp only[r6,qO] at h;split at h
  .cases h
  exact .inl ⟨y,us,h⟩⟩
 simp only[qQ,aSI] at hi;subst hi;simp only[r6,qO,aTW,aSm] at hg;subst hg;refine⟨.slice none 0 0,[],cur0,World.ownsRow_nil w 0 e c,fun m hm=>?_,fun b hb=>by cases hb⟩;show (if i=i/\m=0 then _ else _)=_;rw[aSo pQ];exact hf m
theorem rL.row {side:List Prop}{rds:q8}{s:qM}{val:qB}{k:Nat}{e:TypeId}{t:Ty}{l:List t.den}{n:Nat}{v:qB}{xs:pX}{w':q9}
  (hl:l.length=n) (hown:w'.ownsRow 0 e t.cells v n xs) (hF:tT (Rd g w t) t.cells l xs) (hnone: ∀m,n<m->g.cur k m=none) (hcur: ∀u,g.cur k n=some u->u=v)
  (hg:w.grownBy w' (v.ownBlock)\/∃q,w.grownBy w' q/\∀b,q=some b->∀o,sU g H [k] b o)
  (hcell: ∀b o,g.S b o->w'.cell? ⟨b,o,none⟩=w.cell? ⟨b,o,none⟩)
  (hseal: ∀b,v.ownBlock=some b->∀o,¬g.S b o)
  (hperm: ∀b,v.ownBlock=some b->w.heap.size<=b\/∀o,sU g H [k] b o)
  (hslot:rO (g.tok k n v) w' s val):rL g w H ⟨side,s,[(k,.row e t l n)],rds⟩ (g.tok k n v) w' val:=by
 have le:Le g w (g.tok k n v) w':=⟨fun _ _ h=>h,fun b o h=>hcell b o h,fun _ _ h=>h,fun k' n' v' h=>by
  show (if k'=k/\n'=n then _ else _)=_;by_cases hk:k'=k/\n'=n
  .obtain⟨rfl,rfl⟩:=hk;rw[aSn ⟨rfl,rfl⟩,hcur _ h]
  rw[aSo hk];exact h⟩
 have cur1:(g.tok k n v).cur k n=some v:=by simp [Gh.tok]
 have hblk: ∀b,b<w.heap.size->(∀o,¬sU g H (qQ [(k,qJ.row e t l n)]) b o)->w'.heap[b]? =w.heap[b]? :=by
  intro b hb hno;rcases hg with hg|⟨q,hg,hq⟩
  .refine hg.block b hb (fun e1=>?_);rcases hperm b e1.symm with h|h
   .omega
   exact hno 0 (h 0)
  exact hg.block b hb (fun e1=>hno 0 (hq b e1.symm 0))
 have hgo:w'.os=w.os/\w'.tape=w.tape/\w'.output=w.output/\w.heap.size<=w'.heap.size:=by
  rcases hg with hg|⟨q,hg,_⟩
  .exact⟨hg.os,hg.tape,hg.output,hg.size⟩
  exact⟨hg.os,hg.tape,hg.output,hg.size⟩
 have hall: ∀b o,sU g H (qQ [(k,qJ.row e t l n)]) b o->True:=fun _ _ _=>trivial;have hcell2: ∀b o,b<w.heap.size->¬sU g H (qQ [(k,qJ.row e t l n)]) b o->(w'.cell? ⟨b,o,none⟩=w.cell? ⟨b,o,none⟩/\w'.frozen? ⟨b,o,none⟩=w.frozen? ⟨b,o,none⟩):=by
  intro b o hb hno;have:w'.heap[b]? =w.heap[b]? :=by
   rcases hg with hg|⟨q,hg,hq⟩
   .refine hg.block b hb (fun e1=>?_);rcases hperm b e1.symm with h|h
    .omega
    exact hno (h o)
   exact hg.block b hb (fun e1=>hno (hq b e1.symm o))
  exact⟨aSL (a:=⟨b,o,none⟩) this,aS9 (a:=⟨b,o,none⟩) this⟩
 have hshape: ∀b s,w.shape? b=some s->w'.shape? b=some s\/∀o,sU g H (qQ [(k,qJ.row e t l n)]) b o:=by
  intro b s hs;rcases hg with hg|⟨q,hg,hq⟩
  .by_cases e1:v.ownBlock=some b
   .rcases hperm b e1 with h|h
    .have:=BS hs;omega
    exact .inr h
   exact .inl ((BT (hg.block b (BS hs) (fun h=>e1 h.symm))).trans hs)
  by_cases e1:q=some b
  .exact .inr (hq b e1)
  exact .inl ((BT (hg.block b (BS hs) (fun h=>e1 h.symm))).trans hs)
 have fr:Fr (sU g H (qQ [(k,qJ.row e t l n)])) w w' g.S (g.tok k n v).S:=⟨hgo.1,hgo.2.1,hgo.2.2.1,hgo.2.2.2,hblk,hcell2,fun b o h=> .inl h,hshape⟩;have gho: ∀i,i∉qQ [(k,qJ.row e t l n)]->(g.tok k n v).J i=g.J i/\(g.tok k n v).cur i=g.cur i:=fun i hi=>⟨rfl,by
  funext n';show (if i=k/\n'=n then _ else _)=_;rw[aSo (fun⟨e1,_⟩=>hi (by simp [qQ,e1]))]⟩
 have get: ∀i blk,i∈qQ [(k,qJ.row e t l n)]->qO (r6 [(k,qJ.row e t l n)] H) i=some blk->i=k/\blk= .row e t l n:=by
  intro i blk hi hg;simp only[qQ,aSI] at hi;subst hi;simp only[r6,qO,aTW,aSm] at hg;exact⟨rfl,hg.symm⟩
 have perm: ∀i blk b o,i∈qQ [(k,qJ.row e t l n)]->qO (r6 [(k,qJ.row e t l n)] H) i=some blk->s9 (g.tok k n v) i blk b o->w.heap.size<=b\/sU g H (qQ [(k,qJ.row e t l n)]) b o:=by
  intro i blk b o hi hgt ho;obtain⟨rfl,rfl⟩:=get i blk hi hgt;obtain⟨v',hv',hb⟩:=ho;rw[cur1] at hv';obtain rfl:=aSr hv';exact(hperm b hb).imp id (fun h=>h o)
 refine⟨le,hslot,hH.upd le fr perm gho (fun i blk hi hgt=>?_) (fun i j bi bj b o hi hj hij hgi hgj _ _=>hij ((get i bi hi hgi).1.trans (get j bj hj hgj).1.symm)) (fun b o h=>aSY (hH.sl b o h) hgo.2.2.2),fr,perm,gho,fun i u' y us h=>by
  simp only[r6,qO] at h;split at h
  .cases h
  exact .inl ⟨y,us,h⟩⟩
 obtain⟨rfl,rfl⟩:=get i blk hi hgt;refine⟨hl,v,xs,cur1,hown,CH (fun _ _ h=>wE le h) hF,fun m hm=>?_,hseal⟩;show (if i=i/\m=n then _ else _)=_;rw[aSo pQ];exact hnone m hm
theorem rL.newVarJ {side:List Prop}{rds:q8}{base:Nat}{t:Ty}{x:t.den}{toks:pV}{cs:pX}{e:TypeId}(hR:Rd (g.var base w.heap.size (some (e,cs.length))) w t x cs) (htk:GJ g t x cs toks) (hf:g.J base=none) (hc:g.cur base=fun _=>none):
  rL g w H ⟨side,(.val .ref (some (base,0)),none),[(base,.cells t x toks)],rds⟩ (g.var base w.heap.size (some (e,cs.length))) (w.alloc (.cells cs.toArray e)) (.pointer (some ⟨w.heap.size,0,none⟩)):=by
 have hJ:(g.var base w.heap.size (some (e,cs.length))).J base=some ⟨w.heap.size,0,some (e,cs.length)⟩:=by simp [Gh.var]
 have le:Le g w (g.var base w.heap.size (some (e,cs.length))) (w.alloc (.cells cs.toArray e)):=⟨fun _ _ h=>h,fun b o h=>aSL (a:=⟨b,o,none⟩) (aST _ _ _ (hH.sl b o h)),fun i p h=>by
  show (if i=base then _ else _)=_;rw[aSo (fun e1=>by rw[e1,hf] at h;cases h)];exact h,fun _ _ _ h=>h⟩
 have le2:Le (g.var base w.heap.size (some (e,cs.length))) w (g.var base w.heap.size (some (e,cs.length))) (w.alloc (.cells cs.toArray e)):=⟨fun _ _ h=>h,fun b o h=>aSL (a:=⟨b,o,none⟩) (aST _ _ _ (hH.sl b o h)),fun _ _ h=>h,fun _ _ _ h=>h⟩;have fr:Fr (sU g H (qQ [(base,qJ.cells t x toks)])) w (w.alloc (.cells cs.toArray e)) g.S (g.var base w.heap.size (some (e,cs.length))).S:=
  ⟨rfl,rfl,rfl,by simp,fun b hb _=>aST _ _ _ hb,fun b o hb _=>⟨aSL (a:=⟨b,o,none⟩) (aST _ _ _ hb),aS9 (a:=⟨b,o,none⟩) (aST _ _ _ hb)⟩,fun b o h=> .inl h,fun b s h=> .inl ((BT (aST _ _ _ (BS h))).trans h)⟩
 have gho: ∀i,i∉qQ [(base,qJ.cells t x toks)]->(g.var base w.heap.size (some (e,cs.length))).J i=g.J i/\(g.var base w.heap.size (some (e,cs.length))).cur i=g.cur i:=fun i hi=>⟨by
  show (if i=base then _ else _)=_;rw[aSo (fun e1=>hi (by simp [qQ,e1]))],rfl⟩
 have get: ∀i blk,i∈qQ [(base,qJ.cells t x toks)]->qO (r6 [(base,qJ.cells t x toks)] H) i=some blk->i=base/\blk= .cells t x toks:=by
  intro i blk hi hg;simp only[qQ,aSI] at hi;subst hi;simp only[r6,qO,aTW,aSm] at hg;exact⟨rfl,hg.symm⟩
 have perm: ∀i blk b o,i∈qQ [(base,qJ.cells t x toks)]->qO (r6 [(base,qJ.cells t x toks)] H) i=some blk->s9 (g.var base w.heap.size (some (e,cs.length))) i blk b o->w.heap.size<=b\/sU g H (qQ [(base,qJ.cells t x toks)]) b o:=by
  intro i blk b o hi hg ho;obtain⟨rfl,rfl⟩:=get i blk hi hg;obtain⟨p,hp,h1,_⟩:=ho;rw[hJ] at hp;obtain rfl:=aSr hp;exact .inl (aTU h1.symm)
 have hl:=sV hR;refine⟨le,⟨.inr ⟨rfl,_,hJ,rfl⟩,trivial⟩,hH.upd le fr perm gho (fun i blk hi hg=>?_) (fun i j bi bj b o hi hj hij hgi hgj _ _=>hij ((get i bi hi hgi).1.trans (get j bj hj hgj).1.symm)) (fun b o h=>aSY (hH.sl b o h) pS),fr,perm,gho,fun i u' y us h=>by
  simp only[r6,qO] at h;split at h
  .rename_i e1;subst e1;exact .inr ⟨hf,fun n=>by rw[hc]⟩
  exact .inl ⟨y,us,h⟩⟩
 obtain⟨rfl,rfl⟩:=get i blk hi hg;refine⟨_,cs,hJ,wE le2 hR,fun j v hv=>?_,⟨fun j hj=>?_,fun _ s hs=>?_⟩,fun j _ hs=>aUh _ (hH.sl _ _ hs),a9D le.cur htk⟩
 .simp only[aSU];rw[aTL];simpa using hv
 .simp only[aSU];rw[aTL,World.frozen?_alloc_new];exact⟨by simp;omega,rfl⟩
 cases hs;show (match (w.heap.push (.cells cs.toArray e))[w.heap.size]? with|some (.cells c elem _)=>some (elem,c.size) |_=>none)=_
 rw[aUl];simp only[aTp]
theorem rL.newVar {side:List Prop}{rds:q8}{base:Nat}{t:Ty}{x:t.den}{toks:pV}{cs:pX}{e:TypeId}(hR:Rd g w t x cs) (htk:GJ g t x cs toks) (hf:g.J base=none) (hc:g.cur base=fun _=>none):
  rL g w H ⟨side,(.val .ref (some (base,0)),none),[(base,.cells t x toks)],rds⟩ (g.var base w.heap.size (some (e,cs.length))) (w.alloc (.cells cs.toArray e)) (.pointer (some ⟨w.heap.size,0,none⟩)):=
 rL.newVarJ hH (wE (g:=g) (g':=g.var base w.heap.size (some (e,cs.length))) (w:=w) (w':=w) ⟨fun _ _ h=>h,fun _ _ _=>rfl,fun i p h=>by
  show (if i=base then _ else _)=_;rw[aSo (fun e1=>by rw[e1,hf] at h;cases h)];exact h,fun _ _ _ h=>h⟩ hR) htk hf hc
end
theorem a91 {P:Program}(w:q9) (t ty e:TypeId) (i:TypeInfo) (z:qB) (size bytes:Nat) (ht:P.underlying t=some (.slice e)) (hi:P.info? e=some i) (hz:i.zero=some z)
  (hsize:i.size=size) (hby:i.bytes=bytes) (hzs:z.cells.size=size)
  (v:qB) (n:Nat) (xs:pX) (hown:w.ownsRow 0 e size v n xs)
  (a:Addr) (m c:Nat) (news:pX) (hl:news.length=m*size) (hnews: ∀j u,news[j]? =some u->w.cell? (a.add j)=some u) (h1: ∀u∈news,u.oneCell'=true) (hm:0<m)
  (h63:n+m<=maxLen) (hbytes:(n+m)*bytes<=140737488355328):
  ∃q cap w',(Builtin.append_ #[t,t] ty #[v,.slice (some a) m c]).run P w= .ok (.slice (some ⟨q,0,none⟩) (n+m) cap) w'/\w'.ownsRow 0 e size (.slice (some ⟨q,0,none⟩) (n+m) cap) (n+m) (xs++news)/\
   (q=w.heap.size\/v.ownBlock=some q)/\w.grownBy w' v.ownBlock/\n+m<=cap/\
   ∀b o,b<w.heap.size->(v.ownBlock=some b->o<n*size)->w'.cell? ⟨b,o,none⟩=w.cell? ⟨b,o,none⟩:=by
 subst hsize;subst hby;have hsmall:n+m<=9223372036854775807:=by simp only[maxLen] at h63;omega
 have hlen:(xs++news).length=(n+m)*i.size:=by rw[aSp,hown.1,hl,Nat.add_mul]
 have grown: ∀(old:Nat),old<n+m->∀(row:pZ),
   (w.drew.alloc (.cells (xs.toArray++news.toArray++Builtin.zeroCells z.cells (grownCap w (n+m) old e- (n+m))) e)).ownsRow 0 e i.size
    (.slice (some ⟨w.heap.size,0,none⟩) (n+m) (grownCap w (n+m) old e)) (n+m) (xs++news)/\
   w.grownBy (w.drew.alloc (.cells (xs.toArray++news.toArray++Builtin.zeroCells z.cells (grownCap w (n+m) old e- (n+m))) e)) row/\n+m<=grownCap w (n+m) old e/\
   ∀b o,b<w.heap.size->(w.drew.alloc (.cells (xs.toArray++news.toArray++Builtin.zeroCells z.cells (grownCap w (n+m) old e- (n+m))) e)).cell? ⟨b,o,none⟩=w.cell? ⟨b,o,none⟩:=by
  intro old ho row;have hge:=grownCap_ge w (n+m) old e;have hcm:grownCap w (n+m) old e<=maxLen:=grownCap_le_maxLen w (n+m) old e h63;refine⟨⟨hlen,.inr ⟨w.heap.size,_,_,rfl,aTo _,aUv w.drew _,hge,hcm,?_,?_⟩⟩,⟨rfl,rfl,rfl,by simp,fun k hk _=>aST w.drew _ k hk⟩,hge,fun b o hb=>aSL (w:=w) (a:=⟨b,o,none⟩) (aST w.drew _ b hb)⟩
  .simp only[aUx,aTp,size_zeroCells,hzs,hown.1,hl,<-Nat.add_mul];congr 1;omega
  simp only[Array.toList_append,aSB];rw[<-aSB,<-hlen];exact aTK
 rcases hown.2 with⟨rfl,rfl⟩ |⟨g,cap,cur,rfl,hbg,hg,hnc,hcm,hcs,htake⟩
 .have hx:xs=[]:=aSS (by simpa using hown.1);subst hx;have hr:=run_append_nil (P:=P) w t ty e i z ht hi hz a m c news hl hnews pQ pQ (by have hb:=hbytes;simp only[aSU] at hb;omega);have hgr:=grown 0 pQ (Value.ownBlock (.slice none 0 0));simp only[aSU,List.nil_append,Array.empty_append] at hgr|-;exact⟨_,_,_,hr,hgr.1,.inl rfl,hgr.2.1,hgr.2.2.1,fun b o hb _=>hgr.2.2.2 b o hb⟩
 by_cases hroom:n+m<=cap
 .have hfit:n*i.size+news.length<=cur.size:=by rw[hl,hcs,<-Nat.add_mul];exact aTH _ hroom
  have hr:=run_append_room (P:=P) w t ty e i ht hi g n cap cur hg a m c news hl hnews h1 hroom hfit;refine⟨_,_,_,hr,⟨hlen,.inr ⟨g,cap,_,rfl,hbg,aUy w g cur _ e _ hg,hroom,hcm,?_,?_⟩⟩,.inr rfl,⟨rfl,rfl,rfl,by simp,fun k _ hk=>aUc w g k _ (fun e=>hk (by simp [Value.ownBlock,e]))⟩,hroom,fun b o hb hso=>?_⟩
  .simp only[aTp,aSp,aS0,aSW,aTe];omega
  .rw[htake,<-hlen];exact aTK
  by_cases hbg':b=g
  .subst hbg';have ho:=hso rfl;rw[cell_setRow_same w b o cur _ e _ hg,cell_of_row w b o cur e (0,0) hg];have hlt:o<(cur.toList.take (n*i.size)).length:=by rw[aS0,aTe];omega
   rw[aSB,List.getElem?_toArray,aSG hlt,List.getElem?_take,aSn ho,aTk]
  exact aSL (w:=w) (a:=⟨b,o,none⟩) (aUc w g b _ hbg')
 have holds: ∀j u,xs[j]? =some u->w.cell? ((⟨g,0,none⟩:Addr).add j)=some u:=hown.cells (g:=g) rfl;have hr:=run_append_grow (P:=P) w t ty e i z ht hi hz ⟨g,0,none⟩ n cap xs hown.1 holds a m c news hl hnews pQ pQ (growslice_fits pQ hbytes);have hgr:=grown cap pQ (Value.ownBlock (.slice (some ⟨g,0,none⟩) n cap));exact⟨_,_,_,hr,hgr.1,.inl rfl,hgr.2.1,hgr.2.2.1,fun b o hb _=>hgr.2.2.2 b o hb⟩
theorem a0G {w:q9}{e:TypeId}{c n:Nat}{q cap:Nat}{xs:pX}(h:w.ownsRow 0 e c (.slice (some ⟨q,0,none⟩) n cap) n xs):w.rangeAt q 0 xs:=fun j u hu=>by
 have:=h.cells (g:=q) rfl j u hu;rwa [aTA] at this
theorem aIP (w:q9) (a:Addr) (v:qB) (b:Nat):(w.setCell a v).shape? b=w.shape? b:=by
 unfold World.shape? World.setCell;simp only[aTl];by_cases h:a.block=b
 .rw[aSn h];cases hb:w.heap[b]? with
  |none=>rfl
  |some x=>
   cases x with
   |cells c e f=>
    simp only[Option.map_some];split<;>simp
   |_=>rfl
 rw[aSo h]
theorem QE (b:Nat): ∀(l:pX) (o:Nat) (w:q9) (b':Nat),(w.setCells b o l).shape? b'=w.shape? b'
 |[],_,_,_=>rfl
 |v::l,o,w,b'=>by rw[World.setCells,QE b l,aIP]
section
variable {g:Gh}{w:q9}{H:s7}(hH:sE g w H)
include hH
theorem rL.append {side:List Prop}{rds:q8}{k e c n:Nat}{u:Ty}{l r:List u.den}{w':q9}{q cap:Nat}{v:qB}{xs news:pX}(hk:qO H k=some (.grow e c n)) (hc:c=u.cells)
  (hln:l.length=n) (hv:g.cur k n=some v) (hown:w.ownsRow 0 e c v n xs) (hnone: ∀m,n<m->g.cur k m=none) (hseal: ∀b,v.ownBlock=some b->∀o,g.S b o->o<n*c) (hl:tT (Rd g w u) c l xs) (hr:tT (Rd g w u) c r news) (hm:0<r.length)
  (ho:w'.ownsRow 0 e c (.slice (some ⟨q,0,none⟩) (n+r.length) cap) (n+r.length) (xs++news)) (hq:q=w.heap.size\/v.ownBlock=some q) (hg:w.grownBy w' v.ownBlock) (hcap:n+r.length<=cap)
  (hcell: ∀b o,b<w.heap.size->(v.ownBlock=some b->o<n*c)->w'.cell? ⟨b,o,none⟩=w.cell? ⟨b,o,none⟩):
  rL g w H ⟨side,(.val (.list u) (l++r),some k),[(k,.grow e c (n+r.length))],rds⟩ ((g.tok k (n+r.length) (.slice (some ⟨q,0,none⟩) (n+r.length) cap)).shut q ((n+r.length)*c)) w' (.slice (some ⟨q,0,none⟩) (n+r.length) cap):=by
 have hnb:=hnone (n+r.length) pQ;have hownk: ∀o b,v.ownBlock=some b->sU g H (qQ [(k,qJ.grow e c (n+r.length))]) b o:=fun o b hb=>⟨k,_,by simp [qQ],hk,v,hv,hb⟩;have hqlt:q<w'.heap.size:=(ho.lt q rfl).2;have le:Le g w ((g.tok k (n+r.length) (.slice (some ⟨q,0,none⟩) (n+r.length) cap)).shut q ((n+r.length)*c)) w':=⟨fun _ _ h=> .inl h,fun b o h=>hcell b o (hH.sl b o h) (fun hb=>hseal b hb o h),fun _ _ h=>h,fun k' n' v' h=>by
  show (if k'=k/\n'=n+r.length then _ else _)=_;rw[aSo (fun⟨e1,e2⟩=>by rw[e1,e2,hnb] at h;cases h)];exact h⟩
 have fr:Fr (sU g H (qQ [(k,qJ.grow e c (n+r.length))])) w w' g.S ((g.tok k (n+r.length) (.slice (some ⟨q,0,none⟩) (n+r.length) cap)).shut q ((n+r.length)*c)).S:=by
  have hbk: ∀b,b<w.heap.size->∀o,¬sU g H (qQ [(k,qJ.grow e c (n+r.length))]) b o->w'.heap[b]? =w.heap[b]? :=fun b hb o hno=>hg.block b hb (fun e1=>hno (hownk o b e1.symm));refine⟨hg.os,hg.tape,hg.output,hg.size,fun b hb hno=>hbk b hb 0 (hno 0),fun b o hb hno=>⟨aSL (a:=⟨b,o,none⟩) (hbk b hb o hno),aS9 (a:=⟨b,o,none⟩) (hbk b hb o hno)⟩,fun b o h=>?_,fun b s hs=>?_⟩
  rotate_left
  .by_cases e1:v.ownBlock=some b
   .exact .inr fun o=>hownk o b e1
   exact .inl ((BT (hg.block b (BS hs) (fun h=>e1 h.symm))).trans hs)
  rcases h with h|⟨rfl,_⟩
  .exact .inl h
  rcases hq with h|h
  .exact .inr (.inl (aTU h.symm))
  exact .inr (.inr (hownk o b h))
 have gho: ∀i,i∉qQ [(k,qJ.grow e c (n+r.length))]->((g.tok k (n+r.length) (.slice (some ⟨q,0,none⟩) (n+r.length) cap)).shut q ((n+r.length)*c)).J i=g.J i/\((g.tok k (n+r.length) (.slice (some ⟨q,0,none⟩) (n+r.length) cap)).shut q ((n+r.length)*c)).cur i=g.cur i:=fun i hi=>⟨rfl,by
  funext n';show (if i=k/\n'=n+r.length then _ else _)=_;rw[aSo (fun⟨e1,_⟩=>hi (by simp [qQ,e1]))]⟩
 have cur1:((g.tok k (n+r.length) (.slice (some ⟨q,0,none⟩) (n+r.length) cap)).shut q ((n+r.length)*c)).cur k (n+r.length)=some (.slice (some ⟨q,0,none⟩) (n+r.length) cap):=by
  show (if k=k/\n+r.length=n+r.length then _ else _)=_;simp
 have get: ∀i blk,i∈qQ [(k,qJ.grow e c (n+r.length))]->qO (r6 [(k,qJ.grow e c (n+r.length))] H) i=some blk->i=k/\blk= .grow e c (n+r.length):=by
  intro i blk hi hg;simp only[qQ,aSI] at hi;subst hi;simp only[r6,qO,aTW,aSm] at hg;exact⟨rfl,hg.symm⟩
 have perm: ∀i blk b o,i∈qQ [(k,qJ.grow e c (n+r.length))]->qO (r6 [(k,qJ.grow e c (n+r.length))] H) i=some blk->s9 ((g.tok k (n+r.length) (.slice (some ⟨q,0,none⟩) (n+r.length) cap)).shut q ((n+r.length)*c)) i blk b o->w.heap.size<=b\/sU g H (qQ [(k,qJ.grow e c (n+r.length))]) b o:=by
  intro i blk b o hi hgt ho';obtain⟨rfl,rfl⟩:=get i blk hi hgt;obtain⟨v',hv',hb⟩:=ho';rw[cur1] at hv';obtain rfl:=aSr hv';cases hb;rcases hq with h|h
  .exact .inl (aTU h.symm)
  exact .inr (hownk o _ h)
 have hF:tT (Rd ((g.tok k (n+r.length) (.slice (some ⟨q,0,none⟩) (n+r.length) cap)).shut q ((n+r.length)*c)) w' u) u.cells (l++r) (xs++news):=hc▸CH (fun _ _ h=>wE le h) (a0r hl hr);have hlr:(l++r).length=n+r.length:=by rw[aSp,hln]
 refine⟨le,⟨.inr ⟨rfl,some ⟨q,0,none⟩,cap,by rw[hlr],by rw[hlr];exact hcap,.inr ⟨q,0,rfl,IK hF (a0G ho) (fun j hj=>?_)⟩⟩,?_⟩,hH.upd le fr perm gho (fun i blk hi hgt=>?_) (fun i j bi bj b o hi hj hij hgi hgj _ _=>hij ((get i bi hi hgi).1.trans (get j bj hj hgj).1.symm)) (fun b o h=>?_),fr,perm,gho,fun i u' y us h=>by
  simp only[r6,qO] at h;split at h
  .cases h
  exact .inl ⟨y,us,h⟩⟩
 .right;rw[hlr] at hj;exact⟨rfl,by rw[hc];omega⟩
 .show _=_;rw[hlr];exact cur1
 .obtain⟨rfl,rfl⟩:=get i blk hi hgt;refine⟨_,_,cur1,ho,fun m hm'=>?_,fun b hb o h=>?_⟩
  .show (if i=i/\m=n+r.length then _ else _)=_;rw[aSo pQ];exact hnone m pQ
  cases hb;rcases h with h|⟨_,h⟩
  .rcases hq with h2|h2
   .have:q<w.heap.size:=hH.sl _ _ h;omega
   have:=hseal _ h2 o h;rw[Nat.add_mul];omega
  exact h
 rcases h with h|⟨rfl,_⟩
 .exact aSY (hH.sl b o h) hg.size
 exact hqlt
theorem rL.lit {side:List Prop}{rds:q8}{base e c n:Nat}{u:Ty}{l:List u.den}{cs:pX}(hc:c=u.cells) (hln:l.length=n) (hl:tT (Rd g w u) c l cs) (hn:n<=maxLen) (hf: ∀m,g.cur base m=none):
  rL g w H ⟨side,(.val (.list u) l,some base),[(base,.grow e c n)],rds⟩ ((g.tok base n (.slice (some ⟨w.heap.size,0,none⟩) n n)).shut w.heap.size (n*c)) (w.alloc (.cells cs.toArray e)) (.slice (some ⟨w.heap.size,0,none⟩) n n):=by
 have hlen:=KW hl;have le:Le g w ((g.tok base n (.slice (some ⟨w.heap.size,0,none⟩) n n)).shut w.heap.size (n*c)) (w.alloc (.cells cs.toArray e)):=⟨fun _ _ h=> .inl h,fun b o h=>aSL (a:=⟨b,o,none⟩) (aST _ _ _ (hH.sl b o h)),fun _ _ h=>h,fun k' n' v' h=>by
  show (if k'=base/\n'=n then _ else _)=_;rw[aSo (fun⟨e1,e2⟩=>by rw[e1,hf] at h;cases h)];exact h⟩
 have fr:Fr (sU g H (qQ [(base,qJ.grow e c n)])) w (w.alloc (.cells cs.toArray e)) g.S ((g.tok base n (.slice (some ⟨w.heap.size,0,none⟩) n n)).shut w.heap.size (n*c)).S:=
  ⟨rfl,rfl,rfl,by simp,fun b hb _=>aST _ _ _ hb,fun b o hb _=>⟨aSL (a:=⟨b,o,none⟩) (aST _ _ _ hb),aS9 (a:=⟨b,o,none⟩) (aST _ _ _ hb)⟩,fun b o h=>h.imp id fun h=> .inl (aTU h.1.symm),fun b s h=> .inl ((BT (aST _ _ _ (BS h))).trans h)⟩
 have gho: ∀i,i∉qQ [(base,qJ.grow e c n)]->((g.tok base n (.slice (some ⟨w.heap.size,0,none⟩) n n)).shut w.heap.size (n*c)).J i=g.J i/\((g.tok base n (.slice (some ⟨w.heap.size,0,none⟩) n n)).shut w.heap.size (n*c)).cur i=g.cur i:=fun i hi=>⟨rfl,by
  funext n';show (if i=base/\n'=n then _ else _)=_;rw[aSo (fun⟨e1,_⟩=>hi (by simp [qQ,e1]))]⟩
 have cur1:((g.tok base n (.slice (some ⟨w.heap.size,0,none⟩) n n)).shut w.heap.size (n*c)).cur base n=some (.slice (some ⟨w.heap.size,0,none⟩) n n):=by
  show (if base=base/\n=n then _ else _)=_;simp
 have get: ∀i blk,i∈qQ [(base,qJ.grow e c n)]->qO (r6 [(base,qJ.grow e c n)] H) i=some blk->i=base/\blk= .grow e c n:=by
  intro i blk hi hg;simp only[qQ,aSI] at hi;subst hi;simp only[r6,qO,aTW,aSm] at hg;exact⟨rfl,hg.symm⟩
 have perm: ∀i blk b o,i∈qQ [(base,qJ.grow e c n)]->qO (r6 [(base,qJ.grow e c n)] H) i=some blk->s9 ((g.tok base n (.slice (some ⟨w.heap.size,0,none⟩) n n)).shut w.heap.size (n*c)) i blk b o->w.heap.size<=b\/sU g H (qQ [(base,qJ.grow e c n)]) b o:=by
  intro i blk b o hi hgt ho';obtain⟨rfl,rfl⟩:=get i blk hi hgt;obtain⟨v',hv',hb⟩:=ho';rw[cur1] at hv';obtain rfl:=aSr hv';cases hb;exact .inl (aSJ _)
 have hF:tT (Rd ((g.tok base n (.slice (some ⟨w.heap.size,0,none⟩) n n)).shut w.heap.size (n*c)) (w.alloc (.cells cs.toArray e)) u) u.cells l cs:=hc▸CH (fun _ _ h=>wE le h) hl;have hra:(w.alloc (.cells cs.toArray e)).rangeAt w.heap.size 0 cs:=fun j v hv=>by
  rw[aSU,aTL];simpa using hv
 refine⟨le,⟨.inr ⟨rfl,some ⟨w.heap.size,0,none⟩,n,by rw[hln],by rw[hln];exact aSJ _,.inr ⟨w.heap.size,0,rfl,IK hF hra (fun j hj=>?_)⟩⟩,?_⟩,hH.upd le fr perm gho (fun i blk hi hgt=>?_) (fun i j bi bj b o hi hj hij hgi hgj _ _=>hij ((get i bi hi hgi).1.trans (get j bj hj hgj).1.symm)) (fun b o h=>?_),fr,perm,gho,fun i u' y us h=>by
  simp only[r6,qO] at h;split at h
  .cases h
  exact .inl ⟨y,us,h⟩⟩
 .right;rw[hln] at hj;exact⟨rfl,by rw[hc];omega⟩
 .show _=_;rw[hln];exact cur1
 .obtain⟨rfl,rfl⟩:=get i blk hi hgt;refine⟨_,cs,cur1,⟨by rw[hlen,hln],.inr ⟨w.heap.size,n,cs.toArray,rfl,aTo _,aUv w _,aSJ _,hn,by simp [hlen,hln],by simp [<-hln,<-hlen]⟩⟩,fun m hm'=>?_,fun b hb o h=>?_⟩
  .show (if i=i/\m=n then _ else _)=_;rw[aSo pQ];exact hf m
  cases hb;rcases h with h|⟨_,h⟩
  .exact absurd (hH.sl _ _ h) (aUh _)
  exact h
 rcases h with h|⟨rfl,_⟩
 .exact aSY (hH.sl b o h) pS
 simp
theorem a0H: ∀{toks:pV}{off n q k:Nat},(q,k)∈tH toks off n->(q,k)∈toks/\¬(off<=q/\q<off+n)
 |[],_,_,_,_,h=>by simp [tH] at h
 |(q',k')::r,off,n,q,k,h=>by
  simp only[tH] at h;split at h
  .obtain⟨h1,h2⟩:=a0H h;exact⟨aSy _ h1,h2⟩
  rename_i hn;rcases aSC.1 h with h|h
  .cases h;exact⟨by simp,hn⟩
  obtain⟨h1,h2⟩:=a0H h;exact⟨aSy _ h1,h2⟩
theorem aIQ {u:Ty}{y:u.den}: ∀{t:Ty}{x z:t.den}{o:Nat},u.isRow=false->sL u y t x o=some z->r9 u t z o=some y:=by
 intro t
 induction t with
 |pair a b iha ihb=>
  intro x z o hu h;have hne:u≠.pair a b:=by intro e;rw[e] at hu;cases hu
  have key: ∀o,(if o<a.cells then(sL u y a x.1 o).map (fun q=>(q,x.2)) else(sL u y b x.2 (o-a.cells)).map (fun q=>(x.1,q)))=some z->
    (if o<a.cells then r9 u a z.1 o else r9 u b z.2 (o-a.cells))=some y:=by
   intro o h;by_cases ho:o<a.cells
   .rw[aSn ho] at h|-;obtain⟨q,hq,rfl⟩:=aSE.1 h;exact iha hu hq
   rw[aSo ho] at h|-;obtain⟨q,hq,rfl⟩:=aSE.1 h;exact ihb hu hq
  cases o with
  |zero=>
   unfold sL at h;unfold r9;rw[aTP hne] at h;rw[aTP (Ne.symm hne)];have:=key 0 (by simpa using h);simpa using this
  |succ o=>
   have:=key (o+1) (by simpa[sL] using h);simpa[r9] using this
 |_=>
  intro x z o hu h;cases o with
  |zero=>
   unfold sL at h;split at h
   .rename_i e;subst e;simp only[tV,aSm] at h
    try subst h
    unfold r9;simp [tV]
   .simp at h
  |succ o=>simp [sL] at h
theorem V0 {u v:Ty}{y:u.den}: ∀{t:Ty}{x z:t.den}{o q:Nat}{l:(Ty.list v).den},sL u y t x o=some z->r9 (.list v) t x q=some l->¬(o<=q/\q<o+u.cells)->r9 (.list v) t z q=some l:=by
 intro t
 induction t with
 |pair a b iha ihb=>
  intro x z o q l h g hq;by_cases hu:o=0/\u= .pair a b
  .obtain⟨rfl,rfl⟩:=hu;exfalso;apply hq;have: ∀(t:Ty) (x:t.den) (q:Nat) (l:(Ty.list v).den),r9 (.list v) t x q=some l->q<t.cells:=by
    intro t
    induction t with
    |pair s t ihs iht=>
     intro x q l g;have key: ∀q,(if q<s.cells then r9 (.list v) s x.1 q else r9 (.list v) t x.2 (q-s.cells))=some l->q<s.cells+t.cells:=by
      intro q g;by_cases h:q<s.cells
      .omega
      rw[aSo h] at g;have:=iht _ _ _ g;omega
     cases q with
     |zero=>
      unfold r9 at g;rw[aTP (by intro e;cases e)] at g;exact key 0 (by simpa using g)
     |succ q=>exact key (q+1) (by simpa[r9] using g)
    |_=>
     intro x q l g;cases q with
     |zero=>first|(simp [Ty.cells];done) |(unfold r9 at g;simp at g)
     |succ q=>simp [r9] at g
   exact⟨aTo _,by simpa using this _ _ _ _ g⟩
  .have keyh:(if o<a.cells then(sL u y a x.1 o).map (fun q=>(q,x.2)) else(sL u y b x.2 (o-a.cells)).map (fun q=>(x.1,q)))=some z:=by
    cases o with
    |zero=>
     unfold sL at h;rw[aTP (fun e=>hu ⟨rfl,e⟩)] at h;simpa using h
    |succ o=>simpa[sL] using h
   have keyg: ∀x:(Ty.pair a b).den,r9 (.list v) (.pair a b) x q=(if q<a.cells then r9 (.list v) a x.1 q else r9 (.list v) b x.2 (q-a.cells)):=by
    intro x;cases q with
    |zero=>
     conv=>lhs;unfold r9
     rw[aTP (by intro e;cases e),Nat.zero_sub]
    |succ q=>simp [r9]
   rw[keyg] at g|-;by_cases ho:o<a.cells
   .rw[aSn ho] at keyh;obtain⟨z',hz',rfl⟩:=aSE.1 keyh;by_cases hqa:q<a.cells
    .rw[aSn hqa] at g|-;exact iha hz' g hq
    rw[aSo hqa] at g|-;exact g
   .rw[aSo ho] at keyh;obtain⟨z',hz',rfl⟩:=aSE.1 keyh;by_cases hqa:q<a.cells
    .rw[aSn hqa] at g|-;exact g
    .rw[aSo hqa] at g|-;exact ihb hz' g pQ
 |unit=>
  intro x z o q l h g hq;cases q with
  |zero=>
   unfold r9 at g;rw[aTP (by intro e;cases e)] at g;cases g
  |succ q=>simp [r9] at g
 |_=>
  intro x z o q l h g hq;cases o with
  |zero=>
   unfold sL at h;split at h
   .rename_i e;subst e;cases q with
    |zero=>exact absurd ⟨aSJ _,Nat.zero_lt_one⟩ hq
    |succ q=>simp [r9] at g
   .simp at h
  |succ o=>simp [sL] at h
theorem rL.store {side:List Prop}{rds:q8}{i:Nat}{u t:Ty}{x z:u.den}{y:t.den}{off:Nat}{toks:pV}{k:pZ}{p:Pl}{cy:pX}{v:qB}(hb:qO H i=some (.cells u x toks)) (hp:g.J i=some p)
  (hset:sL t y u x off=some z) (hy:Rd g w t y cy) (hk:D9 g t y v k) (hk2: ∀a b,t= .pair a b->k=none) (hv:t.isRow=false->cy=[v]):
  rL g w H ⟨side,(.any,none),[(i,.cells u z (r6 (xL k off) (tH toks off t.cells)))],rds⟩ g (w.setCells p.1 (p.2+off) cy) undef/\w.there p.1 (p.2+off) cy.length:=by
 obtain⟨p',cs,hp',hR,hra,hth,hns,htk⟩:=hH.blk i _ hb;rw[hp] at hp';obtain rfl:=aSr hp';obtain⟨c1,c2,c3,hcs,hl1,hl2,hz⟩:=Q8 hy hR hset;subst hcs;subst hl1;have hcl:=sV hR;have hyl:=sV hy;simp only[aSp] at hcl;have hthere:w.there p.1 (p.2+c1.length) cy.length:=fun j hj=>by
  have:=hth.1 (c1.length+j) pQ;rwa [<-aS5] at this
 have hout: ∀b o,(b=p.1->o<p.2+c1.length\/p.2+c1.length+cy.length<=o)->(w.setCells p.1 (p.2+c1.length) cy).cell? ⟨b,o,none⟩=w.cell? ⟨b,o,none⟩:=fun b o h=>World.cell?_setCells_out p.1 cy _ w ⟨b,o,none⟩ (fun e _=>h e);have hin: ∀b o,b=p.1->p.2+c1.length<=o->o<p.2+c1.length+cy.length->s9 g i (.cells u x toks) b o:=fun b o e h1 h2=>⟨p,hp,e,pQ,pQ⟩;have hsz:(w.setCells p.1 (p.2+c1.length) cy).heap.size=w.heap.size:=by
  have: ∀(l:pX) (o:Nat) (w:q9),(w.setCells p.1 o l).heap.size=w.heap.size:=by
   intro l
   induction l with
   |nil=>intro o w;rfl
   |cons v l ih=>intro o w;rw[World.setCells,ih];simp [World.setCell]
  exact this _ _ _
 have hbk: ∀b,b≠p.1->(w.setCells p.1 (p.2+c1.length) cy).heap[b]? =w.heap[b]? :=by
  intro b hb;have: ∀(l:pX) (o:Nat) (w:q9),(w.setCells p.1 o l).heap[b]? =w.heap[b]? :=by
   intro l
   induction l with
   |nil=>intro o w;rfl
   |cons v l ih=>intro o w;rw[World.setCells,ih];exact Below.heap_setCell _ _ _ _ hb
  exact this _ _ _
 have hos:(w.setCells p.1 (p.2+c1.length) cy).os=w.os/\(w.setCells p.1 (p.2+c1.length) cy).tape=w.tape/\(w.setCells p.1 (p.2+c1.length) cy).output=w.output:=by
  have: ∀(l:pX) (o:Nat) (w:q9),(w.setCells p.1 o l).os=w.os/\(w.setCells p.1 o l).tape=w.tape/\(w.setCells p.1 o l).output=w.output:=by
   intro l
   induction l with
   |nil=>intro o w;exact⟨rfl,rfl,rfl⟩
   |cons v l ih=>intro o w;rw[World.setCells];exact ih _ _
  exact this _ _ _
 have hiS: ∀b o,g.S b o->¬(b=p.1/\p.2<=o/\o<p.2+u.cells):=fun b o hs ⟨e,h1,h2⟩=>hns (o-p.2) pQ (by rw[show p.2+(o-p.2)=o from by omega,<-e];exact hs);have le:Le g w g (w.setCells p.1 (p.2+c1.length) cy):=⟨fun _ _ h=>h,fun b o h=>hout b o (fun e=>by
  have:=hiS b o h;rcases aTE o (p.2+c1.length) with h1|h1
  .exact .inl h1
  rcases aTE o (p.2+c1.length+cy.length) with h2|h2
  .exact absurd ⟨e,pQ,pQ⟩ this
  exact .inr h2),fun _ _ h=>h,fun _ _ _ h=>h⟩
 have hofI: ∀b o,s9 g i (.cells u x toks) b o->sU g H (qQ [(i,qJ.cells u z (r6 (xL k c1.length) (tH toks c1.length t.cells)))]) b o:=fun b o h=>⟨i,_,by simp [qQ],hb,h⟩;have fr:Fr (sU g H (qQ [(i,qJ.cells u z (r6 (xL k c1.length) (tH toks c1.length t.cells)))])) w (w.setCells p.1 (p.2+c1.length) cy) g.S g.S:=by
  refine⟨hos.1,hos.2.1,hos.2.2,aTU hsz.symm,fun b hb' hno=>?_,fun b o hb' hno=>⟨hout b o (fun e=>?_),World.frozen?_setCells _ _ _ _ _⟩,fun b o h=> .inl h,fun b s hs=> .inl ((QE _ _ _ _ _).trans hs)⟩
  .by_cases e:b=p.1
   .cases hcy:cy with
    |nil=>rfl
    |cons q l=>exact absurd (hofI b (p.2+c1.length) (hin b _ e (aSJ _) (by rw[hcy];simp))) (hno _)
   exact hbk b e
  rcases aTE o (p.2+c1.length) with h1|h1
  .exact .inl h1
  rcases aTE o (p.2+c1.length+cy.length) with h2|h2
  .exact absurd (hofI b o (hin b o e h1 h2)) hno
  exact .inr h2
 have gho: ∀j,j∉qQ [(i,qJ.cells u z (r6 (xL k c1.length) (tH toks c1.length t.cells)))]->g.J j=g.J j/\g.cur j=g.cur j:=fun _ _=>⟨rfl,rfl⟩;have get: ∀j blk,j∈qQ [(i,qJ.cells u z (r6 (xL k c1.length) (tH toks c1.length t.cells)))]->qO (r6 [(i,qJ.cells u z (r6 (xL k c1.length) (tH toks c1.length t.cells)))] H) j=some blk->j=i/\blk= .cells u z (r6 (xL k c1.length) (tH toks c1.length t.cells)):=by
  intro j blk hi hg;simp only[qQ,aSI] at hi;subst hi;simp only[r6,qO,aTW,aSm] at hg;exact⟨rfl,hg.symm⟩
 have perm: ∀j blk b o,j∈qQ [(i,qJ.cells u z (r6 (xL k c1.length) (tH toks c1.length t.cells)))]->qO (r6 [(i,qJ.cells u z (r6 (xL k c1.length) (tH toks c1.length t.cells)))] H) j=some blk->s9 g j blk b o->w.heap.size<=b\/sU g H (qQ [(i,qJ.cells u z (r6 (xL k c1.length) (tH toks c1.length t.cells)))]) b o:=by
  intro j blk b o hi hg ho;obtain⟨rfl,rfl⟩:=get j blk hi hg;exact .inr (hofI b o ho)
 refine⟨⟨le,⟨trivial,trivial⟩,hH.upd le fr perm gho (fun j blk hi hg=>?_) (fun i j bi bj b o hi hj hij hgi hgj _ _=>hij ((get i bi hi hgi).1.trans (get j bj hj hgj).1.symm)) (fun b o h=>by rw[hsz];exact hH.sl b o h),fr,perm,gho,fun j u' y' us h=>by
  simp only[r6,qO] at h;split at h
  .rename_i e1;subst e1;simp only[aSm,qJ.cells.injEq] at h;obtain⟨rfl,_⟩:=h;exact .inl ⟨x,toks,hb⟩
  exact .inl ⟨y',us,h⟩⟩,hthere⟩
 obtain⟨rfl,rfl⟩:=get j blk hi hg;refine⟨p,_,hp,wE le hz,fun q v hq=>?_,⟨fun q hq=>?_,fun h0 s hs=>(QE _ _ _ _ _).trans (hth.2 h0 s hs)⟩,hns,?_⟩
 .by_cases h1:q<c1.length
  .rw[hout _ _ (fun _=> .inl pQ)];refine hra q v ?_;rw[aSB,aSG h1] at hq|-;exact hq
  by_cases h2:q<c1.length+cy.length
  .have:=aTS p.1 cy (p.2+c1.length) w (fun j hj=>(hthere j hj).1) (q-c1.length) pQ;rw[show p.2+c1.length+(q-c1.length)=p.2+q from by omega] at this;rw[this];rw[aSB,aSw pQ,aSG pQ] at hq;rw[<-hq,aSv pQ]
  rw[hout _ _ (fun _=> .inr pQ)];refine hra q v ?_;rw[aSB,aSw pQ,aSw pQ] at hq|-;rw[hl2];rw[hyl] at hq;exact hq
 .have hh:=hth.1 q hq;refine⟨?_,by rw[World.frozen?_setCells];exact hh.2⟩;by_cases h1:q<c1.length\/c1.length+cy.length<=q
  .rw[hout _ _ (fun _=>by omega)];exact hh.1
  have:=aTS p.1 cy (p.2+c1.length) w (fun j hj=>(hthere j hj).1) (q-c1.length) pQ;rw[show p.2+c1.length+(q-c1.length)=p.2+q from by omega] at this;rw[this];rfl
 intro q kk hm;have hsplit:(q,kk)∈xL k c1.length\/(q,kk)∈tH toks c1.length t.cells:=by
  cases k with
  |none=>exact .inr (by simpa[xL,r6] using hm)
  |some k=>
   simp only[xL,r6,aSC] at hm;rcases hm with hm|hm
   .exact .inl (by simp [xL,hm])
   exact .inr hm
 rcases hsplit with hm|hm
 .cases k with
  |none=>simp [xL] at hm
  |some k=>
   simp only[xL,aSI,aSQ] at hm;obtain⟨rfl,rfl⟩:=hm;cases t with
   |list t=>
    obtain rfl:=hv rfl;exact⟨t,y,v,aIQ hH rfl hset,by simp,hk⟩
   |pair a b=>cases hk2 a b rfl
   |_=>exact hk.elim
 obtain⟨h1,h2⟩:=a0H hH hm;obtain⟨v',l,v1,g1,g2,g3⟩:=htk q kk h1;refine⟨v',l,v1,V0 hH hset g1 h2,?_,g3⟩;rcases aTE q c1.length with h3|h3
 .rw[aSB,aSG h3] at g2|-;exact g2
 have h4:c1.length+t.cells<=q:=by omega
 rw[aSB,aSw pQ,aSw pQ] at g2|-;rw[hyl];rw[hl2] at g2;exact g2
theorem zQ.openS {side:List Prop}{rds:q8}{i:Nat}{u u0:Ty}{el:Nat}{kn:pY}{x:u.den}{z: Σ t:Ty,t.den}{off:Nat}{toks:pV}{p:Pl}{cy:pX}(hb:qO H i=some (.cells u x toks)) (hp:g.J i=some p)
  (hset:yB el u0 kn u x off=some z) (hy:BQ g kn cy) (hyl:cy.length=1) (hre:I4 rds=true):
  zQ g w H ⟨side,(.any,none),[(i,.cells z.1 z.2 [])],rds⟩ g (w.setCells p.1 (p.2+off) cy) undef/\w.there p.1 (p.2+off) cy.length:=by
 obtain⟨p',cs,hp',hR,hra,hth,hns,htk⟩:=hH.blk i _ hb;rw[hp] at hp';obtain rfl:=aSr hp';obtain⟨c1,c2,c3,hcs,hl1,hl2,hz⟩:=aIe hy hR hset;subst hcs;subst hl1;have hcl:=sV hR;have hcz:=aId hset;simp only[aSp] at hcl;have hthere:w.there p.1 (p.2+c1.length) cy.length:=fun j hj=>by
  have:=hth.1 (c1.length+j) pQ;rwa [<-aS5] at this
 have hout: ∀b o,(b=p.1->o<p.2+c1.length\/p.2+c1.length+cy.length<=o)->(w.setCells p.1 (p.2+c1.length) cy).cell? ⟨b,o,none⟩=w.cell? ⟨b,o,none⟩:=fun b o h=>World.cell?_setCells_out p.1 cy _ w ⟨b,o,none⟩ (fun e _=>h e);have hin: ∀b o,b=p.1->p.2+c1.length<=o->o<p.2+c1.length+cy.length->s9 g i (.cells u x toks) b o:=fun b o e h1 h2=>⟨p,hp,e,pQ,pQ⟩;have hsz:(w.setCells p.1 (p.2+c1.length) cy).heap.size=w.heap.size:=by
  have: ∀(l:pX) (o:Nat) (w:q9),(w.setCells p.1 o l).heap.size=w.heap.size:=by
   intro l
   induction l with
   |nil=>intro o w;rfl
   |cons v l ih=>intro o w;rw[World.setCells,ih];simp [World.setCell]
  exact this _ _ _
 have hbk: ∀b,b≠p.1->(w.setCells p.1 (p.2+c1.length) cy).heap[b]? =w.heap[b]? :=by
  intro b hb;have: ∀(l:pX) (o:Nat) (w:q9),(w.setCells p.1 o l).heap[b]? =w.heap[b]? :=by
   intro l
   induction l with
   |nil=>intro o w;rfl
   |cons v l ih=>intro o w;rw[World.setCells,ih];exact Below.heap_setCell _ _ _ _ hb
  exact this _ _ _
 have hos:(w.setCells p.1 (p.2+c1.length) cy).os=w.os/\(w.setCells p.1 (p.2+c1.length) cy).tape=w.tape/\(w.setCells p.1 (p.2+c1.length) cy).output=w.output:=by
  have: ∀(l:pX) (o:Nat) (w:q9),(w.setCells p.1 o l).os=w.os/\(w.setCells p.1 o l).tape=w.tape/\(w.setCells p.1 o l).output=w.output:=by
   intro l
   induction l with
   |nil=>intro o w;exact⟨rfl,rfl,rfl⟩
   |cons v l ih=>intro o w;rw[World.setCells];exact ih _ _
  exact this _ _ _
 have hiS: ∀b o,g.S b o->¬(b=p.1/\p.2<=o/\o<p.2+u.cells):=fun b o hs ⟨e,h1,h2⟩=>hns (o-p.2) pQ (by rw[show p.2+(o-p.2)=o from by omega,<-e];exact hs);have le:Le g w g (w.setCells p.1 (p.2+c1.length) cy):=⟨fun _ _ h=>h,fun b o h=>hout b o (fun e=>by
  have:=hiS b o h;rcases aTE o (p.2+c1.length) with h1|h1
  .exact .inl h1
  rcases aTE o (p.2+c1.length+cy.length) with h2|h2
  .exact absurd ⟨e,pQ,pQ⟩ this
  exact .inr h2),fun _ _ h=>h,fun _ _ _ h=>h⟩
 have hofI: ∀b o,s9 g i (.cells u x toks) b o->sU g H (qQ [(i,qJ.cells z.1 z.2 [])]) b o:=fun b o h=>⟨i,_,by simp [qQ],hb,h⟩;have fr:Fr (sU g H (qQ [(i,qJ.cells z.1 z.2 [])])) w (w.setCells p.1 (p.2+c1.length) cy) g.S g.S:=by
  refine⟨hos.1,hos.2.1,hos.2.2,aTU hsz.symm,fun b hb' hno=>?_,fun b o hb' hno=>⟨hout b o (fun e=>?_),World.frozen?_setCells _ _ _ _ _⟩,fun b o h=> .inl h,fun b s hs=> .inl ((QE _ _ _ _ _).trans hs)⟩
  .by_cases e:b=p.1
   .cases hcy:cy with
    |nil=>rfl
    |cons q l=>exact absurd (hofI b (p.2+c1.length) (hin b _ e (aSJ _) (by rw[hcy];simp))) (hno _)
   exact hbk b e
  rcases aTE o (p.2+c1.length) with h1|h1
  .exact .inl h1
  rcases aTE o (p.2+c1.length+cy.length) with h2|h2
  .exact absurd (hofI b o (hin b o e h1 h2)) hno
  exact .inr h2
 have gho: ∀j,j∉qQ [(i,qJ.cells z.1 z.2 [])]->g.J j=g.J j/\g.cur j=g.cur j:=fun _ _=>⟨rfl,rfl⟩;have get: ∀j blk,j∈qQ [(i,qJ.cells z.1 z.2 [])]->qO (r6 [(i,qJ.cells z.1 z.2 [])] H) j=some blk->j=i/\blk= .cells z.1 z.2 []:=by
  intro j blk hi hg;simp only[qQ,aSI] at hi;subst hi;simp only[r6,qO,aTW,aSm] at hg;exact⟨rfl,hg.symm⟩
 have perm: ∀j blk b o,j∈qQ [(i,qJ.cells z.1 z.2 [])]->qO (r6 [(i,qJ.cells z.1 z.2 [])] H) j=some blk->s9 g j blk b o->w.heap.size<=b\/sU g H (qQ [(i,qJ.cells z.1 z.2 [])]) b o:=by
  intro j blk b o hi hg ho;obtain⟨rfl,rfl⟩:=get j blk hi hg;obtain⟨q,hq,e1,e2,e3⟩:=ho;rw[hcz] at e3;exact .inr (hofI b o ⟨q,hq,e1,e2,e3⟩)
 refine⟨⟨le,⟨trivial,trivial⟩,hH.upd le fr perm gho (fun j blk hi hg=>?_) (fun i j bi bj b o hi hj hij hgi hgj _ _=>hij ((get i bi hi hgi).1.trans (get j bj hj hgj).1.symm)) (fun b o h=>by rw[hsz];exact hH.sl b o h),fr,perm,gho,fun h=>by rw[hre] at h;cases h⟩,hthere⟩;obtain⟨rfl,rfl⟩:=get j blk hi hg;refine⟨p,_,hp,wE le hz,fun q v hq=>?_,⟨fun q hq=>?_,fun h0 s hs=>(QE _ _ _ _ _).trans (hth.2 (by rw[<-hcz];exact h0) s hs)⟩,fun q hq=>hns q (by rw[<-hcz];exact hq),fun _ _ hm=>by cases hm⟩
 .by_cases h1:q<c1.length
  .rw[hout _ _ (fun _=> .inl pQ)];refine hra q v ?_;rw[aSB,aSG h1] at hq|-;exact hq
  by_cases h2:q<c1.length+cy.length
  .have:=aTS p.1 cy (p.2+c1.length) w (fun j hj=>(hthere j hj).1) (q-c1.length) pQ;rw[show p.2+c1.length+(q-c1.length)=p.2+q from by omega] at this;rw[this];rw[aSB,aSw pQ,aSG pQ] at hq;rw[<-hq,aSv pQ]
  rw[hout _ _ (fun _=> .inr pQ)];refine hra q v ?_;rw[aSB,aSw pQ,aSw pQ] at hq|-;rw[hl2];rw[hyl] at hq;exact hq
 have hh:=hth.1 q (by rw[<-hcz];exact hq);refine⟨?_,by rw[World.frozen?_setCells];exact hh.2⟩;by_cases h1:q<c1.length\/c1.length+cy.length<=q
 .rw[hout _ _ (fun _=>by omega)];exact hh.1
 have:=aTS p.1 cy (p.2+c1.length) w (fun j hj=>(hthere j hj).1) (q-c1.length) pQ;rw[show p.2+c1.length+(q-c1.length)=p.2+q from by omega] at this;rw[this];rfl
end
end Go.Proofs.YtcpbaddnmpeipaaGreatDoor.Vc
