/- Packed by a program of mine (wip/tools/pack.py): the same texts with short names and few blanks. -/
import Derived.Below
import Derived.Calls
import Derived.Deep.MidRow
import Derived.Deep.Upon
import Derived.Laws.AppendOwn
import Derived.Laws.BitsLemmas
import Derived.Laws.OwnMore
import Derived.Shelf.Unicode.DecodeSlow
import Derived.Still
import Derived.WalkKit
set_option linter.defProp false
set_option linter.unusedVariables false
set_option linter.unusedSimpArgs false
set_option linter.unusedSectionVars false
set_option maxRecDepth 100000
set_option maxHeartbeats 4000000
namespace Go.Proofs
abbrev p7:=List UInt8
abbrev p8:=List p7
def aSB:=@_root_.if_pos
def aSC:=@_root_.Option.some.injEq
def aSD:=@_root_.if_neg
def aSE:=@_root_.Option.bind_some
def aSF:=@_root_.Option.isSome_iff_exists
def aSG:=@_root_.Option.some.inj
def aSH:=@_root_.List.length_append
def aSI:=@_root_.List.length_cons
def aSJ:=@_root_.Go.Result.andThen_ok
def aSK:=@_root_.List.getElem?_eq_getElem
def aSL:=@_root_.decide_eq_true_eq
def aSM:=@_root_.List.getElem?_append_right
def aSN:=@_root_.List.append_assoc
def aSO:=@_root_.Go.Sem.run_bind
def aSP:=@_root_.List.mem_cons
def aSQ:=@_root_.List.mem_cons_of_mem
def aSR:=@_root_.List.getElem?_eq_some_iff
def aSS:=@_root_.Option.map_eq_some_iff
def aST:=@_root_.List.mem_singleton
def aSU:=@_root_.List.getElem?_append_left
def aSV:=@_root_.Bool.and_eq_true
def aSW:=@_root_.Nat.le_refl
def aSX:=@_root_.Go.run_underlying
def aSY:=@_root_.List.length_nil
def aSZ:=@_root_.List.getD_eq_getElem?_getD
def aS0:=@_root_.Go.World.cell?_of_block
def aS1:=@_root_.Go.Sem.run_pure
def aS2:=@_root_.List.mem_cons_self
def aS3:=@_root_.List.drop_eq_getElem_cons
def aS4:=@_root_.congrArg
def aS5:=@_root_.decide_eq_true
def aS6:=@_root_.Array.getElem?_eq_some_iff
def aS7:=@_root_.Prod.mk.injEq
def aS8:=@_root_.List.length_drop
def aS9:=@_root_.List.eq_nil_of_length_eq_zero
def aTa:=@_root_.Nat.zero_add
def aTb:=@_root_.Array.getD_eq_getD_getElem?
def aTc:=@_root_.Go.RowKit.Below.heap_alloc
def aTd:=@_root_.Nat.lt_of_lt_of_le
def aTe:=@_root_.List.length_take
def aTf:=@_root_.List.getElem?_cons_zero
def aTg:=@_root_.Bool.not_eq_true'
def aTh:=@_root_.List.pairwise_iff_getElem
def aTi:=@_root_.List.reverse_cons
def aTj:=@_root_.Nat.add_assoc
def aTk:=@_root_.List.cons.injEq
def aTl:=@_root_.Int.le_refl
def aTm:=@_root_.List.findIdx?_eq_some_iff_getElem
def aTn:=@_root_.of_decide_eq_true
def aTo:=@_root_.decide_eq_false_iff_not
def aTp:=@_root_.List.getElem?_cons_succ
def aTq:=@_root_.Go.World.frozen?_of_block
def aTr:=@_root_.Nat.add_sub_cancel_left
def aTs:=@_root_.Int.toNat_natCast
def aTt:=@_root_.List.any_eq_false
def aTu:=@_root_.List.drop_length
def aTv:=@_root_.Nat.zero_le
def aTw:=@_root_.List.length_map
def aTx:=@_root_.Array.length_toList
def aTy:=@_root_.List.getElem?_take_of_lt
def aTz:=@_root_.Go.run_program
def aTA:=@_root_.Nat.le_trans
def aTB:=@_root_.List.length_eq_zero_iff
def aTC:=@_root_.Array.getElem?_modify
def aTD:=@_root_.Nat.lt_or_ge
def aTE:=@_root_.Array.getElem?_toList
def aTF:=@_root_.Array.toList_inj
def aTG:=@_root_.List.size_toArray
def aTH:=@_root_.List.findIdx?_eq_none_iff
def aTI:=@_root_.List.length_singleton
def aTJ:=@_root_.List.length_pos_iff
def aTK:=@_root_.Go.Addr.add_mid
def aTL:=@_root_.List.getElem_mem
def aTM:=@_root_.List.drop_zero
def aTN:=@_root_.Array.getElem?_setIfInBounds_ne
def aTO:=@_root_.List.length_eq_one_iff
def aTP:=@_root_.Nat.add_zero
def aTQ:=@_root_.List.take_append_drop
def aTR:=@_root_.List.mem_append
def aTS:=@_root_.Bool.false_eq_true
def aTT:=@_root_.Go.IntKind.wrap_i64
def aTU:=@_root_.beq_iff_eq
def aTV:=@_root_.List.map_cons
def aTW:=@_root_.Nat.succ_mul
def aTX:=@_root_.List.getElem?_eq_none
def aTY:=@_root_.Go.IntKind.wrap_u8
def aTZ:=@_root_.List.findIdx?_cons
def aT0:=@_root_.dif_neg
def aT1:=@_root_.Option.getD_some
def aT2:=@_root_.List.not_mem_nil
def aT3:=@_root_.Go.World.cell?_setCells_in
def aT4:=@_root_.Nat.le_of_eq
def aT5:=@_root_.if_true
def aT6:=@_root_.Bool.not_eq_true
def aT7:=@_root_.Nat.sub_self
def aT8:=@_root_.Nat.le_of_ble_eq_true
def aT9:=@_root_.Classical.choose_spec
def aUa:=@_root_.Bool.false_and
def aUb:=@_root_.Array.toArray_toList
def aUc:=@_root_.Go.Value.slice.injEq
def aUd:=@_root_.List.append_inj
def aUe:=@_root_.Bool.or_eq_true
def aUf:=@_root_.Bool.eq_iff_iff
def aUg:=@_root_.Nat.lt_irrefl
def aUh:=@_root_.Go.wpIn_mono
def aUi:=@_root_.List.all_eq_true
def aUj:=@_root_.List.take_left
def aUk:=@_root_.List.pairwise_cons
def aUl:=@_root_.Array.getElem?_setIfInBounds
def aUm:=@_root_.Go.setRow_other
def aUn:=@_root_.Int.tmod_eq_emod_of_nonneg
def aUo:=@_root_.List.pairwise_append
def aUp:=@_root_.Bool.or_eq_false_iff
def aUq:=@_root_.Array.getElem?_eq_getElem
def aUr:=@_root_.List.mem_toArray
def aUs:=@_root_.Nat.mul_one
def aUt:=@_root_.Array.getElem?_push_size
def aUu:=@_root_.dif_pos
def aUv:=@_root_.List.pairwise_singleton
def aUw:=@_root_.Array.foldl_toList
def aUx:=@_root_.List.flatten_cons
def aUy:=@_root_.if_false
def aUz:=@_root_.List.mem_range
def aUA:=@_root_.List.drop_drop
def aUB:=@_root_.Go.World.cell?_alloc_new
def aUC:=@_root_.List.getElem_of_mem
def aUD:=@_root_.List.drop_succ_cons
def aUE:=@_root_.Bool.not_eq_false'
def aUF:=@_root_.Go.heap_alloc_new
def aUG:=@_root_.Array.size_append
def aUH:=@_root_.Go.setRow_heap
theorem pB{p:Prop}(h:p:=by omega):p:=h
theorem pC{p:Prop}(h:p:=by decide):p:=h
theorem pD{p:Prop}(h:p:=by simp):p:=h
theorem pE{p:Prop}(h:p:=by simp;omega):p:=h
theorem pO{p:Prop}(h:p:=by first|rfl|trivial):p:=h
theorem pP{p:Prop}(h:p:=by kernel_rfl):p:=h
theorem pQ{p:Prop}(h:p:=by rfl):p:=h
theorem pR{p:Prop}(h:p:=by first|rfl|(simp only[go_sem];done)|(simp only[go_sem];rfl)):p:=h
theorem p9{a:Type}{p q r:a->Prop}(k:a)(h1:p k:=by rfl)(h2:q k:=by rfl)(h3:r k:=by rfl): ∃k,p k/\q k/\r k:=⟨k,h1,h2,h3⟩
theorem pA{a:Type}{p q r:a->Prop}(k:a)(h1:p k:=by first|rfl|(simp only[go_sem];done)|(simp only[go_sem];rfl))(h2:q k:=by first|rfl|(simp only[go_sem];done)|(simp only[go_sem];rfl))(h3:r k:=by first|rfl|(simp only[go_sem];done)|(simp only[go_sem];rfl)): ∃k,p k/\q k/\r k:=⟨k,h1,h2,h3⟩
abbrev pF:=List (p7×Bool)
abbrev pG:=List (Nat×Nat)
abbrev pH:=List Int
abbrev pI:=List Value
abbrev pJ:=Option (Nat×Nat)
abbrev pK:=Option Nat
abbrev pL:=List Nat
abbrev pM:=World
abbrev pN:=Value
end Go.Proofs
namespace Go.Proofs.YtcpbaddnmpeipaaGreatDoor.Vc
def NG:Nat:=3
def a9h:Nat:=82
def HG:Nat:=188
def HH:Nat:=155
def FO:Nat:=98
def JP:Nat:=32
abbrev aIB:Nat:=6
abbrev aIC:Nat:=7
def aID:List (Nat×Nat×pN):=[]
def aIE (w:pM):Prop:= ∀x∈aID,x.1<NG/\w.cell? ⟨x.1,x.2.1,none⟩=some x.2.2
def EH (w:pM):Prop:=NG<=w.heap.size/\Lib.Utf8Tabs 1 2 w/\(∃m,w.cell? ⟨0,0,none⟩=some (.int .i64 m))/\aIE w
theorem HI {w w':pM}(h:EH w) (hs:w.heap.size<=w'.heap.size) (hb: ∀b,b<NG->w'.heap[b]? =w.heap[b]?):EH w':=by
 obtain⟨h0,⟨h1,h2⟩,⟨m,h3⟩,h4⟩:=h;have hc: ∀b o,b<NG->w'.cell? ⟨b,o,none⟩=w.cell? ⟨b,o,none⟩:=fun b o h=>aS0 (a:=⟨b,o,none⟩) (hb b h);refine⟨aTA h0 hs,⟨fun c hc'=>?_,fun i hi=>⟨?_,?_⟩⟩,⟨m,?_⟩,fun x hx=>⟨(h4 x hx).1,(hc _ _ (h4 x hx).1).trans (h4 x hx).2⟩⟩
 .rw[hc _ _ pC];exact h1 c hc'
 .rw[hc _ _ pC];exact(h2 i hi).1
 .rw[hc _ _ pC];exact(h2 i hi).2
 rw[hc _ _ pC];exact h3
attribute [go_sem] a9h HH FO JP
inductive Ty where
 |bool|int (k:IntKind) |str|list (t:Ty) |unit|pair (a b:Ty) |ref|clo|mp|rl (e:Nat) (t:Ty) |mref|fn|ap
 deriving DecidableEq
@[go_sem] abbrev qK:Ty:= .pair .bool (.pair .str .unit)
@[go_sem] abbrev rV:Ty:= .pair .str (.pair .str .unit)
abbrev Ty.den:Ty->Type
 | .bool=>Bool
 | .int _=>Int
 | .str=>p7
 | .list t=>List t.den
 | .unit=>Unit
 | .pair a b=>a.den×b.den
 | .ref=>pJ
 | .clo=>Option (Nat×pG)
 | .mp=>pK
 | .rl _ _=>pJ
 | .fn=>pK
 | .mref=>pJ
 | .ap=>Nat×Nat×(Nat×Nat)×(Nat×Nat)
@[go_sem] def Ty.cells:Ty->Nat
 | .unit=>0
 | .pair a b=>a.cells+b.cells
 | .bool| .int _| .str| .list _| .ref| .clo| .mp| .rl _ _| .mref| .fn| .ap=>1
@[go_sem] def Ty.zero:(t:Ty)->t.den
 | .bool=>false
 | .int _=>(0:Int)
 | .str=>[]
 | .list _=>[]
 | .unit=>()
 | .pair a b=>(a.zero,b.zero)
 | .ref=>none
 | .clo=>none
 | .mp=>none
 | .rl _ _=>none
 | .fn=>none
 | .mref=>none
 | .ap=>(0,0,(0,0),(0,0))
@[go_sem] def Ty.isRow:Ty->Bool
 | .unit| .pair _ _=>true
 | .bool| .int _| .str| .list _| .ref| .clo| .mp| .rl _ _| .mref| .fn| .ap=>false
@[go_sem] def Ty.pure:Ty->Bool
 | .ref| .clo| .mp| .rl _ _| .mref| .ap=>false
 | .list t=>t.pure
 | .pair a b=>a.pure&&b.pure
 | .bool| .int _| .str| .unit| .fn=>true
def qE (t:Ty) (l:List t.den) (i:Int):t.den:=l.getD i.toNat t.zero
def rI (l:p7) (i:Int):Int:=((l.getD i.toNat 0).toNat:Int)
def tX {t u:Ty}(h:t=u) (x:t.den):u.den:=h▸x
@[go_sem] theorem ML {t:Ty}(x:t.den):tX (rfl:t=t) x=x:=rfl
@[go_sem] def qT (u:Ty):(t:Ty)->t.den->Nat->Option u.den
 |t,x,0=>if h:t=u then some (tX h x) else match t,x with
  | .pair a b,x=>if 0<a.cells then qT u a x.1 0 else qT u b x.2 0
  |_,_=>none
 | .pair a b,x,o+1=>if o+1<a.cells then qT u a x.1 (o+1) else qT u b x.2 (o+1-a.cells)
 |_,_,_=>none
@[go_sem] def sB (u:Ty) (y:u.den):(t:Ty)->t.den->Nat->Option t.den
 |t,x,0=>if h:u=t then some (tX h y) else match t,x with
  | .pair a b,x=>if 0<a.cells then(sB u y a x.1 0).map (fun z=>(z,x.2)) else(sB u y b x.2 0).map (fun z=>(x.1,z))
  |_,_=>none
 | .pair a b,x,o+1=>if o+1<a.cells then(sB u y a x.1 (o+1)).map (fun z=>(z,x.2)) else(sB u y b x.2 (o+1-a.cells)).map (fun z=>(x.1,z))
 |_,_,_=>none
@[go_sem] def Ty.proj:(t:Ty)->t.den->Nat->Option (Σ u:Ty,u.den)
 | .pair a _,x,0=>some ⟨a,x.1⟩
 | .pair _ b,x,i+1=>b.proj x.2 i
 |_,_,_=>none
@[go_sem] def Ty.offs:Ty->Nat->pK
 | .pair _ _,0=>some 0
 | .pair a b,i+1=>(b.offs i).map fun o=>a.cells+o
 |_,_=>none
@[go_sem] def Ty.fld:Ty->Nat->Option Ty
 | .pair a _,0=>some a
 | .pair _ b,i+1=>b.fld i
 |_,_=>none
@[go_sem] def Ty.setPart (u:Ty) (y:u.den):(t:Ty)->t.den->Nat->Option t.den
 | .pair a b,x,0=>if h:u=a then some (tX h y,x.2) else none
 | .pair a b,x,i+1=>(Ty.setPart u y b x.2 i).map fun z=>(x.1,z)
 |_,_,_=>none
inductive DV where
 |any
 |nilS
 |val (t:Ty) (x:t.den)
 |at (t:Ty) (x:t.den)
 |tup (l:List ((Σ t:Ty,t.den)×pK))
 |cond (p:Bool) (d:DV)
 |flag (p q:Prop)
 |own (k n:Nat)
 |elt (k n c:Nat) (i:Int) (o:Nat)
 |apd (d:DV)
 |nxt (b:Bool) (p c:Int)
abbrev pW:=DV×pK
inductive pV where
 |cells (t:Ty) (x:t.den) (toks:pG)
 |grow (e:TypeId) (c:Nat) (n:Nat)
 |row (e:TypeId) (t:Ty) (l:List t.den) (n:Nat)
 |map (k v:Ty) (l:List (k.den×v.den))
 |iter (s:p7) (p:Nat)
 |dead
structure St where
 env:List (Nat×pW)
 H:List (Nat×pV)
 nb:Nat
 N:Nat
 np:Nat:=0
@[go_sem] def lk:List (Nat×pW)->Nat->pW
 |[],_=>(.any,none)
 |(k,s)::r,t=>if k=t then s else lk r t
@[go_sem] def pY:List (Nat×pV)->Nat->Option pV
 |[],_=>none
 |(k,s)::r,t=>if k=t then some s else pY r t
structure TI where
 ty:Ty
 elem:TypeId:=0
 bytes:Nat:=0
 arr:Bool:=false
 ls:List (Nat×TypeId×Nat):=[]
abbrev sG:=List (Nat×TI)
@[go_sem] def rO:sG->TypeId->Option TI
 |[],_=>none
 |(k,s)::r,t=>if k=t then some s else rO r t
inductive PK where
 |v|own|p (t:Ty) (os:pL) |m|r|f (ks:List (Ty×pL)) |q
structure qH where
 side:List Prop
 ret:List pW
 H:List pV
structure r5 where
 ps:List PK
 C:List pW->List pV->Option qH
 gs:List (Nat×Nat×PK):=[]
 same:pL:=[]
 row:Option ((t:Ty)->List t.den->Option (List t.den)):=none
abbrev sV:=Nat->Option r5
structure qI where
 side:List Prop
 slot:pW
 upd:List (Nat×pV)
 rds:pL
abbrev Y5:Nat:=900000000
@[go_sem] def HJ:pL->Bool
 |[]=>false
 |i::_=>if i=1000000000 then true else false
@[go_sem] def orE:Option qI->Option qI->Option qI
 |some r,_=>some r
 |none,r=>r
@[go_sem] def AF:Option (List Prop×DV)->Option qI
 |some (p,d)=>some ⟨p,(d,none),[],[]⟩
 |none=>none
@[go_sem] def Y6:pN->DV
 | .bool b=> .val .bool b
 | .int k n=> .val (.int k) n
 | .string s=> .val .str s.data.toList
 | .slice none 0 0=> .nilS
 | .pointer none=> .val .ref none
 | .nilFunc=> .val .clo none
 | .map none=> .val .mp none
 |_=> .any
@[go_sem] def tT (env:List (Nat×pW)):Operand->pW
 | .tmp t=>lk env t
 | .const v=>(Y6 v,none)
 | .func f=>(.val .clo (some (f,[])),none)
 | .global _=>(.any,none)
@[go_sem] def MM:Option TI->pW->pW
 |some ⟨.list t,_,_,_,_⟩,(.nilS,_)=>(.val (.list t) [],none)
 |some ⟨.ap,_,_,_,_⟩,(.val .clo none,_)=>(.val .ap (0,0,(0,0),(0,0)),none)
 |_,s=>s
@[go_sem] def JQ:IntKind->Int->List Prop×DV
 | .i64,n=>([-9223372036854775808<=n/\n<=9223372036854775807],.val (.int .i64) n)
 |k,n=>([],.val (.int k) (k.wrap n))
@[go_sem] def qS {α:Type}:List α->List α->List α
 |[],m=>m
 |x::l,m=>x::qS l m
@[go_sem] def BW:(t:Ty)->t.den->t.den->Option Bool
 | .bool,a,b=>some (a==b)
 | .int _,a,b=>some (decide ((a:Int)=b))
 | .str,a,b=>some (decide ((a:p7)=b))
 | .unit,_,_=>some true
 | .pair s t,a,b=>eqAnd (BW s a.1 b.1) (BW t a.2 b.2)
 |_,_,_=>none
where
 eqAnd:Option Bool->Option Bool->Option Bool
  |some x,some y=>some (x&&y)
  |_,_=>none
attribute [go_sem] BW.eqAnd
@[go_sem] def Y7 (k:IntKind) (a b:Int):BinOp->Option (List Prop×DV)
 | .add=>some (JQ k (a+b))
 | .sub=>some (JQ k (a-b))
 | .mul=>some (JQ k (a*b))
 | .eql=>some ([],.val .bool (decide (a=b)))
 | .neq=>some ([],.val .bool (!decide (a=b)))
 | .lss=>some ([],.val .bool (decide (a<b)))
 | .leq=>some ([],.val .bool (decide (a<=b)))
 | .gtr=>some ([],.val .bool (decide (b<a)))
 | .geq=>some ([],.val .bool (decide (b<=a)))
 | .quo=>some ([b≠0],.val (.int k) (k.wrap (Int.tdiv a b)))
 | .rem=>some ([b≠0],.val (.int k) (Int.tmod a b))
 | .and=>some ([],.val (.int k) (bits .and k a b))
 | .or=>some ([],.val (.int k) (bits .or k a b))
 | .xor=>some ([],.val (.int k) (bits .xor k a b))
 | .andNot=>some ([],.val (.int k) (bits .andNot k a b))
 |_=>none
def Y8 (k:IntKind) (a b:Int):Int:=k.wrap (a*2^min b.toNat k.bits)
def xZ (k:IntKind) (a b:Int):Int:=a.fdiv (2^min b.toNat k.bits)
@[go_sem] def a9j (k:IntKind) (a:Int) (k':IntKind) (b:Int):BinOp->Option (List Prop×DV)
 | .shl=>some ([0<=b],.val (.int k) (Y8 k a b))
 | .shr=>some ([0<=b],.val (.int k) (xZ k a b))
 |op=>if k=k' then Y7 k a b op else none
@[go_sem] def Y9 (a b:p7):BinOp->Option (List Prop×DV)
 | .add=>some ([((a++b).length:Int)<=9223372036854775807],.val .str (a++b))
 | .eql=>some ([],.val .bool (decide (a=b)))
 | .neq=>some ([],.val .bool (!decide (a=b)))
 | .lss=>some ([],.val .bool (Op.bytesLess a b))
 | .leq=>some ([],.val .bool (Op.bytesLess a b||decide (a=b)))
 | .gtr=>some ([],.val .bool (!(Op.bytesLess a b||decide (a=b))))
 | .geq=>some ([],.val .bool (!Op.bytesLess a b))
 |_=>none
@[go_sem] def MN:BinOp->Option Bool->Option (List Prop×DV)
 | .eql,some r=>some ([],.val .bool r)
 | .neq,some r=>some ([],.val .bool (!r))
 |_,_=>none
@[go_sem] def SR (op:BinOp):pW->pW->Option (List Prop×DV)
 |(.val (.int k) a,_),(.val (.int k') b,_)=>a9j k a k' b op
 |(.val .str a,_),(.val .str b,_)=>Y9 a b op
 |_,_=>none
@[go_sem] def a9k (k:IntKind) (a b:Int):BinOp->Option (List Prop×DV)
 | .add=>some ([],.val (.int k) (k.wrap (a+b)))
 | .sub=>some ([],.val (.int k) (k.wrap (a-b)))
 | .mul=>some ([],.val (.int k) (k.wrap (a*b)))
 |_=>none
@[go_sem] def SS (op:BinOp):Option TI->pW->pW->Option (List Prop×DV)
 |some ⟨.int _,_,_,true,_⟩,(.val (.int k) a,_),(.val (.int k') b,_)=>if k=k' then a9k k a b op else none
 |_,_,_=>none
@[go_sem] def a9l (u:Ty) (b:Nat) (op:BinOp) (t t':Ty) (x:t.den) (y:t'.den):Option (List Prop×DV):=
 if h:t'=t then(if t=u/\(t= .bool\/(t.isRow=true/\b=1)) then MN op (BW t x (tX h y)) else none) else none
@[go_sem] def ST {α:Type}(l:List α):BinOp->Option (List Prop×DV)
 | .eql=>some ([],.flag (l=[]) True)
 | .neq=>some ([],.flag True (l=[]))
 |_=>none
@[go_sem] def yP {α:Type}:Option α->Bool
 |none=>true
 |some _=>false
@[go_sem] def YA:Option TI->BinOp->pW->pW->Option (List Prop×DV)
 |some ⟨.list _,_,_,_,_⟩,op,(.val (.list _) l,_),(.nilS,_)=>ST l op
 |some ⟨.list _,_,_,_,_⟩,op,(.nilS,_),(.val (.list _) l,_)=>ST l op
 |some ⟨.ap,_,_,_,_⟩,op,(.val .ap x,_),(.val .clo none,_)=>MN op (some (decide (x.1=0)))
 |some ⟨.clo,_,_,_,_⟩,op,(.val .fn x,_),(.val .clo none,_)=>MN op (some (yP x))
 |some ⟨u,_,b,_,_⟩,op,(.val t x,_),(.val t' y,_)=>a9l u b op t t' x y
 |_,_,_,_=>none
@[go_sem] def YB:Option (List Prop×DV)->Option (List Prop×DV)->Option (List Prop×DV)
 |some r,_=>some r
 |none,r=>r
@[go_sem] def YC:UnOp->pW->Option (List Prop×DV)
 | .not,(.val .bool b,_)=>some ([],.val .bool (!b))
 | .neg,(.val (.int k) n,_)=>some (JQ k (-(n:Int)))
 |_,_=>none
def tP (l:pH):p7:=l.map fun n=>UInt8.ofNat n.toNat
def uK (s:p7):pH:=s.map fun b=>(b.toNat:Int)
@[go_sem] def SU:Option TI->Option TI->pW->Option (List Prop×DV)
 |some _,some ⟨.int k,_,_,_,_⟩,(.val (.int _) n,_)=>some ([],.val (.int k) (k.wrap n))
 |some _,some ⟨.str,_,_,_,_⟩,(.val .str s,_)=>some ([],.val .str s)
 |_,_,_=>none
@[go_sem] def a9m (l:pH):Option TI->Option (List Prop×DV)
 |some ⟨.int .u8,_,_,_,_⟩=>some ([],.val .str (tP l))
 |_=>none
@[go_sem] def YD (T:sG):Option TI->Option TI->pW->Option (List Prop×DV)
 |some ⟨.list (.int .u8),e,_,_,_⟩,some ⟨.str,_,_,_,_⟩,(.val (.list (.int .u8)) l,_)=>a9m l (rO T e)
 |_,_,_=>none
def qR {α:Type}(l:List α) (lo hi:Int):List α:=(l.drop lo.toNat).take (hi.toNat-lo.toNat)
@[go_sem] def D9:Option pW->Int->Option Int
 |none,d=>some d
 |some (.val (.int _) n,_),_=>some n
 |_,_=>none
@[go_sem] def SV (t:Ty) (n:Nat) (f:Int->Int->t.den):Option Int->Option Int->Option (List Prop×DV)
 |some a,some b=>some ([0<=a/\a<=b/\b<=(n:Int)],.val t (f a b))
 |_,_=>none
@[go_sem] def YE:Option TI->pW->Option pW->Option pW->Option (List Prop×DV)
 |some ⟨.str,_,_,_,_⟩,(.val .str l,_),lo,hi=>SV .str (List.length l) (qR l) (D9 lo 0) (D9 hi (List.length l))
 |some ⟨.list u,_,_,_,_⟩,(.val (.list t) l,_),lo,hi=>if t=u then SV (.list t) (List.length l) (qR l) (D9 lo 0) (D9 hi (List.length l)) else none
 |_,_,_,_=>none
@[go_sem] def SW (t:Ty) (x:t.den) (i:Nat):Option Ty->Option t.den
 |some (.list u)=>Ty.setPart (.list u) [] t x i
 |_=>none
@[go_sem] def AG (t:Ty):Option t.den->List (Nat×pW)->Option t.den
 |some x,[]=>some x
 |some x,(i,(.val u y,_))::r=>AG t (Ty.setPart u y t x i) r
 |some x,(i,(.nilS,_))::r=>AG t (SW t x i (t.fld i)) r
 |_,_=>none
@[go_sem] def CS (t:Ty):Nat->List t.den
 |0=>[]
 |n+1=>t.zero::CS t n
@[go_sem] def a9n (t:Ty) (n:Nat) (l:List t.den) (i:Nat) (u:Ty) (y:u.den):Option (List t.den):=if h:u=t/\i<n then some (l.set i (tX h.1 y)) else none
@[go_sem] def B8 (t:Ty) (n:Nat):Option (List t.den)->List (Nat×pW)->Option (List t.den)
 |some l,[]=>some l
 |some l,(i,(.val u y,_))::r=>B8 t n (a9n t n l i u y) r
 |_,_=>none
attribute [go_sem] List.set_cons_zero List.set_cons_succ
@[go_sem] def JR:List pW->Option pG
 |[]=>some []
 |(.val .ref (some p),_)::r=>(JR r).map (p:: ·)
 |_=>none
@[go_sem] def wR:pG->Nat->pK
 |[],_=>none
 |(o,k)::r,a=>if o=a then some k else wR r a
@[go_sem] def xF:pK->Nat->pG
 |some k,o=>[(o,k)]
 |none,_=>[]
@[go_sem] def sZ:pG->Nat->Nat->pG
 |[],_,_=>[]
 |(q,k)::r,o,n=>if o<=q/\q<o+n then sZ r o n else(q,k)::sZ r o n
@[go_sem] def EI:Ty->pK->pK
 | .list _,k=>k
 |_,_=>none
@[go_sem] def yQ {α:Type}:List α->List α->List α
 |[],acc=>acc
 |x::l,acc=>yQ l (x::acc)
inductive rJ where
 |box (id:Nat) (u:Ty) (x:u.den) (toks:pG) (o:Nat)
 |tok (id:Nat)
@[go_sem] def rJ.id:rJ->Nat
 | .box i _ _ _ _=>i
 | .tok k=>k
@[go_sem] def zV:Nat->pL->Bool
 |_,[]=>false
 |i,j::r=>if i=j then true else zV i r
@[go_sem] def s7:List rJ->pL
 |[]=>[]
 |w::r=>w.id::s7 r
structure sQ where
 args:List pW
 H:List pV
 ws:List rJ
 n:Nat
@[go_sem] def JS:pL->Nat->pG
 |[],_=>[]
 |q::qs,n=>(q,n)::JS qs (n+1)
@[go_sem] def BX (k:Nat):Option pV->Option sQ->Option sQ
 |some (.grow e c m),some a=>if zV k (s7 a.ws)=true then none else some ⟨a.args,.grow e c m::a.H,.tok k::a.ws,a.n+1⟩
 |_,_=>none
@[go_sem] def zE (H:List (Nat×pV)):pK->Option sQ->Option sQ
 |some k,a=>BX k (pY H k) a
 |none,_=>none
@[go_sem] def yF (H:List (Nat×pV)) (toks:pG) (o:Nat):pL->Option sQ->Option sQ
 |[],a=>a
 |q::qs,a=>yF H toks o qs (zE H (wR toks (o+q)) a)
@[go_sem] def MO (n:Nat):pL->Bool
 |[]=>true
 |q::qs=>decide (q<n)&&MO n qs
@[go_sem] def EJ (H:List (Nat×pV)) (t:Ty) (os:pL) (i o:Nat) (u:Ty) (x:u.den) (toks:pG) (a:sQ):Option t.den->Option sQ
 |some y=>if (MO t.cells os&& !zV i (s7 a.ws))=true then yF H toks o os (some ⟨(.val .ref (some (a.n,0)),none)::a.args,.cells t y (JS os (a.n+1))::a.H,.box i u x toks o::a.ws,a.n+1⟩) else none
 |none=>none
@[go_sem] def vQ (H:List (Nat×pV)) (t:Ty) (os:pL) (i o:Nat) (a:sQ):Option pV->Option sQ
 |some (.cells u x toks)=>EJ H t os i o u x toks a (qT t u x o)
 |_=>none
@[go_sem] def BY (t:Ty) (x:t.den) (k:Nat) (a:sQ):Option pV->Option sQ
 |some (.grow e c m)=>if (t.pure&& !zV k (s7 a.ws))=true then some ⟨(.val t x,some a.n)::a.args,.grow e c m::a.H,.tok k::a.ws,a.n+1⟩ else none
 |_=>none
@[go_sem] def SX (t:Ty) (x:t.den) (a:sQ):Option sQ:=
 if t.pure=true then some ⟨(.val t x,none)::a.args,a.H,a.ws,a.n⟩ else none
@[go_sem] def SY (f:FuncId) (a:sQ):Option sQ:=some ⟨(.val .clo (some (f,[])),none)::a.args,a.H,a.ws,a.n⟩
@[go_sem] def SZ (a:sQ):Option sQ:=some ⟨(.nilS,none)::a.args,a.H,a.ws,a.n⟩
@[go_sem] def BZ (i:Nat) (a:sQ):Option pV->Option sQ
 |some (.map k v l)=>if (k.pure&&v.pure&& !zV i (s7 a.ws))=true then some ⟨(.val .mp (some a.n),none)::a.args,.map k v l::a.H,.tok i::a.ws,a.n+1⟩ else none
 |_=>none
def xG (k n:Nat) (a:sQ):Option pV->Option sQ
 |some (.row e t l m)=>if (t.pure&& !zV k (s7 a.ws))=true then some ⟨(.own a.n n,none)::a.args,.row e t l m::a.H,.tok k::a.ws,a.n+1⟩ else none
 |some (.grow e c m)=>if (!zV k (s7 a.ws))=true then some ⟨(.own a.n n,none)::a.args,.grow e c m::a.H,.tok k::a.ws,a.n+1⟩ else none
 |_=>none
attribute [go_sem] xG.eq_1 xG.eq_2 xG.eq_3
@[go_sem] def xH (H:List (Nat×pV)) (f:FuncId) (args:List pW):List (Ty×pL)->pG->pG->Option sQ->Option sQ
 |[],[],ids,some a=>some ⟨(.val .clo (some (f,yQ ids [])),none)::args,a.H,a.ws,a.n⟩
 |(t,os)::ks,(i,o)::cs,ids,some a=>xH H f args ks cs ((a.n,0)::ids) (vQ H t os i o a (pY H i))
 |_,_,_,_=>none
@[go_sem] def CT (i o:Nat):List rJ->Nat->pJ
 |[],_=>none
 | .box j _ _ _ oc::r,c=>if j=i/\oc<=o then some (c,o-oc) else CT i o r (c+1)
 | .tok _::r,c=>CT i o r (c+1)
@[go_sem] def P7 (a:sQ):pJ->Option sQ
 |some p=>some ⟨(.val .ref (some p),none)::a.args,a.H,a.ws,a.n⟩
 |none=>none
@[go_sem] def xI (H:List (Nat×pV)) (a:sQ):PK->pW->Option sQ
 | .v,(.val .clo (some (f,[])),_)=>SY f a
 | .v,(.val t x,_)=>SX t x a
 | .v,(.nilS,_)=>SZ a
 | .own,(.val (.list t) x,some k)=>BY (.list t) x k a (pY H k)
 | .p t os,(.val .ref (some (i,o)),_)=>vQ H t os i o a (pY H i)
 | .m,(.val .mp (some i),_)=>BZ i a (pY H i)
 | .r,(.own k n,_)=>xG k n a (pY H k)
 | .f ks,(.val .clo (some (f,cs)),_)=>xH H f a.args ks cs [] (some a)
 | .q,(.val .ref (some (i,o)),_)=>P7 a (CT i o (yQ a.ws []) 0)
 |_,_=>none
@[go_sem] def xJ (H:List (Nat×pV)):List PK->List pW->Option sQ->Option sQ
 |_,_,none=>none
 |[],[],some a=>some a
 |p::ps,s::ss,some a=>xJ H ps ss (xI H a p s)
 |_,_,some _=>none
@[go_sem] def aIF:Option pJ->pW
 |some (some p)=>(.val .ref (some p),none)
 |_=>(.any,none)
@[go_sem] def aIG:Option pK->pW
 |some (some i)=>(.val .mp (some i),none)
 |_=>(.any,none)
@[go_sem] def aIH:Option pJ->pW
 |some (some (k,n))=>(.own k n,none)
 |_=>(.any,none)
@[go_sem] def C0:(t:Ty)->t.den->Nat->Option pJ
 | .rl _ _,x,0=>some x
 | .pair a b,x,o=>if o<a.cells then C0 a x.1 o else C0 b x.2 (o-a.cells)
 |_,_,_=>none
@[go_sem] def JT (q:Nat):PK->Option pV->pW
 | .r,some (.cells t y _)=>aIH (C0 t y q)
 | .p _ _,some (.cells t y _)=>aIF (qT .ref t y q)
 | .m,some (.cells t y _)=>aIG (qT .mp t y q)
 |_,_=>(.any,none)
@[go_sem] def HK:List pV->Nat->Option pV
 |[],_=>none
 |b::_,0=>some b
 |_::r,n+1=>HK r n
@[go_sem] def MP (l:List pW):Option sQ->Option sQ
 |some a=>some ⟨l,a.H,a.ws,a.n⟩
 |none=>none
@[go_sem] def B9 (H:List (Nat×pV)):List (Nat×Nat×PK)->Option sQ->Option sQ
 |_,none=>none
 |[],some a=>some a
 |(c,q,pk)::r,some a=>B9 H r (MP a.args (xI H a pk (JT q pk (HK a.H (a.n-1-c)))))
@[go_sem] def vR (i:Nat):List rJ->Nat->pK
 |[],_=>none
 | .tok j::r,c=>if j=i then some c else vR i r (c+1)
 | .box _ _ _ _ _::r,c=>vR i r (c+1)
@[go_sem] def EK {α β:Type}:Option α->Option β->Option (α×β)
 |some a,some b=>some (a,b)
 |_,_=>none
@[go_sem] def T0 (W:List rJ):pJ->Option pJ
 |none=>some none
 |some (i,o)=>(CT i o W 0).map some
@[go_sem] def a9o (W:List rJ):pK->Option pK
 |none=>some none
 |some i=>(vR i W 0).map some
@[go_sem] def a9p (W:List rJ):pJ->Option pJ
 |none=>some none
 |some (k,n)=>(vR k W 0).map fun c=>some (c,n)
@[go_sem] def P8:Option (Nat×pG)->Option (Option (Nat×pG))
 |none=>some none
 |some (f,[])=>some (some (f,[]))
 |_=>none
@[go_sem] def T5 (c n3 n4:Nat):pJ->pK->pK->Option (Nat×Nat×(Nat×Nat)×(Nat×Nat))
 |some (i,0),some k3,some k4=>some (c,i,(k3,n3),(k4,n4))
 |_,_,_=>none
@[go_sem] def a9q (W:List rJ):Nat×Nat×(Nat×Nat)×(Nat×Nat)->Option (Nat×Nat×(Nat×Nat)×(Nat×Nat))
 |(c,i,(k3,n3),(k4,n4))=>T5 c n3 n4 (CT i 0 W 0) (vR k3 W 0) (vR k4 W 0)
@[go_sem] def C1 (W:List rJ):(t:Ty)->t.den->Option t.den
 | .ref,x=>T0 W x
 | .clo,x=>P8 x
 | .mp,x=>a9o W x
 | .pair a b,x=>EK (if a.pure=true then some x.1 else C1 W a x.1) (if b.pure=true then some x.2 else C1 W b x.2)
 | .list t,x=>if t.pure=true then some x else none
 | .bool,x=>some x
 | .int _,x=>some x
 | .str,x=>some x
 | .unit,x=>some x
 | .rl _ _,x=>a9p W x
 | .fn,x=>some x
 | .mref,x=>T0 W x
 | .ap,x=>a9q W x
@[go_sem] def YF:Option pV->Option (List pV)->Option (List pV)
 |some b,some l=>some (b::l)
 |_,_=>none
@[go_sem] def aII (t:Ty) (ts:pG):Option t.den->Option pV
 |some y=>some (.cells t y ts)
 |none=>none
def JU (W:List rJ):pV->Option pV
 | .cells t y ts=>if t.pure=true then some (.cells t y ts) else aII t ts (C1 W t y)
 |b=>some b
attribute [go_sem] JU.eq_1 JU.eq_2
@[go_sem] def HL (W:List rJ):List pV->Option (List pV)
 |[]=>some []
 |b::r=>YF (JU W b) (HL W r)
@[go_sem] def yR:List rJ->Nat->Option rJ
 |[],_=>none
 |w::_,0=>some w
 |_::r,n+1=>yR r n
@[go_sem] def MQ (n:Nat) (c:Nat):Option rJ->Bool
 |some _=>false
 |none=>decide (c<n)
@[go_sem] def zF (base n c:Nat):Option rJ->pK
 |some (.box _ _ _ _ _)=>none
 |some (.tok k)=>some k
 |none=>if c<n then some (base+c) else none
@[go_sem] def a9r (base n c o:Nat):Option rJ->pW
 |some (.box i _ _ _ o')=>(.val .ref (some (i,o'+o)),none)
 |wh=>if MQ n c wh=true then(.val .ref (some (base+c,o)),none) else(.any,none)
@[go_sem] def JV (base n:Nat) (W:List rJ):pK->pK
 |some c=>zF base n c (yR W c)
 |none=>none
@[go_sem] def aIJ (m:Nat):pK->pW
 |some k=>(.own k m,none)
 |none=>(.any,none)
@[go_sem] def aIK:pK->pW
 |some k=>(.val .mp (some k),none)
 |none=>(.any,none)
@[go_sem] def P9 (base n c o:Nat):Option rJ->pJ
 |some (.box i _ _ _ o')=>some (i,o'+o)
 |wh=>if MQ n c wh=true then some (base+c,o) else none
@[go_sem] def aIL:pJ->Option pG->Option pG
 |some p,some l=>some (p::l)
 |_,_=>none
@[go_sem] def MR (base n:Nat) (W:List rJ):pG->Option pG
 |[]=>some []
 |(c,o)::r=>aIL (P9 base n c o (yR W c)) (MR base n W r)
@[go_sem] def aIM (f:Nat):Option pG->pW
 |some l=>(.val .clo (some (f,l)),none)
 |none=>(.any,none)
@[go_sem] def T6 (base n:Nat) (W:List rJ):pW->pW
 |(.own c m,_)=>aIJ m (JV base n W (some c))
 |(.val .ref (some (c,o)),_)=>a9r base n c o (yR W c)
 |(.val .ref none,_)=>(.val .ref none,none)
 |(.val .mp (some c),_)=>aIK (JV base n W (some c))
 |(.val .mp none,_)=>(.val .mp none,none)
 |(.val .clo (some (f,cs)),_)=>aIM f (MR base n W cs)
 |(.val t x,k)=>if t.pure=true then(.val t x,JV base n W (EI t k)) else(.any,none)
 |_=>(.any,none)
@[go_sem] def aIN (q:Nat):pK->pG->pG
 |some k,r=>(q,k)::r
 |none,r=>r
@[go_sem] def DA (base n:Nat) (W:List rJ) (o:Nat):pG->pG
 |[]=>[]
 |(q,c)::r=>aIN (o+q) (zF base n c (yR W c)) (DA base n W o r)
@[go_sem] def JW (base n:Nat) (W:List rJ):pJ->Option pJ
 |none=>some none
 |some (c,o)=>back2 c o (yR W c)
where
 back2 (c o:Nat):Option rJ->Option pJ
  |some (.box i _ _ _ o')=>some (some (i,o'+o))
  |wh=>if MQ n c wh=true then some (some (base+c,o)) else none
attribute [go_sem] JW.back2
@[go_sem] def a9s (base n:Nat) (W:List rJ):pK->Option pK
 |none=>some none
 |some c=>(zF base n c (yR W c)).map some
@[go_sem] def a9t (base n:Nat) (W:List rJ):pJ->Option pJ
 |none=>some none
 |some (c,q)=>(zF base n c (yR W c)).map fun k=>some (k,q)
@[go_sem] def a9u (base n:Nat) (W:List rJ):Nat×Nat×(Nat×Nat)×(Nat×Nat)->Option (Nat×Nat×(Nat×Nat)×(Nat×Nat))
 |(c,i,(k3,n3),(k4,n4))=>T5 c n3 n4 (P9 base n i 0 (yR W i)) (zF base n k3 (yR W k3)) (zF base n k4 (yR W k4))
@[go_sem] def BA (base n:Nat) (W:List rJ):(t:Ty)->t.den->Option t.den
 | .ref,x=>JW base n W x
 | .clo,x=>P8 x
 | .mp,x=>a9s base n W x
 | .pair a b,x=>EK (if a.pure=true then some x.1 else BA base n W a x.1) (if b.pure=true then some x.2 else BA base n W b x.2)
 | .list t,x=>if t.pure=true then some x else none
 | .bool,x=>some x
 | .int _,x=>some x
 | .str,x=>some x
 | .unit,x=>some x
 | .rl _ _,x=>a9t base n W x
 | .fn,x=>some x
 | .mref,x=>JW base n W x
 | .ap,x=>a9u base n W x
@[go_sem] def T7 (i o:Nat) (u t:Ty) (toks ts:pG):Option u.den->Option (Nat×pV)
 |some z=>some (i,.cells u z (qS ts (sZ toks o t.cells)))
 |none=>none
@[go_sem] def a9v (i:Nat) (t:Ty) (ts:pG):Option t.den->Option (Nat×pV)
 |some y=>some (i,.cells t y ts)
 |none=>none
def y5 (base n c:Nat) (W:List rJ):pV->Option (Nat×pV)
 | .cells t y ts=>if t.pure=true then some (base+c,.cells t y (DA base n W 0 ts)) else a9v (base+c) t (DA base n W 0 ts) (BA base n W t y)
 | .grow e m k=>some (base+c,.grow e m k)
 | .row e t l n=>if t.pure=true then some (base+c,.row e t l n) else none
 | .map k v l=>if (k.pure&&v.pure)=true then some (base+c,.map k v l) else none
 | .iter _ _=>none
 | .dead=>some (base+c,.dead)
attribute [go_sem] y5.eq_1 y5.eq_2 y5.eq_3 y5.eq_4 y5.eq_5 y5.eq_6
def w6 (k:Nat):pV->Option (Nat×pV)
 | .cells _ _ _=>none
 | .grow e m n=>some (k,.grow e m n)
 | .row e t l n=>if t.pure=true then some (k,.row e t l n) else none
 | .map s v l=>if (s.pure&&v.pure)=true then some (k,.map s v l) else none
 | .iter _ _=>none
 | .dead=>some (k,.dead)
attribute [go_sem] w6.eq_1 w6.eq_2 w6.eq_3 w6.eq_4 w6.eq_5 w6.eq_6
@[go_sem] def a9w (i o:Nat) (u t:Ty) (toks ts:pG) (x:u.den):Option t.den->Option (Nat×pV)
 |some y=>T7 i o u t toks ts (sB t y u x o)
 |none=>none
@[go_sem] def xK (base n i o:Nat) (W:List rJ) (u:Ty) (x:u.den) (toks:pG):pV->Option (Nat×pV)
 | .cells t y ts=>if t.pure=true then T7 i o u t toks (DA base n W o ts) (sB t y u x o) else a9w i o u t toks (DA base n W o ts) x (BA base n W t y)
 | .dead=>some (i,.dead)
 | .grow _ _ _=>none
 | .row _ _ _ _=>none
 | .map _ _ _=>none
 | .iter _ _=>none
@[go_sem] def PA:Option (Nat×pV)->Option (List (Nat×pV))->Option (List (Nat×pV))
 |some q,some r=>some (q::r)
 |_,_=>none
@[go_sem] def BB (base n:Nat) (W:List rJ):Nat->List rJ->List pV->Option (List (Nat×pV))
 |_,[],[]=>some []
 |c,[],b::L=>PA (y5 base n c W b) (BB base n W (c+1) [] L)
 |c,.box i u x toks o::ws,b::L=>PA (xK base n i o W u x toks b) (BB base n W (c+1) ws L)
 |c,.tok k::ws,b::L=>PA (w6 k b) (BB base n W (c+1) ws L)
 |_,_::_,[]=>none
@[go_sem] def FP:List pW->Option (List ((Σ t:Ty,t.den)×pK))
 |[]=>some []
 |(.val t x,k)::r=>(FP r).map ((⟨t,x⟩,k):: ·)
 |(.own k n,_)::r=>(FP r).map ((⟨.rl 0 .unit,some (k,n)⟩,none):: ·)
 |_=>none
@[go_sem] def aIO:Option (List ((Σ t:Ty,t.den)×pK))->pW
 |some q=>(.tup q,none)
 |none=>(.any,none)
@[go_sem] def MS:List pW->Option pW
 |[]=>some (.tup [],none)
 |[s]=>some s
 |s::s'::l=>some (aIO (FP (s::s'::l)))
@[go_sem] def YG (W:List rJ):pL->pL
 |[]=>[]
 |c::r=>sameId (yR W c) (YG W r)
where
 sameId:Option rJ->pL->pL
  |some w,r=>w.id::r
  |none,r=>r
attribute [go_sem] YG.sameId
@[go_sem] def PB (side:List Prop) (rds:pL):Option (List (Nat×pV))->Option pW->Option qI
 |some H,some s=>some ⟨side,s,H,rds⟩
 |_,_=>none
@[go_sem] def PC (base n:Nat) (W:List rJ):List pW->List pW
 |[]=>[]
 |s::r=>T6 base n W s::PC base n W r
@[go_sem] def qU:List pV->Nat
 |[]=>0
 |_::r=>qU r+1
@[go_sem] def T8 (base:Nat) (W:List rJ) (sm:pL):Option qH->Option qI
 |some r=>PB r.side (qS (s7 W) (YG W sm)) (BB base (qU r.H) W 0 W r.H) (MS (PC base (qU r.H) W r.ret))
 |none=>none
@[go_sem] def T9 (C:List pW->List pV->Option qH) (sm:pL) (base:Nat) (W:List rJ) (args:List pW):Option (List pV)->Option qI
 |some L=>T8 base W sm (C args L)
 |none=>none
@[go_sem] def PD (C:List pW->List pV->Option qH) (sm:pL) (base:Nat):Option sQ->Option qI
 |some a=>T9 C sm base (yQ a.ws []) (yQ a.args []) (HL (yQ a.ws []) (yQ a.H []))
 |none=>none
@[go_sem] def FQ (H:List (Nat×pV)) (base:Nat) (args:List pW):Option r5->Option qI
 |some g=>PD g.C g.same base (B9 H g.gs (xJ H g.ps args (some ⟨[],[],[],0⟩)))
 |none=>none
@[go_sem] def PE:List PK->List pW->pK
 | .r::ps,_::ss=>PE ps ss
 |_::_,(.own k _,_)::_=>some k
 |_::ps,_::ss=>PE ps ss
 |_,_=>none
@[go_sem] def a9x (k:Nat) (t:Ty) (l:List t.den):pW->pW
 |(.own j m,x)=>if j=k then(.val (.list t) l,none) else(.own j m,x)
 |s=>s
@[go_sem] def PF (k:Nat) (t:Ty) (l:List t.den):List pW->List pW
 |[]=>[]
 |s::r=>a9x k t l s::PF k t l r
@[go_sem] def JX (k n:Nat):List pW->List Prop
 |[]=>[]
 |(.own j m,_)::r=>(j=k->m=n)::JX k n r
 |_::r=>JX k n r
@[go_sem] def FR:Ty->Bool
 | .list _=>false
 | .pair a b=>FR a&&FR b
 | .bool| .int _| .str| .unit| .fn=>true
 | .ref| .clo| .mp| .rl _ _| .mref| .ap=>false
@[go_sem] def q9:List (Nat×pV)->pL
 |[]=>[]
 |(i,_)::r=>i::q9 r
@[go_sem] def MT:List (Nat×pV)->Bool
 |[]=>true
 |(_,.cells t _ [])::r=>FR t&&MT r
 |_=>false
@[go_sem] def TA:List ((Σ t:Ty,t.den)×pK)->Bool
 |[]=>true
 |(⟨t,_⟩,_)::r=>FR t&&TA r
@[go_sem] def YH:List ((Σ t:Ty,t.den)×pK)->List ((Σ t:Ty,t.den)×pK)
 |[]=>[]
 |(q,_)::r=>(q,none)::YH r
@[go_sem] def TB:pW->Option pW
 |(.val t x,_)=>if FR t=true then some (.val t x,none) else none
 |(.tup l,_)=>if TA l=true then some (.tup (YH l),none) else none
 |_=>none
@[go_sem] def YI (sd:List Prop) (k:Nat) (side:List Prop) (U:List (Nat×pV)) (rds:pL):Option pW->Option qI
 |some s=>if (MT U&& !zV k (q9 U))=true then some ⟨qS sd side,s,U,k::rds⟩ else none
 |none=>none
@[go_sem] def YJ (sd:List Prop) (k:Nat):Option qI->Option qI
 |some ⟨side,s,U,rds⟩=>YI sd k side U rds (TB s)
 |none=>none
@[go_sem] def PG (H:List (Nat×pV)) (base:Nat) (args:List pW) (g:r5) (k:Nat):Option pV->Option qI
 |some (.row _ t l m)=>YJ (JX k m args) k (FQ ((k,.dead)::H) base (PF k t l args) (some g))
 |_=>none
@[go_sem] def a9y (H:List (Nat×pV)) (base:Nat) (args:List pW) (g:r5):pK->Option qI
 |some k=>PG H base args g k (pY H k)
 |none=>FQ H base args (some g)
@[go_sem] def a9z (k n m e:Nat) (t:Ty):Option (List t.den)->Option qI
 |some l=>some ⟨[n=m,m<4611686018427387904],(.tup [],none),[(k,.row e t l m)],[k]⟩
 |none=>none
@[go_sem] def YK (F:(t:Ty)->List t.den->Option (List t.den)) (k n:Nat):Option pV->Option qI
 |some (.row e t l m)=>a9z k n m e t (F t l)
 |_=>none
@[go_sem] def TC (H:List (Nat×pV)) (F:(t:Ty)->List t.den->Option (List t.den)):List pW->Option qI
 |[(.own k n,_)]=>YK F k n (pY H k)
 |_=>none
@[go_sem] def YL (base:Nat):Option TI->pW->Option qI
 |some ⟨.list u,e,_,true,_⟩,(.nilS,_)=>some ⟨[],(.own base 0,none),[(base,.row e u [] 0)],[]⟩
 |some ⟨.list u,e,_,false,_⟩,(.nilS,_)=>some ⟨[],(.val (.list u) [],some base),[(base,.grow e u.cells 0)],[]⟩
 |_,(.nilS,_)=>none
 |_,s=>some ⟨[],s,[],[]⟩
@[go_sem] def EL:Ty->Nat->Bool
 | .list _,0=>true
 | .pair a b,o=>if o<a.cells then EL a o else EL b (o-a.cells)
 |_,_=>false
@[go_sem] def EM (t:Ty):List (Nat×TypeId×Nat)->Bool
 |[]=>true
 |(o,_,_)::r=>EL t o&&EM t r
@[go_sem] def C2:List (Nat×TypeId×Nat)->Nat->pG
 |[],_=>[]
 |(o,_,_)::r,i=>(o,i)::C2 r (i+1)
@[go_sem] def DB:List (Nat×TypeId×Nat)->Nat->List (Nat×pV)
 |[],_=>[]
 |(_,e,c)::r,i=>qS (DB r (i+1)) [(i,.grow e c 0)]
@[go_sem] def YM (e:Nat):Bool:=if e=82 then true else if e=a9h then true else false
@[go_sem] def YN (e:Nat) (u:Ty) (o:Nat):pJ->List (Nat×Nat×Ty)
 |none=>[(o,e,u)]
 |some _=>[]
@[go_sem] def zG:(t:Ty)->t.den->Nat->List (Nat×Nat×Ty)
 | .rl e u,x,o=>YN e u o x
 | .pair a b,x,o=>qS (zG a x.1 o) (zG b x.2 (o+a.cells))
 |_,_,_=>[]
@[go_sem] def YO (o:Nat):pJ->pL
 |none=>[o]
 |some _=>[]
@[go_sem] def FS:(t:Ty)->t.den->Nat->pL
 | .mref,x,o=>YO o x
 | .pair a b,x,o=>qS (FS a x.1 o) (FS b x.2 (o+a.cells))
 |_,_,_=>[]
@[go_sem] def a9A:Nat->pL->pL
 |2,[0]=>[0]
 |_,_=>[]
@[go_sem] def TD (el:Nat) (t:Ty) (y:t.den):pL:=if YM el=true then a9A t.cells (FS t y 0) else[]
@[go_sem] def BC (t:Ty):Nat->List (Nat×Nat×Ty)->Option t.den->Option t.den
 |_,[],x=>x
 |i,(o,e,u)::r,some x=>BC t (i+1) r (sB (.rl e u) (some (i,0)) t x o)
 |_,_::_,none=>none
@[go_sem] def HM (t:Ty) (i:Nat):pL->Option t.den->Option t.den
 |[],x=>x
 |q::r,some x=>HM t i r (sB .mref (some (i,q)) t x q)
 |_::_,none=>none
@[go_sem] def EN:List (Nat×Nat×Ty)->Nat->List (Nat×pV)
 |[],_=>[]
 |(_,e,u)::r,i=>qS (EN r (i+1)) [(i,.row e u [] 0)]
@[go_sem] def PH {α:Type}:List α->Nat
 |[]=>0
 |_::r=>PH r+1
@[go_sem] def a9B (base:Nat) (t:Ty) (ls:List (Nat×TypeId×Nat)) (R:List (Nat×Nat×Ty)):Option t.den->Option qI
 |some z=>some ⟨[],(.val .ref (some (base,0)),none),(base,.cells t z (C2 ls (base+1)))::qS (EN R (base+1+PH ls)) (DB ls (base+1)),[]⟩
 |none=>none
@[go_sem] def PI (base el:Nat) (t:Ty) (y:t.den) (ls:List (Nat×TypeId×Nat)):Bool->Option qI
 |true=>a9B base t ls (zG t y 0) (HM t base (TD el t y) (BC t (base+1+PH ls) (zG t y 0) (some y)))
 |false=>none
@[go_sem] def C3 (k:Nat):List (Nat×TypeId×Nat)->List (Nat×TypeId×Nat)
 |[]=>[]
 |(o,e,c)::r=>if o+1=k then C3 k r else(o,e,c)::C3 k r
@[go_sem] def a9C (base el:Nat) (ls:List (Nat×TypeId×Nat)):(t:Ty)->t.den->pK->Option qI
 | .pair a b,y,some k=>PI base el (.pair a b) y (C3 k ls) (EM (.pair a b) (C3 k ls))
 | .list u,y,k=>some ⟨[],(.val .ref (some (base,0)),none),[(base,.cells (.list u) y (xF k 0))],[]⟩
 |t,y,_=>some ⟨[],(.val .ref (some (base,0)),none),[(base,.cells t y [])],[]⟩
@[go_sem] def PJ (base el:Nat):Option TI->Option qI
 |some ⟨.list u,e,_,_,_⟩=>some ⟨[],(.val .ref (some (base,0)),none),[(base,.cells (.list u) [] [(0,base+1)]),(base+1,.grow e u.cells 0)],[]⟩
 |some ti=>PI base el ti.ty ti.ty.zero ti.ls (EM ti.ty ti.ls)
 |none=>none
@[go_sem] def YP (base el:Nat):Option TI->pW->Option qI
 |some ti,(.val t y,k)=>if t=ti.ty then a9C base el ti.ls t y k else none
 |_,_=>none
@[go_sem] def YQ (base el:Nat):Option TI->pW->Option qI
 |some ⟨.list u,e,_,true,_⟩,(.nilS,_)=>PI base el (.rl e u) none [] true
 |some ⟨.list u,e,b,a,ls⟩,(.nilS,_)=>PJ base el (some ⟨.list u,e,b,a,ls⟩)
 |ti,s=>YP base el ti (MM ti s)
@[go_sem] def JY:Ty->Bool
 | .list _=>true
 | .pair a b=>JY a||JY b
 | .bool| .int _| .str| .unit| .ref| .clo| .mp| .rl _ _| .mref| .fn| .ap=>false
@[go_sem] def TE:pK->pK->pK
 |some o,some m=>if m=0 then some (o+1) else none
 |_,_=>none
@[go_sem] def YR:Ty->Bool
 | .list _=>true
 | .pair _ _| .bool| .int _| .str| .unit| .ref| .clo| .mp| .rl _ _| .mref| .fn| .ap=>false
@[go_sem] def TF (u:Ty) (o m:pK):Bool->Bool->pK
 |false,_=>m
 |true,true=>TE o m
 |true,false=>none
@[go_sem] def AH (t:Ty):List (Nat×pW)->pK
 |[]=>some 0
 |(_,(.nilS,_))::r=>AH t r
 |(i,(.val u _,_))::r=>TF u (t.offs i) (AH t r) (JY u) (YR u)
 |_=>none
@[go_sem] def YS:Ty->pK->pK
 | .pair _ _,m=>m
 |_,_=>none
@[go_sem] def aIP (t:Ty) (k:pK):Option t.den->Option qI
 |some x=>some ⟨[],(.val t x,k),[],[]⟩
 |none=>none
@[go_sem] def YT (sl:List (Nat×pW)):Option TI->Option qI
 |some ti=>if ti.ty.isRow=true then aIP ti.ty (YS ti.ty (AH ti.ty sl)) (AG ti.ty (some ti.ty.zero) sl) else none
 |none=>none
@[go_sem] def TG (base e c n:Nat) (t:Ty):Option (List t.den)->Option qI
 |some l=>if n<=16777216/\n*c<=16777216 then some ⟨[],(.val (.list t) l,some base),[(base,.grow e c n)],[]⟩ else none
 |none=>none
@[go_sem] def a9D (base e n:Nat) (t:Ty):Option (List t.den)->Option qI
 |some l=>if t.pure=true/\n<=16777216/\n*t.cells<=16777216 then some ⟨[],(.own base n,none),[(base,.row e t l n)],[]⟩ else none
 |none=>none
@[go_sem] def YU (base n:Nat) (sl:List (Nat×pW)):Option TI->Option qI
 |some ⟨.list u,e,_,true,_⟩=>if n=0 then a9D base e n u (B8 u n (some (CS u n)) sl) else TG base e u.cells n u (B8 u n (some (CS u n)) sl)
 |some ⟨.list u,e,_,false,_⟩=>TG base e u.cells n u (B8 u n (some (CS u n)) sl)
 |_=>none
@[go_sem] def a9E (t:Ty) (k:pK) (i:Nat):Option t.den->Option qI
 |some y=>some ⟨[],(.val t y,k),[],[i]⟩
 |none=>none
@[go_sem] def PL (t:Ty) (i off:Nat):Option pV->Option qI
 |some (.cells u x toks)=>a9E t (EI t (wR toks off)) i (qT t u x off)
 |_=>none
@[go_sem] def a9F (u:Ty) (k n m:Nat):Option u.den->Option qI
 |some y=>some ⟨[n=m],(.val u y,none),[],[k]⟩
 |none=>none
@[go_sem] def PM (u:Ty) (k n c:Nat) (i:Int) (o:Nat):Option pV->Option qI
 |some (.row _ t l m)=>if c=t.cells then a9F u k n m (qT u t (qE t l i) o) else none
 |_=>none
@[go_sem] def YV (i:Nat):Option pJ->Option qI
 |some (some (k,n))=>some ⟨[],(.own k n,none),[],[i]⟩
 |_=>none
@[go_sem] def TH (i off:Nat):TI->Option pV->Option qI
 |⟨.list u,e,_,_,_⟩,some (.cells v x _)=>YV i (qT (.rl e u) v x off)
 |_,_=>none
@[go_sem] def YW:pJ->pJ->pJ
 |some p,_=>some p
 |none,q=>q
@[go_sem] def BD:(t:Ty)->t.den->pJ
 | .rl _ _,x=>x
 | .pair a b,x=>YW (BD a x.1) (BD b x.2)
 |_,_=>none
@[go_sem] def YX (u0:Ty) (l:List u0.den) (u:Ty):pJ->Option (Σ t:Ty,t.den)
 |some _=>if u=u0 then some ⟨.list u0,l⟩ else none
 |none=>none
@[go_sem] def JZ (a b:Ty) (x:a.den) (y:b.den):pJ->Option (Σ t:Ty,t.den)->Option (Σ t:Ty,t.den)->Option (Σ t:Ty,t.den)
 |some _,some ⟨a',x'⟩,_=>some ⟨.pair a' b,(x',y)⟩
 |some _,none,_=>none
 |none,_,some ⟨b',y'⟩=>some ⟨.pair a b',(x,y')⟩
 |none,_,none=>none
@[go_sem] def zH (u0:Ty) (l:List u0.den):(t:Ty)->t.den->Option (Σ t:Ty,t.den)
 | .rl _ u,x=>YX u0 l u x
 | .pair a b,x=>JZ a b x.1 x.2 (BD a x.1) (zH u0 l a x.1) (zH u0 l b x.2)
 |_,_=>none
@[go_sem] def YY (t:Ty) (i k:Nat) (sd:Prop) (e:TypeId) (c n:Nat) (v:Ty) (x:v.den):Option t.den->Option qI
 |some y=>some ⟨[sd],(.val t y,none),[(i,.cells v x []),(k,.grow e c n)],[1000000000,i,k]⟩
 |none=>none
@[go_sem] def YZ (t:Ty) (i off k:Nat) (sd:Prop) (e:TypeId) (c n:Nat):Option (Σ t:Ty,t.den)->Option qI
 |some ⟨v,x⟩=>YY t i k sd e c n v x (qT t v x off)
 |none=>none
@[go_sem] def TJ (t:Ty) (i off k n0:Nat) (v:Ty) (x:v.den):Option pV->Option qI
 |some (.row e u0 l m)=>YZ t i off k (n0=m) e u0.cells (List.length l) (zH u0 l v x)
 |_=>none
@[go_sem] def TK (H:List (Nat×pV)) (t:Ty) (i off:Nat) (v:Ty) (x:v.den):pJ->Option qI
 |some (k,n0)=>TJ t i off k n0 v x (pY H k)
 |none=>none
@[go_sem] def HO (H:List (Nat×pV)) (t:Ty) (i off:Nat):Option pV->Option qI
 |some (.cells v x _)=>TK H t i off v x (BD v x)
 |_=>none
@[go_sem] def FT:Ty->Ty
 | .rl _ u=> .list u
 | .pair a b=> .pair (FT a) (FT b)
 | .bool=> .bool
 | .int k=> .int k
 | .str=> .str
 | .list t=> .list t
 | .unit=> .unit
 | .ref=> .ref
 | .clo=> .clo
 | .mp=> .mp
 | .mref=> .mref
 | .fn=> .fn
 | .ap=> .ap
@[go_sem] def a9G (u:Ty):Option pV->Option (List u.den)
 |some (.row _ t l _)=>if h:t=u then some (tX (t:= .list t) (u:= .list u) (by rw[h]) l) else none
 |_=>none
@[go_sem] def Z0 (H:List (Nat×pV)) (u:Ty):pJ->Option (List u.den)
 |some (k,_)=>a9G u (pY H k)
 |none=>some []
@[go_sem] def AI (H:List (Nat×pV)):(t:Ty)->t.den->Option (FT t).den
 | .rl _ u,x=>Z0 H u x
 | .pair a b,x=>EK (AI H a x.1) (AI H b x.2)
 | .bool,x=>some x
 | .int _,x=>some x
 | .str,x=>some x
 | .list _,x=>some x
 | .unit,x=>some x
 | .ref,x=>some x
 | .clo,x=>some x
 | .mp,x=>some x
 | .mref,x=>some x
 | .fn,x=>some x
 | .ap,x=>some x
@[go_sem] def Z1:pJ->pG
 |some p=>[p]
 |none=>[]
@[go_sem] def AJ:(t:Ty)->t.den->pG
 | .rl _ _,x=>Z1 x
 | .pair a b,x=>qS (AJ a x.1) (AJ b x.2)
 |_,_=>[]
@[go_sem] def TL (k n:Nat):Option pV->Option (Prop×pV)
 |some (.row e t _ m)=>some (n=m,.grow e t.cells m)
 |_=>none
@[go_sem] def K0 (k:Nat):Option (Prop×pV)->Option (List Prop×List (Nat×pV))->Option (List Prop×List (Nat×pV))
 |some (p,b),some (ps,bs)=>some (p::ps,(k,b)::bs)
 |_,_=>none
@[go_sem] def PN (k:Nat):pG->Bool
 |[]=>false
 |(j,_)::r=>if j=k then true else PN k r
@[go_sem] def BE (H:List (Nat×pV)):pG->Option (List Prop×List (Nat×pV))
 |[]=>some ([],[])
 |(k,n)::r=>if PN k r=true then none else K0 k (TL k n (pY H k)) (BE H r)
@[go_sem] def TM (t:Ty) (i:Nat):Option (List Prop×List (Nat×pV))->Option t.den->Option qI
 |some (ps,bs),some y=>some ⟨ps,(.val t y,none),bs,i::q9 bs⟩
 |_,_=>none
@[go_sem] def TN (H:List (Nat×pV)) (t:Ty) (i off:Nat) (v:Ty) (x:v.den):Option (FT v).den->Option qI
 |some z=>TM t i (BE H (AJ v x)) (qT t (FT v) z off)
 |none=>none
@[go_sem] def K1 (H:List (Nat×pV)) (t:Ty) (i off:Nat):Option pV->Option qI
 |some (.cells v x _)=>TN H t i off v x (AI H v x)
 |_=>none
@[go_sem] def orS (H:List (Nat×pV)) (t:Ty) (i off:Nat) (b:Option pV):Option qI->Option qI
 |some r=>some r
 |none=>HO H t i off b
@[go_sem] def TO (H:List (Nat×pV)):Option TI->pW->Option qI
 |some ti,(.elt k n c i o,_)=>PM ti.ty k n c i o (pY H k)
 |some ti,(.at u x,_)=>if u=ti.ty then some ⟨[],(.val u x,none),[],[]⟩ else none
 |some ti,(.val .ref (some (i,off)),_)=>if ti.elem=Y5 then K1 H ti.ty i off (pY H i) else orS H ti.ty i off (pY H i) (orE (PL ti.ty i off (pY H i)) (TH i off ti (pY H i)))
 |_,_=>none
@[go_sem] def MU (u:Ty) (i:Nat) (toks:pG):Option u.den->Option qI
 |some z=>some ⟨[],(.any,none),[(i,.cells u z toks)],[i]⟩
 |none=>none
@[go_sem] def TP (t:Ty) (y:t.den) (k:pK) (i off:Nat):Option pV->Option qI
 |some (.cells u x toks)=>MU u i (qS (xF (EI t k) off) (sZ toks off t.cells)) (sB t y u x off)
 |_=>none
@[go_sem] def MV (off:Nat):pG->pG
 |[]=>[]
 |(o,k)::r=>(off+o,k)::MV off r
@[go_sem] def a9I (u:Ty) (i:Nat) (nt toks:pG) (bs:List (Nat×pV)):Option u.den->Option qI
 |some z=>some ⟨[],(.any,none),(i,.cells u z (qS nt toks))::qS bs [(i,.cells u z toks)],[i]⟩
 |none=>none
@[go_sem] def TQ (t:Ty) (y:t.den) (ls:List (Nat×TypeId×Nat)) (base i off:Nat):Option pV->Bool->Option qI
 |some (.cells u x toks),true=>a9I u i (MV off (C2 ls base)) (sZ toks off t.cells) (DB ls base) (sB t y u x off)
 |_,_=>none
@[go_sem] def FU (base i off:Nat) (b:Option pV):List (Nat×TypeId×Nat)->(t:Ty)->t.den->pK->Option qI
 |q::r,.pair a c,y,some k=>TQ (.pair a c) y (C3 k (q::r)) base i off b (EM (.pair a c) (C3 k (q::r)))
 |_,t,y,k=>TP t y k i off b
@[go_sem] def K2:Ty->Bool
 | .rl _ _=>true
 | .pair a b=>K2 a||K2 b
 |_=>false
@[go_sem] def TR (base:Nat) (sd:List Prop) (s:pW) (i:Nat) (v:Ty) (ts:pG) (U:List (Nat×pV)) (R:List (Nat×Nat×Ty)):Option v.den->Option qI
 |some z=>some ⟨sd,s,(i,.cells v z ts)::qS (EN R base) U,[i]⟩
 |none=>none
@[go_sem] def TS (n:Nat):List (Nat×pV)->Bool
 |[]=>true
 |(i,_)::r=>if i<n then TS n r else false
@[go_sem] def PO (base:Nat):Option qI->Option qI
 |some ⟨sd,s,(i,.cells v z ts)::U,_⟩=>if TS base ((i,.cells v z ts)::U)=true then TR base sd s i v ts ((i,.cells v z ts)::U) (zG v z 0) (BC v base (zG v z 0) (some z)) else none
 |_=>none
@[go_sem] def Z2 (base:Nat) (e:Option qI):Bool->Option qI
 |true=>PO base e
 |false=>e
@[go_sem] def TT (i k n m e:Nat) (u v:Ty) (l:List u.den) (ts:pG):Option v.den->Option qI
 |some z=>some ⟨[n=m],(.any,none),[(i,.cells v z ts),(k,.grow e u.cells m)],[i,k]⟩
 |none=>none
@[go_sem] def PP (i off k n:Nat) (u v:Ty) (x:v.den) (ts:pG):Option pV->Option qI
 |some (.row e t l m)=>if h:t=u then TT i k n m e t v l ts (sB (.list t) l v x off) else none
 |_=>none
@[go_sem] def TU:Option pJ->Nat×Nat
 |some (some p)=>p
 |_=>(0,0)
@[go_sem] def a9J (i j o:Nat) (r3 r4:Nat×Nat):Option (List Prop×(Nat×Nat×(Nat×Nat)×(Nat×Nat))):=
 if j=i then(if o=6 then some ([],(1,i,r3,r4)) else if o=7 then some ([],(2,i,r3,r4)) else none) else none
@[go_sem] def a9K (i k n c o:Nat) (ix:Int) (r3 r4:Nat×Nat):Option (List Prop×(Nat×Nat×(Nat×Nat)×(Nat×Nat))):=
 if c=1 then(if o=0 then(if k=r3.1 then some ([n=r3.2,ix+1=(n:Int)],(3,i,(k,r3.2),r4)) else none) else none)
 else if c=2 then(if o=1 then(if k=r4.1 then some ([n=r4.2,ix+1=(n:Int)],(4,i,r3,(k,r4.2))) else none) else none) else none
@[go_sem] def TV (i:Nat):DV->Nat×Nat->Nat×Nat->Option (List Prop×(Nat×Nat×(Nat×Nat)×(Nat×Nat)))
 | .val .ref (some (j,o)),r3,r4=>a9J i j o r3 r4
 | .elt k n c ix o,r3,r4=>a9K i k n c o ix r3 r4
 |_,_,_=>none
@[go_sem] def Z3 (i off:Nat) (v:Ty) (ts:pG) (sd:List Prop):Option v.den->Option qI
 |some z=>some ⟨sd,(.any,none),[(i,.cells v z (sZ ts off 1))],[i]⟩
 |none=>none
@[go_sem] def Z4 (i off:Nat) (v:Ty) (x:v.den) (ts:pG):Option (List Prop×(Nat×Nat×(Nat×Nat)×(Nat×Nat)))->Option qI
 |some (sd,y)=>Z3 i off v ts sd (sB .ap y v x off)
 |none=>none
@[go_sem] def Z5 (i off:Nat) (d:DV):Ty->Option pV->Option qI
 | .ap,some (.cells v x ts)=>Z4 i off v x ts (TV i d (TU (C0 v x 8)) (TU (C0 v x 11)))
 |_,_=>none
@[go_sem] def a9L (k n m:Nat) (e:TypeId) (t:Ty) (l:List t.den) (i:Int):Option t.den->Option qI
 |some z=>some ⟨[n=m],(.any,none),[(k,.row e t (l.set i.toNat z) m)],[k]⟩
 |none=>none
@[go_sem] def TW (u:Ty) (y:u.den) (k n c:Nat) (i:Int) (o:Nat):Option pV->Option qI
 |some (.row e t l m)=>if c=t.cells then a9L k n m e t l i (sB u y t (qE t l i) o) else none
 |_=>none
@[go_sem] def Z6 (b:Ty) (y:b.den):Option (Σ t:Ty,t.den)->Option (Σ t:Ty,t.den)
 |some ⟨a,x⟩=>some ⟨.pair a b,(x,y)⟩
 |none=>none
@[go_sem] def Z7 (a:Ty) (x:a.den):Option (Σ t:Ty,t.den)->Option (Σ t:Ty,t.den)
 |some ⟨b,y⟩=>some ⟨.pair a b,(x,y)⟩
 |none=>none
@[go_sem] def y6 (e:Nat) (u:Ty) (kn:pJ):(t:Ty)->t.den->Nat->Option (Σ t:Ty,t.den)
 | .list v,_,0=>if v=u then some ⟨.rl e u,kn⟩ else none
 | .pair a b,x,o=>if o<a.cells then Z6 b x.2 (y6 e u kn a x.1 o) else Z7 a x.1 (y6 e u kn b x.2 (o-a.cells))
 |_,_,_=>none
@[go_sem] def Z8 (i:Nat):Option (Σ t:Ty,t.den)->Option qI
 |some ⟨v,z⟩=>some ⟨[],(.any,none),[(i,.cells v z [])],[1000000000,i]⟩
 |none=>none
@[go_sem] def a9M (H:List (Nat×pV)) (i off k n e:Nat) (u v:Ty) (x:v.den) (ts:pG):List (Nat×TypeId×Nat)->Option qI
 |[]=>Z8 i (y6 e u (some (k,n)) v x off)
 |_::_=>PP i off k n u v x (sZ ts off 1) (pY H k)
@[go_sem] def Z9 (H:List (Nat×pV)) (i off k n e:Nat) (u v:Ty) (x:v.den) (ts:pG) (ls:List (Nat×TypeId×Nat)):Option qI->Option qI
 |some r=>some r
 |none=>a9M H i off k n e u v x ts ls
@[go_sem] def MW (H:List (Nat×pV)) (i off k n:Nat):TI->Option pV->Option qI
 |⟨.list u,e,_,_,ls⟩,some (.cells v x toks)=>Z9 H i off k n e u v x toks ls (MU v i (sZ toks off 1) (sB (.rl e u) (some (k,n)) v x off))
 |_,_=>none
@[go_sem] def TX (base:Nat) (H:List (Nat×pV)):Option TI->pW->pW->Option qI
 |some ti,(.val .ref (some (i,off)),_),(.own k n,_)=>MW H i off k n ti (pY H i)
 |some ti,(.val .ref (some (i,off)),_),(.apd d,_)=>Z5 i off d ti.ty (pY H i)
 |some ti,(.elt k n c i o,_),(.val t y,_)=>if t=ti.ty then TW t y k n c i o (pY H k) else none
 |some ti,(.val .ref (some (i,off)),_),(.val t y,k)=>if t=ti.ty then Z2 (base+16) (FU base i off (pY H i) ti.ls t y k) (K2 t) else none
 |_,_,_=>none
@[go_sem] def ZA:pW->Option qI
 |(.val .ref (some p),_)=>some ⟨[],(.val .ref (some p),none),[],[]⟩
 |(.at t x,_)=>some ⟨[],(.at t x,none),[],[]⟩
 |(.elt k n c i o,_)=>some ⟨[],(.elt k n c i o,none),[],[]⟩
 |_=>none
@[go_sem] def a9N (f:FuncId):Option pG->Option qI
 |some l=>some ⟨[],(.val .clo (some (f,l)),none),[],[]⟩
 |none=>none
@[go_sem] def aIQ (f:FuncId) (l:Option pG):List Operand->Option qI
 |[]=>a9N f l
 |_=>none
@[go_sem] def TY (side:List Prop):Option (Σ t:Ty,t.den)->Option qI
 |some ⟨t,x⟩=>if 0<t.cells then some ⟨side,(.at t x,none),[],[]⟩ else none
 |none=>none
@[go_sem] def TZ (side:List Prop) (i off:Nat):pK->Option Ty->Option qI
 |some o,some u=>if 0<u.cells then some ⟨side,(.val .ref (some (i,off+o)),none),[],[]⟩ else none
 |_,_=>none
@[go_sem] def a9O (k n c:Nat) (i:Int) (o:Nat):pK->Option Ty->Option qI
 |some q,some u=>if 0<u.cells then some ⟨[],(.elt k n c i (o+q),none),[],[]⟩ else none
 |_,_=>none
@[go_sem] def ZB (f:Nat):Option TI->pW->Option qI
 |some ⟨t,_,_,false,_⟩,(.elt k n c i o,_)=>a9O k n c i o (t.offs f) (t.fld f)
 |some ⟨t,_,_,false,_⟩,(.at u y,_)=>if u=t then TY [] (u.proj y f) else none
 |some ⟨t,_,_,false,_⟩,(.val .ref (some (i,off)),_)=>TZ [] i off (t.offs f) (t.fld f)
 |_,_=>none
@[go_sem] def aIR:Option (Σ t:Ty,t.den)->Option qI
 |some ⟨t,x⟩=>some ⟨[],(.val t x,none),[],[]⟩
 |none=>none
@[go_sem] def ZC (f:Nat):Option TI->pW->Option qI
 |some ⟨t,_,_,false,_⟩,(.val u y,_)=>if u=t then aIR (u.proj y f) else none
 |_,_=>none
@[go_sem] def ZD:Option TI->pW->pW->Option qI
 |some ⟨.list t',_,_,_,_⟩,(.own k n,_),(.val (.int _) i,_)=>if 0<t'.cells then some ⟨[0<=i/\i<(n:Int)],(.elt k n t'.cells i 0,none),[],[]⟩ else none
 |some ⟨.list t',_,_,_,_⟩,(.val (.list t) l,_),(.val (.int _) i,_)=>if t=t' then some ⟨[0<=i/\i<(List.length l:Int)],(.at t (qE t l i),none),[],[]⟩ else none
 |some ⟨.pair a b,_,_,true,_⟩,(.val .ref (some (i,off)),_),(.val (.int _) n,_)=>TZ [(0:Int)<=n] i off ((Ty.pair a b).offs (Int.toNat n)) ((Ty.pair a b).fld (Int.toNat n))
 |some ⟨.pair a b,_,_,true,_⟩,(.at u x,_),(.val (.int _) n,_)=>if u= .pair a b then TY [(0:Int)<=n] (u.proj x (Int.toNat n)) else none
 |_,_,_=>none
@[go_sem] def ZE:Option TI->pW->pW->Option qI
 |some ⟨.str,_,_,_,_⟩,(.val .str l,_),(.val (.int _) i,_)=>some ⟨[0<=i/\i<(List.length l:Int)],(.val (.int .u8) (rI l i),none),[],[]⟩
 |_,_,_=>none
@[go_sem] def aIS (e:Nat) (u:Ty):pJ->pW
 |some (k,n)=>(.own k n,none)
 |none=>(.val (.rl e u) none,none)
@[go_sem] def aIT:(t:Ty)->t.den->pK->pW
 | .rl e u,x,_=>aIS e u x
 | .bool,x,k=>(.val .bool x,k)
 | .int i,x,k=>(.val (.int i) x,k)
 | .str,x,k=>(.val .str x,k)
 | .list u,x,k=>(.val (.list u) x,k)
 | .unit,x,k=>(.val .unit x,k)
 | .pair a b,x,k=>(.val (.pair a b) x,k)
 | .ref,x,k=>(.val .ref x,k)
 | .clo,x,k=>(.val .clo x,k)
 | .mp,x,k=>(.val .mp x,k)
 | .mref,x,k=>(.val .mref x,k)
 | .ap,x,k=>(.val .ap x,k)
 | .fn,x,k=>(.val .fn x,k)
@[go_sem] def U0:List ((Σ t:Ty,t.den)×pK)->Nat->Option qI
 |[],_=>none
 |(⟨t,x⟩,k)::_,0=>some ⟨[],aIT t x k,[],[]⟩
 |_::r,n+1=>U0 r n
@[go_sem] def a9P (b:Bool) (p c:Int):Nat->Option qI
 |0=>some ⟨[],(.val .bool b,none),[],[]⟩
 |1=>some ⟨[b=true],(.val (.int .i64) p,none),[],[]⟩
 |2=>some ⟨[b=true],(.val (.int .i32) c,none),[],[]⟩
 |_=>none
@[go_sem] def ZF (i:Nat):pW->Option qI
 |(.tup l,_)=>U0 l i
 |(.nxt b p c,_)=>a9P b p c i
 |_=>none
@[go_sem] def U1 (i:Nat):Option pV->Option qI
 |some (.map _ _ l)=>some ⟨[],(.val (.int .i64) (List.length l:Int),none),[],[i]⟩
 |_=>none
@[go_sem] def ZG (H:List (Nat×pV)):Option TI->List pW->Option qI
 |some ⟨.mp,_,_,_,_⟩,[(.val .mp (some i),_)]=>U1 i (pY H i)
 |some ⟨.str,_,_,_,_⟩,[(.val .str l,_)]=>some ⟨[],(.val (.int .i64) (List.length l:Int),none),[],[]⟩
 |some ⟨.list _,_,_,_,_⟩,[(.val (.list _) l,_)]=>some ⟨[],(.val (.int .i64) (List.length l:Int),none),[],[]⟩
 |some ⟨.list _,_,_,_,_⟩,[(.own _ n,_)]=>some ⟨[],(.val (.int .i64) (n:Int),none),[],[]⟩
 |_,_=>none
@[go_sem] def U3 (a:Ty) (l r:List a.den) (k e' by':Nat):Option pV->Option qI
 |some (.grow e c n)=>if e=e'/\c=a.cells/\0<c/\0<by' then some ⟨[List.length l=n,(List.length l+List.length r)*by'<=140737488355328],(.val (.list a) (l++r),some k),[(k,.grow e c (List.length (l++r)))],[k]⟩ else none
 |_=>none
@[go_sem] def U4 (b:Ty) (r:List b.den) (k n e' by':Nat):Option pV->Option qI
 |some (.row e t l m)=>if h:b=t then(if e=e'/\0<t.cells/\0<by' then some ⟨[n=m,(n+List.length r)*by'<=140737488355328],(.own k (List.length (l++tX (t:= .list b) (u:= .list t) (by rw[h]) r)),none),[(k,.row e t (l++tX (t:= .list b) (u:= .list t) (by rw[h]) r) (List.length (l++tX (t:= .list b) (u:= .list t) (by rw[h]) r)))],[k]⟩ else none) else none
 |_=>none
@[go_sem] def U5 (H:List (Nat×pV)):Option TI->List pW->Option qI
 |some ⟨.list u,e,by',_,_⟩,[(.own k n,_),(.val (.list b) r,_)]=>if b=u then U4 b r k n e by' (pY H k) else none
 |some ⟨.list u,e,by',_,_⟩,[(.val (.list a) l,some k),(.val (.list b) r,_)]=>if h:b=a/\a=u then U3 a l (tX (t:= .list b) (u:= .list a) (by rw[h.1]) r) k e by' (pY H k) else none
 |_,_=>none
@[go_sem] def U6 (mx:Bool):List pW->Option (List Prop×DV)
 |[(.val (.int k) a,_),(.val (.int k') b,_)]=>if k=k' then some ([],.val (.int k) (if mx then max (a:Int) b else min (a:Int) b)) else none
 |_=>none
@[go_sem] def ZH:pG->List pW
 |[]=>[]
 |c::r=>(.val .ref (some c),none)::ZH r
@[go_sem] def U7 (H:List (Nat×pV)) (base:Nat) (args:List pW) (g:r5):Option ((t:Ty)->List t.den->Option (List t.den))->Option qI
 |some F=>TC H F args
 |none=>a9y H base args g (PE g.ps args)
@[go_sem] def K3 (H:List (Nat×pV)) (base:Nat) (args:List pW):Option r5->Option qI
 |some g=>U7 H base args g g.row
 |none=>none
@[go_sem] def HP (Γ:sV) (f:Nat):Option r5:=if f<1000000000 then Γ f else none
@[go_sem] def K4 (Γ:sV) (H:List (Nat×pV)) (base:Nat) (args:List pW):pW->Option qI
 |(.val .clo (some (f,caps)),_)=>K3 H base (args++ZH caps) (HP Γ f)
 |(.val .fn (some f),_)=>K3 H base args (HP Γ f)
 |_=>none
@[go_sem] def BF (T:sG) (ρ:Operand->pW):List Operand->List TypeId->List pW
 |x::xs,t::ts=>MM (rO T t) (ρ x)::BF T ρ xs ts
 |_,_=>[]
@[go_sem] def vL (ρ:Operand->pW):List Operand->List pW
 |[]=>[]
 |x::xs=>ρ x::vL ρ xs
@[go_sem] def u1 (ρ:Operand->pW):List (Nat×Operand)->List (Nat×pW)
 |[]=>[]
 |(i,x)::xs=>(i,ρ x)::u1 ρ xs
@[go_sem] def zI (ρ:Operand->pW):Option Operand->Option pW
 |some x=>some (ρ x)
 |none=>none
@[go_sem] def U8 (T:sG) (H:List (Nat×pV)) (ss:List pW):List TypeId->Option qI
 |t::_=>ZG H (rO T t) ss
 |[]=>none
@[go_sem] def U9 (l:pH) (s:p7) (k e':Nat):Option pV->Option qI
 |some (.grow e c n)=>if e=e'/\c=1 then some ⟨[List.length l=n,List.length l+List.length s<=140737488355328],(.val (.list (.int .u8)) (l++uK s),some k),[(k,.grow e c (List.length (l++uK s)))],[k]⟩ else none
 |_=>none
@[go_sem] def ZI (H:List (Nat×pV)):Option TI->Option TI->List pW->Option qI
 |some ⟨.list (.int .u8),e,1,_,_⟩,some ⟨.str,_,_,_,_⟩,[(.val (.list (.int .u8)) l,some k),(.val .str s,_)]=>U9 l s k e (pY H k)
 |_,_,_=>none
@[go_sem] def UA (T:sG) (H:List (Nat×pV)) (ss:List pW):List TypeId->Option qI
 |[t,u]=>if t=u then U5 H (rO T t) ss else ZI H (rO T t) (rO T u) ss
 |_=>none
@[go_sem] def K5:List Operand->List TypeId->Bool
 |[],[]=>true
 |_::xs,_::ts=>K5 xs ts
 |_,_=>false
@[go_sem] def ZJ:List pW->Option TI->Option qI
 |[(.val .ref (some p),_)],some ⟨.ap,_,_,_,_⟩=>some ⟨[],(.apd (.val .ref (some p)),none),[],[]⟩
 |[(.elt k n c ix o,_)],some ⟨.ap,_,_,_,_⟩=>some ⟨[],(.apd (.elt k n c ix o),none),[],[]⟩
 |_,_=>none
@[go_sem] def a9Q (args:List pW) (ti:Option TI):pG->Option qI
 |[]=>ZJ args ti
 |_=>none
@[go_sem] def K6 (c:Nat) (y1 y2 y3 y4:p7):p7:=if c=1 then y1 else if c=2 then y2 else if c=3 then y3 else y4
@[go_sem] def K7 (b:Bool) (z y:p7):p7:=if b=true then z else y
abbrev FV:Ty:= .pair .str (.pair .str .unit)
def EO (l:p8):p7:=l.getD (l.length-1) []
def HQ (l:List (p7×p7×Unit)):p7:=(l.getD (l.length-1) ([],[],())).2.1
def EP (b:Bool) (z:p7) (l:p8):p8:=if b=true then l.set (l.length-1) z else l
def EQ (b:Bool) (z:p7) (l:List (p7×p7×Unit)):List (p7×p7×Unit):=if b=true then l.set (l.length-1) ((l.getD (l.length-1) ([],[],())).1,z,()) else l
@[go_sem] def ZK (c i k3 n3 k4 n4:Nat) (u:Ty) (ts:pG) (e3:Nat) (l3:p8) (m3 e4:Nat) (l4:List (p7×p7×Unit)) (m4:Nat) (z:p7) (b:Bool) (sd:List Prop):Option u.den->Option qI
 |some x=>some ⟨(c≠0)::(n3=m3)::(n4=m4)::((z.length:Int)<=9223372036854775807)::sd,(.val .bool b,none),[(i,.cells u x (sZ (sZ ts 6 1) 7 1)),(k3,.row e3 .str (EP (b&&decide (c=3)) z l3) m3),(k4,.row e4 FV (EQ (b&&decide (4<=c)) z l4) m4)],[i,k3,k4]⟩
 |none=>none
@[go_sem] def a9R {u:Ty}(b:Bool) (z:p7) (o:Nat) (x:u.den):Option p7->Option u.den
 |some y=>sB .str (K7 b z y) u x o
 |none=>none
@[go_sem] def MX {u:Ty}(b:Bool) (z:p7) (o:Nat):Option u.den->Option u.den
 |some x=>a9R b z o x (qT .str u x o)
 |none=>none
@[go_sem] def ZL (c i k3 n3 k4 n4:Nat) (u:Ty) (x:u.den) (ts:pG) (e3:Nat) (l3:p8) (m3 e4:Nat) (l4:List (p7×p7×Unit)) (m4:Nat) (z:p7):Option qH->Option qI
 |some ⟨sd,[(.val .bool b,none)],[]⟩=>ZK c i k3 n3 k4 n4 u ts e3 l3 m3 e4 l4 m4 z b sd (MX (b&&decide (c=2)) z 7 (MX (b&&decide (c=1)) z 6 (some x)))
 |_=>none
@[go_sem] def ZM (Γ:sV) (c i k3 n3 k4 n4:Nat) (s:p7) (u:Ty) (x:u.den) (ts:pG) (e3:Nat) (l3:p8) (m3 e4:Nat) (l4:List (p7×p7×Unit)) (m4:Nat):Option r5->Option p7->Option p7->Option qI
 |some g,some y1,some y2=>ZL c i k3 n3 k4 n4 u x ts e3 l3 m3 e4 l4 m4 (K6 c y1 y2 (EO l3) (HQ l4)++s) (g.C [(.val .str (K6 c y1 y2 (EO l3) (HQ l4)++s),none)] [])
 |_,_,_=>none
@[go_sem] def ZN (Γ:sV) (c i k3 n3 k4 n4:Nat) (s:p7) (u:Ty) (x:u.den) (ts:pG):Option pV->Option pV->Option qI
 |some (.row e3 .str l3 m3),some (.row e4 (.pair .str (.pair .str .unit)) l4 m4)=>ZM Γ c i k3 n3 k4 n4 s u x ts e3 l3 m3 e4 l4 m4 (HP Γ FO) (qT .str u x 6) (qT .str u x 7)
 |_,_=>none
@[go_sem] def ZO (i k3 k4:Nat):Bool:=if i=k3 then false else if i=k4 then false else if k3=k4 then false else true
@[go_sem] def UB (Γ:sV) (H:List (Nat×pV)) (c i k3 n3 k4 n4:Nat) (s:p7):Option pV->Bool->Option qI
 |some (.cells u x ts),true=>ZN Γ c i k3 n3 k4 n4 s u x ts (pY H k3) (pY H k4)
 |_,_=>none
@[go_sem] def K8 (Γ:sV) (H:List (Nat×pV)):Nat×Nat×(Nat×Nat)×(Nat×Nat)->List pW->Option TI->Option qI
 |(c,i,(k3,n3),(k4,n4)),[(.val .str s,_)],some ⟨.ap,_,_,_,_⟩=>UB Γ H c i k3 n3 k4 n4 s (pY H i) (ZO i k3 k4)
 |_,_,_=>none
@[go_sem] def ZP (T:sG) (Γ:sV) (base:Nat) (H:List (Nat×pV)) (args:List pW) (f:Nat) (caps:pG):Option qI:=
 if f=HH then a9Q args (rO T JP) caps else K4 Γ H base args (.val .clo (some (f,caps)),none)
@[go_sem] def MY (T:sG) (Γ:sV) (base:Nat) (H:List (Nat×pV)) (args:List pW):pW->Option qI
 |(.val .ap x,_)=>K8 Γ H x args (rO T JP)
 |(.val .clo (some (f,caps)),_)=>ZP T Γ base H args f caps
 |s=>K4 Γ H base args s
@[go_sem] def ZQ (T:sG) (Γ:sV) (ρ:Operand->pW) (base:Nat) (H:List (Nat×pV)) (args:List Operand) (tys:List TypeId) (f:pW):Bool->Option qI
 |true=>MY T Γ base H (BF T ρ args tys) f
 |false=>none
@[go_sem] def K9 (T:sG) (Γ:sV) (ρ:Operand->pW) (base:Nat) (H:List (Nat×pV)) (args:Array Operand) (tys:Array TypeId):Callee->Option qI
 | .builtin .len=>U8 T H (vL ρ args.toList) tys.toList
 | .builtin .append=>UA T H (vL ρ args.toList) tys.toList
 | .builtin .max=>AF (U6 true (vL ρ args.toList))
 | .builtin .min=>AF (U6 false (vL ρ args.toList))
 | .value f=>ZQ T Γ ρ base H args.toList tys.toList (ρ f) (K5 args.toList tys.toList)
 |_=>none
@[go_sem] def DC:Ty->Bool
 | .int _| .str| .bool=>true
 |_=>false
def FW:(k:Ty)->k.den->k.den->Bool
 | .int _,a,b=>decide ((a:Int)=b)
 | .str,a,b=>decide ((a:p7)=b)
 | .bool,a,b=>a==b
 |_,_,_=>false
def sD (k v:Ty):List (k.den×v.den)->k.den->v.den
 |[],_=>v.zero
 |(x,y)::r,a=>if FW k a x=true then y else sD k v r a
def ER (k v:Ty):List (k.den×v.den)->k.den->Bool
 |[],_=>false
 |(x,_)::r,a=>if FW k a x=true then true else ER k v r a
def sS (k v:Ty) (a:k.den) (b:v.den):List (k.den×v.den)->List (k.den×v.den)
 |[]=>[(a,b)]
 |(x,y)::r=>if FW k a x=true then(a,b)::r else(x,y)::sS k v a b r
@[go_sem] def a9S (base:Nat):Option TI->Option TI->Option qI
 |some k,some v=>if DC k.ty=true then some ⟨[],(.val .mp (some base),none),[(base,.map k.ty v.ty [])],[]⟩ else none
 |_,_=>none
@[go_sem] def ZR (T:sG) (base:Nat):Option TI->Option Operand->Option qI
 |some ⟨.mp,e,f,_,_⟩,none=>a9S base (rO T e) (rO T f)
 |_,_=>none
@[go_sem] def UC (k:Ty) (a:k.den) (u:Ty) (i:Nat) (ok:Bool):Option pV->Option qI
 |some (.map k' v l)=>if h:k=k'/\v=u then(if DC k=true then(match ok with
   |true=>some ⟨[],(.tup [(⟨v,sD k' v l (tX h.1 a)⟩,none),(⟨.bool,ER k' v l (tX h.1 a)⟩,none)],none),[],[i]⟩
   |false=>some ⟨[],(.val v (sD k' v l (tX h.1 a)),none),[],[i]⟩) else none) else none
 |_=>none
@[go_sem] def ZS (H:List (Nat×pV)) (ok:Bool) (i:Nat):Option TI->Option TI->pW->Option qI
 |some kt,some vt,(.val k a,_)=>if k=kt.ty then UC k a vt.ty i ok (pY H i) else none
 |_,_,_=>none
@[go_sem] def a9T (ok:Bool):Option TI->Option TI->pW->Option qI
 |some kt,some vt,(.val k _,_)=>if k=kt.ty then(if DC k=true then(match ok with
   |true=>some ⟨[],(.tup [(⟨vt.ty,vt.ty.zero⟩,none),(⟨.bool,false⟩,none)],none),[],[]⟩
   |false=>some ⟨[],(.val vt.ty vt.ty.zero,none),[],[]⟩) else none) else none
 |_,_,_=>none
@[go_sem] def UD (T:sG) (H:List (Nat×pV)) (ok:Bool):Option TI->pW->pW->Option qI
 |some ⟨.mp,e,f,_,_⟩,(.val .mp (some i),_),s=>ZS H ok i (rO T e) (rO T f) s
 |some ⟨.mp,e,f,_,_⟩,(.val .mp none,_),s=>a9T ok (rO T e) (rO T f) s
 |_,_,_=>none
@[go_sem] def MZ (k:Ty) (a:k.den) (u:Ty) (b:u.den) (i:Nat):Option pV->Option qI
 |some (.map k' v l)=>if h:k=k'/\u=v then(if DC k=true then some ⟨[],(.any,none),[(i,.map k' v (sS k' v (tX h.1 a) (tX h.2 b) l))],[i]⟩ else none) else none
 |_=>none
@[go_sem] def UE (H:List (Nat×pV)) (i:Nat):Option TI->pW->pW->Option qI
 |some kt,(.val k a,_),(.val u b,_)=>if k=kt.ty then MZ k a u b i (pY H i) else none
 |_,_,_=>none
@[go_sem] def a9U:Option TI->pW->pW
 |some ⟨.fn,_,_,_,_⟩,(.val .clo (some (f,[])),_)=>(.val .fn (some f),none)
 |_,s=>s
@[go_sem] def UF (T:sG):Option TI->pW->pW
 |some ⟨.mp,_,f,_,_⟩,s=>a9U (rO T f) s
 |_,s=>s
@[go_sem] def N0 (T:sG) (H:List (Nat×pV)):Option TI->pW->pW->pW->Option qI
 |some ⟨.mp,e,_,_,_⟩,(.val .mp (some i),_),s,x=>UE H i (rO T e) s x
 |_,_,_,_=>none
def wS (s:p7) (p:Nat):Int:=((Utf8.decode ⟨s.toArray⟩ p).1:Int)
def ZT (s:p7) (p:Nat):Nat:=(Utf8.decode ⟨s.toArray⟩ p).2
def AK (s:p7) (p:Nat):Nat:=if p<s.length then p+ZT s p else p
@[go_sem] def ZU (base:Nat):Option TI->pW->Option qI
 |some ⟨.str,_,_,_,_⟩,(.val .str s,_)=>some ⟨[],(.val .ref (some (base,0)),none),[(base,.iter s 0)],[]⟩
 |_,_=>none
@[go_sem] def ZV (i:Nat):Option pV->Option qI
 |some (.iter s p)=>some ⟨[],(.nxt (decide (p<List.length s)) ((p:Nat):Int) (wS s p),none),[(i,.iter s (AK s p))],[i]⟩
 |_=>none
@[go_sem] def UG (H:List (Nat×pV)):Bool->pW->Option qI
 |true,(.val .ref (some (i,0)),_)=>ZV i (pY H i)
 |_,_=>none
@[go_sem] def u6 (T:sG) (Γ:sV) (ty:TypeId) (ρ:Operand->pW) (base:Nat) (H:List (Nat×pV)):Op->Option qI
 | .move x| .assign x=>YL base (rO T ty) (ρ x)
 | .alloc e=>PJ base e (rO T e)
 | .box e x=>YQ base e (rO T e) (ρ x)
 | .build t ps=>YT (u1 ρ ps.toList) (rO T t)
 | .buildSlice t n ps=>YU base n (u1 ρ ps.toList) (rO T t)
 | .load t a=>TO H (rO T t) (ρ a)
 | .store t a x=>TX base H (rO T t) (ρ a) (MM (rO T t) (ρ x))
 | .nilCheck x=>ZA (ρ x)
 | .binOp op t x y _=>AF (YB (SS op (rO T t) (ρ x) (ρ y)) (YB (SR op (ρ x) (ρ y)) (YA (rO T t) op (ρ x) (ρ y))))
 | .unOp op _ x=>AF (YC op (ρ x))
 | .convert src dst x=>AF (YB (SU (rO T src) (rO T dst) (ρ x)) (YD T (rO T src) (rO T dst) (ρ x)))
 | .makeFunc (.func f) first caps=>aIQ f (JR (vL ρ caps.toList)) first.toList
 | .slice t x lo hi none=>AF (YE (rO T t) (ρ x) (zI ρ lo) (zI ρ hi))
 | .fieldAddr t x f=>ZB f (rO T t) (ρ x)
 | .field t x f=>ZC f (rO T t) (ρ x)
 | .indexAddr t x ix=>ZD (rO T t) (ρ x) (ρ ix)
 | .index t x ix=>ZE (rO T t) (ρ x) (ρ ix)
 | .extract x i=>ZF i (ρ x)
 | .makeMap t r=>ZR T base (rO T t) r
 | .range t x=>ZU base (rO T t) (ρ x)
 | .next x b=>UG H b (ρ x)
 | .lookup t x i ok=>UD T H ok (rO T t) (ρ x) (ρ i)
 | .mapUpdate t m k x=>N0 T H (rO T t) (ρ m) (ρ k) (UF T (rO T t) (ρ x))
 | .insert t m k x=>N0 T H (rO T t) (ρ m) (ρ k) (UF T (rO T t) (ρ x))
 | .call c=>K9 T Γ ρ base H c.args c.argTypes c.callee
 |_=>none
@[go_sem] def sL:pW->pW
 |(.cond _ d,_)=>(d,none)
 |s=>s
@[go_sem] def yS (G:Bool):List pW->List Prop
 |[]=>[]
 |(.cond p _,_)::r=>(G=true->p=true)::yS G r
 |_::r=>yS G r
@[go_sem] def a9V (b:Bool):pW->Option Bool
 |(.val .bool c,_)=>some (c==b)
 |(.cond p (.val .bool c),_)=>some (p&&(c==b))
 |_=>none
@[go_sem] def zW:List Oper->Nat->Option Tmp
 |[],_=>none
 |o::_,0=>o.dst
 |_::r,n+1=>zW r n
@[go_sem] def FX (env:List (Nat×pW)) (b:Bool):Option Tmp->Option Bool
 |some t=>a9V b (lk env t)
 |none=>none
@[go_sem] def a9W (b:Bool):pW->Bool
 |(.val .bool c,_)=>c==b
 |(.cond p (.val .bool c),_)=>p&&(c==b)
 |(.cond p .any,_)=>p
 |_=>true
@[go_sem] def KA (env:List (Nat×pW)) (b:Bool):Option Tmp->Bool
 |some t=>a9W b (lk env t)
 |none=>true
@[go_sem] def UH (j:Nat) (b:Bool):Nat:=1000000000+(2*j+if b=true then 1 else 0)
@[go_sem] theorem aQm (x y:Bool):cond x y false=(x&&y):=by cases x<;>rfl
@[go_sem] theorem aQn (x y:Bool):cond x true y=(x||y):=by cases x<;>rfl
@[go_sem] def a9X (x:Bool):pW->pW->Option qI
 |(.val .bool y,_),(.val .bool z,_)=>some ⟨[],(.val .bool (cond x y z),none),[],[]⟩
 |(.cond p (.val .bool y),_),(.val .bool z,_)=>some ⟨[x=true->p=true],(.val .bool (cond x y z),none),[],[]⟩
 |(.val .bool y,_),(.cond p (.val .bool z),_)=>some ⟨[x=false->p=true],(.val .bool (cond x y z),none),[],[]⟩
 |(.cond q (.val .bool y),_),(.cond p (.val .bool z),_)=>some ⟨[x=true->q=true,x=false->p=true],(.val .bool (cond x y z),none),[],[]⟩
 |(.val .bool y,_),(.cond _ .any,_)=>some ⟨[x=true],(.val .bool y,none),[],[]⟩
 |(.cond q (.val .bool y),_),(.cond _ .any,_)=>some ⟨[x=true,q=true],(.val .bool y,none),[],[]⟩
 |(.cond _ .any,_),(.val .bool z,_)=>some ⟨[x=false],(.val .bool z,none),[],[]⟩
 |(.cond _ .any,_),(.cond p (.val .bool z),_)=>some ⟨[x=false,p=true],(.val .bool z,none),[],[]⟩
 |_,_=>none
@[go_sem] def PQ:pW->pW->pW->Option qI
 |(.val .bool x,_),a,b=>a9X x a b
 |_,_,_=>none
@[go_sem] def sF:Op->List Operand
 | .move x| .assign x| .box _ x| .load _ x| .nilCheck x| .unOp _ _ x| .convert _ _ x| .fieldAddr _ x _| .field _ x _| .extract x _=>[x]
 | .build _ ps| .buildSlice _ _ ps=>parts ps.toList
 | .store _ a v| .binOp _ _ a v _| .indexAddr _ a v| .index _ a v=>[a,v]
 | .lookup _ a v _=>[a,v]
 | .range _ x| .next x _=>[x]
 | .mapUpdate _ m k x=>[m,k,x]
 | .insert _ m k x=>[m,k,x]
 | .makeFunc _ _ caps=>caps.toList
 | .slice _ x l h _=>x::qS (opt l) (opt h)
 | .call ⟨.value f,args,_⟩=>f::args.toList
 | .call ⟨_,args,_⟩=>args.toList
 |_=>[]
where
 parts:List (Nat×Operand)->List Operand
  |[]=>[]
  |(_,x)::r=>x::parts r
 opt:Option Operand->List Operand
  |some x=>[x]
  |none=>[]
attribute [go_sem] sF.parts sF.opt
@[go_sem] def N1 (l:List Prop):Option qI->Option qI
 |some e=>some ⟨qS l e.side,e.slot,e.upd,e.rds⟩
 |none=>none
@[go_sem] def PR (G:Bool):List Prop->List Prop
 |[]=>[]
 |p::r=>(G=true->p)::PR G r
@[go_sem] def HR (G:Bool) (l:List Prop):Option qI->Option qI
 |some ⟨side,(d,_),[],rds⟩=>some ⟨qS l (PR G side),(.cond G d,none),[],rds⟩
 |some ⟨side,s,u::us,rds⟩=>some ⟨(G=true)::qS l (PR G side),s,u::us,rds⟩
 |none=>none
@[go_sem] def C5 (env:List (Nat×pW)):List Operand->List pW
 |[]=>[]
 |x::r=>tT env x::C5 env r
@[go_sem] def N2 (T:sG) (Γ:sV) (o:Oper) (s:St):Option Bool->Op->Option qI
 |some G,.pick c a b=>HR G (yS G [tT s.env c]) (PQ (sL (tT s.env c)) (tT s.env a) (tT s.env b))
 |some G,op=>HR G (yS G (C5 s.env (sF op))) (u6 T Γ o.type (fun x=>sL (tT s.env x)) s.nb s.H op)
 |none,_=>none
@[go_sem] def a9Y:Op->Bool
 | .defer _=>true
 |_=>false
@[go_sem] def a9Z (up:Bool):Bool->Option qI
 |true=>none
 |false=>some ⟨[up=false],(.cond false .any,none),[],[]⟩
@[go_sem] def PS (T:sG) (Γ:sV) (o:Oper) (s:St) (up:Bool) (g:Option Bool) (op:Op):Option r5->Option qI
 |some _=>a9Z up (a9Y op)
 |none=>N2 T Γ o s g op
@[go_sem] def N3 (T:sG) (Γ:sV) (o:Oper) (s:St):Op->Option qI
 | .pick c a b=>PQ (tT s.env c) (tT s.env a) (tT s.env b)
 |op=>N1 (yS true (C5 s.env (sF op))) (u6 T Γ o.type (fun x=>sL (tT s.env x)) s.nb s.H op)
@[go_sem] def HS (np:Nat):List (Nat×pV)->Bool
 |[]=>true
 |(i,.cells _ _ _)::r=>if np<=i then HS np r else false
 |_::r=>HS np r
@[go_sem] def a90 (np:Nat) (e:qI):Bool->Option qI
 |true=>if HS np e.upd=true then some e else none
 |false=>some e
@[go_sem] def ZW (np:Nat):Option qI->Option qI
 |some e=>a90 np e (HJ e.rds)
 |none=>none
@[go_sem] def N4 (T:sG) (Γ:sV) (ops:List Oper) (o:Oper) (s:St):Option qI:=
 match o.guard with
 |none=>N3 T Γ o s o.op
 |some (j,b)=>PS T Γ o s (KA s.env b (zW ops j)) (FX s.env b (zW ops j)) o.op (Γ (UH j b))
@[go_sem] def zJ (T:sG) (Γ:sV) (ops:List Oper) (o:Oper) (s:St):Option qI:=ZW s.np (N4 T Γ ops o s)
@[go_sem] def uJ:Option Tmp->pW->List (Nat×pW)->List (Nat×pW)
 |some d,s,env=>(d,s)::env
 |none,_,env=>env
structure vS where
 s:St
 side:List Prop
 es:List qI
@[go_sem] def HT (N:Nat):Option Tmp->Bool
 |some d=>decide (d<N)
 |none=>true
@[go_sem] def HU (n:Nat):List (Nat×pV)->Bool
 |[]=>true
 |(i,_)::r=>decide (i<n)&&HU n r
@[go_sem] def C6 (i:Nat):pL->Bool
 |[]=>false
 |j::r=>if j=i then zV i r else C6 i r
@[go_sem] def KB (H U:List (Nat×pV)) (rds:pL):List (Nat×pV)->List Prop
 |[]=>[]
 |(i,_)::r=>if C6 i rds=true then(pY U i=pY H i)::KB H U rds r else KB H U rds r
@[go_sem] def HV (rds:pL):List (Nat×pV)->List (Nat×pV)
 |[]=>[]
 |(i,b)::r=>if C6 i rds=true then HV rds r else(i,b)::HV rds r
@[go_sem] def xL (e:qI):List (Nat×pV):=HV e.rds e.upd
@[go_sem] def UI (o:Oper) (a:vS):Option qI->Option vS
 |some e=>if (HT a.s.N o.dst&&HU (a.s.nb+32) e.upd)=true then some ⟨⟨uJ o.dst e.slot a.s.env,qS e.upd a.s.H,a.s.nb+32,a.s.N,a.s.np⟩,qS a.side (qS (KB a.s.H e.upd e.rds e.upd) e.side),e::a.es⟩ else none
 |none=>none
@[go_sem] def uL (T:sG) (Γ:sV) (ops:List Oper):List Oper->Option vS->Option vS
 |[],a=>a
 |o::r,some a=>uL T Γ ops r (UI o a (zJ T Γ ops o a.s))
 |_::_,none=>none
@[go_sem] def PT:List (Nat×pV)->pL->Bool
 |[],_=>false
 |(i,_)::r,l=>l.contains i||PT r l
@[go_sem] def FY (a b:qI):Bool:= !PT (xL a) (qS b.rds (q9 b.upd))&& !PT (xL b) a.rds
def KC (lo:Nat):List (Nat×pV)->Bool
 |[]=>true
 |(i,_)::r=>(decide (i<lo)||decide (lo+32<=i))&&KC lo r
def UJ (i0 j0:Nat) (ops:Array Oper) (bs:pL) (nb i:Nat) (o:Oper) (e:qI):List Oper->List qI->Nat->Bool
 |p::ps,f::fs,j=>((bs.getD j 0).testBit i||(o.apart ops p&&(FY e f||(decide (i=i0)&&decide (j=j0)))&&KC (nb+32*i) f.upd))&&UJ i0 j0 ops bs nb i o e ps fs (j+1)
 |_,_,_=>true
def UK (i0 j0:Nat) (ops:Array Oper) (bs:pL) (nb:Nat):List Oper->List qI->Nat->Bool
 |o::os,e::es,i=>UJ i0 j0 ops bs nb i o e os es (i+1)&&UK i0 j0 ops bs nb os es (i+1)
 |_,_,_=>true
def UL:List Oper->Nat->Bool
 |[],_=>true
 |o::r,i=>o.after.toList.all (fun e=> !Region.binds .any e||decide (e.on<i))&&UL r (i+1)
def UM (i0 j0:Nat) (ops:Array Oper) (nb:Nat) (es:List qI):Bool:=UL ops.toList 0&&UK i0 j0 ops (Region.before ops).toList nb ops.toList es 0
def KD (ops:Array Oper) (nb:Nat) (es:List qI):Bool:=UM ops.size 0 ops nb es
@[go_sem] def a91 (ops:Array Oper) (nb:Nat):Option vS->Option vS
 |some a=>if KD ops nb a.es.reverse then some a else none
 |none=>none
@[go_sem] def PU (T:sG) (Γ:sV) (ops:Array Oper) (s:St):Bool->Option vS
 |true=>a91 ops s.nb (uL T Γ ops.toList ops.toList (some ⟨s,[],[]⟩))
 |false=>uL T Γ ops.toList ops.toList (some ⟨s,[],[]⟩)
inductive Ex where
 |normal|exit (id:Nat) |ret
structure vY where
 slots:pL
 ids:pG:=[]
@[go_sem] def vZ:pG->Nat->pK
 |[],_=>none
 |(n,o)::r,k=>if o=k then some n else vZ r k
@[go_sem] def a92 (m:pG):pJ->pJ
 |some (i,o)=>(vZ m i).map fun j=>(j,o)
 |none=>none
@[go_sem] def C7 (m:pG):pG->Option pG
 |[]=>some []
 |(i,o)::r=>renCons (vZ m i) o (C7 m r)
where
 renCons:pK->Nat->Option pG->Option pG
  |some j,o,some r=>some ((j,o)::r)
  |_,_,_=>none
attribute [go_sem] C7.renCons
@[go_sem] def a93 (m:pG):pK->pK
 |some k=>vZ m k
 |none=>none
@[go_sem] def aIU (n:Nat):pK->pW
 |some k=>(.own k n,none)
 |none=>(.any,none)
@[go_sem] def a94 (m:pG):Option (Nat×pG)->Option (Option (Nat×pG))
 |none=>some none
 |some (f,l)=>(C7 m l).map fun l'=>some (f,l')
@[go_sem] def UN (m:pG):pJ->Option pJ
 |none=>some none
 |some (i,o)=>(vZ m i).map fun j=>some (j,o)
@[go_sem] def a95 (m:pG):pK->Option pK
 |none=>some none
 |some i=>(vZ m i).map some
@[go_sem] def a96 (m:pG):pJ->Option pJ
 |none=>some none
 |some (k,n)=>(vZ m k).map fun j=>some (j,n)
@[go_sem] def ZX (c n3 n4:Nat):pK->pK->pK->Option (Nat×Nat×(Nat×Nat)×(Nat×Nat))
 |some i,some k3,some k4=>some (c,i,(k3,n3),(k4,n4))
 |_,_,_=>none
@[go_sem] def a97 (m:pG):Nat×Nat×(Nat×Nat)×(Nat×Nat)->Option (Nat×Nat×(Nat×Nat)×(Nat×Nat))
 |(c,i,(k3,n3),(k4,n4))=>ZX c n3 n4 (vZ m i) (vZ m k3) (vZ m k4)
@[go_sem] def yT (m:pG):(t:Ty)->t.den->Option t.den
 | .ref,x=>UN m x
 | .clo,x=>a94 m x
 | .mp,x=>a95 m x
 | .pair a b,x=>EK (if a.pure=true then some x.1 else yT m a x.1) (if b.pure=true then some x.2 else yT m b x.2)
 | .list t,x=>if t.pure=true then some x else none
 | .bool,x=>some x
 | .int _,x=>some x
 | .str,x=>some x
 | .unit,x=>some x
 | .rl _ _,x=>a96 m x
 | .fn,x=>some x
 | .mref,x=>UN m x
 | .ap,x=>a97 m x
@[go_sem] def zX (m:pG):pW->pW
 |(.own k n,_)=>aIU n (vZ m k)
 |(.val .ref none,_)=>(.val .ref none,none)
 |(.val .ref (some p),_)=>refSlot (a92 m (some p))
 |(.val .clo (some (f,l)),_)=>cloSlot f (C7 m l)
 |(.val .mp (some i),_)=>mpSlot (vZ m i)
 |(.val t x,k)=>if t.pure then(.val t x,a93 m (EI t k)) else valSlot t (yT m t x)
 |(.at t x,_)=>if t.pure then(.at t x,none) else(.any,none)
 |(.nilS,_)=>(.nilS,none)
 |_=>(.any,none)
where
 refSlot:pJ->pW
  |some p=>(.val .ref (some p),none)
  |none=>(.any,none)
 cloSlot (f:Nat):Option pG->pW
  |some l=>(.val .clo (some (f,l)),none)
  |none=>(.any,none)
 valSlot (t:Ty):Option t.den->pW
  |some y=>(.val t y,none)
  |none=>(.any,none)
 mpSlot:pK->pW
  |some j=>(.val .mp (some j),none)
  |none=>(.any,none)
attribute [go_sem] zX.refSlot zX.cloSlot zX.mpSlot zX.valSlot
@[go_sem] def UO (q j:Nat):pG->pG
 |[]=>[(q,j)]
 |(a,b)::r=>if q<=a then(q,j)::(a,b)::r else(a,b)::UO q j r
@[go_sem] def KE (m:pG):pG->pG
 |[]=>[]
 |(q,k)::r=>renTok1 q (vZ m k) (KE m r)
where
 renTok1 (q:Nat):pK->pG->pG
  |some j,r=>UO q j r
  |none,r=>r
attribute [go_sem] KE.renTok1
@[go_sem] def ZY (t:Ty) (toks:pG):Option t.den->pV
 |some y=> .cells t y toks
 |none=> .dead
def yU (m:pG):Option pV->pV
 |some (.cells t x toks)=>if t.pure then .cells t x (KE m toks) else ZY t (KE m toks) (yT m t x)
 |some (.grow e c n)=> .grow e c n
 |some (.row e t l n)=>if t.pure then .row e t l n else .dead
 |some (.map k v l)=>if k.pure&&v.pure then .map k v l else .dead
 |some (.iter s p)=> .iter s p
 |_=> .dead
attribute [go_sem] yU.eq_1 yU.eq_2 yU.eq_3 yU.eq_4 yU.eq_5 yU.eq_6
@[go_sem] def PV (m:pG) (env:List (Nat×pW)):pL->List (Nat×pW)
 |[]=>[]
 |t::r=>(t,zX m (lk env t))::PV m env r
@[go_sem] def UP (m:pG) (H:List (Nat×pV)):pG->List (Nat×pV)
 |[]=>[]
 |(n,o)::r=>(n,yU m (pY H o))::UP m H r
@[go_sem] def UQ:pG->Nat
 |[]=>0
 |(n,_)::r=>max (n+1) (UQ r)
@[go_sem] def N5 (n o:Nat):pG->Bool
 |[]=>false
 |(n',o')::r=>decide (n'=n)||decide (o'=o)||N5 n o r
@[go_sem] def wT (np:Nat):pG->Bool
 |[]=>true
 |(n,o)::r=>(decide (np<=n)||decide (n=o))&& !N5 n o r&&wT np r
@[go_sem] def PW (s:St) (k:vY):Bool->St
 |true=>⟨PV k.ids s.env k.slots,UP k.ids s.H k.ids,max s.np (UQ k.ids),s.N,s.np⟩
 |false=>⟨[],[],s.nb,s.N,s.np⟩
@[go_sem] def St.keep (s:St) (k:vY):St:=PW s k (wT s.np k.ids)
@[go_sem] def r6:List Prop->Prop
 |[]=>True
 |[p]=>p
 |p::q::r=>p/\r6 (q::r)
@[go_sem] def a98 (Q:Ex->St->Prop):Option vS->Prop
 |some a=>r6 a.side/\Q .normal a.s
 |none=>False
@[go_sem] def a99 (A B:Prop):pW->Prop
 |(.val .bool x,_)=>(x=true->A)/\(x=false->B)
 |(.flag p q,_)=>(p->A)/\(q->B)
 |_=>False
@[go_sem] def PX (f:St->Prop) (Q:Ex->St->Prop):Ex->St->Prop
 | .normal,s=>f s
 | .exit j,s=>Q (.exit j) s
 | .ret,s=>Q .ret s
@[go_sem] def KF (id:Nat) (Q:Ex->St->Prop):Ex->St->Prop
 | .normal,s=>Q .normal s
 | .exit j,s=>if j=id then Q .normal s else Q (.exit j) s
 | .ret,s=>Q .ret s
@[go_sem] def aIV (I:St->Prop) (μ:St->Nat) (m:Nat) (Q:Ex->St->Prop):Ex->St->Prop
 | .normal,s=> ∃k:vY,I (s.keep k)/\μ (s.keep k)<m
 | .exit j,s=>Q (.exit j) s
 | .ret,s=>Q .ret s
def w7 (T:sG) (Γ:sV):Code->St->(Ex->St->Prop)->Prop
 | .skip,s,Q=>Q .normal s
 | .label _,s,Q=>Q .normal s
 | .region _ ops draw,s,Q=>a98 Q (PU T Γ ops s draw)
 | .seq a b,s,Q=>w7 T Γ a s (PX (fun s'=>w7 T Γ b s' Q) Q)
 | .cond c a b,s,Q=>a99 (w7 T Γ a s Q) (w7 T Γ b s Q) (tT s.env c)
 | .block id c,s,Q=>w7 T Γ c s (KF id Q)
 | .loop c,s,Q=> ∃(k:vY) (I:St->Prop) (μ:St->Nat),I (s.keep k)/\∀s,I s->w7 T Γ c s (aIV I μ (μ s) Q)
 | .exit id,s,Q=>Q (.exit id) s
 | .ret,s,Q=>Q .ret s
 |_,_,_=>False
attribute [go_sem] Ty.list.injEq Ty.pair.injEq Ty.int.injEq
section
variable {T:sG}{Γ:sV}{s:St}{Q:Ex->St->Prop}
theorem aIW {id:Nat}{ops:Array Oper}{a:vS}(h:uL T Γ ops.toList ops.toList (some ⟨s,[],[]⟩)=some a) (hp:r6 a.side) (hq:Q .normal a.s):w7 T Γ (.region id ops false) s Q:=by
 unfold w7 PU;rw[h];exact⟨hp,hq⟩
theorem aIX {id:Nat}{ops:Array Oper}{a:vS}(h:uL T Γ ops.toList ops.toList (some ⟨s,[],[]⟩)=some a) (hf:KD ops s.nb a.es.reverse=true) (hp:r6 a.side) (hq:Q .normal a.s):w7 T Γ (.region id ops true) s Q:=by
 unfold w7 PU;rw[h];show a98 Q (if KD ops s.nb a.es.reverse=true then some a else none);rw[aSB hf];exact⟨hp,hq⟩
end
end Go.Proofs.YtcpbaddnmpeipaaGreatDoor.Vc
namespace Go.Proofs.YtcpbaddnmpeipaaGreatDoor.Vc
open Go.RowKit
abbrev rX:=List (Nat×pV)
structure Pl where
 b:Nat
 o:Nat
 k:Option (TypeId×Nat):=none
structure Gh where
 S:Nat->Nat->Prop
 J:Nat->Option Pl
 cur:Nat->Nat->Option pN
def yG {α:Type}(R:α->pI->Prop) (w:pM) (S:Nat->Nat->Prop) (c b:Nat):Nat->List α->Prop
 |_,[]=>True
 |o,x::xs=>(∃cs,cs.length=c/\w.rangeAt b o cs/\(∀j,j<c->S b (o+j))/\R x cs)/\yG R w S c b (o+c) xs
def y7 (g:Gh):pG->pI->Prop
 |[],vs=>vs=[]
 |(i,o)::l,vs=> ∃p vs',g.J i=some p/\vs= .pointer (some ⟨p.1,p.2+o,none⟩)::vs'/\y7 g l vs'
def PY (g:Gh):pJ->pI->Prop
 |none,cs=>cs=[.pointer none]
 |some (i,o),cs=> ∃p,g.J i=some p/\cs=[.pointer (some ⟨p.1,p.2+o,none⟩)]
def HW (g:Gh):Option (Nat×pG)->pI->Prop
 |none,cs=>cs=[.nilFunc]
 |some (f,l),cs=> ∃vs,y7 g l vs/\cs=[.func (.func f) #[] vs.toArray]
def KG (g:Gh):pK->pI->Prop
 |none,cs=>cs=[.map none]
 |some i,cs=> ∃p,g.J i=some p/\cs=[.map (some p.1)]
def ZZ (k:Option (TypeId×Nat)) (o:Nat):Prop:=o=0/\∃e,YM e=true/\k=some (e,2)
def BG (g:Gh):pJ->pI->Prop
 |none,cs=>cs=[.slice none 0 0]
 |some (k,n),cs=> ∃v,g.cur k n=some v/\cs=[v]/\((v= .slice none 0 0/\n=0)\/∃b cap,v= .slice (some ⟨b,0,none⟩) n cap/\n<=cap)
def PZ (g:Gh):pJ->pI->Prop
 |none,cs=>cs=[.pointer none]
 |some (i,o),cs=> ∃p,g.J i=some p/\ZZ p.3 (p.2+o)/\(cs=[.pointer none]\/cs=[.pointer (some ⟨p.1,p.2+o,none⟩)])
def ES (g:Gh) (w:pM):Nat×Nat×(Nat×Nat)×(Nat×Nat)->pI->Prop
 |(c,i,(k3,n3),(k4,n4)),cs=>(c=0/\cs=[.nilFunc])\/(c≠0/\∃b α,cs=[.func (.func HG) #[] #[.pointer (some ⟨b,0,none⟩)]]/\g.S b 0/\w.cell? ⟨b,0,none⟩=some (.pointer (some α))/\
   (c=1->∃p,g.J i=some p/\α=⟨p.1,p.2+aIB,none⟩)/\(c=2->∃p,g.J i=some p/\α=⟨p.1,p.2+aIC,none⟩)/\
   (c=3->∃bb cap,g.cur k3 n3=some (.slice (some ⟨bb,0,none⟩) n3 cap)/\0<n3/\α=⟨bb,n3-1,none⟩)/\
   (4<=c->∃bb cap,g.cur k4 n4=some (.slice (some ⟨bb,0,none⟩) n4 cap)/\0<n4/\α=⟨bb,(n4-1)*2+1,none⟩))
def UR:pK->pI->Prop
 |none,cs=>cs=[.nilFunc]
 |some f,cs=>cs=[.func (.func f) #[] #[]]
def Rd (g:Gh) (w:pM):(t:Ty)->t.den->pI->Prop
 | .bool,x,cs=>cs=[.bool x]
 | .int k,n,cs=>cs=[.int k n]
 | .str,l,cs=>cs=[.string ⟨List.toArray l⟩]
 | .list t,l,cs=> ∃a cap,cs=[.slice a (List.length l) cap]/\List.length l<=cap/\(l=[]\/∃b o,a=some ⟨b,o,none⟩/\yG (Rd g w t) w g.S t.cells b o l)
 | .unit,_,cs=>cs=[]
 | .pair s t,x,cs=> ∃c1 c2,cs=c1++c2/\Rd g w s x.1 c1/\Rd g w t x.2 c2
 | .ref,x,cs=>PY g x cs
 | .clo,x,cs=>HW g x cs
 | .mp,x,cs=>KG g x cs
 | .rl _ _,x,cs=>BG g x cs
 | .fn,x,cs=>UR x cs
 | .mref,x,cs=>PZ g x cs
 | .ap,x,cs=>ES g w x cs
def sW (g:Gh) (w:pM) (t:Ty) (x:t.den) (v:pN):Prop:=
 (t.isRow=true/\∃cs:pI,v= .agg cs.toArray/\Rd g w t x cs)\/(t.isRow=false/\Rd g w t x [v])
def xM (k:Nat):Ty->Nat->pI->Prop
 | .list _,o,cs=>o+1=k\/cs=[.slice none 0 0]
 | .pair a b,o,cs=> ∃c1 c2,cs=c1++c2/\c1.length=a.cells/\xM k a o c1/\xM k b (o+a.cells) c2
 |_,_,_=>True
def CU (g:Gh) (t:Ty) (x:t.den) (v:pN):pK->Prop
 |none=>True
 |some k=>match t,x with
  | .list _,l=>g.cur k (List.length l)=some v
  | .pair a b,_=>xM k (.pair a b) 0 v.cells.toList
  |_,_=>False
def HY (g:Gh) (w:pM):List ((Σ t:Ty,t.den)×pK)->pI->Prop
 |[],vs=>vs=[]
 |(⟨t,x⟩,k)::l,vs=> ∃v vs',vs=v::vs'/\sW g w t x v/\CU g t x v k/\HY g w l vs'
def yH (g:Gh) (w:pM):DV->pN->Prop
 | .any,_=>True
 | .nilS,v=>v= .slice none 0 0
 | .val t x,v=>sW g w t x v
 | .at t x,v=> ∃b o cs,v= .pointer (some ⟨b,o,none⟩)/\w.rangeAt b o cs/\(∀j,j<t.cells->g.S b (o+j))/\Rd g w t x cs
 | .tup l,v=> ∃vs:pI,v= .tuple vs.toArray/\HY g w l vs
 | .cond p d,v=>(p=true->yH g w d v)/\(p=false->v=undef)
 | .flag p q,v=> ∃b,v= .bool b/\(b=true->p)/\(b=false->q)
 | .own k n,v=>g.cur k n=some v/\((v= .slice none 0 0/\n=0)\/∃b cap,v= .slice (some ⟨b,0,none⟩) n cap/\n<=cap)
 | .nxt b p c,v=>(b=true->v= .tuple #[.bool true,.int .i64 p,.int .i32 c])/\(b=false->v= .tuple #[.bool false])
 | .elt k n c i o,v=> ∃b cap,g.cur k n=some (.slice (some ⟨b,0,none⟩) n cap)/\0<=i/\i<(n:Int)/\v= .pointer (some ⟨b,i.toNat*c+o,none⟩)
 | .apd d,v=> ∃b u,v= .func (.func HG) #[] #[.pointer (some ⟨b,0,none⟩)]/\g.S b 0/\w.cell? ⟨b,0,none⟩=some u/\yH g w d u
def rH (g:Gh) (w:pM) (s:pW) (v:pN):Prop:=
 yH g w s.1 v/\match s with
  |(_,none)=>True
  |(.val t x,some k)=>CU g t x v (some k)
  |(_,some _)=>False
structure Le (g:Gh) (w:pM) (g':Gh) (w':pM):Prop where
 S: ∀b o,g.S b o->g'.S b o
 cell: ∀b o,g.S b o->w'.cell? ⟨b,o,none⟩=w.cell? ⟨b,o,none⟩
 J: ∀i p,g.J i=some p->g'.J i=some p
 cur: ∀k n v,g.cur k n=some v->g'.cur k n=some v
def Le.refl (g:Gh) (w:pM):Le g w g w:=⟨fun _ _ h=>h,fun _ _ _=>rfl,fun _ _ h=>h,fun _ _ _ h=>h⟩
def Le.trans {g g' g'':Gh}{w w' w'':pM}(h:Le g w g' w') (k:Le g' w' g'' w''):Le g w g'' w'':=
 ⟨fun b o x=>k.S b o (h.S b o x),fun b o x=>(k.cell b o (h.S b o x)).trans (h.cell b o x),fun i p x=>k.J i p (h.J i p x),fun i n v x=>k.cur i n v (h.cur i n v x)⟩
def a0a {g g':Gh}(hJ: ∀i p,g.J i=some p->g'.J i=some p): ∀{l:pG}{vs:pI},y7 g l vs->y7 g' l vs
 |[],_,h=>h
 |(_,_)::_,_,⟨p,vs',h1,h2,h3⟩=>⟨p,vs',hJ _ _ h1,h2,a0a hJ h3⟩
def aIY {g g':Gh}(hJ: ∀i p,g.J i=some p->g'.J i=some p): ∀{x:pJ}{cs:pI},PY g x cs->PY g' x cs
 |none,_,h=>h
 |some (_,_),_,⟨p,h1,h2⟩=>⟨p,hJ _ _ h1,h2⟩
def aIZ {g g':Gh}(hJ: ∀i p,g.J i=some p->g'.J i=some p): ∀{x:Option (Nat×pG)}{cs:pI},HW g x cs->HW g' x cs
 |none,_,h=>h
 |some (_,_),_,⟨vs,h1,h2⟩=>⟨vs,a0a hJ h1,h2⟩
def aI0 {g g':Gh}(hJ: ∀i p,g.J i=some p->g'.J i=some p): ∀{x:pK}{cs:pI},KG g x cs->KG g' x cs
 |none,_,h=>h
 |some _,_,⟨p,h1,h2⟩=>⟨p,hJ _ _ h1,h2⟩
def aI1 {g g':Gh}(hc: ∀k n v,g.cur k n=some v->g'.cur k n=some v): ∀{x:pJ}{cs:pI},BG g x cs->BG g' x cs
 |none,_,h=>h
 |some (_,_),_,⟨v,h1,h2⟩=>⟨v,hc _ _ _ h1,h2⟩
def aI2 {g g':Gh}(hJ: ∀i p,g.J i=some p->g'.J i=some p): ∀{x:pJ}{cs:pI},PZ g x cs->PZ g' x cs
 |none,_,h=>h
 |some (_,_),_,⟨p,h1,h2⟩=>⟨p,hJ _ _ h1,h2⟩
def aI3 {g g':Gh}{w w':pM}(h:Le g w g' w'): ∀{x:Nat×Nat×(Nat×Nat)×(Nat×Nat)}{cs:pI},ES g w x cs->ES g' w' x cs
 |(_,_,(_,_),(_,_)),_,.inl r=> .inl r
 |(_,_,(_,_),(_,_)),_,.inr ⟨h0,b,α,e,hS,hc,h1,h2,h3,h4⟩=> .inr ⟨h0,b,α,e,h.S _ _ hS,(h.cell _ _ hS).trans hc,fun q=>let ⟨p,a1,a2⟩:=h1 q;⟨p,h.J _ _ a1,a2⟩,fun q=>let ⟨p,a1,a2⟩:=h2 q;⟨p,h.J _ _ a1,a2⟩,fun q=>let ⟨bb,cap,a1,a2⟩:=h3 q;⟨bb,cap,h.cur _ _ _ a1,a2⟩,fun q=>let ⟨bb,cap,a1,a2⟩:=h4 q;⟨bb,cap,h.cur _ _ _ a1,a2⟩⟩
def a0b {α:Type}{R R':α->pI->Prop}{w w':pM}{S S':Nat->Nat->Prop}{c b:Nat}(hR: ∀x cs,R x cs->R' x cs) (hS: ∀o,S b o->S' b o)
  (hc: ∀o,S b o->w'.cell? ⟨b,o,none⟩=w.cell? ⟨b,o,none⟩): ∀{l:List α}{o:Nat},yG R w S c b o l->yG R' w' S' c b o l
 |[],_,_=>trivial
 |_::_,o,⟨⟨cs,h1,h2,h3,h4⟩,h5⟩=>⟨⟨cs,h1,fun j v hv=>by
   have hj:j<c:=h1▸(aSR.1 hv).1;rw[hc _ (h3 j hj)];exact h2 j v hv,fun j hj=>hS _ (h3 j hj),hR _ _ h4⟩,a0b hR hS hc h5⟩
def w8 {g g':Gh}{w w':pM}(h:Le g w g' w'): ∀{t:Ty}{x:t.den}{cs:pI},Rd g w t x cs->Rd g' w' t x cs
 | .bool,_,_,r=>r
 | .int _,_,_,r=>r
 | .str,_,_,r=>r
 | .unit,_,_,r=>r
 | .ref,_,_,r=>aIY h.J r
 | .clo,_,_,r=>aIZ h.J r
 | .mp,_,_,r=>aI0 h.J r
 | .rl _ _,_,_,r=>aI1 h.cur r
 | .fn,_,_,r=>r
 | .mref,_,_,r=>aI2 h.J r
 | .ap,_,_,r=>aI3 h r
 | .pair _ _,_,_,⟨c1,c2,e,r1,r2⟩=>⟨c1,c2,e,w8 h r1,w8 h r2⟩
 | .list _,_,_,⟨a,cap,e,hle,hl⟩=>⟨a,cap,e,hle,hl.imp id fun⟨b,o,ea,hr⟩=>⟨b,o,ea,a0b (fun _ _=>w8 h) (fun _=>h.S _ _) (fun _=>h.cell _ _) hr⟩⟩
def sJ {g:Gh}{w:pM}: ∀{t:Ty}{x:t.den}{cs:pI},Rd g w t x cs->cs.length=t.cells
 | .bool,_,_,r=>by cases r;rfl
 | .int _,_,_,r=>by cases r;rfl
 | .str,_,_,r=>by cases r;rfl
 | .unit,_,_,r=>by cases r;rfl
 | .ref,none,_,r=>by cases r;rfl
 | .ref,some (_,_),_,⟨_,_,e⟩=>by cases e;rfl
 | .clo,none,_,r=>by cases r;rfl
 | .clo,some (_,_),_,⟨_,_,e⟩=>by cases e;rfl
 | .mp,none,_,r=>by cases r;rfl
 | .mp,some _,_,⟨_,_,e⟩=>by cases e;rfl
 | .fn,none,_,r=>by cases r;rfl
 | .fn,some _,_,r=>by cases r;rfl
 | .rl _ _,none,_,r=>by cases r;rfl
 | .rl _ _,some (_,_),_,⟨_,_,e,_⟩=>by cases e;rfl
 | .mref,none,_,r=>by cases r;rfl
 | .mref,some (_,_),_,⟨_,_,_,e⟩=>by rcases e with e|e<;>(cases e;rfl)
 | .ap,(_,_,(_,_),(_,_)),_,.inl ⟨_,e⟩=>by cases e;rfl
 | .ap,(_,_,(_,_),(_,_)),_,.inr ⟨_,_,_,e,_⟩=>by cases e;rfl
 | .pair _ _,_,_,⟨c1,c2,e,r1,r2⟩=>by rw[e,aSH,sJ r1,sJ r2];rfl
 | .list _,_,_,⟨_,_,e,_,_⟩=>by cases e;rfl
def US {g g':Gh}{w w':pM}(h:Le g w g' w') {t:Ty}{x:t.den}{v:pN}(r:sW g w t x v):sW g' w' t x v:=
 r.imp (fun⟨a,cs,e,q⟩=>⟨a,cs,e,w8 h q⟩) (fun⟨a,q⟩=>⟨a,w8 h q⟩)
def aAa {g g':Gh}{w w':pM}(h:Le g w g' w') {t:Ty}{x:t.den}{v:pN}{k:pK}(r:CU g t x v k):CU g' t x v k:=by
 cases k with
 |none=>trivial
 |some k=>
  cases t with
  |list u=>exact h.cur _ _ _ r
  |pair a b=>exact r
  |_=>exact r.elim
def aAb {g g':Gh}{w w':pM}(h:Le g w g' w'): ∀{l:List ((Σ t:Ty,t.den)×pK)}{vs:pI},HY g w l vs->HY g' w' l vs
 |[],_,r=>r
 |(⟨_,_⟩,_)::_,_,⟨v,vs',e,r1,r2,r3⟩=>⟨v,vs',e,US h r1,aAa h r2,aAb h r3⟩
def Q0 {g g':Gh}{w w':pM}(h:Le g w g' w'): ∀{d:DV}{v:pN},yH g w d v->yH g' w' d v
 | .any,_,r=>r
 | .nilS,_,r=>r
 | .val _ _,_,r=>US h r
 | .at t _,_,⟨b,o,cs,e,h1,h2,h3⟩=>⟨b,o,cs,e,fun j v hv=>by
   by_cases hj:j<t.cells
   .rw[h.cell _ _ (h2 j hj)];exact h1 j v hv
   .exact absurd (aSR.1 hv).1 (by rw[sJ h3];exact hj),fun j hj=>h.S _ _ (h2 j hj),w8 h h3⟩
 | .tup _,_,⟨vs,e,r⟩=>⟨vs,e,aAb h r⟩
 | .cond _ _,_,⟨r1,r2⟩=>⟨fun p=>Q0 h (r1 p),r2⟩
 | .flag _ _,_,r=>r
 | .own _ _,_,⟨h1,h2⟩=>⟨h.cur _ _ _ h1,h2⟩
 | .nxt _ _ _,_,r=>r
 | .elt _ _ _ _ _,_,⟨b,cap,h1,h2⟩=>⟨b,cap,h.cur _ _ _ h1,h2⟩
 | .apd _,_,⟨b,u,e,hS,hc,r⟩=>⟨b,u,e,h.S _ _ hS,(h.cell _ _ hS).trans hc,Q0 h r⟩
def CV {g g':Gh}{w w':pM}(h:Le g w g' w') {s:pW}{v:pN}(r:rH g w s v):rH g' w' s v:=by
 obtain⟨d,k⟩:=s;refine⟨Q0 h r.1,?_⟩;have r2:=r.2;cases k with
 |none=>trivial
 |some k=>
  cases d with
  |val t x=>exact aAa h r2
  |_=>exact r2.elim
def zY {g:Gh}{w:pM}: ∀{t:Ty}{x:t.den}{cs:pI},Rd g w t x cs->∀v∈cs,v.oneCell'=true
 | .bool,_,_,r=>by cases r;intro v hv;simp at hv;subst hv;rfl
 | .int _,_,_,r=>by cases r;intro v hv;simp at hv;subst hv;rfl
 | .str,_,_,r=>by cases r;intro v hv;simp at hv;subst hv;rfl
 | .unit,_,_,r=>by cases r;intro v hv;simp at hv
 | .ref,none,_,r=>by cases r;intro v hv;simp at hv;subst hv;rfl
 | .ref,some (_,_),_,⟨_,_,e⟩=>by cases e;intro v hv;simp at hv;subst hv;rfl
 | .clo,none,_,r=>by cases r;intro v hv;simp at hv;subst hv;rfl
 | .clo,some (_,_),_,⟨_,_,e⟩=>by cases e;intro v hv;simp at hv;subst hv;rfl
 | .mp,none,_,r=>by cases r;intro v hv;simp at hv;subst hv;rfl
 | .mp,some _,_,⟨_,_,e⟩=>by cases e;intro v hv;simp at hv;subst hv;rfl
 | .fn,none,_,r=>by cases r;intro v hv;simp at hv;subst hv;rfl
 | .fn,some _,_,r=>by cases r;intro v hv;simp at hv;subst hv;rfl
 | .rl _ _,none,_,r=>by cases r;intro v hv;simp at hv;subst hv;rfl
 | .rl _ _,some (_,_),_,⟨_,_,e,hs⟩=>by
  cases e;intro v hv;simp at hv;subst hv;rcases hs with⟨rfl,_⟩ |⟨_,_,rfl,_⟩<;>rfl
 | .mref,none,_,r=>by cases r;intro v hv;simp at hv;subst hv;rfl
 | .mref,some (_,_),_,⟨_,_,_,e⟩=>by rcases e with e|e<;>(cases e;intro v hv;simp at hv;subst hv;rfl)
 | .ap,(_,_,(_,_),(_,_)),_,.inl ⟨_,e⟩=>by cases e;intro v hv;simp at hv;subst hv;rfl
 | .ap,(_,_,(_,_),(_,_)),_,.inr ⟨_,_,_,e,_⟩=>by cases e;intro v hv;simp at hv;subst hv;rfl
 | .pair _ _,_,_,⟨c1,c2,e,r1,r2⟩=>by
  subst e;intro v hv;rcases aTR.1 hv with h|h
  .exact zY r1 v h
  .exact zY r2 v h
 | .list _,_,_,⟨_,_,e,_,_⟩=>by cases e;intro v hv;simp at hv;subst hv;rfl
def vT {g g':Gh}{w:pM}(hS:g'.S=g.S): ∀{t:Ty}{x:t.den}{cs:pI},t.pure=true->Rd g w t x cs->Rd g' w t x cs
 | .bool,_,_,_,r=>r
 | .int _,_,_,_,r=>r
 | .str,_,_,_,r=>r
 | .unit,_,_,_,r=>r
 | .ref,_,_,h,_=>by simp [Ty.pure] at h
 | .clo,_,_,h,_=>by simp [Ty.pure] at h
 | .mp,_,_,h,_=>by simp [Ty.pure] at h
 | .rl _ _,_,_,h,_=>by simp [Ty.pure] at h
 | .fn,_,_,_,r=>r
 | .mref,_,_,h,_=>by simp [Ty.pure] at h
 | .ap,_,_,h,_=>by simp [Ty.pure] at h
 | .pair _ _,_,_,h,⟨c1,c2,e,r1,r2⟩=>by
  simp only[Ty.pure,aSV] at h;exact⟨c1,c2,e,vT hS h.1 r1,vT hS h.2 r2⟩
 | .list _,_,_,h,⟨a,cap,e,hle,hl⟩=>by
  simp only[Ty.pure] at h;exact⟨a,cap,e,hle,hl.imp id fun⟨b,o,ea,hr⟩=>⟨b,o,ea,a0b (fun _ _ r=>vT hS h r) (fun _ q=>by rw[hS];exact q) (fun _ _=>rfl) hr⟩⟩
def DD (g:Gh) (w:pM) (k v:Ty):List (k.den×v.den)->List MapEntry->Prop
 |[],es=>es=[]
 |(a,b)::l,es=> ∃e es',es=e::es'/\sW g w k a e.key/\sW g w v b e.val/\DD g w k v l es'
def a0c {g g':Gh}{w w':pM}(h:Le g w g' w') {k v:Ty}: ∀{l:List (k.den×v.den)}{es:List MapEntry},DD g w k v l es->DD g' w' k v l es
 |[],_,r=>r
 |_::_,_,⟨e,es',h1,h2,h3,h4⟩=>⟨e,es',h1,US h h2,US h h3,a0c h h4⟩
def aAc {g g':Gh}{w:pM}(hS:g'.S=g.S) {t:Ty}{x:t.den}{v:pN}(hp:t.pure=true) (r:sW g w t x v):sW g' w t x v:=
 r.imp (fun⟨a,cs,e,q⟩=>⟨a,cs,e,vT hS hp q⟩) (fun⟨a,q⟩=>⟨a,vT hS hp q⟩)
def Q1 {g g':Gh}{w:pM}(hS:g'.S=g.S) {k v:Ty}(hk:k.pure=true) (hv:v.pure=true): ∀{l:List (k.den×v.den)}{es:List MapEntry},DD g w k v l es->DD g' w k v l es
 |[],_,r=>r
 |_::_,_,⟨e,es',h1,h2,h3,h4⟩=>⟨e,es',h1,aAc hS hk h2,aAc hS hv h3,Q1 hS hk hv h4⟩
def tU {α:Type}(R:α->pI->Prop) (c:Nat):List α->pI->Prop
 |[],cs=>cs=[]
 |x::xs,cs=> ∃c1 c2,cs=c1++c2/\c1.length=c/\R x c1/\tU R c xs c2
def KH {α:Type}{R:α->pI->Prop}{c:Nat}: ∀{l:List α}{cs:pI},tU R c l cs->cs.length=l.length*c
 |[],_,h=>by rw[h];simp
 |_::l,_,⟨c1,c2,e,h1,_,h3⟩=>by rw[e,aSH,h1,KH h3,aSI,aTW];omega
def a0d {α:Type}{R:α->pI->Prop}{c:Nat}: ∀{l m:List α}{cs ds:pI},tU R c l cs->tU R c m ds->tU R c (l++m) (cs++ds)
 |[],_,_,_,h,k=>by rw[h];exact k
 |_::_,_,_,_,⟨c1,c2,e,h1,h2,h3⟩,k=>⟨c1,c2++_,by rw[e,aSN],h1,h2,a0d h3 k⟩
def C8 {α:Type}{R R':α->pI->Prop}{c:Nat}(hR: ∀x cs,R x cs->R' x cs): ∀{l:List α}{cs:pI},tU R c l cs->tU R' c l cs
 |[],_,h=>h
 |_::_,_,⟨c1,c2,e,h1,h2,h3⟩=>⟨c1,c2,e,h1,hR _ _ h2,C8 hR h3⟩
def BH {g:Gh}{w:pM}{u:Ty}: ∀{t:Ty}{x:t.den}{cs:pI}{o:Nat}{y:u.den},Rd g w t x cs->qT u t x o=some y->
  ∃c1 c2 c3,cs=c1++c2++c3/\c1.length=o/\Rd g w u y c2:=by
 intro t
 induction t with
 |pair a b iha ihb=>
  intro x cs o y r h;obtain⟨c1,c2,e,r1,r2⟩:=r;have key: ∀o,(if o<a.cells then qT u a x.1 o else qT u b x.2 (o-a.cells))=some y->∃d1 d2 d3,cs=d1++d2++d3/\d1.length=o/\Rd g w u y d2:=by
   intro o h;by_cases ho:o<a.cells
   .rw[aSB ho] at h;obtain⟨d1,d2,d3,e',hl,hr⟩:=iha r1 h;exact⟨d1,d2,d3++c2,by rw[e,e'];simp,hl,hr⟩
   rw[aSD ho] at h;obtain⟨d1,d2,d3,e',hl,hr⟩:=ihb r2 h;refine⟨c1++d1,d2,d3,by rw[e,e'];simp,?_,hr⟩;rw[aSH,hl,sJ r1];omega
  cases o with
  |zero=>
   unfold qT at h;by_cases hu:Ty.pair a b=u
   .rw[aUu hu] at h;subst hu;simp only[tX,aSC] at h;subst h;exact⟨[],cs,[],by simp,rfl,⟨c1,c2,e,r1,r2⟩⟩
   .rw[aT0 hu] at h;refine key 0 ?_;simpa using h
  |succ o=>exact key (o+1) (by simpa[qT] using h)
 |_=>
  intro x cs o y r h;cases o with
  |zero=>
   unfold qT at h;split at h
   .rename_i hu;subst hu;simp only[tX,aSC] at h
    try subst h
    exact⟨[],cs,[],by simp,rfl,r⟩
   .simp at h
  |succ o=>simp [qT] at h
def Q2 {g:Gh}{w:pM}{u:Ty}{y:u.den}{cy:pI}(hy:Rd g w u y cy): ∀{t:Ty}{x z:t.den}{cs:pI}{o:Nat},Rd g w t x cs->sB u y t x o=some z->
  ∃c1 c2 c3,cs=c1++c2++c3/\c1.length=o/\c2.length=u.cells/\Rd g w t z (c1++cy++c3):=by
 intro t
 induction t with
 |pair a b iha ihb=>
  intro x z cs o r h;obtain⟨c1,c2,e,r1,r2⟩:=r;have key: ∀o,(if o<a.cells then(sB u y a x.1 o).map (fun q=>(q,x.2)) else(sB u y b x.2 (o-a.cells)).map (fun q=>(x.1,q)))=some z->
    ∃d1 d2 d3,cs=d1++d2++d3/\d1.length=o/\d2.length=u.cells/\Rd g w (.pair a b) z (d1++cy++d3):=by
   intro o h;by_cases ho:o<a.cells
   .rw[aSB ho] at h;obtain⟨q,hq,rfl⟩:=aSS.1 h;obtain⟨d1,d2,d3,e',hl,hl2,hr⟩:=iha r1 hq;exact⟨d1,d2,d3++c2,by rw[e,e'];simp,hl,hl2,⟨d1++cy++d3,c2,by simp,hr,r2⟩⟩
   rw[aSD ho] at h;obtain⟨q,hq,rfl⟩:=aSS.1 h;obtain⟨d1,d2,d3,e',hl,hl2,hr⟩:=ihb r2 hq;refine⟨c1++d1,d2,d3,by rw[e,e'];simp,?_,hl2,⟨c1,d1++cy++d3,by simp,r1,hr⟩⟩;rw[aSH,hl,sJ r1];omega
  cases o with
  |zero=>
   unfold sB at h;by_cases hu:u=Ty.pair a b
   .rw[aUu hu] at h;subst hu;simp only[tX,aSC] at h;subst h;exact⟨[],cs,[],by simp,rfl,sJ (t:= .pair a b) (x:=x) ⟨c1,c2,e,r1,r2⟩,by simpa using hy⟩
   .rw[aT0 hu] at h;refine key 0 ?_;simpa using h
  |succ o=>exact key (o+1) (by simpa[sB] using h)
 |_=>
  intro x z cs o r h;cases o with
  |zero=>
   unfold sB at h;split at h
   .rename_i hu;subst hu;simp only[tX,aSC] at h
    try subst h
    exact⟨[],cs,[],by simp,rfl,sJ r,by simpa using hy⟩
   .simp at h
  |succ o=>simp [sB] at h
def aI4 {e:Nat}{u:Ty}{kn:pJ}: ∀{t:Ty}{x:t.den}{o:Nat}{q: Σ t:Ty,t.den},y6 e u kn t x o=some q->q.1.cells=t.cells:=by
 intro t
 induction t with
 |pair a b iha ihb=>
  intro x o q h;unfold y6 at h;split at h
  .cases hq:y6 e u kn a x.1 o with
   |none=>rw[hq] at h;cases h
   |some r=>
    obtain⟨a',x'⟩:=r;rw[hq] at h;simp only[Z6,aSC] at h;subst h;have:=iha hq;simp only[Ty.cells] at this|-;omega
  .cases hq:y6 e u kn b x.2 (o-a.cells) with
   |none=>rw[hq] at h;cases h
   |some r=>
    obtain⟨b',y'⟩:=r;rw[hq] at h;simp only[Z7,aSC] at h;subst h;have:=ihb hq;simp only[Ty.cells] at this|-;omega
 |list v=>
  intro x o q h;cases o with
  |zero=>
   simp only[y6] at h;split at h
   .simp only[aSC] at h;subst h;rfl
   .cases h
  |succ o=>simp [y6] at h
 |_=>intro x o q h;cases o<;>simp [y6] at h
def aI5 {g:Gh}{w:pM}{e:Nat}{u:Ty}{kn:pJ}{cy:pI}(hy:BG g kn cy): ∀{t:Ty}{x:t.den}{cs:pI}{o:Nat}{q: Σ t:Ty,t.den},Rd g w t x cs->y6 e u kn t x o=some q->
  ∃c1 c2 c3,cs=c1++c2++c3/\c1.length=o/\c2.length=1/\Rd g w q.1 q.2 (c1++cy++c3):=by
 intro t
 induction t with
 |pair a b iha ihb=>
  intro x cs o q r h;obtain⟨c1,c2,e1,r1,r2⟩:=r;unfold y6 at h;split at h
  .cases hq:y6 e u kn a x.1 o with
   |none=>rw[hq] at h;cases h
   |some z=>
    obtain⟨a',x'⟩:=z;rw[hq] at h;simp only[Z6,aSC] at h;subst h;obtain⟨d1,d2,d3,e',hl,hl2,hr⟩:=iha r1 hq;exact⟨d1,d2,d3++c2,by rw[e1,e'];simp,hl,hl2,⟨d1++cy++d3,c2,by simp,hr,r2⟩⟩
  .cases hq:y6 e u kn b x.2 (o-a.cells) with
   |none=>rw[hq] at h;cases h
   |some z=>
    obtain⟨b',y'⟩:=z;rw[hq] at h;simp only[Z7,aSC] at h;subst h;obtain⟨d1,d2,d3,e',hl,hl2,hr⟩:=ihb r2 hq;refine⟨c1++d1,d2,d3,by rw[e1,e'];simp,?_,hl2,⟨c1,d1++cy++d3,by simp,r1,hr⟩⟩;rw[aSH,hl,sJ r1];omega
 |list v=>
  intro x cs o q r h;cases o with
  |zero=>
   simp only[y6] at h;split at h
   .simp only[aSC] at h;subst h;exact⟨[],cs,[],by simp,rfl,sJ r,by rw[List.nil_append,List.append_nil];exact hy⟩
   .cases h
  |succ o=>simp [y6] at h
 |_=>intro x cs o q r h;cases o<;>simp [y6] at h
def FZ (g:Gh) (t:Ty) (x:t.den) (cs:pI) (toks:pG):Prop:=
 ∀o k,(o,k)∈toks->∃(u:Ty) (l:List u.den) (v:pN),qT (.list u) t x o=some l/\cs[o]? =some v/\g.cur k l.length=some v
def aI6 (w:pM) (p:Pl) (n:Nat):Prop:=w.there p.1 p.2 n/\(0<n->∀s,p.3=some s->w.shape? p.1=some s)
def BI {w:pM}{b:Nat}{s:TypeId×Nat}(h:w.shape? b=some s):b<w.heap.size:=by
 unfold World.shape? at h;cases hb:w.heap[b]? with
 |none=>rw[hb] at h;cases h
 |some x=>exact(aS6.1 hb).1
def BJ {w w':pM}{b:Nat}(h:w'.heap[b]? =w.heap[b]?):w'.shape? b=w.shape? b:=by
 unfold World.shape?;rw[h]
def zZ (g:Gh) (w:pM) (i:Nat):pV->Prop
 | .cells t x toks=> ∃p cs,g.J i=some p/\Rd g w t x cs/\w.rangeAt p.1 p.2 cs/\aI6 w p t.cells/\(∀j,j<t.cells->¬g.S p.1 (p.2+j))/\FZ g t x cs toks
 | .grow e c n=> ∃v xs,g.cur i n=some v/\w.ownsRow 0 e c v n xs/\(∀m,n<m->g.cur i m=none)/\∀b,v.ownBlock=some b->∀o,g.S b o->o<n*c
 | .row e t l n=>l.length=n/\∃v xs,g.cur i n=some v/\w.ownsRow 0 e t.cells v n xs/\tU (Rd g w t) t.cells l xs/\(∀m,n<m->g.cur i m=none)/\∀b,v.ownBlock=some b->∀o,¬g.S b o
 | .map k v l=> ∃p es clock,g.J i=some p/\p.2=0/\w.heap[p.1]? =some (.map es clock)/\DD g w k v l es.toList/\∀o,¬g.S p.1 o
 | .iter s n=> ∃p,g.J i=some p/\p.2=0/\w.heap[p.1]? =some (.stringIter ⟨s.toArray⟩ n)/\∀o,¬g.S p.1 o
 | .dead=>True
def rY (g:Gh) (i:Nat):pV->Nat->Nat->Prop
 | .cells t _ _,b,o=> ∃p,g.J i=some p/\b=p.1/\p.2<=o/\o<p.2+t.cells
 | .grow _ _ n,b,_=> ∃v,g.cur i n=some v/\v.ownBlock=some b
 | .row _ _ _ n,b,_=> ∃v,g.cur i n=some v/\v.ownBlock=some b
 | .map _ _ _,b,_=> ∃p,g.J i=some p/\b=p.1
 | .iter _ _,b,_=> ∃p,g.J i=some p/\b=p.1
 | .dead,_,_=>False
structure s5 (g:Gh) (w:pM) (H:rX):Prop where
 blk: ∀i b,pY H i=some b->zZ g w i b
 dis: ∀i j bi bj b o,i≠j->pY H i=some bi->pY H j=some bj->rY g i bi b o->rY g j bj b o->False
 sl: ∀b o,g.S b o->b<w.heap.size
 tab:EH w/\∀i blk b o,pY H i=some blk->rY g i blk b o->NG<=b
def sI (g:Gh) (H:rX) (ids:pL) (b o:Nat):Prop:= ∃i blk,i∈ids/\pY H i=some blk/\rY g i blk b o
structure Fr (A:Nat->Nat->Prop) (w w':pM) (S S':Nat->Nat->Prop):Prop where
 os:w'.os=w.os
 tape:w'.tape=w.tape
 output:w'.output=w.output
 size:w.heap.size<=w'.heap.size
 blk: ∀b,b<w.heap.size->(∀o,¬A b o)->w'.heap[b]? =w.heap[b]?
 cell: ∀b o,b<w.heap.size->¬A b o->w'.cell? ⟨b,o,none⟩=w.cell? ⟨b,o,none⟩/\w'.frozen? ⟨b,o,none⟩=w.frozen? ⟨b,o,none⟩
 new: ∀b o,S' b o->S b o\/w.heap.size<=b\/A b o
 shape: ∀b s,w.shape? b=some s->w'.shape? b=some s\/∀o,A b o
def Fr.refl (A:Nat->Nat->Prop) (w:pM) (S:Nat->Nat->Prop):Fr A w w S S:=
 ⟨rfl,rfl,rfl,aSW _,fun _ _ _=>rfl,fun _ _ _ _=>⟨rfl,rfl⟩,fun _ _ h=> .inl h,fun _ _ h=> .inl h⟩
def Fr.trans {A B:Nat->Nat->Prop}{w w' w'':pM}{S S' S'':Nat->Nat->Prop}(h:Fr A w w' S S') (k:Fr B w' w'' S' S'') (hB: ∀b o,B b o->w.heap.size<=b\/A b o):Fr A w w'' S S'':=by
 refine⟨k.os.trans h.os,k.tape.trans h.tape,k.output.trans h.output,aTA h.size k.size,fun b hb hA=>?_,fun b o hb hA=>?_,fun b o hs=>?_,fun b s hs=>?_⟩
 .refine(k.blk b (aTd hb h.size) fun o ho=>?_).trans (h.blk b hb hA);rcases hB b o ho with h1|h1
  .omega
  exact hA o h1
 .have h1:=h.cell b o hb hA;have h2:=k.cell b o (aTd hb h.size) (fun ho=>by
   rcases hB b o ho with h1|h1
   .omega
   exact hA h1)
  exact⟨h2.1.trans h1.1,h2.2.trans h1.2⟩
 .rcases k.new b o hs with h1|h1|h1
  .exact h.new b o h1
  .exact .inr (.inl (aTA h.size h1))
  exact .inr (hB b o h1)
 rcases h.shape b s hs with h1|h1
 .rcases k.shape b s h1 with h2|h2
  .exact .inl h2
  refine .inr fun o=>(hB b o (h2 o)).resolve_left ?_;have:=BI hs;omega
 exact .inr h1
structure rD (g:Gh) (w:pM) (H:rX) (e:qI) (g':Gh) (w':pM) (v:pN):Prop where
 le:Le g w g' w'
 slot:rH g' w' e.slot v
 heap:s5 g' w' (qS e.upd H)
 fr:Fr (sI g H (q9 e.upd)) w w' g.S g'.S
 perm: ∀i blk b o,i∈q9 e.upd->pY (qS e.upd H) i=some blk->rY g' i blk b o->w.heap.size<=b\/sI g H (q9 e.upd) b o
 gho: ∀i,i∉q9 e.upd->g'.J i=g.J i/\g'.cur i=g.cur i
 ty: ∀i u y us,pY (qS e.upd H) i=some (.cells u y us)->(∃x ts,pY H i=some (.cells u x ts))\/(g.J i=none/\∀n,g.cur i n=none)
structure zK (g:Gh) (w:pM) (H:rX) (e:qI) (g':Gh) (w':pM) (v:pN):Prop where
 le:Le g w g' w'
 slot:rH g' w' e.slot v
 heap:s5 g' w' (qS e.upd H)
 fr:Fr (sI g H (q9 e.upd)) w w' g.S g'.S
 perm: ∀i blk b o,i∈q9 e.upd->pY (qS e.upd H) i=some blk->rY g' i blk b o->w.heap.size<=b\/sI g H (q9 e.upd) b o
 gho: ∀i,i∉q9 e.upd->g'.J i=g.J i/\g'.cur i=g.cur i
 ty:HJ e.rds=false->∀i u y us,pY (qS e.upd H) i=some (.cells u y us)->(∃x ts,pY H i=some (.cells u x ts))\/(g.J i=none/\∀n,g.cur i n=none)
def rD.w {g:Gh}{w:pM}{H:rX}{e:qI}{g':Gh}{w':pM}{v:pN}(h:rD g w H e g' w' v):zK g w H e g' w' v:=⟨h.le,h.slot,h.heap,h.fr,h.perm,h.gho,fun _=>h.ty⟩
def KI {w:pM}{B:Nat}{e:TypeId}{c n:Nat}{v:pN}{xs:pI}(h:w.ownsRow B e c v n xs) {b:Nat}(hb:v.ownBlock=some b):b<w.heap.size:=(h.lt b hb).2
def UT {w:pM}{b o:Nat}{v:pN}(h:w.cell? ⟨b,o,none⟩=some v):b<w.heap.size:=by
 have:=World.block_lt_of_cell? w ⟨b,o,none⟩ h;exact this
def KJ {g:Gh}{w:pM}{i:Nat}{blk:pV}(h:zZ g w i blk) {b o:Nat}(ho:rY g i blk b o):b<w.heap.size:=by
 cases blk with
 |cells t x toks=>
  obtain⟨p,cs,hp,_,_,ht,_⟩:=h;obtain⟨q,hq,rfl,h1,h2⟩:=ho;rw[hp] at hq;obtain rfl:=aSG hq;have:=(ht.1 (o-p.2) pB).1;obtain⟨v,hv⟩:=aSF.1 this;exact UT hv
 |grow e c n=>
  obtain⟨v,xs,hv,hr,_⟩:=h;obtain⟨v',hv',hb⟩:=ho;rw[hv] at hv';obtain rfl:=aSG hv';exact KI hr hb
 |row e t l n=>
  obtain⟨_,v,xs,hv,hr,_⟩:=h;obtain⟨v',hv',hb⟩:=ho;rw[hv] at hv';obtain rfl:=aSG hv';exact KI hr hb
 |map k v l=>
  obtain⟨p,es,cl,hp,_,hh,_,_⟩:=h;obtain⟨q,hq,rfl⟩:=ho;rw[hp] at hq;obtain rfl:=aSG hq;exact(aS6.1 hh).1
 |iter s n=>
  obtain⟨p,hp,_,hh,_⟩:=h;obtain⟨q,hq,rfl⟩:=ho;rw[hp] at hq;obtain rfl:=aSG hq;exact(aS6.1 hh).1
 |dead=>exact ho.elim
def aAd {g g':Gh}(hc: ∀k n v,g.cur k n=some v->g'.cur k n=some v) {t:Ty}{x:t.den}{cs:pI}{toks:pG}(h:FZ g t x cs toks):FZ g' t x cs toks:=
 fun o k hm=>let ⟨u,l,v,h1,h2,h3⟩:=h o k hm;⟨u,l,v,h1,h2,hc _ _ _ h3⟩
def HZ {g g':Gh}{w w':pM}{i:Nat}{blk:pV}(h:zZ g w i blk) (le:Le g w g' w') (hJ:g'.J i=g.J i) (hcur:g'.cur i=g.cur i)
  (hc: ∀b o,rY g i blk b o->w'.cell? ⟨b,o,none⟩=w.cell? ⟨b,o,none⟩/\w'.frozen? ⟨b,o,none⟩=w.frozen? ⟨b,o,none⟩)
  (hb: ∀b,(∀o,rY g i blk b o)->w'.heap[b]? =w.heap[b]?) (hS: ∀b o,rY g i blk b o->g'.S b o->g.S b o) (hsh: ∀b o s,rY g i blk b o->w.shape? b=some s->w'.shape? b=some s):zZ g' w' i blk:=by
 cases blk with
 |cells t x toks=>
  obtain⟨p,cs,hp,hr,hra,ht,hs,htk⟩:=h;have ho: ∀j,j<t.cells->rY g i (.cells t x toks) p.1 (p.2+j):=fun j hj=>⟨p,hp,rfl,pB,pB⟩;refine⟨p,cs,hJ.trans hp,w8 le hr,fun j v hv=>?_,⟨fun j hj=>?_,fun h0 s hs3=>hsh _ _ _ (ho 0 h0) (ht.2 h0 s hs3)⟩,fun j hj hs'=>hs j hj (hS _ _ (ho j hj) hs'),aAd le.cur htk⟩
  .have hj:j<t.cells:=sJ hr▸(aSR.1 hv).1;rw[(hc _ _ (ho j hj)).1];exact hra j v hv
  .rw[(hc _ _ (ho j hj)).1,(hc _ _ (ho j hj)).2];exact ht.1 j hj
 |grow e c n=>
  obtain⟨v,xs,hv,hr,hn,hs⟩:=h;have hbl: ∀b,v.ownBlock=some b->∀o,rY g i (.grow e c n) b o:=fun b hb o=>⟨v,hv,hb⟩;refine⟨v,xs,by rw[hcur];exact hv,⟨hr.1,?_⟩,fun m hm=>by rw[hcur];exact hn m hm,fun b hvb o hs'=>hs b hvb o (hS _ _ (hbl b hvb o) hs')⟩;rcases hr.2 with h0|⟨q,cap,cur,e1,e2,e3,e4⟩
  .exact .inl h0
  .subst e1;exact .inr ⟨q,cap,cur,rfl,e2,by rw[hb q (hbl q rfl)];exact e3,e4⟩
 |row e t l n=>
  obtain⟨hl,v,xs,hv,hr,hF,hn,hs⟩:=h;have hbl: ∀b,v.ownBlock=some b->∀o,rY g i (.row e t l n) b o:=fun b hb o=>⟨v,hv,hb⟩;refine⟨hl,v,xs,by rw[hcur];exact hv,⟨hr.1,?_⟩,C8 (fun _ _ h=>w8 le h) hF,fun m hm=>by rw[hcur];exact hn m hm,fun b hvb o hs'=>hs b hvb o (hS _ _ (hbl b hvb o) hs')⟩;rcases hr.2 with h0|⟨q,cap,cur,e1,e2,e3,e4⟩
  .exact .inl h0
  .subst e1;exact .inr ⟨q,cap,cur,rfl,e2,by rw[hb q (hbl q rfl)];exact e3,e4⟩
 |map k v l=>
  obtain⟨p,es,cl,hp,h0,hh,hM,hs⟩:=h;have hbl: ∀o,rY g i (.map k v l) p.1 o:=fun o=>⟨p,hp,rfl⟩;exact⟨p,es,cl,hJ.trans hp,h0,(hb _ hbl).trans hh,a0c le hM,fun o hs'=>hs o (hS _ _ (hbl o) hs')⟩
 |iter s n=>
  obtain⟨p,hp,h0,hh,hs⟩:=h;have hbl: ∀o,rY g i (.iter s n) p.1 o:=fun o=>⟨p,hp,rfl⟩;exact⟨p,hJ.trans hp,h0,(hb _ hbl).trans hh,fun o hs'=>hs o (hS _ _ (hbl o) hs')⟩
 |dead=>trivial
def wU {g g':Gh}{i:Nat}{blk:pV}(hJ:g'.J i=g.J i) (hcur:g'.cur i=g.cur i) {b o:Nat}:rY g' i blk b o↔rY g i blk b o:=by
 cases blk<;>simp [rY,hJ,hcur]
def A0 {i:Nat}: ∀{u:List (Nat×pV)}{H:rX},i∉q9 u->pY (qS u H) i=pY H i
 |[],_,_=>rfl
 |(k,b)::r,H,h=>by
  simp only[q9,aSP,not_or] at h;simp only[qS,pY];rw[aSD (Ne.symm h.1)];exact A0 h.2
def s5.upd {g g':Gh}{w w':pM}{H:rX}{u:List (Nat×pV)}(h:s5 g w H) (le:Le g w g' w') (fr:Fr (sI g H (q9 u)) w w' g.S g'.S)
  (perm: ∀i blk b o,i∈q9 u->pY (qS u H) i=some blk->rY g' i blk b o->w.heap.size<=b\/sI g H (q9 u) b o)
  (gho: ∀i,i∉q9 u->g'.J i=g.J i/\g'.cur i=g.cur i)
  (hb: ∀i blk,i∈q9 u->pY (qS u H) i=some blk->zZ g' w' i blk)
  (hd: ∀i j bi bj b o,i∈q9 u->j∈q9 u->i≠j->pY (qS u H) i=some bi->pY (qS u H) j=some bj->rY g' i bi b o->rY g' j bj b o->False)
  (sl: ∀b o,g'.S b o->b<w'.heap.size):s5 g' w' (qS u H):=by
 have out: ∀i blk,i∉q9 u->pY H i=some blk->∀b o,rY g i blk b o->b<w.heap.size/\¬sI g H (q9 u) b o:=fun i blk hi hg b o ho=>
  ⟨KJ (h.blk i blk hg) ho,fun⟨j,bj,hj,hgj,hoj⟩=>h.dis i j blk bj b o (fun e=>hi (e▸hj)) hg hgj ho hoj⟩
 refine⟨fun i blk hg=>?_,fun i j bi bj b o hij hgi hgj hoi hoj=>?_,sl,HI h.tab.1 fr.size (fun b hb=>fr.blk b (aTd hb h.tab.1.1) (fun o ⟨j,bj,_,k1,k2⟩=>Nat.not_lt.2 (h.tab.2 j bj b o k1 k2) hb)),fun i blk b o hg ho=>?_⟩
 rotate_right
 .by_cases hi:i∈q9 u
  .rcases perm i blk b o hi hg ho with h1|⟨j,bj,_,k1,k2⟩
   .exact aTA h.tab.1.1 h1
   exact h.tab.2 j bj b o k1 k2
  exact h.tab.2 i blk b o ((A0 hi).symm.trans hg) ((wU (gho i hi).1 (gho i hi).2).1 ho)
 .by_cases hi:i∈q9 u
  .exact hb i blk hi hg
  have hg0:=(A0 hi).symm.trans hg;have hk:=gho i hi;refine HZ (h.blk i blk hg0) le hk.1 hk.2 (fun b o ho=>?_) (fun b ho=>?_) (fun b o ho hs=>?_) (fun b o s ho hs=>(fr.shape b s hs).resolve_right fun h1=>(out i blk hi hg0 b o ho).2 (h1 o))
  .exact fr.cell b o (out i blk hi hg0 b o ho).1 (out i blk hi hg0 b o ho).2
  .exact fr.blk b (out i blk hi hg0 b 0 (ho 0)).1 (fun o=>(out i blk hi hg0 b o (ho o)).2)
  rcases fr.new b o hs with h1|h1|h1
  .exact h1
  .have:=(out i blk hi hg0 b o ho).1;omega
  exact absurd h1 (out i blk hi hg0 b o ho).2
 by_cases hi:i∈q9 u<;>by_cases hj:j∈q9 u
 .exact hd i j bi bj b o hi hj hij hgi hgj hoi hoj
 .have hg0:=(A0 hj).symm.trans hgj;have ho0:=(wU (gho j hj).1 (gho j hj).2).1 hoj;rcases perm i bi b o hi hgi hoi with h1|h1
  .have:=(out j bj hj hg0 b o ho0).1;omega
  exact(out j bj hj hg0 b o ho0).2 h1
 .have hg0:=(A0 hi).symm.trans hgi;have ho0:=(wU (gho i hi).1 (gho i hi).2).1 hoi;rcases perm j bj b o hj hgj hoj with h1|h1
  .have:=(out i bi hi hg0 b o ho0).1;omega
  exact(out i bi hi hg0 b o ho0).2 h1
 exact h.dis i j bi bj b o hij ((A0 hi).symm.trans hgi) ((A0 hj).symm.trans hgj) ((wU (gho i hi).1 (gho i hi).2).1 hoi) ((wU (gho j hj).1 (gho j hj).2).1 hoj)
def rD.pure {g:Gh}{w:pM}{H:rX}{side:List Prop}{s:pW}{rds:pL}{v:pN}(h:s5 g w H) (hs:rH g w s v):rD g w H ⟨side,s,[],rds⟩ g w v:=
 ⟨.refl _ _,hs,h,.refl _ _ _,fun _ _ _ _ hi=>(by cases hi),fun _ _=>⟨rfl,rfl⟩,fun _ _ y us h=> .inl ⟨y,us,h⟩⟩
def zK.pure {g:Gh}{w:pM}{H:rX}{side:List Prop}{s:pW}{rds:pL}{v:pN}(h:s5 g w H) (hs:rH g w s v):zK g w H ⟨side,s,[],rds⟩ g w v:=(rD.pure h hs).w
def KK {α:Type}: ∀(l m n:List α),qS (qS l m) n=qS l (qS m n)
 |[],_,_=>rfl
 |x::l,m,n=>by simp only[qS,KK l m n]
def C9 {i:Nat}: ∀{l m:List (Nat×pV)},i∈q9 (qS l m)↔i∈q9 l\/i∈q9 m
 |[],m=>by simp [qS,q9]
 |(k,b)::l,m=>by simp only[qS,q9,aSP,C9 (l:=l),or_assoc]
def rD.trans {g:Gh}{w:pM}{H:rX}{e1 e2:qI}{g1 g2:Gh}{w1 w2:pM}{v1 v2:pN}{side:List Prop}{rds:pL}(h:rD g w H e1 g1 w1 v1) (k:rD g1 w1 (qS e1.upd H) e2 g2 w2 v2):rD g w H ⟨side,e2.slot,qS e2.upd e1.upd,rds⟩ g2 w2 v2:=by
 have hB: ∀b o,sI g1 (qS e1.upd H) (q9 e2.upd) b o->w.heap.size<=b\/sI g H (q9 (qS e2.upd e1.upd)) b o:=by
  rintro b o ⟨i,blk,hi,hg,ho⟩;by_cases h1:i∈q9 e1.upd
  .refine(h.perm i blk b o h1 hg ho).imp id fun⟨j,bj,hj,q⟩=>⟨j,bj,C9.2 (.inr hj),q⟩
  exact .inr ⟨i,blk,C9.2 (.inl hi),(A0 h1).symm.trans hg,(wU (h.gho i h1).1 (h.gho i h1).2).1 ho⟩
 have mono: ∀b o,sI g H (q9 e1.upd) b o->sI g H (q9 (qS e2.upd e1.upd)) b o:=fun b o ⟨j,bj,hj,q⟩=>⟨j,bj,C9.2 (.inr hj),q⟩;refine⟨h.le.trans k.le,k.slot,by simp only[KK];exact k.heap,?_,fun i blk b o hi hg ho=>?_,fun i hi=>?_,fun i u y us hg=>?_⟩
 .have h1:Fr (sI g H (q9 (qS e2.upd e1.upd))) w w1 g.S g1.S:=⟨h.fr.os,h.fr.tape,h.fr.output,h.fr.size,fun b hb hn=>h.fr.blk b hb (fun o ho=>hn o (mono b o ho)),fun b o hb hn=>h.fr.cell b o hb (fun ho=>hn (mono b o ho)),fun b o hs=>(h.fr.new b o hs).imp id (Or.imp id (mono b o)),fun b s hs=>(h.fr.shape b s hs).imp id fun h o=>mono b o (h o)⟩;exact h1.trans k.fr hB
 .simp only[KK] at hg;by_cases h2:i∈q9 e2.upd
  .rcases k.perm i blk b o h2 hg ho with h3|h3
   .exact .inl (aTA h.fr.size h3)
   exact hB b o h3
  have hi1:i∈q9 e1.upd:=(C9.1 hi).resolve_left h2;rw[A0 h2] at hg;exact(h.perm i blk b o hi1 hg ((wU (k.gho i h2).1 (k.gho i h2).2).1 ho)).imp id (mono b o)
 .have h2:i∉q9 e2.upd:=fun q=>hi (C9.2 (.inl q));have h1:i∉q9 e1.upd:=fun q=>hi (C9.2 (.inr q));exact⟨(k.gho i h2).1.trans (h.gho i h1).1,(k.gho i h2).2.trans (h.gho i h1).2⟩
 simp only[KK] at hg;rcases k.ty i u y us hg with⟨x,ts,h3⟩ |⟨h3,h4⟩
 .exact h.ty i u x ts h3
 right;refine⟨?_,fun n=>?_⟩
 .cases hj:g.J i with
  |none=>rfl
  |some p=>rw[h.le.J i p hj] at h3;cases h3
 cases hj:g.cur i n with
 |none=>rfl
 |some p=>rw[<-h4 n,h.le.cur i n p hj]
def rD.congrH {g:Gh}{w:pM}{H H':rX}{e:qI}{g':Gh}{w':pM}{v:pN}(h:rD g w H e g' w' v) (hH:H=H'):rD g w H' e g' w' v:=hH▸h
def G0 {α:Type}{x:α}: ∀{l m:List α},x∈qS l m↔x∈l\/x∈m
 |[],m=>by simp [qS]
 |y::l,m=>by simp only[qS,aSP,G0 (l:=l),or_assoc]
def rD.slot' {g:Gh}{w:pM}{H:rX}{sd sd2:List Prop}{s s2:pW}{U:List (Nat×pV)}{r r2:pL}{g':Gh}{w':pM}{v v2:pN}(h:rD g w H ⟨sd,s,U,r⟩ g' w' v) (hs:rH g' w' s2 v2):rD g w H ⟨sd2,s2,U,r2⟩ g' w' v2:=
 ⟨h.le,hs,h.heap,h.fr,h.perm,h.gho,h.ty⟩
def s5.ext0 {g:Gh}{w:pM}{H H':rX}(h:s5 g w H) (e: ∀i,pY H i=pY H' i):s5 g w H':=
 ⟨fun i b hb=>h.blk i b (by rw[e];exact hb),fun i j bi bj b o hij h1 h2=>h.dis i j bi bj b o hij (by rw[e];exact h1) (by rw[e];exact h2),h.sl,h.tab.1,fun i b bb oo hb ho=>h.tab.2 i b bb oo (by rw[e];exact hb) ho⟩
def rD.more {g:Gh}{w:pM}{H:rX}{sd sd2:List Prop}{s:pW}{U U2:List (Nat×pV)}{r r2:pL}{g':Gh}{w':pM}{v:pN}(h:rD g w H ⟨sd,s,U,r⟩ g' w' v) (hg: ∀i,pY (qS U2 H) i=pY (qS U H) i) (hm: ∀i,i∈q9 U->i∈q9 U2):rD g w H ⟨sd2,s,U2,r2⟩ g' w' v:=by
 have mono: ∀b o,sI g H (q9 U) b o->sI g H (q9 U2) b o:=fun b o ⟨j,bj,hj,q⟩=>⟨j,bj,hm j hj,q⟩;refine⟨h.le,h.slot,h.heap.ext0 (fun i=>(hg i).symm),⟨h.fr.os,h.fr.tape,h.fr.output,h.fr.size,fun b hb hn=>h.fr.blk b hb (fun o ho=>hn o (mono b o ho)),fun b o hb hn=>h.fr.cell b o hb (fun ho=>hn (mono b o ho)),fun b o hs=>(h.fr.new b o hs).imp id (Or.imp id (mono b o)),fun b s hs=>(h.fr.shape b s hs).imp id fun h o=>mono b o (h o)⟩,fun i blk b o hi hg2 ho=>?_,fun i hi=>h.gho i (fun q=>hi (hm i q)),fun i u y us hg2=>h.ty i u y us ((hg i).symm.trans hg2)⟩;rw[hg] at hg2;by_cases h1:i∈q9 U
 .exact(h.perm i blk b o h1 hg2 ho).imp id (mono b o)
 exact .inr ⟨i,blk,hi,(A0 h1).symm.trans hg2,(wU (h.gho i h1).1 (h.gho i h1).2).1 ho⟩
def tY:Ty->pI
 | .bool=>[.bool false]
 | .int k=>[.int k 0]
 | .str=>[.string ⟨#[]⟩]
 | .list _=>[.slice none 0 0]
 | .unit=>[]
 | .pair a b=>tY a++tY b
 | .ref=>[.pointer none]
 | .clo=>[.nilFunc]
 | .mp=>[.map none]
 | .rl _ _=>[.slice none 0 0]
 | .fn=>[.nilFunc]
 | .mref=>[.pointer none]
 | .ap=>[.nilFunc]
def xN (t:Ty):pN:=if t.isRow then .agg (tY t).toArray else(tY t).headD undef
def N6 (P:Program):Ty->Nat->List Field->Prop
 | .unit,_,[]=>True
 | .pair a b,o,f::r=>f.offset=o/\(P.info? f.type).map (·.size)=some a.cells/\(P.underlying f.type).map (·.isRow)=some a.isRow/\N6 P b (o+a.cells) r
 |_,_,_=>False
def Q3 (P:Program) (e:TypeId):Ty->Nat->Prop
 | .unit,0=>True
 | .pair a b,n+1=>(P.info? e).map (·.size)=some a.cells/\(P.underlying e).map (·.isRow)=some a.isRow/\Q3 P e b n
 |_,_=>False
inductive a0e where
 |ty (t:TypeId) |fs (o:Nat) (l:List Field) |el (e:TypeId) (i m:Nat)
inductive yI (P:Program):Nat->a0e->Ty->Prop
 |bool {h t}:P.underlying t=some .bool->yI P h (.ty t) .bool
 |int {h t k}:P.underlying t=some (.int k)->yI P h (.ty t) (.int k)
 |str {h t}:P.underlying t=some .string->yI P h (.ty t) .str
 |struct {h t fs ty}:ty.isRow=true->P.underlying t=some (.struct fs)->P.stoodInHeld t=false->yI P h (.fs 0 fs.toList) ty->yI P (h+1) (.ty t) ty
 |arr {h t e n ty}:ty.isRow=true->P.underlying t=some (.array n e)->(P.info? e).isSome=true->yI P h (.el e 0 n) ty->yI P (h+1) (.ty t) ty
 |nil {h o}:yI P h (.fs o []) .unit
 |cons {h o}{f:Field}{r a b}:f.name≠ "_" ->f.offset=o->(P.info? f.type).map (·.size)=some a.cells->(P.underlying f.type).map (·.isRow)=some a.isRow->yI P h (.ty f.type) a->yI P h (.fs (o+a.cells) r) b->yI P h (.fs o (f::r)) (.pair a b)
 |anil {h e i}:yI P h (.el e i 0) .unit
 |acons {h e i m a b}:(P.info? e).map (·.size)=some a.cells->(P.underlying e).map (·.isRow)=some a.isRow->yI P h (.ty e) a->yI P h (.el e (i+1) m) b->yI P h (.el e i (m+1)) (.pair a b)
def aAe (P:Program):Prop:=
 (∀(w:pM) (p:Option Addr),Calls P HH #[.pointer p] w fun e w'=> ∃b,e= .returned (.func (.func HG) #[] #[.pointer (some ⟨b,0,none⟩)])/\w.heap.size<=b/\b<w'.heap.size/\w'.cell? ⟨b,0,none⟩=some (.pointer p)/\Below w.heap.size w w')/\
 (∀args w,(callFunc HH args).run P w= .ok (.enter HH args) w)/\(∀args w,(callFunc HG args).run P w= .ok (.enter HG args) w)/\
 ∀(w:pM) (b:Nat) (α:Addr) (y s:p7) (ok:Bool),w.cell? ⟨b,0,none⟩=some (.pointer (some α))->w.cell? α=some (.string ⟨y.toArray⟩)->w.frozen? α=false->α.spot=none->((y++s).length:Int)<=9223372036854775807->
  (∀w1,Below w.heap.size w w1->Calls P FO #[.string ⟨(y++s).toArray⟩] w1 fun e w'=>e= .returned (.bool ok)/\Below w1.heap.size w1 w')->
  Calls P HG #[.string ⟨s.toArray⟩,.pointer (some ⟨b,0,none⟩)] w fun e w'=>e= .returned (.bool ok)/\∃w1,Below w.heap.size w w1/\w'=if ok=true then w1.setCells α.block α.off [.string ⟨(y++s).toArray⟩] else w1
def wV (P:Program) (t:TypeId) (ti:TI):Prop:=
 match ti.ty with
 | .bool=>P.underlying t=some .bool
 | .int k=>P.underlying t=some (.int k)
 | .str=>P.underlying t=some .string
 | .ref=> ∃e,P.underlying t=some (.pointer e)
 | .clo=> ∃a b c,P.underlying t=some (.func a b c)
 | .mp=>P.underlying t=some (.map ti.elem ti.bytes)
 | .rl _ _=> ∃e,P.underlying t=some (.slice e)
 | .fn=> ∃a b c,P.underlying t=some (.func a b c)
 | .mref=> ∃e,P.underlying t=some (.pointer e)
 | .ap=>(∃a b c,P.underlying t=some (.func a b c))/\aAe P
 | .list u=>P.underlying t=some (.slice ti.elem)/\(P.info? ti.elem).map (fun i=>(i.size,i.bytes,i.zero))=some (u.cells,ti.bytes,some (xN u))/\(P.underlying ti.elem).map (·.isRow)=some u.isRow
 |ty=>((ti.arr=false/\∃fs,P.underlying t=some (.struct fs)/\N6 P ty 0 fs.toList)\/(ti.arr=true/\∃n e,P.underlying t=some (.array n e)/\Q3 P e ty n/\(P.info? e).isSome=true))/\(ti.bytes=1->P.eqGuardType P.depth t=false/\∃h,h<9000/\yI P h (.ty t) ty)
def sU (P:Program) (t:TypeId) (ti:TI):Prop:=(P.info? t).map (fun i=>(i.size,i.zero))=some (ti.ty.cells,some (xN ti.ty))/\wV P t ti
def wW (P:Program):sG->Prop
 |[]=>True
 |(t,ti)::r=>sU P t ti/\wW P r
theorem sP {P:Program}: ∀{T:sG},wW P T->∀{t:TypeId}{ti:TI},rO T t=some ti->sU P t ti
 |[],_,_,_,h=>by simp [rO] at h
 |(k,ti)::r,hT,t,ti',h=>by
  simp only[rO] at h;by_cases hk:k=t
  .rw[aSB hk] at h;subst hk;rw[<-aSG h];exact hT.1
  rw[aSD hk] at h;exact sP hT.2 h
theorem DE (g:Gh) (w:pM): ∀t:Ty,Rd g w t t.zero (tY t)
 | .bool=>rfl
 | .int _=>rfl
 | .str=>rfl
 | .list _=>⟨none,0,rfl,aSW _,.inl rfl⟩
 | .unit=>rfl
 | .pair a b=>⟨_,_,rfl,DE g w a,DE g w b⟩
 | .ref=>rfl
 | .clo=>rfl
 | .mp=>rfl
 | .rl _ _=>rfl
 | .fn=>rfl
 | .mref=>rfl
 | .ap=> .inl ⟨rfl,rfl⟩
theorem KL (g:Gh) (w:pM) (t:Ty):sW g w t t.zero (xN t):=by
 unfold sW xN;by_cases h:t.isRow=true
 .left;rw[aSB h];exact⟨h,_,rfl,DE g w t⟩
 right;rw[aSD h];refine⟨by simpa using h,?_⟩;cases t<;>first|exact DE g w _|(simp [Ty.isRow] at h)
theorem ET {g:Gh}{w:pM}{t:Ty}{x:t.den}{v:pN}(h:sW g w t x v):Rd g w t x v.cells.toList:=by
 rcases h with⟨_,cs,rfl,r⟩ |⟨hr,r⟩
 .simpa[Value.cells] using r
 have h1:=zY r v pD;have:v.cells= #[v]:=by cases v<;>first|rfl|(simp [Value.oneCell'] at h1)
 rw[this];exact r
theorem wX {g:Gh}{w:pM}{t:Ty}{x:t.den}{v:pN}(hr:t.isRow=false) (h:sW g w t x v):Rd g w t x [v]:=by
 rcases h with⟨h1,_⟩ |⟨_,r⟩
 .rw[hr] at h1;cases h1
 exact r
theorem wC {g:Gh}{w:pM}{k:IntKind}{n:Int}{v:pN}(h:sW g w (.int k) n v):v= .int k n:=by
 have:=wX rfl h;simp only[Rd,aTk,and_true] at this;exact this
theorem vB {g:Gh}{w:pM}{n:Bool}{v:pN}(h:sW g w .bool n v):v= .bool n:=by
 have:=wX rfl h;simp only[Rd,aTk,and_true] at this;exact this
theorem wY {g:Gh}{w:pM}{l:p7}{v:pN}(h:sW g w .str l v):v= .string ⟨l.toArray⟩:=by
 have:=wX rfl h;simp only[Rd,aTk,and_true] at this;exact this
theorem EU {g:Gh}{w:pM}{t:Ty}{l:List t.den}{v:pN}(h:sW g w (.list t) l v): ∃a cap,v= .slice a l.length cap/\l.length<=cap/\(l=[]\/∃b o,a=some ⟨b,o,none⟩/\yG (Rd g w t) w g.S t.cells b o l):=by
 have:=wX rfl h;obtain⟨a,cap,e,h1,h2⟩:=this;simp only[aTk,and_true] at e;exact⟨a,cap,e,h1,h2⟩
theorem wZ {g:Gh}{w:pM}{i o:Nat}{v:pN}(h:sW g w .ref (some (i,o)) v): ∃p,g.J i=some p/\v= .pointer (some ⟨p.1,p.2+o,none⟩):=by
 have:=wX rfl h;obtain⟨p,h1,e⟩:=this;simp only[aTk,and_true] at e;exact⟨p,h1,e⟩
theorem KM {g:Gh}{w:pM}{t:Ty}{x:t.den}{v:pN}(hr:t.isRow=true) (h:sW g w t x v): ∃cs:pI,v= .agg cs.toArray/\Rd g w t x cs:=by
 rcases h with⟨_,r⟩ |⟨h1,_⟩
 .exact r
 rw[hr] at h1;cases h1
theorem w9 (g:Gh) (w:pM) (k:IntKind) (n:Int):sW g w (.int k) n (.int k n):= .inr ⟨rfl,rfl⟩
theorem vC (g:Gh) (w:pM) (b:Bool):sW g w .bool b (.bool b):= .inr ⟨rfl,rfl⟩
theorem KN (g:Gh) (w:pM) (l:p7):sW g w .str l (.string ⟨l.toArray⟩):= .inr ⟨rfl,rfl⟩
def r8 (P:Program) (o:Oper) (a:Act) (g:Gh) (w:pM) (H:rX) (e:qI):Prop:=
 ∀(K:Act->pM->Prop) (Q:Exit->Act->pM->Prop),(∀g' w' v,zK g w H e g' w' v->K (a.put o.dst v) w')->o.wp P a w K Q
theorem r8.valueW {P:Program}{o:Oper}{a:Act}{g g':Gh}{w w':pM}{H:rX}{e:qI}{v:pN}(hr:(execOp a.eval o).run P w= .ok (.value v) w') (h:zK g w H e g' w' v):r8 P o a g w H e:=by
 intro K Q hK;unfold Oper.wp;rw[hr];exact hK g' w' v h
theorem r8.skipW {P:Program}{o:Oper}{a:Act}{g g':Gh}{w w':pM}{H:rX}{e:qI}(hr:(execOp a.eval o).run P w= .ok .skip w') (h:zK g w H e g' w' undef):r8 P o a g w H e:=by
 intro K Q hK;unfold Oper.wp;rw[hr];exact hK g' w' undef h
theorem r8.value {P:Program}{o:Oper}{a:Act}{g g':Gh}{w w':pM}{H:rX}{e:qI}{v:pN}(hr:(execOp a.eval o).run P w= .ok (.value v) w') (h:rD g w H e g' w' v):r8 P o a g w H e:= .valueW hr h.w
theorem r8.skip {P:Program}{o:Oper}{a:Act}{g g':Gh}{w w':pM}{H:rX}{e:qI}(hr:(execOp a.eval o).run P w= .ok .skip w') (h:rD g w H e g' w' undef):r8 P o a g w H e:= .skipW hr h.w
theorem r8.pure {P:Program}{o:Oper}{a:Act}{g:Gh}{w:pM}{H:rX}{side:List Prop}{d:DV}{rds:pL}{v:pN}(hH:s5 g w H) (hr:(execOp a.eval o).run P w= .ok (.value v) w) (h:yH g w d v):
  r8 P o a g w H ⟨side,(d,none),[],rds⟩:= .value hr (.pure hH ⟨h,trivial⟩)
section
variable {P:Program}{o:Oper}{a:Act}{g:Gh}{w:pM}{H:rX}
theorem UU {g:Gh}{w:pM}{k:IntKind}(q:Int) (hq: ∀p∈(JQ k q).1,p):yH g w (JQ k q).2 (.int k (k.wrap q)):=by
 cases k<;>simp only[JQ] at hq|- <;>first|exact w9 _ _ _ _|skip
 have h0:=hq _ (aST.2 rfl);rw[show IntKind.i64.wrap q=q from IntWalk.i64_in q pB];exact w9 _ _ _ _
theorem aI7 (g:Gh) {op:BinOp}{xt:TypeId}{x y:Operand}{k:IntKind}{m n:Int}{r:List Prop×DV}(hr:Y7 k m n op=some r) (hs: ∀p∈r.1,p):
  ∃v,(do eqGuard op xt x y (.int k m) (.int k n);Go.binOp op xt (.int k m) (.int k n):Sem pN).run P w= .ok v w/\yH g w r.2 v:=by
 cases op<;>simp only[Y7,aSC,reduceCtorEq] at hr
 all_goals subst hr
 case add=>exact⟨.int k (k.wrap _),by simp [eqGuard,Go.binOp,Op.intArith],UU _ hs⟩
 case sub=>exact⟨.int k (k.wrap _),by simp [eqGuard,Go.binOp,Op.intArith],UU _ hs⟩
 case mul=>exact⟨.int k (k.wrap _),by simp [eqGuard,Go.binOp,Op.intArith],UU _ hs⟩
 case eql=>exact⟨.bool (decide (m=n)),by simp [eqGuard,Go.binOp,Op.intCmp];rfl,vC _ _ _⟩
 case neq=>exact⟨.bool (!decide (m=n)),by simp [eqGuard,Go.binOp,Op.intCmp,bne];rfl,vC _ _ _⟩
 case lss=>exact⟨.bool (decide _),by simp [eqGuard,Go.binOp,Op.intCmp],vC _ _ _⟩
 case leq=>exact⟨.bool (decide _),by simp [eqGuard,Go.binOp,Op.intCmp],vC _ _ _⟩
 case gtr=>exact⟨.bool (decide (n<m)),by simp [eqGuard,Go.binOp,Op.intCmp],vC _ _ _⟩
 case geq=>exact⟨.bool (decide (n<=m)),by simp [eqGuard,Go.binOp,Op.intCmp],vC _ _ _⟩
 case quo=>
  have h0:=hs _ (aST.2 rfl);exact⟨.int k (k.wrap (Int.tdiv m n)),by simp [eqGuard,Go.binOp,Op.intDiv,h0],w9 _ _ _ _⟩
 case rem=>
  have h0:=hs _ (aST.2 rfl);exact⟨.int k (Int.tmod m n),by simp [eqGuard,Go.binOp,Op.intDiv,h0],w9 _ _ _ _⟩
 case and=>exact⟨.int k (bits .and k m n),by simp [eqGuard,Go.binOp,intBits_and],w9 _ _ _ _⟩
 case or=>exact⟨.int k (bits .or k m n),by simp [eqGuard,Go.binOp,intBits_or],w9 _ _ _ _⟩
 case xor=>exact⟨.int k (bits .xor k m n),by simp [eqGuard,Go.binOp,intBits_xor],w9 _ _ _ _⟩
 case andNot=>exact⟨.int k (bits .andNot k m n),by simp [eqGuard,Go.binOp,intBits_andNot],w9 _ _ _ _⟩
theorem Q4 (m n:p7):(m==n)=decide (m=n):=by rw[aUf];simp
theorem aI8 (g:Gh) {op:BinOp}{xt:TypeId}{x y:Operand}{m n:p7}{r:List Prop×DV}(hr:Y9 m n op=some r) (hs: ∀p∈r.1,p):
  ∃v,(do eqGuard op xt x y (.string ⟨m.toArray⟩) (.string ⟨n.toArray⟩);Go.binOp op xt (.string ⟨m.toArray⟩) (.string ⟨n.toArray⟩):Sem pN).run P w= .ok v w/\yH g w r.2 v:=by
 have hl: ∀l:p7,(⟨l.toArray⟩:ByteArray).size=l.length:=fun l=>by simp [ByteArray.size]
 cases op<;>simp only[Y9,aSC,reduceCtorEq] at hr
 all_goals subst hr
 case add=>
  have h0:=hs _ (aST.2 rfl);refine⟨.string ⟨(m++n).toArray⟩,?_,KN _ _ _⟩;rw[aSH] at h0;have h1: ¬(((⟨m.toArray⟩:ByteArray).size+(⟨n.toArray⟩:ByteArray).size:Nat):Int) >IntKind.i64.max:=by rw[hl,hl,show IntKind.i64.max=9223372036854775807 from by decide];omega
  simp only[eqGuard,Go.binOp,Op.stringOp,aSO,aSD h1];simp;rfl
 case eql=>exact⟨.bool (decide (m=n)),by simp [eqGuard,Go.binOp,Op.stringOp,Q4],vC _ _ _⟩
 case neq=>exact⟨.bool (!decide (m=n)),by simp [eqGuard,Go.binOp,Op.stringOp,Q4],vC _ _ _⟩
 case lss=>exact⟨.bool (Op.bytesLess m n),by simp [eqGuard,Go.binOp,Op.stringOp],vC _ _ _⟩
 case leq=>exact⟨.bool (Op.bytesLess m n||decide (m=n)),by simp [eqGuard,Go.binOp,Op.stringOp,Q4],vC _ _ _⟩
 case gtr=>exact⟨.bool (!(Op.bytesLess m n||decide (m=n))),by simp [eqGuard,Go.binOp,Op.stringOp,Q4],vC _ _ _⟩
 case geq=>exact⟨.bool (!Op.bytesLess m n),by simp [eqGuard,Go.binOp,Op.stringOp],vC _ _ _⟩
theorem I0 {r:Option (List Prop×DV)}{e:qI}(h:AF r=some e): ∃q,r=some q/\e=⟨q.1,(q.2,none),[],[]⟩:=by
 cases r with
 |none=>cases h
 |some q=>obtain⟨p,d⟩:=q;exact⟨(p,d),rfl,(aSG h).symm⟩
theorem aI9 (hH:s5 g w H) {op:BinOp}{xt yt:TypeId}{x y:Operand}(ho:o.op= .binOp op xt x y yt) {sx sy:pW}(hx:rH g w sx (a.eval x)) (hy:rH g w sy (a.eval y)) {e:qI}
  (hr:AF (SR op sx sy)=some e) (hs: ∀p∈e.side,p):r8 P o a g w H e:=by
 obtain⟨q,hq,rfl⟩:=I0 hr;have go: ∀{u v:pN},a.eval x=u->a.eval y=v->(∃z,(do eqGuard op xt x y u v;Go.binOp op xt u v:Sem pN).run P w= .ok z w/\yH g w q.2 z)->r8 P o a g w H ⟨q.1,(q.2,none),[],[]⟩:=by
  rintro u v rfl rfl ⟨z,hz,hd⟩;refine r8.pure hH (v:=z) ?_ hd;unfold execOp;rw[ho];simp only[aSO,aS1] at hz|-;rw[hz];rfl
 obtain⟨dx,kx⟩:=sx;obtain⟨dy,ky⟩:=sy;replace hx:=hx.1;replace hy:=hy.1;unfold SR at hq;split at hq
 .rename_i k m k1 k' n k2 e1 e2;simp only[aS7] at e1 e2;obtain⟨rfl,-⟩:=e1;obtain⟨rfl,-⟩:=e2;unfold a9j at hq;split at hq
  .cases hq;have h0:=hs _ (aST.2 rfl);exact go (wC hx) (wC hy) ⟨.int k (Y8 k m n),by simp [eqGuard,Go.binOp,Op.shift,Y8,Int.not_lt.2 h0],w9 _ _ _ _⟩
  .cases hq;have h0:=hs _ (aST.2 rfl);exact go (wC hx) (wC hy) ⟨.int k (xZ k m n),by simp [eqGuard,Go.binOp,Op.shift,xZ,Int.not_lt.2 h0],w9 _ _ _ _⟩
  by_cases hk:k=k'
  .subst hk;rw[aSB rfl] at hq;exact go (wC hx) (wC hy) (aI7 g hq hs)
  rw[aSD hk] at hq;cases hq
 .rename_i m k1 n k2 e1 e2;simp only[aS7] at e1 e2;obtain⟨rfl,-⟩:=e1;obtain⟨rfl,-⟩:=e2;exact go (wY hx) (wY hy) (aI8 g hq hs)
 cases hq
theorem aJa (hH:s5 g w H) {op:BinOp}{xt yt:TypeId}{x y:Operand}(ho:o.op= .binOp op xt x y yt) {ti:Option TI}{sx sy:pW}(hx:rH g w sx (a.eval x)) (hy:rH g w sy (a.eval y)) {e:qI}
  (hr:AF (SS op ti sx sy)=some e):r8 P o a g w H e:=by
 obtain⟨q,hq,rfl⟩:=I0 hr;unfold SS at hq;split at hq
 .rename_i k m _ k' n _;by_cases hk:k=k'
  .subst hk;rw[aSB rfl] at hq;have hx1:=wC hx.1;have hy1:=wC hy.1;cases op<;>simp only[a9k,aSC,reduceCtorEq] at hq
   all_goals subst hq
   all_goals refine r8.pure hH (v:= .int k (k.wrap _)) ?_ (w9 _ _ _ _)
   all_goals
    unfold execOp;rw[ho];simp [hx1,hy1,eqGuard,Go.binOp,Op.intArith]
  rw[aSD hk] at hq;cases hq
 cases hq
theorem aJb (hH:s5 g w H) {op:UnOp}{xt:TypeId}{x:Operand}(ho:o.op= .unOp op xt x) {sx:pW}(hx:rH g w sx (a.eval x)) {e:qI}
  (hr:AF (YC op sx)=some e) (hs: ∀p∈e.side,p):r8 P o a g w H e:=by
 obtain⟨q,hq,rfl⟩:=I0 hr;replace hx:=hx.1;unfold YC at hq;split at hq
 .have:=vB hx;cases hq;refine r8.pure hH (v:= .bool _) ?_ (vC _ _ _);simp [execOp,ho,this,Op.unary]
 .rename_i k n _;have:=wC hx;cases hq;refine r8.pure hH (v:= .int k (k.wrap (-n))) ?_ (UU _ hs);simp [execOp,ho,this,Op.unary,Op.intArith]
 cases hq
theorem UV {t:TypeId}{ti:TI}(h:sU P t ti): ∃d,P.underlying t=some d/\d.isRow=ti.ty.isRow:=by
 have h2:=h.2;unfold wV at h2;obtain⟨ty,el,by',ar,ls⟩:=ti;cases ty<;>simp only at h2
 case bool=>exact⟨_,h2,rfl⟩
 case int=>exact⟨_,h2,rfl⟩
 case str=>exact⟨_,h2,rfl⟩
 case list=>exact⟨_,h2.1,rfl⟩
 case ref=>obtain⟨e,h⟩:=h2;exact⟨_,h,rfl⟩
 case clo=>obtain⟨a,b,c,h⟩:=h2;exact⟨_,h,rfl⟩
 case mp=>exact⟨_,h2,rfl⟩
 case rl=>obtain⟨e,h⟩:=h2;exact⟨_,h,rfl⟩
 case fn=>obtain⟨a,b,c,h⟩:=h2;exact⟨_,h,rfl⟩
 case ap=>obtain⟨⟨a,b,c,h⟩,_⟩:=h2;exact⟨_,h,rfl⟩
 case mref=>obtain⟨e,h⟩:=h2;exact⟨_,h,rfl⟩
 all_goals
  rcases h2.1 with⟨_,fs,h,_⟩ |⟨_,n,e,h,_⟩
  .exact⟨_,h,rfl⟩
  exact⟨_,h,rfl⟩
theorem DF {t:TypeId}{ti:TI}(h:sU P t ti): ∃i,P.info? t=some i/\i.size=ti.ty.cells/\i.zero=some (xN ti.ty):=by
 obtain⟨i,hi,he⟩:=aSS.1 h.1;simp only[aS7] at he;exact⟨i,hi,he.1,he.2⟩
theorem aJc {T:sG}(hT:wW P T) (hH:s5 g w H) {st dt:TypeId}{x:Operand}(ho:o.op= .convert st dt x) {sx:pW}(hx:rH g w sx (a.eval x)) {e:qI}
  (hr:AF (SU (rO T st) (rO T dt) sx)=some e):r8 P o a g w H e:=by
 obtain⟨q,hq,rfl⟩:=I0 hr;replace hx:=hx.1;generalize hs:rO T st=os at hq;generalize hd:rO T dt=od at hq;unfold SU at hq;split at hq
 .rename_i k' k _ _ _ _ k0 n _;obtain⟨d,hd1,_⟩:=UV (sP hT hs);have hd2:=(sP hT hd).2;simp only[wV] at hd2;have:=wC hx;cases hq;refine r8.pure hH (v:= .int k (k.wrap n)) ?_ (w9 _ _ _ _);simp [execOp,ho,this,Go.convert,aSX hd1,aSX hd2,Conv.intToInt]
 .rename_i k' _ _ _ _ s _;obtain⟨d,hd1,_⟩:=UV (sP hT hs);have hd2:=(sP hT hd).2;simp only[wV] at hd2;have:=wY hx;cases hq;refine r8.pure hH (v:= .string ⟨List.toArray s⟩) ?_ (KN _ _ _);simp [execOp,ho,this,Go.convert,aSX hd1,aSX hd2]
 cases hq
theorem UW {α:Type}{R:α->pI->Prop}{w:pM}{S:Nat->Nat->Prop}{c b:Nat}: ∀{l:List α}{o i:Nat}{x:α},yG R w S c b o l->l[i]? =some x->
  ∃cs,cs.length=c/\w.rangeAt b (o+i*c) cs/\(∀j,j<c->S b (o+i*c+j))/\R x cs
 |y::l,o,0,x,⟨⟨cs,h1,h2,h3,h4⟩,_⟩,h=>by
  simp only[aTf,aSC] at h;subst h;exact⟨cs,h1,by simpa using h2,by simpa using h3,h4⟩
 |y::l,o,i+1,x,⟨_,h5⟩,h=>by
  simp only[aTp] at h;obtain⟨cs,h1,h2,h3,h4⟩:=UW h5 h;have e:o+c+i*c=o+(i+1)*c:=by rw[aTW];omega
  exact⟨cs,h1,by rw[<-e];exact h2,by rw[<-e];exact h3,h4⟩
theorem aAf {α:Type}{R:α->pI->Prop}{w:pM}{S:Nat->Nat->Prop}{c b:Nat}: ∀{l:List α}{o:Nat}(i:Nat),yG R w S c b o l->i<=l.length->yG R w S c b (o+i*c) (l.drop i)
 |_,o,0,h,_=>by simpa using h
 |[],o,i+1,_,h=>by simp at h
 |y::l,o,i+1,⟨_,h5⟩,h=>by
  have:=aAf i h5 (by simpa using h);have e:o+c+i*c=o+(i+1)*c:=by rw[aTW];omega
  rw[<-e];simpa using this
theorem aAg {α:Type}{R:α->pI->Prop}{w:pM}{S:Nat->Nat->Prop}{c b:Nat}: ∀{l:List α}{o:Nat}(i:Nat),yG R w S c b o l->yG R w S c b o (l.take i)
 |_,_,0,_=>by simp [yG]
 |[],_,_+1,_=>by simp [yG]
 |_::_,_,i+1,⟨h,h5⟩=>by simpa[yG] using⟨h,aAg i h5⟩
theorem a0f {g:Gh}{w:pM}: ∀{t:Ty}{x:t.den}{cs:pI}{f:Nat}{u:Ty}{y:u.den},Rd g w t x cs->t.proj x f=some ⟨u,y⟩->
  ∃o c1 c2 c3,t.offs f=some o/\t.fld f=some u/\cs=c1++c2++c3/\c1.length=o/\Rd g w u y c2:=by
 intro t
 induction t with
 |pair a b _ ihb=>
  intro x cs f u y r h;obtain⟨c1,c2,e,r1,r2⟩:=r;cases f with
  |zero=>
   simp only[Ty.proj,aSC,Sigma.mk.injEq] at h;obtain⟨rfl,h2⟩:=h;obtain rfl:=eq_of_heq h2;exact⟨0,[],c1,c2,rfl,rfl,by simpa using e,rfl,r1⟩
  |succ f=>
   simp only[Ty.proj] at h;obtain⟨o,d1,d2,d3,h1,h2,h3,h4,h5⟩:=ihb r2 h;refine⟨a.cells+o,c1++d1,d2,d3,by simp [Ty.offs,h1],by simpa[Ty.fld] using h2,by rw[e,h3];simp,?_,h5⟩;rw[aSH,h4,sJ r1]
 |_=>intro x cs f u y r h;cases f<;>simp [Ty.proj] at h
theorem a0g {P:Program}: ∀{ty:Ty}{off:Nat}{fs:List Field}{f o:Nat}{u:Ty},N6 P ty off fs->ty.offs f=some o->ty.fld f=some u->
  ∃fd,fs[f]? =some fd/\fd.offset=off+o/\(P.info? fd.type).map (·.size)=some u.cells/\(P.underlying fd.type).map (·.isRow)=some u.isRow:=by
 intro ty
 induction ty with
 |pair a b _ ihb=>
  intro off fs f o u h ho hu;cases fs with
  |nil=>exact h.elim
  |cons fd fs=>
   obtain⟨h1,h2,h3,h4⟩:=h;cases f with
   |zero=>
    simp only[Ty.offs,aSC] at ho;simp only[Ty.fld,aSC] at hu;subst ho;subst hu;exact⟨fd,rfl,pB,h2,h3⟩
   |succ f=>
    simp only[Ty.offs,aSS] at ho;obtain⟨o',ho',rfl⟩:=ho;obtain⟨fd',k1,k2,k3,k4⟩:=ihb h4 ho' hu;exact⟨fd',by simpa using k1,pB,k3,k4⟩
 |_=>intro off fs f o u h ho hu;cases f<;>simp [Ty.offs] at ho
theorem a0h {P:Program}{e:TypeId}: ∀{ty:Ty}{n f o:Nat}{u:Ty},Q3 P e ty n->ty.offs f=some o->ty.fld f=some u->
  f<n/\(P.info? e).map (·.size)=some u.cells/\(P.underlying e).map (·.isRow)=some u.isRow/\o=f*u.cells:=by
 intro ty
 induction ty with
 |pair a b _ ihb=>
  intro n f o u h ho hu;cases n with
  |zero=>exact h.elim
  |succ n=>
   obtain⟨h2,h3,h4⟩:=h;cases f with
   |zero=>
    simp only[Ty.offs,aSC] at ho;simp only[Ty.fld,aSC] at hu;subst ho;subst hu;exact⟨pB,h2,h3,by simp⟩
   |succ f=>
    simp only[Ty.offs,aSS] at ho;obtain⟨o',ho',rfl⟩:=ho;obtain⟨k1,k2,k3,k4⟩:=ihb h4 ho' hu;rw[h2] at k2;have hc:a.cells=u.cells:=aSG k2;exact⟨pB,by rw[h2,hc],k3,by rw[k4,hc,aTW];omega⟩
 |_=>intro n f o u h ho hu;cases f<;>simp [Ty.offs] at ho
theorem Q5 {t:TypeId}{u:Ty}(hi:(P.info? t).map (·.size)=some u.cells) (hr:(P.underlying t).map (·.isRow)=some u.isRow) {y:u.den}{c1 c2 c3:pI}(h:Rd g w u y c2):
  ∃v,(part t (c1++c2++c3).toArray c1.length).run P w= .ok v w/\sW g w u y v:=by
 obtain⟨i,hi,hsz⟩:=aSS.1 hi;obtain⟨d,hd,hrow⟩:=aSS.1 hr;have hl:=sJ h;by_cases hu:u.isRow=true
 .refine⟨.agg c2.toArray,?_,.inl ⟨hu,c2,rfl,h⟩⟩;have hagg:(isAgg t).run P w= .ok true w:=by
   unfold isAgg;rw[aSO,aSX hd w];rw[hu] at hrow;cases d<;>simp_all [TypeDesc.isRow]
  simp only[part,aSO,hagg,aSJ,aT5,sizeOf,typeInfo,aTz,hi,hsz,aS1];congr 2;apply aTF.1;simp [<-hl]
 have hu':u.isRow=false:=by simpa using hu
 have h1:u.cells=1:=by cases u<;>first|rfl|(simp [Ty.isRow] at hu')
 obtain⟨v,rfl⟩: ∃v,c2=[v]:=by
  rw[h1] at hl;exact aTO.1 hl
 refine⟨v,?_,.inr ⟨hu',h⟩⟩;have hagg:(isAgg t).run P w= .ok false w:=by
  unfold isAgg;rw[aSO,aSX hd w];rw[hu'] at hrow;cases d<;>simp_all [TypeDesc.isRow]
 simp only[part,aSO,hagg,aSJ];simp
theorem a0i {t:TypeId}{ti:TI}(h:sU P t ti) (hr:ti.ty.isRow=true):
  (ti.arr=false/\∃fs,P.underlying t=some (.struct fs)/\N6 P ti.ty 0 fs.toList)\/(ti.arr=true/\∃n e,P.underlying t=some (.array n e)/\Q3 P e ti.ty n/\(P.info? e).isSome=true):=by
 have h2:=h.2;unfold wV at h2;obtain⟨ty,el,by',ar,ls⟩:=ti;cases ty<;>simp only[Ty.isRow,aTS] at hr<;>exact h2.1
theorem aAh {t:TypeId}{ti:TI}(h:sU P t ti) (hr:ti.ty.isRow=true) (ha:ti.arr=false): ∃fs,P.underlying t=some (.struct fs)/\N6 P ti.ty 0 fs.toList:=by
 rcases a0i h hr with⟨_,h⟩ |⟨h,_⟩
 .exact h
 rw[ha] at h;cases h
theorem aAi {t:TypeId}{ti:TI}(h:sU P t ti) (hr:ti.ty.isRow=true) (ha:ti.arr=true): ∃n e,P.underlying t=some (.array n e)/\Q3 P e ti.ty n/\(P.info? e).isSome=true:=by
 rcases a0i h hr with⟨h,_⟩ |⟨_,h⟩
 .rw[ha] at h;cases h
 exact h
theorem aJd {t:Ty}{x:t.den}{f:Nat}{q: Σ u:Ty,u.den}(h:t.proj x f=some q):t.isRow=true:=by
 cases t<;>first|rfl|(cases f<;>simp [Ty.proj] at h)
theorem aJe {t:Ty}{f o:Nat}(h:t.offs f=some o):t.isRow=true:=by
 cases t<;>first|rfl|(cases f<;>simp [Ty.offs] at h)
end
theorem aJf (l:p7) (n:Nat) (h:n<l.length):(⟨l.toArray⟩:ByteArray)[n]? =some l[n]:=by
 have:n<(⟨l.toArray⟩:ByteArray).size:=by simpa[ByteArray.size] using h
 rw[getElem?_pos (⟨l.toArray⟩:ByteArray) n this];rfl
theorem yV {i:Int}{n:Nat}(h0:0<=i) (h1:i<n):i.toNat<n:=by omega
theorem aAj {i:Int}{n:Nat}(h0:0<=i) (h1:i.toNat<n):i<n:=by omega
section
variable {P:Program}{o:Oper}{a:Act}{g:Gh}{w:pM}{H:rX}{T:sG}(hT:wW P T) (hH:s5 g w H)
include hT hH
theorem aJg {t:TypeId}{x:Operand}{f:Nat}(ho:o.op= .field t x f) {sx:pW}(hx:rH g w sx (a.eval x)) {e:qI}(hr:ZC f (rO T t) sx=some e):r8 P o a g w H e:=by
 generalize hs:rO T t=ot at hr;replace hx:=hx.1;unfold ZC at hr;split at hr
 .rename_i ty el by' ls_ u y _;split at hr
  .rename_i hu;subst hu;have hty:=sP hT hs;generalize hp:u.proj y f=q at hr;cases q with
   |none=>cases hr
   |some q=>
    obtain⟨u,z⟩:=q;cases hr;have hrow:=aJd hp;obtain⟨cs,hv,hR⟩:=KM hrow hx;obtain⟨oo,c1,c2,c3,h1,h2,rfl,rfl,h5⟩:=a0f hR hp;obtain⟨fs,hfs,hfe⟩:=aAh hty hrow rfl;obtain⟨fd,k1,k2,k3,k4⟩:=a0g hfe h1 h2;obtain⟨v,hv1,hv2⟩:=Q5 k3 k4 (P:=P) (c1:=c1) (c3:=c3) h5;refine r8.pure hH (v:=v) ?_ hv2;have k1':fs[f]? =some fd:=by simpa using k1
    simp only[execOp,ho,hv,Instr.field,aSO,aSX hfs,aSJ,k1',asAgg,aS1,k2,aTa,hv1]
  cases hr
 cases hr
theorem a0j {t:TypeId}{ti:TI}(hty:sU P t ti) (har:ti.arr=false) {f oo:Nat}{u:Ty}(h1:ti.ty.offs f=some oo) (h2:ti.ty.fld f=some u) (hpos:0<u.cells) (b off:Nat):
  (Instr.fieldAt t (.pointer (some ⟨b,off,none⟩)) f).run P w= .ok (.pointer (some ⟨b,off+oo,none⟩)) w:=by
 obtain⟨fs,hfs,hfe⟩:=aAh hty (aJe h1) har;obtain⟨fd,k1,k2,k3,k4⟩:=a0g hfe h1 h2;obtain⟨i,hi,hsz⟩:=aSS.1 k3;have k1':fs[f]? =some fd:=by simpa using k1
 have hne: ¬(u.cells=0):=by omega
 simp only[Instr.fieldAt,aSO,aSX hfs,aSJ,k1',Instr.sureAddr,aS1,fieldPlace,sizeOf,typeInfo,aTz,hi,hsz,aSD hne,k2,aTa,aTK]
theorem aJh {t:TypeId}{x:Operand}{f:Nat}(ho:o.op= .fieldAddr t x f) {sx:pW}(hx:rH g w sx (a.eval x)) {e:qI}(hr:ZB f (rO T t) sx=some e):r8 P o a g w H e:=by
 generalize hs:rO T t=ot at hr;replace hx:=hx.1;unfold ZB at hr;split at hr
 .rename_i ty el by' ls_ k n c i o' _;have hty:=sP hT hs;generalize h1:ty.offs f=o1 at hr;generalize h2:ty.fld f=o2 at hr;unfold a9O at hr;split at hr
  .split at hr
   .rename_i oo u hpos;cases hr;obtain⟨b,cap,hc,hi0,hi1,hv⟩:=hx;refine r8.pure hH (v:= .pointer (some ⟨b,i.toNat*c+o'+oo,none⟩)) ?_ ⟨b,cap,hc,hi0,hi1,by rw[aTj]⟩;simp only[execOp,ho,hv,aSO,a0j hT hH hty rfl h1 h2 hpos,aSJ,aS1]
   cases hr
  cases hr
 .rename_i ty el by' ls_ u y _;split at hr
  .rename_i hu;subst hu;have hty:=sP hT hs;generalize hp:u.proj y f=q at hr;cases q with
   |none=>cases hr
   |some q=>
    obtain⟨u,z⟩:=q;simp only[TY] at hr;split at hr
    .rename_i hpos;cases hr;obtain⟨b,off,cs,hv,hra,hS,hR⟩:=hx;obtain⟨oo,c1,c2,c3,h1,h2,rfl,rfl,h5⟩:=a0f hR hp;refine r8.pure hH (v:= .pointer (some ⟨b,off+c1.length,none⟩)) ?_ ⟨b,off+c1.length,c2,rfl,fun j v hj=>?_,fun j hj=>?_,h5⟩
     .simp only[execOp,ho,hv,aSO,a0j hT hH hty rfl h1 h2 hpos,aSJ,aS1]
     .have:=hra (c1.length+j) v (by
       have hj':=(aSR.1 hj).1;rw[aSN,aSM pB,aTr,aSU hj'];exact hj)
      rw[aTj];exact this
     have:=hS (c1.length+j) (by
      have:=sJ hR;have h6:=sJ h5;simp only[aSH] at this;omega)
     rw[aTj];exact this
    cases hr
  cases hr
 .rename_i ty el by' ls_ i off _;have hty:=sP hT hs;generalize h1:ty.offs f=o1 at hr;generalize h2:ty.fld f=o2 at hr;unfold TZ at hr;split at hr
  .split at hr
   .rename_i oo u hpos;cases hr;obtain⟨p,hp,hv⟩:=wZ hx;refine r8.pure hH (v:= .pointer (some ⟨p.1,p.2+off+oo,none⟩)) ?_ (.inr ⟨rfl,p,hp,by rw[aTj]⟩);simp only[execOp,ho,hv,aSO,a0j hT hH hty rfl h1 h2 hpos,aSJ,aS1]
   cases hr
  cases hr
 cases hr
theorem aJi {x:Operand}{i:Nat}(ho:o.op= .extract x i) {sx:pW}(hx:rH g w sx (a.eval x)) {e:qI}(hr:ZF i sx=some e) (hs: ∀p∈e.side,p):r8 P o a g w H e:=by
 replace hx:=hx.1;unfold ZF at hr;split at hr
 rotate_left
 .rename_i b p c _;have run: ∀(v:pN) (vs:Array pN),a.eval x= .tuple vs->vs[i]? =some v->(execOp a.eval o).run P w= .ok (.value v) w:=by
   intro v vs h1 h2;simp [execOp,ho,h1,Instr.extract,h2]
  obtain⟨h1,h2⟩:=hx;unfold a9P at hr;split at hr
  .cases hr;cases b with
   |true=>exact r8.pure hH (run (.bool true) _ (h1 rfl) rfl) (vC _ _ _)
   |false=>exact r8.pure hH (run (.bool false) _ (h2 rfl) rfl) (vC _ _ _)
  .cases hr;have hb:=hs (b=true) pD;exact r8.pure hH (run (.int .i64 p) _ (h1 hb) rfl) (w9 _ _ _ _)
  .cases hr;have hb:=hs (b=true) pD;exact r8.pure hH (run (.int .i32 c) _ (h1 hb) rfl) (w9 _ _ _ _)
  cases hr
 rotate_left
 .rename_i l _;obtain⟨vs,hv,hl⟩:=hx;have key: ∀(l:List ((Σ t:Ty,t.den)×pK)) (vs:pI) (i:Nat),HY g w l vs->U0 l i=some e->∃v,vs[i]? =some v/\rH g w e.slot v/\e.upd=[]/\e.rds=[]:=by
   intro l
   induction l with
   |nil=>intro vs i _ h;cases i<;>cases h
   |cons q l ih=>
    obtain⟨⟨t,x⟩,k⟩:=q;rintro vs i ⟨v,vs',rfl,r1,r2,r3⟩ h;cases i with
    |zero=>
     simp only[U0,aSC] at h;subst h;refine⟨v,rfl,?_,rfl,rfl⟩;have gen:rH g w (.val t x,k) v:=⟨r1,by
      cases k with
      |none=>trivial
      |some k=>exact r2⟩
     cases t with
     |rl e u=>
      cases x with
      |none=>exact⟨r1,trivial⟩
      |some q=>
       obtain⟨k',n⟩:=q;obtain⟨v',h1,h2,h3⟩:=wX rfl r1;simp only[aTk,and_true] at h2;subst h2;exact⟨⟨h1,h3⟩,trivial⟩
     |_=>exact gen
    |succ i=>
     obtain⟨v',h1,h2,h3,h4⟩:=ih vs' i r3 h;exact⟨v',by simpa using h1,h2,h3,h4⟩
  obtain⟨v,h1,h2,h3,h4⟩:=key l vs i hl hr;obtain⟨side,slot,upd,rds⟩:=e;simp only at h2 h3 h4;subst h3;refine r8.value (v:=v) (g':=g) (w':=w) ?_ (.pure hH h2);have:vs.toArray[i]? =some v:=by simpa using h1
  simp [execOp,ho,hv,Instr.extract,this]
 cases hr
theorem aJj {x:Operand}(ho:o.op= .nilCheck x) {sx:pW}(hx:rH g w sx (a.eval x)) {e:qI}(hr:ZA sx=some e):r8 P o a g w H e:=by
 replace hx:=hx.1;unfold ZA at hr;split at hr
 .rename_i p _;obtain⟨i,off⟩:=p;cases hr;obtain⟨p,hp,hv⟩:=wZ hx;refine r8.pure hH (v:=a.eval x) ?_ hx;simp [execOp,ho,hv]
 .cases hr;obtain⟨b,off,cs,hv,h⟩:=hx;refine r8.pure hH (v:=a.eval x) ?_ ⟨b,off,cs,hv,h⟩;simp [execOp,ho,hv]
 .cases hr;obtain⟨b,cap,h1,h2,h3,hv⟩:=hx;refine r8.pure hH (v:=a.eval x) ?_ ⟨b,cap,h1,h2,h3,hv⟩;simp [execOp,ho,hv]
 cases hr
theorem aJk {t:TypeId}{x ix:Operand}(ho:o.op= .index t x ix) {sx si:pW}(hx:rH g w sx (a.eval x)) (hi:rH g w si (a.eval ix)) {e:qI}(hr:ZE (rO T t) sx si=some e) (hs: ∀p∈e.side,p):r8 P o a g w H e:=by
 generalize hst:rO T t=ot at hr;replace hx:=hx.1;replace hi:=hi.1;unfold ZE at hr;split at hr
 .rename_i _ _ _ _ l _ k i _;cases hr;have hb:=hs _ (aST.2 rfl);have h2:=(sP hT hst).2;simp only[wV] at h2;have hv:=wY hx;have hvi:=wC hi;have hlt:(Int.toNat i)<List.length l:=yV hb.1 hb.2;refine r8.pure hH (v:= .int .u8 (rI l i)) ?_ (w9 _ _ _ _);have hget:(if (0:Int)<=i then(⟨List.toArray l⟩:ByteArray)[Int.toNat i]? else none)=some (l[Int.toNat i]):=by
   rw[aSB hb.1];exact aJf l _ hlt
  have hbyte:rI l i=((l[Int.toNat i]).toNat:Int):=by
   unfold rI;rw[aSZ,aSK hlt];rfl
  simp only[execOp,ho,hv,hvi,Instr.index,asIntOf,aSO,aS1,aSJ,aSX h2,hget,hbyte]
 cases hr
theorem aJl {t:TypeId}{x ix:Operand}(ho:o.op= .indexAddr t x ix) {sx si:pW}(hx:rH g w sx (a.eval x)) (hi:rH g w si (a.eval ix)) {e:qI}(hr:ZD (rO T t) sx si=some e) (hs: ∀p∈e.side,p):r8 P o a g w H e:=by
 generalize hst:rO T t=ot at hr;replace hx:=hx.1;replace hi:=hi.1;unfold ZD at hr;split at hr
 .rename_i t' el by' ar ls_ k n _ k' i _;split at hr
  .rename_i hpos;cases hr;have hb:=hs _ (aST.2 rfl);obtain⟨h2,h3,_⟩:=(sP hT hst).2;obtain⟨ei,hei,hz⟩:=aSS.1 h3;simp only[aS7] at hz;have hvi:=wC hi;obtain⟨hc,hv⟩:=hx;rcases hv with⟨_,rfl⟩ |⟨b,cap,hv,hcap⟩
   .exact absurd (Int.lt_of_le_of_lt hb.1 hb.2) (Int.lt_irrefl 0)
   refine r8.pure hH (v:= .pointer (some ⟨b,0+Int.toNat i*t'.cells,none⟩)) ?_ ⟨b,cap,by rw[<-hv];exact hc,hb.1,hb.2,by rw[aTa,aTP]⟩;simp only[execOp,ho,hv,hvi,Instr.indexAt,asIntOf,aSO,aS1,aSJ,aSX h2,sizeOf,typeInfo,aTz,hei,hz.1,aSB hb,aTK]
  cases hr
 .rename_i t' el by' ar ls_ t1 l _ k i _;split at hr
  .rename_i htt;subst htt;cases hr;have hb:=hs _ (aST.2 rfl);obtain⟨h2,h3,_⟩:=(sP hT hst).2;obtain⟨ei,hei,hz⟩:=aSS.1 h3;simp only[aS7] at hz;have hvi:=wC hi;obtain⟨ad,cap,hv,hle,hl⟩:=EU hx;have hlt:(Int.toNat i)<List.length l:=yV hb.1 hb.2;rcases hl with rfl|⟨b,off,rfl,hL⟩
   .simp at hlt
   have hnth:l[Int.toNat i]? =some (qE t1 l i):=by
    unfold qE;rw[aSZ,aSK hlt];rfl
   obtain⟨cs,hc1,hc2,hc3,hc4⟩:=UW hL hnth;refine r8.pure hH (v:= .pointer (some ⟨b,off+Int.toNat i*t1.cells,none⟩)) ?_ ⟨b,_,cs,rfl,hc2,hc3,hc4⟩;simp only[execOp,ho,hv,hvi,Instr.indexAt,asIntOf,aSO,aS1,aSJ,aSX h2,sizeOf,typeInfo,aTz,hei,hz.1,aSB hb,aTK]
  cases hr
 .rename_i s u el by' ls_ i off _ k n _;have hty:=sP hT hst;generalize h1:(Ty.pair s u).offs (Int.toNat n)=o1 at hr;generalize h2:(Ty.pair s u).fld (Int.toNat n)=o2 at hr;unfold TZ at hr;split at hr
  .split at hr
   .rename_i oo v hpos;cases hr;have hn0:=hs _ (aST.2 rfl);obtain⟨p,hp,hv⟩:=wZ hx;have hvi:=wC hi;obtain⟨len,el',hu,hel,_⟩:=aAi hty rfl rfl;obtain⟨k1,k2,k3,k4⟩:=a0h hel h1 h2;obtain⟨ei,hei,hz⟩:=aSS.1 k2;have hb:(0:Int)<=n/\(n:Int)<(len:Int):=⟨hn0,aAj hn0 k1⟩;refine r8.pure hH (v:= .pointer (some ⟨p.1,p.2+off+oo,none⟩)) ?_ (.inr ⟨rfl,p,hp,by rw[aTj]⟩);simp only[execOp,ho,hv,hvi,Instr.indexAt,Instr.sureAddr,asIntOf,aSO,aS1,aSJ,aSX hu,sizeOf,typeInfo,aTz,hei,hz,aSB hb,aTK,k4]
   cases hr
  cases hr
 .rename_i s u el by' ls_ u' y _ k n _;split at hr
  .rename_i hu';subst hu';have hty:=sP hT hst;generalize hp:(Ty.pair s u).proj y (Int.toNat n)=q at hr;cases q with
   |none=>cases hr
   |some q=>
    obtain⟨v,z⟩:=q;simp only[TY] at hr;split at hr
    .rename_i hpos;cases hr;have hn0:=hs _ (aST.2 rfl);obtain⟨b,off,cs,hv,hra,hS,hR⟩:=hx;have hvi:=wC hi;obtain⟨oo,c1,c2,c3,h1,h2,rfl,rfl,h5⟩:=a0f hR hp;obtain⟨len,el',hu,hel,_⟩:=aAi hty rfl rfl;obtain⟨k1,k2,k3,k4⟩:=a0h hel h1 h2;obtain⟨ei,hei,hz⟩:=aSS.1 k2;have hb:(0:Int)<=n/\(n:Int)<(len:Int):=⟨hn0,aAj hn0 k1⟩;refine r8.pure hH (v:= .pointer (some ⟨b,off+c1.length,none⟩)) ?_ ⟨b,off+c1.length,c2,rfl,fun j v hj=>?_,fun j hj=>?_,h5⟩
     .simp only[execOp,ho,hv,hvi,Instr.indexAt,Instr.sureAddr,asIntOf,aSO,aS1,aSJ,aSX hu,sizeOf,typeInfo,aTz,hei,hz,aSB hb,aTK,<-k4]
     .have:=hra (c1.length+j) v (by
       have hj':=(aSR.1 hj).1;rw[aSN,aSM pB,aTr,aSU hj'];exact hj)
      rw[aTj];exact this
     have:=hS (c1.length+j) (by
      have:=sJ hR;have h6:=sJ h5;simp only[aSH] at this;omega)
     rw[aTj];exact this
    cases hr
  cases hr
 cases hr
end
theorem aAk (off:Nat): ∀(vl:pI) (k:Nat) (cs:Array pN) (c1 c2 c3:pI),cs.toList=c1++c2++c3->c1.length=off+k->c2.length=vl.length->
  ((vl.zipIdx k).foldl (fun(cs:Array pN) (p:pN×Nat)=>cs.setIfInBounds (off+p.2) p.1) cs).toList=c1++vl++c3
 |[],_,cs,c1,c2,c3,h,_,h2=>by
  have:c2=[]:=aS9 (by simpa using h2);subst this;simpa using h
 |v::vl,k,cs,c1,c2,c3,h,h1,h2=>by
  cases c2 with
  |nil=>simp at h2
  |cons u c2=>
   simp only[List.zipIdx_cons,List.foldl_cons];have:=aAk off vl (k+1) (cs.setIfInBounds (off+k) v) (c1++[v]) c2 c3 (by
    rw[Array.toList_setIfInBounds,h,<-h1];simp) pE (by simpa using h2)
   rw[this];simp
theorem aJm (off:Nat) (vs cs:Array pN) (c1 c2 c3:pI) (h:cs.toList=c1++c2++c3) (h1:c1.length=off) (h2:c2.length=vs.size):
  (vs.zipIdx.foldl (fun(cs:Array pN) (x:pN×Nat)=>match x with|(c,j)=>cs.setIfInBounds (off+j) c) cs).toList=c1++vs.toList++c3:=by
 rw[<-aUw,Array.toList_zipIdx];exact aAk off vs.toList 0 cs c1 c2 c3 h pB (by simpa using h2)
theorem aAl {place:Nat->pJ}{cells:Array pN}{i:Nat}{v:pN}{rest:List (Nat×pN)}{off size:Nat}{c1 c2 c3:pI}(hp:place i=some (off,size)) (hs:v.cells.size=size)
  (h:cells.toList=c1++c2++c3) (h1:c1.length=off) (h2:c2.length=size):
  Instr.fill place cells ((i,v)::rest)=Instr.fill place (c1++v.cells.toList++c3).toArray rest:=by
 have hsz:cells.size=c1.length+c2.length+c3.length:=by rw[<-aTx,h];simp;omega
 simp only[Instr.fill,hp];rw[aSD (by simp [hs];omega)];congr 1;apply aTF.1;rw[aJm off v.cells cells c1 c2 c3 h h1 pB]
theorem a0k {k:Nat}: ∀{t:Ty}{o:Nat}{cs:pI},JY t=false->cs.length=t.cells->xM k t o cs
 | .bool,_,_,_,_=>trivial
 | .int _,_,_,_,_=>trivial
 | .str,_,_,_,_=>trivial
 | .unit,_,_,_,_=>trivial
 | .ref,_,_,_,_=>trivial
 | .clo,_,_,_,_=>trivial
 | .mp,_,_,_,_=>trivial
 | .rl _ _,_,_,_,_=>trivial
 | .fn,_,_,_,_=>trivial
 | .mref,_,_,_,_=>trivial
 | .ap,_,_,_,_=>trivial
 | .list _,_,_,h,_=>by simp [JY] at h
 | .pair a b,_,cs,h,hl=>by
  simp only[JY,aUp] at h;simp only[Ty.cells] at hl;exact⟨cs.take a.cells,cs.drop a.cells,by simp,by rw[aTe];omega,a0k h.1 (by rw[aTe];omega),a0k h.2 (by rw[aS8];omega)⟩
theorem a0l: ∀t:Ty,(tY t).length=t.cells
 | .bool=>rfl
 | .int _=>rfl
 | .str=>rfl
 | .unit=>rfl
 | .ref=>rfl
 | .clo=>rfl
 | .mp=>rfl
 | .rl _ _=>rfl
 | .fn=>rfl
 | .mref=>rfl
 | .ap=>rfl
 | .list _=>rfl
 | .pair a b=>by simp only[tY,aSH,a0l a,a0l b,Ty.cells]
theorem UX {k:Nat}: ∀(t:Ty) (o:Nat),xM k t o (tY t)
 | .bool,_=>trivial
 | .int _,_=>trivial
 | .str,_=>trivial
 | .unit,_=>trivial
 | .ref,_=>trivial
 | .clo,_=>trivial
 | .mp,_=>trivial
 | .rl _ _,_=>trivial
 | .fn,_=>trivial
 | .mref,_=>trivial
 | .ap,_=>trivial
 | .list _,_=> .inr rfl
 | .pair a b,_=>⟨tY a,tY b,rfl,a0l a,UX a _,UX b _⟩
theorem aAm {g:Gh}{w:pM}{k:Nat}: ∀{t:Ty}{x:t.den}{cs:pI}{off o:Nat},xM k t off cs->Rd g w t x cs->EL t o=true->off+o+1≠k->∃(u:Ty),qT (.list u) t x o=some []/\cs[o]? =some (.slice none 0 0):=by
 intro t
 induction t with
 |pair a b iha ihb=>
  intro x cs off o hn hr hl hk;obtain⟨c1,c2,e,h1,h2,h3⟩:=hn;obtain⟨d1,d2,e',r1,r2⟩:=hr;have hd:c1=d1/\c2=d2:=aUd (e.symm.trans e') (by rw[h1,sJ r1]);obtain⟨rfl,rfl⟩:=hd;have key: ∀(u:Ty) q,qT (.list u) (.pair a b) x q=if q<a.cells then qT (.list u) a x.1 q else qT (.list u) b x.2 (q-a.cells):=by
   intro u q;cases q with
   |zero=>
    conv=>lhs;unfold qT
    rw[aT0 (by intro e;cases e),Nat.zero_sub]
   |succ q=>simp [qT]
  have hl':(if o<a.cells then EL a o else EL b (o-a.cells))=true:=by
   cases o<;>simpa[EL] using hl
  by_cases ho:o<a.cells
  .rw[aSB ho] at hl';obtain⟨u,k1,k2⟩:=iha h2 r1 hl' hk;exact⟨u,by rw[key,aSB ho];exact k1,by rw[e,aSU pB];exact k2⟩
  .rw[aSD ho] at hl';obtain⟨u,k1,k2⟩:=ihb h3 r2 hl' pB;exact⟨u,by rw[key,aSD ho];exact k1,by rw[e,aSM pB,h1];exact k2⟩
 |list u=>
  intro x cs off o hn hr hl hk;cases o with
  |succ o=>simp [EL] at hl
  |zero=>
   obtain⟨a,cap,e,_,_⟩:=hr;have hn':cs=[.slice none 0 0]:=hn.resolve_left (by simpa using hk);rw[hn'] at e;simp only[aTk,aUc,and_true] at e;have:(x:List u.den)=[]:=aS9 e.2.1.symm;subst this;exact⟨u,by unfold qT;simp [tX],by rw[hn'];rfl⟩
 |_=>intro x cs off o hn hr hl;cases o<;>simp [EL] at hl
theorem aJn {g:Gh}{w:pM}{u:Ty}{y:u.den}{cy:pI}(hy:Rd g w u y cy): ∀{t:Ty}{x z:t.den}{cs:pI}{f:Nat},Rd g w t x cs->Ty.setPart u y t x f=some z->
  ∃o c1 c2 c3,t.offs f=some o/\t.fld f=some u/\cs=c1++c2++c3/\c1.length=o/\c2.length=u.cells/\Rd g w t z (c1++cy++c3)/\(∀k off,xM k t off cs->xM k u (off+o) cy->xM k t off (c1++cy++c3)):=by
 intro t
 induction t with
 |pair a b _ ihb=>
  intro x z cs f r h;obtain⟨c1,c2,e,r1,r2⟩:=r;cases f with
  |zero=>
   simp only[Ty.setPart] at h;split at h
   .rename_i hu;subst hu;simp only[tX,aSC] at h;subst h;refine⟨0,[],c1,c2,rfl,rfl,by simpa using e,rfl,sJ r1,⟨cy,c2,by simp,hy,r2⟩,fun k off ⟨d1,d2,e',k1,_,k3⟩ hcy=>?_⟩;obtain⟨rfl,rfl⟩:=aUd (e'.symm.trans e) (by rw[k1,sJ r1]);exact⟨cy,d2,by simp,sJ hy,hcy,k3⟩
   .cases h
  |succ f=>
   simp only[Ty.setPart,aSS] at h;obtain⟨q,hq,rfl⟩:=h;obtain⟨o,d1,d2,d3,h1,h2,h3,h4,h5,h6,h7⟩:=ihb r2 hq;refine⟨a.cells+o,c1++d1,d2,d3,by simp [Ty.offs,h1],by simpa[Ty.fld] using h2,by rw[e,h3];simp,?_,h5,⟨c1,d1++cy++d3,by simp,r1,h6⟩,fun k off ⟨k1,k2,e',k3,k4,k5⟩ hcy=>by
    obtain⟨rfl,rfl⟩:=aUd (e'.symm.trans e) (by rw[k3,sJ r1]);exact⟨k1,d1++cy++d3,by simp,k3,k4,h7 k _ k5 (by rw[aTj];exact hcy)⟩⟩
   rw[aSH,h4,sJ r1]
 |_=>intro x z cs f r h;cases f<;>simp [Ty.setPart] at h
theorem a0m {g:Gh}{w:pM}{t:Ty}{ev:Operand->pN}{ρ:Operand->pW}{place:Nat->pJ}(hp: ∀f o u,t.offs f=some o->t.fld f=some u->place f=some (o,u.cells)):
  ∀(ps:List (Nat×Operand)) (x z:t.den) (cs:pI),Rd g w t x cs->(∀q∈ps,rH g w (ρ q.2) (ev q.2))->AG t (some x) (u1 ρ ps)=some z->
  ∃cs',Instr.fill place cs.toArray (ps.map fun q=>(q.1,ev q.2))=some cs'.toArray/\Rd g w t z cs'/\(∀m k,AH t (u1 ρ ps)=some m->m=0\/m=k->xM k t 0 cs->xM k t 0 cs')
 |[],x,z,cs,r,_,h=>by
  simp only[u1,AG,aSC] at h;subst h;exact⟨cs,rfl,r,fun _ _ _ _ h=>h⟩
 |(i,q)::ps,x,z,cs,r,hq,h=>by
  have h0:=hq (i,q) pD;have step: ∀{u:Ty}{y:u.den}{z1:t.den},sW g w u y (ev q)->Ty.setPart u y t x i=some z1->AG t (some z1) (u1 ρ ps)=some z->(∀m k,AH t (u1 ρ ((i,q)::ps))=some m->m=0\/m=k->(∀o,t.offs i=some o->xM k u o (ev q).cells.toList)/\∃m',AH t (u1 ρ ps)=some m'/\(m'=0\/m'=k))->
    ∃cs',Instr.fill place cs.toArray (((i,q)::ps).map fun q=>(q.1,ev q.2))=some cs'.toArray/\Rd g w t z cs'/\(∀m k,AH t (u1 ρ ((i,q)::ps))=some m->m=0\/m=k->xM k t 0 cs->xM k t 0 cs'):=by
   intro u y z1 hv hset h hpl;obtain⟨o,c1,c2,c3,h1,h2,rfl,h4,h5,h6,h7⟩:=aJn (ET hv) r hset;obtain⟨cs',hf,hr,hn⟩:=a0m hp ps z1 z _ h6 (fun q hq'=>hq q (by simp [hq'])) h;refine⟨cs',?_,hr,fun m k hpp hm hcs=>?_⟩
   rotate_left
   .obtain⟨q1,m',q2,q3⟩:=hpl m k hpp hm;exact hn m' k q2 q3 (h7 k 0 hcs (by rw[aTa];exact q1 o h1))
   simp only[aTV];rw[aAl (hp i o u h1 h2) (by have:=sJ (ET hv);simpa using this) (c1:=c1) (c2:=c2) (c3:=c3) pD h4 h5];exact hf
  generalize hs:ρ q=s at h0;simp only[u1,hs] at h;obtain⟨d,k⟩:=s;cases d with
  |val u y=>
   simp only[AG] at h;generalize hset:Ty.setPart u y t x i=o1 at h;cases o1 with
   |none=>cases ps with
    |nil=>simp [u1,AG] at h
    |cons p ps=>simp [u1,AG] at h
   |some z1=>
    have hpl: ∀m k,AH t (u1 ρ ((i,q)::ps))=some m->m=0\/m=k->(∀o,t.offs i=some o->xM k u o (ev q).cells.toList)/\∃m',AH t (u1 ρ ps)=some m'/\(m'=0\/m'=k):=by
     intro m k hpp hm;simp only[u1,hs,AH] at hpp;cases hu:JY u with
     |false=>
      rw[hu] at hpp;simp only[TF] at hpp;exact⟨fun o _=>a0k hu (sJ (ET h0.1)),m,hpp,hm⟩
     |true=>
      rw[hu] at hpp;cases hu2:YR u with
      |false=>rw[hu2] at hpp;simp [TF] at hpp
      |true=>
       rw[hu2] at hpp;simp only[TF] at hpp;cases ho:t.offs i with
       |none=>rw[ho] at hpp;simp [TE] at hpp
       |some o=>
        rw[ho] at hpp;cases hm2:AH t (u1 ρ ps) with
        |none=>rw[hm2] at hpp;simp [TE] at hpp
        |some m'=>
         rw[hm2] at hpp;simp only[TE] at hpp;split at hpp
         .rename_i hm0;subst hm0;simp only[aSC] at hpp;refine⟨fun o' ho'=>?_,0,rfl,.inl rfl⟩;obtain rfl:=aSG ho';cases u with
          |list u=>exact .inl pB
          |_=>simp [YR] at hu2
         cases hpp
    obtain⟨cs',k1,k2,k3⟩:=step h0.1 hset h hpl;exact⟨cs',k1,k2,k3⟩
  |nilS=>
   simp only[AG] at h;generalize hfl:t.fld i=fl at h;cases fl with
   |none=>cases ps<;>simp [SW,u1,AG] at h
   |some u=>
    cases u with
    |list u=>
     simp only[SW] at h;generalize hset:Ty.setPart (.list u) [] t x i=o1 at h;cases o1 with
     |none=>cases ps<;>simp [u1,AG] at h
     |some z1=>
      have hev:ev q= .slice none 0 0:=h0.1;refine step (u:= .list u) (y:=[]) ?_ hset h (fun m k hpp hm=>?_)
      .rw[hev];exact .inr ⟨rfl,none,0,rfl,aSW _,.inl rfl⟩
      .simp only[u1,hs,AH] at hpp;exact⟨fun o _=>by rw[hev];exact .inr rfl,m,hpp,hm⟩
    |_=>cases ps<;>simp [SW,u1,AG] at h
  |_=>simp [AG] at h
section
variable {P:Program}{o:Oper}{a:Act}{g:Gh}{w:pM}{H:rX}{T:sG}(hT:wW P T) (hH:s5 g w H)
include hT hH
theorem aAn {P:Program}(w:pM): ∀(fs:List Field),(∀f∈fs,∃n,(P.info? f.type).map (·.size)=some n)->
  (fs.mapM (fun f=>do pure (f.offset,<-sizeOf f.type):Field->Sem (Nat×Nat))).run P w= .ok (fs.map fun f=>(f.offset,((P.info? f.type).map (·.size)).getD 0)) w
 |[],_=>rfl
 |f::fs,h=>by
  obtain⟨n,hn⟩:=h f pD;obtain⟨i,hi,hsz⟩:=aSS.1 hn;rw[List.mapM_cons];simp only[aSO,sizeOf,typeInfo,aTz,hi,aSJ,aS1];have:=aAn w fs (fun f hf=>h f (by simp [hf]));simp only[sizeOf,typeInfo,aSO,aTz] at this;rw[this];simp [hi]
theorem aJo {P:Program}: ∀{ty:Ty}{off:Nat}{fs:List Field},N6 P ty off fs->∀f∈fs,∃n,(P.info? f.type).map (·.size)=some n:=by
 intro ty
 induction ty with
 |pair a b _ ihb=>
  intro off fs h f hf;cases fs with
  |nil=>cases hf
  |cons fd fs=>
   obtain⟨_,h2,_,h4⟩:=h;rcases aSP.1 hf with rfl|hf
   .exact⟨_,h2⟩
   .exact ihb h4 f hf
 |unit=>intro off fs h f hf;cases fs with|nil=>cases hf|cons=>exact h.elim
 |_=>intro off fs h f hf;cases fs<;>exact h.elim
omit hT hH in
theorem aAo {t:Ty}{x:t.den}{cs:pI}{ps:List (Nat×pW)}(h: ∀m k,AH t ps=some m->m=0\/m=k->xM k t 0 (tY t)->xM k t 0 cs):match ((DV.val t x,YS t (AH t ps)):pW) with
  |(_,none)=>True
  |(.val t x,some k)=>CU g t x (.agg cs.toArray) (some k)
  |(_,some _)=>False:=by
 cases hp:AH t ps with
 |none=>cases t<;>trivial
 |some m=>
  cases t with
  |pair a b=>
   have:=h m m hp (.inr rfl) (UX _ _);simpa[YS,CU,Value.cells] using this
  |_=>trivial
omit hT in
theorem r8.pureS {s:pW}{v:pN}(hr:(execOp a.eval o).run P w= .ok (.value v) w) (hs:rH g w s v):r8 P o a g w H ⟨[],s,[],[]⟩:=
 r8.value hr (.pure hH hs)
theorem aJp {t:TypeId}{ps:Array (Nat×Operand)}(ho:o.op= .build t ps) {ρ:Operand->pW}(hρ: ∀q∈ps.toList,rH g w (ρ q.2) (a.eval q.2)) {e:qI}(hr:YT (u1 ρ ps.toList) (rO T t)=some e):r8 P o a g w H e:=by
 generalize hs:rO T t=ot at hr;cases ot with
 |none=>cases hr
 |some ti=>
  have hty:=sP hT hs;simp only[YT] at hr;by_cases hrow:ti.ty.isRow=true
  case neg=>rw[aSD hrow] at hr;cases hr
  rw[aSB hrow] at hr;generalize hb:AG ti.ty (some ti.ty.zero) (u1 ρ ps.toList)=ox at hr;cases ox with
  |none=>cases hr
  |some x=>
   cases hr;obtain⟨i,hi,hsz,hz⟩:=DF hty;have hzv:xN ti.ty= .agg (tY ti.ty).toArray:=by unfold xN;rw[aSB hrow]
   have hzr: ∀w,(zeroValue t).run P w= .ok (.agg (tY ti.ty).toArray) w:=by
    intro w;simp [zeroValue,typeInfo,hi,hz,hzv]
   have hmap:(ps.map fun(q:Nat×Operand)=>(q.1,a.eval q.2)).toList=ps.toList.map fun q=>(q.1,a.eval q.2):=by simp
   rcases a0i hty hrow with⟨har,fs,hfs,hfe⟩ |⟨har,n,el,hu,hel,hsome⟩
   .have hpl:=aAn (P:=P) hT hH w fs.toList (aJo hT hH hfe);obtain⟨cs',hf,hR,hN⟩:=a0m (g:=g) (w:=w) (ev:=a.eval) (ρ:=ρ) (t:=ti.ty) (place:=fun j=>((fs.map fun f=>(f.offset,((P.info? f.type).map (·.size)).getD 0))[j]?)) (fun f oo u h1 h2=>by
     obtain⟨fd,k1,k2,k3,_⟩:=a0g hfe h1 h2;have k1':fs[f]? =some fd:=by simpa using k1
     simp [k1',k2,k3]) ps.toList ti.ty.zero x (tY ti.ty) (DE g w ti.ty) hρ hb
    refine r8.pureS hH (v:= .agg cs'.toArray) ?_ ⟨.inl ⟨hrow,cs',rfl,hR⟩,aAo hN⟩;have hmp:(fs.mapM (fun f=>do pure (f.offset,<-sizeOf f.type):Field->Sem (Nat×Nat))).run P w= .ok (fs.map fun f=>(f.offset,((P.info? f.type).map (·.size)).getD 0)) w:=by
     rw[Array.mapM_eq_mapM_toList,Sem.run_map,hpl];simp only[aSJ];congr 1;apply aTF.1;simp
    simp only[execOp,ho,Instr.build,aSO,hzr,aSJ,aSX hfs,hmp,Value.cells];rw[hmap,hf];rfl
   obtain⟨cs',hf,hR,hN⟩:=a0m (g:=g) (w:=w) (ev:=a.eval) (ρ:=ρ) (t:=ti.ty) (place:=fun j=>some (j*((P.info? el).map (·.size)).getD 0,((P.info? el).map (·.size)).getD 0)) (fun f oo u h1 h2=>by
    obtain⟨k1,k2,k3,k4⟩:=a0h hel h1 h2;simp [k2,k4]) ps.toList ti.ty.zero x (tY ti.ty) (DE g w ti.ty) hρ hb
   refine r8.pureS hH (v:= .agg cs'.toArray) ?_ ⟨.inl ⟨hrow,cs',rfl,hR⟩,aAo hN⟩;obtain⟨ei,hei⟩:=aSF.1 hsome;simp only[hei,Option.map_some,aT1] at hf;simp only[execOp,ho,Instr.build,aSO,hzr,aSJ,aSX hu,sizeOf,typeInfo,aTz,hei,aS1,Value.cells];rw[hmap,hf];rfl
theorem a0n {ρ:Operand->pW}{ev:Operand->pN}: ∀{xs:List Operand}{ss:List pW},(∀x∈xs,rH g w (ρ x) (ev x))->vL ρ xs=ss->∃vs,xs.map ev=vs/\vs.length=ss.length/\∀(i:Nat) (s:pW) (v:pN),ss[i]? =some s->vs[i]? =some v->rH g w s v
 |[],_,_,h=>⟨[],rfl,by rw[<-h];rfl,fun i s v _ hv=>by simp at hv⟩
 |x::xs,ss,hx,h=>by
  subst h;obtain⟨vs,h1,h2,h3⟩:=a0n (fun y hy=>hx y (by simp [hy])) rfl (xs:=xs);refine⟨ev x::vs,by simp [h1],by simp [vL,h2],fun i s v hs hv=>?_⟩;cases i with
  |zero=>
   simp only[vL,aTf,aSC] at hs hv;subst hs;subst hv;exact hx x pD
  |succ i=>
   simp only[vL,aTp] at hs hv;exact h3 i s v hs hv
theorem UY {ρ:Operand->pW}{ev:Operand->pN}{args:Array Operand}{s:pW}(hρ: ∀x∈args.toList,rH g w (ρ x) (ev x)) (h:vL ρ args.toList=[s]): ∃v,args.map ev= #[v]/\rH g w s v:=by
 obtain⟨vs,h1,h2,h3⟩:=a0n hT hH hρ h;obtain⟨v,rfl⟩:=aTO.1 h2;exact⟨v,by apply aTF.1;simpa using h1,h3 0 s v rfl rfl⟩
theorem UZ {ρ:Operand->pW}{ev:Operand->pN}{args:Array Operand}{s t:pW}(hρ: ∀x∈args.toList,rH g w (ρ x) (ev x)) (h:vL ρ args.toList=[s,t]): ∃v u,args.map ev= #[v,u]/\rH g w s v/\rH g w t u:=by
 obtain⟨vs,h1,h2,h3⟩:=a0n hT hH hρ h
 match vs,h2 with
 |[v,u],_=>exact⟨v,u,by apply aTF.1;simpa using h1,h3 0 s v rfl rfl,h3 1 t u rfl rfl⟩
theorem G1 {b:Builtin}{args:Array Operand}{tys:Array TypeId}(ho:o.op= .call ⟨.builtin b,args,tys⟩):
  ∃cs,execOp a.eval o=builtin b tys o.type cs (args.map a.eval):=by
 refine⟨args.map fun| .const _=>true|_=>false,?_⟩
 unfold execOp;rw[ho];rfl
theorem aJq (x y:Int):(if y<x then y else x)=min x y:=by rw[Int.min_def];split<;>split<;>omega
theorem aJr (x y:Int):(if y>x then y else x)=max x y:=by rw[Int.max_def];split<;>split<;>omega
theorem aJs {args:Array Operand}{tys:Array TypeId}(ho:o.op= .call ⟨.builtin .len,args,tys⟩) {ρ:Operand->pW}(hρ: ∀x∈args.toList,rH g w (ρ x) (a.eval x)) {e:qI}
  (hr:U8 T H (vL ρ args.toList) tys.toList=some e):r8 P o a g w H e:=by
 obtain⟨t0,tr,htl⟩: ∃t0 tr,tys.toList=t0::tr:=by cases h:tys.toList with|nil=>(rw[h] at hr;cases hr) |cons t r=>exact⟨t,r,rfl⟩
 have ht0:tys[0]? =some t0:=by rw[<-aTE,htl];rfl
 rw[htl] at hr;simp only[U8] at hr;generalize hst:rO T t0=ot at hr;generalize hss:vL ρ args.toList=ss at hr;unfold ZG at hr;split at hr
 .rename_i el fl ar ls_ i k;generalize hb:pY H i=ob at hr;unfold U1 at hr;split at hr
  .rename_i kt vt l;cases hr;obtain⟨v,hv,hs⟩:=UY hT hH hρ hss;have h2:=(sP hT hst).2;simp only[wV] at h2;obtain⟨p,es,cl,hp,hp0,hh,hM,hS⟩:=hH.blk i _ hb;obtain⟨p',hp',hxv⟩: ∃p,g.J i=some p/\v= .map (some p.1):=by
    rcases hs.1 with⟨h1,_⟩ |⟨_,p,h3,h4⟩
    .cases h1
    simp only[aTk,and_true] at h4;exact⟨p,h3,h4⟩
   rw[hp] at hp';obtain rfl:=aSG hp';have hlen: ∀{l:List (kt.den×vt.den)}{es:List MapEntry},DD g w kt vt l es->es.length=l.length:=by
    intro l
    induction l with
    |nil=>intro es h;rw[show es=[] from h];rfl
    |cons q l ih=>intro es h;obtain⟨e,es',rfl,_,_,h5⟩:=h;simp [ih h5]
   refine r8.pure hH (v:= .int .i64 (List.length l:Int)) ?_ (w9 _ _ _ _);obtain⟨cs,hx⟩:=G1 (a:=a) hT hH ho;rw[hx,hv,hxv];have harg:(#[Value.map (some p.1)]:Array pN)[0]? =some (.map (some p.1)):=rfl;have hobj:(getObj p.1).run P w= .ok (.map es cl) w:=by simp [getObj,Sem.run,hh]
   simp only[builtin,Builtin.len_,ht0,harg,aSO,aSX h2,aSJ,aS1,goInt,hobj];rw[<-hlen hM,aTx]
  cases hr
 .rename_i el by' ar ls_ l k;cases hr;obtain⟨v,hv,hs⟩:=UY hT hH hρ hss;have h2:=(sP hT hst).2;simp only[wV] at h2;have hv':=wY hs.1;refine r8.pure hH (v:= .int .i64 (List.length l:Int)) ?_ (w9 _ _ _ _);subst hv';obtain⟨cs,hx⟩:=G1 (a:=a) hT hH ho;rw[hx,hv];have harg:(#[Value.string ⟨List.toArray l⟩]:Array pN)[0]? =some (.string ⟨List.toArray l⟩):=rfl;simp only[builtin,Builtin.len_,ht0,harg,aSO,aSX h2,aSJ,aS1,goInt];rfl
 .rename_i u el by' ar ls_ t l k;cases hr;obtain⟨v,hv,hs⟩:=UY hT hH hρ hss;have h2:=(sP hT hst).2.1;obtain⟨ad,cap,rfl,_⟩:=EU hs.1;refine r8.pure hH (v:= .int .i64 (List.length l:Int)) ?_ (w9 _ _ _ _);obtain⟨cs,hx⟩:=G1 (a:=a) hT hH ho;rw[hx,hv];have harg:(#[Value.slice ad (List.length l) cap]:Array pN)[0]? =some (.slice ad (List.length l) cap):=rfl;simp only[builtin,Builtin.len_,ht0,harg,aSO,aSX h2,aSJ,aS1,goInt]
 .rename_i u el by' ar ls_ ko n k;cases hr;obtain⟨v,hv,hs⟩:=UY hT hH hρ hss;have h2:=(sP hT hst).2.1;obtain⟨ad,cap,rfl⟩: ∃ad cap,v= .slice ad n cap:=by
   rcases hs.1.2 with⟨h,rfl⟩ |⟨b,cap,h,_⟩
   .exact⟨_,_,h⟩
   exact⟨_,_,h⟩
  refine r8.pure hH (v:= .int .i64 (n:Int)) ?_ (w9 _ _ _ _);obtain⟨cs,hx⟩:=G1 (a:=a) hT hH ho;rw[hx,hv];have harg:(#[Value.slice ad n cap]:Array pN)[0]? =some (.slice ad n cap):=rfl;simp only[builtin,Builtin.len_,ht0,harg,aSO,aSX h2,aSJ,aS1,goInt]
 cases hr
theorem aAp {args:Array Operand}{tys:Array TypeId}{mx:Bool}(ho:o.op= .call ⟨.builtin (if mx then .max else .min),args,tys⟩) {ρ:Operand->pW}(hρ: ∀x∈args.toList,rH g w (ρ x) (a.eval x)) {e:qI}
  (hr:AF (U6 mx (vL ρ args.toList))=some e):r8 P o a g w H e:=by
 obtain⟨q,hq,rfl⟩:=I0 hr;generalize hss:vL ρ args.toList=ss at hq;unfold U6 at hq;split at hq
 .rename_i k x k1 k' y k2;split at hq
  .rename_i hk;subst hk;cases hq;obtain⟨v,u,hv,hs1,hs2⟩:=UZ hT hH hρ hss;have e1:=wC hs1.1;have e2:=wC hs2.1;subst e1;subst e2;cases mx
   .refine r8.pure hH (v:= .int k (min (x:Int) y)) ?_ (w9 _ _ _ _);obtain⟨cs,hx⟩:=G1 (a:=a) hT hH ho;rw[hx,hv];have:=aJq hT hH x y;simp [builtin,Builtin.min_,Builtin.min2,this]
   refine r8.pure hH (v:= .int k (max (x:Int) y)) ?_ (w9 _ _ _ _);obtain⟨cs,hx⟩:=G1 (a:=a) hT hH ho;rw[hx,hv];have:=aJr hT hH x y;simp [builtin,Builtin.max_,Builtin.max2,this]
  cases hq
 cases hq
theorem aJt {f:FuncId}{caps:Array Operand}(ho:o.op= .makeFunc (.func f) #[] caps) {ρ:Operand->pW}(hρ: ∀x∈caps.toList,rH g w (ρ x) (a.eval x)) {e:qI}
  (hr:a9N f (JR (vL ρ caps.toList))=some e):r8 P o a g w H e:=by
 generalize hc:JR (vL ρ caps.toList)=oc at hr;cases oc with
 |none=>cases hr
 |some l=>
  cases hr;have key: ∀(xs:List Operand) (l:pG),(∀x∈xs,rH g w (ρ x) (a.eval x))->JR (vL ρ xs)=some l->y7 g l (xs.map a.eval):=by
   intro xs
   induction xs with
   |nil=>intro l _ h;simp only[vL,JR,aSC] at h;subst h;rfl
   |cons x xs ih=>
    intro l hx h;have h0:=hx x pD;generalize hs:ρ x=s at h0;simp only[vL,hs] at h;obtain⟨d,k⟩:=s;unfold JR at h;split at h
    .cases ‹_=[]›
    .rename_i p k r heq;simp only[aTk,aS7] at heq;obtain⟨⟨rfl,rfl⟩,rfl⟩:=heq;obtain⟨l',hl',rfl⟩:=aSS.1 h;obtain⟨i,off⟩:=p;obtain⟨p,hp,hv⟩:=wZ h0.1;exact⟨p,_,hp,by rw[aTV,hv],ih l' (fun y hy=>hx y (by simp [hy])) hl'⟩
    cases h
  refine r8.pure hH (v:= .func (.func f) #[] (caps.map a.eval)) ?_ (.inr ⟨rfl,caps.toList.map a.eval,key _ _ hρ hc,by congr 2;apply aTF.1;simp⟩);simp [execOp,ho,Instr.makeFunc]
end
theorem a0o {α:Type}{l:List α}{m n:Int}(h0:0≤m) (h1:m≤n) (h2:n≤(l.length:Int)):(qR l m n).length=n.toNat-m.toNat:=by
  unfold qR;rw[aTe,aS8];omega
theorem V0 {α:Type}{R:α→pI→Prop}{c:Nat}: ∀{l:List α}{cs:pI}{i:Nat}{x:α},tU R c l cs→l[i]? =some x→∃c1 c2 c3,cs=c1++c2++c3∧c1.length=i*c∧c2.length=c∧R x c2
  | y::l,_,0,x,⟨c1,c2,e,h1,h2,h3⟩,h=>by
    simp only[aTf,aSC] at h;subst h;exact⟨[],c1,c2,by simpa using e,by simp,h1,h2⟩
  | y::l,_,i+1,x,⟨c1,c2,e,h1,h2,h3⟩,h=>by
    simp only[aTp] at h;obtain⟨d1,d2,d3,e1,e2,e3,e4⟩:=V0 h3 h;exact⟨c1++d1,d2,d3,by rw[e,e1];simp,by rw[aSH,h1,e2,aTW];omega,e3,e4⟩
theorem aAq {t:Ty}{l:List t.den}{i:Int}(h0:0≤i) (h:i.toNat<l.length):l[i.toNat]? =some (qE t l i):=by
  unfold qE;rw[aSZ,aSK h];rfl
theorem I1 {α:Type}{R:α→pI→Prop}{w:pM}{S:Nat→Nat→Prop}{c b:Nat}: ∀{l:List α}{o:Nat}{cs:pI},tU R c l cs→w.rangeAt b o cs→(∀j,j<l.length*c→S b (o+j))→yG R w S c b o l
  |[],_,_,_,_,_=>trivial
  | x::l,o,cs,⟨c1,c2,e,h1,h2,h3⟩,hr,hS=>by
    subst e;refine⟨⟨c1,h1,fun j v hv=>hr j v (by rw[aSU (aSR.1 hv).1];exact hv),fun j hj=>hS j (by rw[aSI,aTW];omega),h2⟩,I1 h3 (fun j v hv=>?_) (fun j hj=>?_)⟩
    · have:=hr (c+j) v (by rw[aSM pB,h1,aTr];exact hv)
      rwa [←aTj] at this
    have:=hS (c+j) (by rw[aSI,aTW];omega)
    rwa [←aTj] at this
theorem a0p {u0:Ty}{l:List u0.den}: ∀{t:Ty}{x:t.den}{q: Σ t:Ty,t.den},zH u0 l t x=some q→q.1.cells=t.cells:=by
  intro t
  induction t with
  | rl e u=>
    intro x q h;cases x with
    |none=>cases h
    | some p=>
      simp only[zH,YX] at h;split at h
      .cases h;rfl
      .cases h
  | pair a b iha ihb=>
    intro x q h;simp only[zH] at h;cases hf:BD a x.1 with
    | some p=>
      rw[hf] at h;cases hq:zH u0 l a x.1 with
      |none=>rw[hq] at h;cases h
      | some r=>
        obtain⟨a',x'⟩:=r;rw[hq] at h;simp only[JZ,aSC] at h;subst h;have:=iha hq;simp only[Ty.cells] at this|-;omega
    | none=>
      rw[hf] at h;cases hq:zH u0 l b x.2 with
      |none=>rw[hq] at h;simp [JZ] at h
      | some r=>
        obtain⟨b',y'⟩:=r;rw[hq] at h;simp only[JZ,aSC] at h;subst h;have:=ihb hq;simp only[Ty.cells] at this|-;omega
  |_=>intro x q h;simp [zH] at h
theorem aJu {g:Gh}{w:pM}{k n:Nat}{u0:Ty}{l:List u0.den}(hk: ∀cs,BG g (some (k,n)) cs→Rd g w (.list u0) l cs): ∀{t:Ty}{x:t.den}{cs:pI}{q: Σ t:Ty,t.den},BD t x=some (k,n)→zH u0 l t x=some q→Rd g w t x cs→Rd g w q.1 q.2 cs:=by
  intro t
  induction t with
  | rl e u=>
    intro x cs q hf h r;simp only[BD] at hf;subst hf;simp only[zH,YX] at h;split at h
    · cases h
      exact hk _ r
    .cases h
  | pair a b iha ihb=>
    intro x cs q hf h r;obtain⟨c1,c2,e,r1,r2⟩:=r;simp only[BD] at hf;simp only[zH] at h;cases hfa:BD a x.1 with
    | some p=>
      rw[hfa] at h hf;simp only[YW,aSC] at hf;subst hf;cases hq:zH u0 l a x.1 with
      |none=>rw[hq] at h;cases h
      | some z=>
        obtain⟨a',x'⟩:=z;rw[hq] at h;simp only[JZ,aSC] at h;subst h;exact⟨c1,c2,e,iha hfa hq r1,r2⟩
    | none=>
      rw[hfa] at h hf;simp only[YW] at hf;cases hq:zH u0 l b x.2 with
      |none=>rw[hq] at h;simp [JZ] at h
      | some z=>
        obtain⟨b',y'⟩:=z;rw[hq] at h;simp only[JZ,aSC] at h;subst h;exact⟨c1,c2,e,r1,ihb hf hq r2⟩
  |_=>intro x cs q hf;simp [BD] at hf
theorem aJv {g:Gh}{w:pM}{H:rX}(hH:s5 g w H) {k i:Nat}{e:TypeId}{t:Ty}{l:List t.den}{n:Nat}(hk:pY H k=some (.row e t l n)) {u:Ty}{x:u.den}{toks:pG}(hi:pY H i=some (.cells u x toks)) (hfr:BD u x=some (k,n)) {q: Σ t:Ty,t.den}(hq:zH t l u x=some q):
    ∃ g',s5 g' w (qS [(i,pV.cells q.1 q.2 []),(k,pV.grow e t.cells (List.length l))] H)∧g'.J=g.J∧
      ∀side s rds v,HJ rds=true→rH g' w s v→zK g w H ⟨side,s,[(i,pV.cells q.1 q.2 []),(k,pV.grow e t.cells (List.length l))],rds⟩ g' w v:=by
  obtain⟨hl,v,xs,hv,hown,hF,hnone,hseal⟩:=hH.blk k _ hk
  let g':Gh:={g with S:=fun b o=>g.S b o∨(v.ownBlock=some b∧o<n*t.cells)}
  have le:Le g w g' w:=⟨fun _ _ h=> .inl h,fun _ _ _=>rfl,fun _ _ h=>h,fun _ _ _ h=>h⟩;have hown2: ∀b,v.ownBlock=some b→∀o,rY g k (.row e t l n) b o:=fun b hb o=>⟨v,hv,hb⟩
  have hlist: ∀u,g.cur k n=some u→((u= .slice none 0 0∧n=0)∨∃b cap,u= .slice (some ⟨b,0,none⟩) n cap∧n≤cap)→sW g' w (.list t) l u:=by
    intro u hu hshape;rw[hv] at hu;obtain rfl:=aSG hu;rcases hshape with⟨rfl,h0⟩ |⟨b,cap,rfl,hcap⟩
    · have:l=[]:=aS9 (by rw[hl,h0])
      subst this;exact .inr ⟨rfl,none,0,rfl,aSW _,.inl rfl⟩
    refine .inr ⟨rfl,some ⟨b,0,none⟩,cap,by rw[hl],by rw[hl];exact hcap,.inr ⟨b,0,rfl,I1 (C8 (fun _ _ h=>w8 le h) hF) (fun j u hu=>?_) (fun j hj=>?_)⟩⟩
    · have:=hown.cells (g:=b) rfl j u hu
      rwa [aTK] at this
    right
    exact⟨rfl,by rw[hl] at hj;omega⟩
  have hik:i≠k:=fun e1=>by rw[e1,hk] at hi;cases hi
  obtain⟨p0,cs0,hp0,hR0,hra0,hth0,hns0,_⟩:=hH.blk i _ hi
  let b':pV:= .cells q.1 q.2 []
  let H':rX:=(i,b')::(k,pV.grow e t.cells (List.length l))::H
  have hget: ∀i' b,pY H' i'=some b→(i'=i∧b=b')∨(i'=k∧b= .grow e t.cells (List.length l))∨(i'≠k∧i'≠i∧pY H i'=some b):=by
    intro i' b hb;simp only[H',pY] at hb;split at hb
    .rename_i e1;exact .inl ⟨e1.symm,(aSG hb).symm⟩
    rename_i e1
    split at hb
    .rename_i e2;exact .inr (.inl ⟨e2.symm,(aSG hb).symm⟩)
    rename_i e2;exact .inr (.inr ⟨Ne.symm e2,Ne.symm e1,hb⟩)
  have howns: ∀i' b bb o,pY H' i'=some b→rY g' i' b bb o→∃b0,pY H i'=some b0∧rY g i' b0 bb o:=by
    intro i' b bb o hb ho;rcases hget i' b hb with⟨rfl,rfl⟩ |⟨rfl,rfl⟩ |⟨_,_,h1⟩
    · obtain⟨p,hp,e1,e2,e3⟩:=ho
      rw[a0p hq] at e3;exact⟨_,hi,p,hp,e1,e2,e3⟩
    · obtain⟨u,hu,hub⟩:=ho
      have hu':g.cur i' (List.length l)=some u:=hu;rw[hl] at hu';exact⟨_,hk,u,hu',hub⟩
    exact⟨b,h1,(wU (g':=g') (g:=g) rfl rfl).1 ho⟩
  have hheap:s5 g' w H':=by
    refine⟨fun i' b hb=>?_,fun i' j bi bj b o hij h1 h2 o1 o2=>?_,fun b o hS=>?_,hH.tab.1,fun i' b bb oo hb ho=>by
      obtain⟨c1,k1,k2⟩:=howns i' b bb oo hb ho;exact hH.tab.2 i' c1 bb oo k1 k2⟩
    · rcases hget i' b hb with⟨rfl,rfl⟩ |⟨rfl,rfl⟩ |⟨hne,_,h1⟩
      · have hk2: ∀cs,BG g' (some (k,n)) cs→Rd g' w (.list t) l cs:=by
          rintro cs ⟨v1,z1,z2,z3⟩;rw[z2];exact wX rfl (hlist v1 z1 z3)
        refine⟨p0,cs0,hp0,aJu (n:=n) hk2 hfr hq (w8 le hR0),hra0,?_,?_,fun _ _ hm=>by cases hm⟩
        .rw[a0p hq];exact⟨hth0.1,hth0.2⟩
        rw[a0p hq]
        intro j hj hS;rcases hS with hS|hS
        .exact hns0 j hj hS
        exact hH.dis i' k _ _ p0.1 (p0.2+j) hik hi hk ⟨p0,hp0,rfl,pB,pB⟩ (hown2 _ hS.1 _)
      · refine⟨v,xs,by rw[hl];exact hv,by rw[hl];exact hown,fun m hm=>hnone m (by rw[hl] at hm;exact hm),fun b hb o hS=>?_⟩
        rw[hl];rcases hS with hS|hS
        .exact absurd hS (hseal b hb o)
        exact hS.2
      exact HZ (hH.blk i' b h1) le rfl rfl (fun _ _ _=>⟨rfl,rfl⟩) (fun _ _=>rfl) (fun bb o ho hS=>by
         rcases hS with hS|hS
         .exact hS
         exact absurd (hown2 bb hS.1 o) (fun h5=>hH.dis i' k b _ bb o hne h1 hk ho h5)) (fun _ _ _ _ h=>h)
    · obtain⟨c1,k1,k2⟩:=howns i' bi b o h1 o1
      obtain⟨c2,k3,k4⟩:=howns j bj b o h2 o2;exact hH.dis i' j c1 c2 b o hij k1 k3 k2 k4
    rcases hS with hS|hS
    .exact hH.sl b o hS
    exact KI hown hS.1
  refine⟨g',hheap,rfl,fun side s rds vv hre hs=>⟨le,hs,hheap,⟨rfl,rfl,rfl,aSW _,fun _ _ _=>rfl,fun _ _ _ _=>⟨rfl,rfl⟩,fun b o hS=>?_,fun _ _ h=> .inl h⟩,fun i' blk b o hm hg ho=>?_,fun _ _=>⟨rfl,rfl⟩,fun h=>by rw[hre] at h;cases h⟩⟩
  · rcases hS with hS|hS
    .exact .inl hS
    exact .inr (.inr ⟨k,_,by simp [q9],hk,hown2 b hS.1 o⟩)
  obtain⟨b0,k1,k2⟩:=howns i' blk b o hg ho
  exact .inr ⟨i',b0,hm,k1,k2⟩
theorem aJw {g:Gh}{w:pM}{H:rX}(hH:s5 g w H) {k:Nat}{e:TypeId}{t:Ty}{l:List t.den}{n:Nat}(hk:pY H k=some (.row e t l n)):
    ∃g',g'.J=g.J∧g'.cur=g.cur∧rD g w H ⟨[],(.any,none),[(k,pV.grow e t.cells (List.length l))],[]⟩ g' w undef∧∀cs,BG g' (some (k,n)) cs→Rd g' w (.list t) l cs:=by
  obtain⟨hl,v,xs,hv,hown,hF,hnone,hseal⟩:=hH.blk k _ hk
  let g':Gh:={g with S:=fun b o=>g.S b o∨(v.ownBlock=some b∧o<n*t.cells)}
  have le:Le g w g' w:=⟨fun _ _ h=> .inl h,fun _ _ _=>rfl,fun _ _ h=>h,fun _ _ _ h=>h⟩;have hown2: ∀b,v.ownBlock=some b→∀o,rY g k (.row e t l n) b o:=fun b hb o=>⟨v,hv,hb⟩
  have hlist: ∀u,g.cur k n=some u→((u= .slice none 0 0∧n=0)∨∃b cap,u= .slice (some ⟨b,0,none⟩) n cap∧n≤cap)→sW g' w (.list t) l u:=by
    intro u hu hshape;rw[hv] at hu;obtain rfl:=aSG hu;rcases hshape with⟨rfl,h0⟩ |⟨b,cap,rfl,hcap⟩
    · have:l=[]:=aS9 (by rw[hl,h0])
      subst this;exact .inr ⟨rfl,none,0,rfl,aSW _,.inl rfl⟩
    refine .inr ⟨rfl,some ⟨b,0,none⟩,cap,by rw[hl],by rw[hl];exact hcap,.inr ⟨b,0,rfl,I1 (C8 (fun _ _ h=>w8 le h) hF) (fun j u hu=>?_) (fun j hj=>?_)⟩⟩
    · have:=hown.cells (g:=b) rfl j u hu
      rwa [aTK] at this
    right
    exact⟨rfl,by rw[hl] at hj;omega⟩
  have hget: ∀i' b,pY ((k,pV.grow e t.cells (List.length l))::H) i'=some b→(i'=k∧b= .grow e t.cells (List.length l))∨(i'≠k∧pY H i'=some b):=by
    intro i' b hb;simp only[pY] at hb;split at hb
    .rename_i e1;exact .inl ⟨e1.symm,(aSG hb).symm⟩
    rename_i e1;exact .inr ⟨Ne.symm e1,hb⟩
  have howns: ∀i' b bb o,pY ((k,pV.grow e t.cells (List.length l))::H) i'=some b→rY g' i' b bb o→∃b0,pY H i'=some b0∧rY g i' b0 bb o:=by
    intro i' b bb o hb ho;rcases hget i' b hb with⟨rfl,rfl⟩ |⟨_,h1⟩
    · obtain⟨u,hu,hub⟩:=ho
      have hu':g.cur i' (List.length l)=some u:=hu;rw[hl] at hu';exact⟨_,hk,u,hu',hub⟩
    exact⟨b,h1,(wU (g':=g') (g:=g) rfl rfl).1 ho⟩
  have hheap:s5 g' w ((k,pV.grow e t.cells (List.length l))::H):=by
    refine⟨fun i' b hb=>?_,fun i' j bi bj b o hij h1 h2 o1 o2=>?_,fun b o hS=>?_,hH.tab.1,fun i' b bb oo hb ho=>by
      obtain⟨c1,k1,k2⟩:=howns i' b bb oo hb ho;exact hH.tab.2 i' c1 bb oo k1 k2⟩
    · rcases hget i' b hb with⟨rfl,rfl⟩ |⟨hne,h1⟩
      · refine⟨v,xs,by rw[hl];exact hv,by rw[hl];exact hown,fun m hm=>hnone m (by rw[hl] at hm;exact hm),fun b hb o hS=>?_⟩
        rw[hl];rcases hS with hS|hS
        .exact absurd hS (hseal b hb o)
        exact hS.2
      exact HZ (hH.blk i' b h1) le rfl rfl (fun _ _ _=>⟨rfl,rfl⟩) (fun _ _=>rfl) (fun bb o ho hS=>by
         rcases hS with hS|hS
         .exact hS
         exact absurd (hown2 bb hS.1 o) (fun h5=>hH.dis i' k b _ bb o hne h1 hk ho h5)) (fun _ _ _ _ h=>h)
    · obtain⟨c1,k1,k2⟩:=howns i' bi b o h1 o1
      obtain⟨c2,k3,k4⟩:=howns j bj b o h2 o2;exact hH.dis i' j c1 c2 b o hij k1 k3 k2 k4
    rcases hS with hS|hS
    .exact hH.sl b o hS
    exact KI hown hS.1
  refine⟨g',rfl,rfl,⟨le,⟨trivial,trivial⟩,hheap,⟨rfl,rfl,rfl,aSW _,fun _ _ _=>rfl,fun _ _ _ _=>⟨rfl,rfl⟩,fun b o hS=>?_,fun _ _ h=> .inl h⟩,fun i' blk b o hm hg ho=>?_,fun _ _=>⟨rfl,rfl⟩,fun i' u y us hg=>?_⟩,?_⟩
  · rcases hS with hS|hS
    .exact .inl hS
    exact .inr (.inr ⟨k,_,by simp [q9],hk,hown2 b hS.1 o⟩)
  · obtain⟨b0,k1,k2⟩:=howns i' blk b o hg ho
    exact .inr ⟨i',b0,hm,k1,k2⟩
  · rcases hget i' _ hg with⟨_,h1⟩ |⟨_,h1⟩
    .cases h1
    exact .inl ⟨y,us,h1⟩
  rintro cs ⟨v1,z1,z2,z3⟩
  rw[z2];exact wX rfl (hlist v1 z1 z3)
theorem aAr {g:Gh}{w:pM}{H:rX}(hH:s5 g w H) {k:Nat}{e:TypeId}{t:Ty}{l:List t.den}{n:Nat}(hk:pY H k=some (.row e t l n)):
    ∃g',g'.J=g.J∧g'.cur=g.cur∧rD g w H ⟨[],(.any,none),[(k,pV.grow e t.cells n)],[]⟩ g' w undef∧∀cs,BG g' (some (k,n)) cs→Rd g' w (.list t) l cs:=by
  have hl:l.length=n:=(hH.blk k _ hk).1;obtain⟨g',h1,h2,h3,h4⟩:=aJw hH hk;rw[hl] at h3;exact⟨g',h1,h2,h3,h4⟩
theorem aAs {k:Nat}: ∀{r:pG},PN k r=false→∀p∈r,p.1≠k
  |[],_,p,hp=>by cases hp
  | (j,m)::r,h,p,hp=>by
    simp only[PN] at h;split at h
    .cases h
    rename_i hne
    rcases aSP.1 hp with rfl|hp
    .exact hne
    exact aAs h p hp
theorem aAt {w:pM}{H:rX}: ∀{ks:pG}{ps:List Prop}{bs:List (Nat×pV)}{g:Gh},s5 g w H→BE H ks=some (ps,bs)→(∀p∈ps,p)→
    ∃g',g'.J=g.J∧g'.cur=g.cur∧rD g w H ⟨[],(.any,none),bs,[]⟩ g' w undef∧(∀i,i∈q9 bs→∃p∈ks,p.1=i)∧∀p∈ks,∀e t l m,pY H p.1=some (.row e t l m)→∀cs,BG g' (some p) cs→Rd g' w (.list t) l cs
  | [],ps,bs,g,hH,h,_=>by
    simp only[BE,aSC,aS7] at h;obtain⟨rfl,rfl⟩:=h;exact⟨g,rfl,rfl,.pure hH ⟨trivial,trivial⟩,fun i hi=>(by cases hi),fun p hp=>(by cases hp)⟩
  | (k,n)::r,ps,bs,g,hH,h,hs=>by
    simp only[BE] at h;split at h
    .cases h
    rename_i hk
    have hk:PN k r=false:=by simpa using hk
    cases h1:TL k n (pY H k) with
    |none=>rw[h1] at h;simp [K0] at h
    | some q=>
      obtain⟨pp,b⟩:=q;cases h2:BE H r with
      |none=>rw[h1,h2] at h;simp [K0] at h
      | some q2=>
        obtain⟨ps2,bs2⟩:=q2;rw[h1,h2] at h;simp only[K0,aSC,aS7] at h;obtain⟨rfl,rfl⟩:=h;obtain⟨g1,k1,k2,k3,k4,k5⟩:=aAt hH h2 (fun p hp=>hs p (aSQ _ hp));unfold TL at h1;split at h1
        · rename_i e t l m hg
          cases h1;have hnm:n=m:=hs _ aS2;subst hnm
          have hni:k∉q9 bs2:=fun hi=>by
            obtain⟨p,hp,e1⟩:=k4 k hi;exact aAs hk p hp e1
          have hg2:pY (qS bs2 H) k=some (.row e t l n):=(A0 hni).trans hg;obtain⟨g2,m1,m2,m3,m4⟩:=aAr k3.heap hg2;refine⟨g2,m1.trans k1,m2.trans k2,k3.trans m3,fun i hi=>?_,fun p hp e' t' l' m' hp2 cs hr=>?_⟩
          · simp only[qS,q9,aSP] at hi
            rcases hi with rfl|hi
            .exact⟨_,aS2,rfl⟩
            obtain⟨p,hp,e1⟩:=k4 i hi
            exact⟨p,aSQ _ hp,e1⟩
          rcases aSP.1 hp with rfl|hp
          · simp only at hp2
            rw[hg] at hp2;simp only[aSC,pV.row.injEq] at hp2;obtain⟨rfl,rfl,rfl,rfl⟩:=hp2;exact m4 cs hr
          obtain⟨j,q⟩:=p
          refine w8 m3.le (k5 _ hp e' t' l' m' hp2 cs ?_);obtain⟨v,v1,v2⟩:=hr;exact⟨v,by rw[←m2];exact v1,v2⟩
        cases h1
theorem aJx {g:Gh}{w:pM}{H:rX}: ∀{t:Ty}{x:t.den}{y:(FT t).den}{cs:pI},AI H t x=some y→Rd g w t x cs→(∀p∈AJ t x,∀e t' l m,pY H p.1=some (.row e t' l m)→∀cs,BG g (some p) cs→Rd g w (.list t') l cs)→Rd g w (FT t) y cs:=by
  intro t
  induction t with
  | rl e u=>
    intro x y cs h r hk;cases x with
    | none=>
      obtain rfl:[]=y:=aSG h;exact⟨none,0,r,aSW _,.inl rfl⟩
    | some p=>
      obtain⟨k,n⟩:=p;simp only[AI,Z0] at h;unfold a9G at h;split at h
      · rename_i e' t' l m hg
        split at h
        · rename_i htu
          subst htu;cases h;exact hk (k,n) (by simp [AJ,Z1]) _ _ _ _ hg cs r
        cases h
      .cases h
  | pair a b iha ihb=>
    intro x y cs h r hk;simp only[AI] at h;obtain⟨c1,c2,e,r1,r2⟩:=r;cases h1:AI H a x.1 with
    |none=>rw[h1] at h;simp [EK] at h
    | some y1=>
      cases h2:AI H b x.2 with
      |none=>rw[h1,h2] at h;simp [EK] at h
      | some y2=>
        rw[h1,h2] at h;cases h;exact⟨c1,c2,e,iha h1 r1 (fun p hp=>hk p (by simp only[AJ];exact G0.2 (.inl hp))),ihb h2 r2 (fun p hp=>hk p (by simp only[AJ];exact G0.2 (.inr hp)))⟩
  |_=>intro x y cs h r _;cases h;exact r
section
variable {P:Program}{o:Oper}{a:Act}{g:Gh}{w:pM}{H:rX}{T:sG}(hT:wW P T) (hH:s5 g w H)
include hT hH
theorem N7 {t:TypeId}{ti:TI}(hty:sU P t ti) {x:ti.ty.den}{b off:Nat}{cs:pI}(hra:w.rangeAt b off cs) (hR:Rd g w ti.ty x cs):
    ∃v,(Instr.loadAt t (.pointer (some ⟨b,off,none⟩))).run P w= .ok v w∧sW g w ti.ty x v∧v.cells.toList=cs:=by
  obtain⟨d,hd,hrow⟩:=UV hty;obtain⟨i,hi,hsz,_⟩:=DF hty;have hl:=sJ hR;by_cases hr:ti.ty.isRow=true
  .refine⟨.agg cs.toArray,run_loadAt_mid w b off t cs d hra hd (by rw[hrow,hr]) (by rw[hi,Option.map_some,hsz,hl]),.inl ⟨hr,cs,rfl,hR⟩,by simp [Value.cells]⟩
  have hr':ti.ty.isRow=false:=by simpa using hr
  have h1:ti.ty.cells=1:=by
    obtain⟨ty,el,by',ar,ls⟩:=ti;cases ty<;>first|rfl|(simp [Ty.isRow] at hr')
  obtain⟨v,rfl⟩: ∃v,cs=[v]:=by rw[h1] at hl;exact aTO.1 hl
  have hv1:=zY hR v pD;refine⟨v,?_,.inr ⟨hr',hR⟩,by cases v<;>first|rfl|(simp [Value.oneCell'] at hv1)⟩
  have hc:w.cell? ⟨b,off,none⟩=some v:=by simpa using hra 0 v rfl
  have hagg:(isAgg t).run P w= .ok false w:=by
    unfold isAgg;rw[aSO,aSX hd w];rw[hr'] at hrow;cases d<;>simp_all [TypeDesc.isRow]
  simp [Instr.loadAt,Instr.sureAddr,loadVar,aSO,hagg,hc]
theorem KO {b off:Nat}{c1 c2 c3:pI}(h:w.rangeAt b off (c1++c2++c3)):w.rangeAt b (off+c1.length) c2:=fun j v hj=>by
  have:=h (c1.length+j) v (by
    have hj':=(aSR.1 hj).1;rw[aSN,aSM pB,aTr,aSU hj'];exact hj)
  rw[aTj];exact this
theorem aAu {k n c:Nat}{i:Int}{o':Nat}{v:pN}(hx:yH g w (.elt k n c i o') v) {e:TypeId}{t:Ty}{l:List t.den}{m:Nat}(hk:pY H k=some (.row e t l m)) (hnm:n=m) (hc:c=t.cells):
    ∃ b cap xs c1 c2 c3,v= .pointer (some ⟨b,i.toNat*c+o',none⟩)∧g.cur k m=some (.slice (some ⟨b,0,none⟩) m cap)∧w.ownsRow 0 e t.cells (.slice (some ⟨b,0,none⟩) m cap) m xs∧tU (Rd g w t) t.cells l xs∧l.length=m∧i.toNat<l.length∧0≤i∧
      xs=c1++c2++c3∧c1.length=i.toNat*c∧c2.length=c∧Rd g w t (qE t l i) c2:=by
  subst hnm;subst hc;obtain⟨b,cap,h1,h2,h3,hv⟩:=hx;obtain⟨hl,v0,xs,hv0,hown,hF,hnone,hseal⟩:=hH.blk k _ hk;rw[h1] at hv0;obtain rfl:=aSG hv0;have hi:i.toNat<l.length:=by rw[hl];omega
  obtain⟨c1,c2,c3,e1,e2,e3,e4⟩:=V0 hF (aAq h2 hi);exact⟨b,cap,xs,c1,c2,c3,hv,h1,hown,hF,hl,hi,h2,e1,e2,e3,e4⟩
theorem aJy {e:TypeId}{c n:Nat}{q cap:Nat}{xs:pI}(h:w.ownsRow 0 e c (.slice (some ⟨q,0,none⟩) n cap) n xs):w.rangeAt q 0 xs:=fun j u hu=>by
  have:=h.cells (g:=q) rfl j u hu;rwa [aTK] at this
theorem aJz {t:TypeId}{ti:TI}(hst:rO T t=some ti) {k n c:Nat}{i:Int}{o':Nat}{vx:pN}(hx:yH g w (.elt k n c i o') vx) {e:qI}(hr:PM ti.ty k n c i o' (pY H k)=some e) (hs: ∀p∈e.side,p):
    ∃v,(Instr.loadAt t vx).run P w= .ok v w∧rH g w e.slot v∧e.upd=[]:=by
  generalize hk:pY H k=ob at hr;unfold PM at hr;split at hr
  · rename_i e' t' l m
    split at hr
    · rename_i hc
      generalize hga:qT ti.ty t' (qE t' l i) o'=oy at hr;cases oy with
      |none=>cases hr
      | some y=>
        cases hr;have hnm:=hs _ (aST.2 rfl);obtain⟨b,cap,xs,c1,c2,c3,hv,hcur,hown,hF,hl,hi,h0,e1,e2,e3,e4⟩:=aAu hT hH hx hk hnm hc;obtain⟨d1,d2,d3,f1,f2,f3⟩:=BH e4 hga;have hra:=aJy hT hH hown;rw[e1] at hra;have hra2:=KO hT hH hra;rw[f1] at hra2;have hra3:=KO hT hH hra2;rw[aTa,e2,f2] at hra3;obtain⟨v,h1,h2,_⟩:=N7 hT hH (sP hT hst) hra3 f3;exact⟨v,by rw[hv];exact h1,⟨h2,trivial⟩,rfl⟩
    cases hr
  cases hr
theorem a0q: ∀{toks:pG}{q k:Nat},wR toks q=some k→(q,k)∈toks
  |[],_,_,h=>by simp [wR] at h
  | (q',k')::r,q,k,h=>by
    simp only[wR] at h;split at h
    · rename_i e
      subst e;simp only[aSC] at h;subst h;simp
    exact aSQ _ (a0q h)
theorem aAv {u v:Ty}: ∀{t:Ty}{x:t.den}{q:Nat}{l:List u.den}{y:v.den},qT (.list u) t x q=some l→qT v t x q=some y→v.isRow=false→∃h:v= .list u,tX h y=l:=by
  intro t
  induction t with
  | pair s t ihs iht=>
    intro x q l y h1 h2 hv
    have key: ∀q,(if q<s.cells then qT (.list u) s x.1 q else qT (.list u) t x.2 (q-s.cells))=some l→(if q<s.cells then qT v s x.1 q else qT v t x.2 (q-s.cells))=some y→∃h:v= .list u,tX h y=l:=by
      intro q h1 h2;by_cases hq:q<s.cells
      .rw[aSB hq] at h1 h2;exact ihs h1 h2 hv
      rw[aSD hq] at h1 h2;exact iht h1 h2 hv
    cases q with
    | zero=>
      have e1:Ty.pair s t≠.list u:=by intro h;cases h
      have e2:Ty.pair s t≠v:=by intro h;subst h;simp [Ty.isRow] at hv
      unfold qT at h1 h2;rw[aT0 e1] at h1;rw[aT0 e2] at h2;exact key 0 (by simpa using h1) (by simpa using h2)
    |succ q=>exact key (q+1) (by simpa[qT] using h1) (by simpa[qT] using h2)
  | _=>
    intro x q l y h1 h2 hv;cases q with
    | zero=>
      unfold qT at h1 h2;split at h1
      · rename_i e1
        split at h2
        · rename_i e2
          first
          |(cases e1;done)
          | (subst e2
             injection e1 with e1'
             subst e1';simp only[tX,aSC] at h1 h2;subst h1;subst h2;exact⟨rfl,rfl⟩)
        simp at h2
      .simp at h1
    |succ q=>simp [qT] at h1
theorem aJA {t:TypeId}{ti:TI}(hty:sU P t ti) (hr:ti.ty.isRow=false) {b off:Nat}{v:pN}(hc:w.cell? ⟨b,off,none⟩=some v):
    (Instr.loadAt t (.pointer (some ⟨b,off,none⟩))).run P w= .ok v w:=by
  obtain⟨d,hd,hrow⟩:=UV hty
  have hagg:(isAgg t).run P w= .ok false w:=by
    unfold isAgg;rw[aSO,aSX hd w];rw[hr] at hrow;cases d<;>simp_all [TypeDesc.isRow]
  simp [Instr.loadAt,Instr.sureAddr,loadVar,aSO,hagg,hc]
omit hT hH in
theorem aAw {a b:Option qI}{e:qI}(h:orE a b=some e):a=some e∨b=some e:=by
  cases a with
  |some r=>exact .inl h
  |none=>exact .inr h
omit hT hH in
theorem aAx {H:List (Nat×pV)}{t:Ty}{i off:Nat}{b:Option pV}{x:Option qI}{e:qI}(h:orS H t i off b x=some e):x=some e∨(x=none∧HO H t i off b=some e):=by
  cases x with
  |some r=>exact .inl h
  |none=>exact .inr ⟨rfl,h⟩
theorem aJB {t:TypeId}{ti:TI}{x:Operand}(ho:o.op= .load t x) (hs:rO T t=some ti) {i off:Nat}(hx:sW g w .ref (some (i,off)) (a.eval x)) {e:qI}(hr:TH i off ti (pY H i)=some e):r8 P o a g w H e:=by
  have hty:=sP hT hs;generalize hb:pY H i=ob at hr;unfold TH at hr;split at hr
  · rename_i u el _ _ _ v x' toks
    generalize hga:qT (.rl el u) v x' off=oy at hr;unfold YV at hr;split at hr
    · rename_i k n
      cases hr;obtain⟨p,hp,hv⟩:=wZ hx;obtain⟨p',cs,hp',hR,hra,_⟩:=hH.blk i _ hb;rw[hp] at hp';obtain rfl:=aSG hp';obtain⟨c1,c2,c3,rfl,rfl,hR2⟩:=BH hR hga;obtain⟨v0,hcur,rfl,hsh⟩:=hR2;have hc:w.cell? ⟨p.1,p.2+c1.length,none⟩=some v0:=by simpa using KO hT hH hra 0 _ rfl
      have h1:=aJA (P:=P) hT hH hty rfl hc;exact r8.value (v:=v0) (g':=g) (w':=w) (by simp only[execOp,ho,hv,aSO,h1,aSJ,aS1]) (.pure hH ⟨⟨hcur,hsh⟩,trivial⟩)
    cases hr
  cases hr
theorem aJC {t:TypeId}{ti:TI}{x:Operand}(ho:o.op= .load t x) (hs:rO T t=some ti) {i off:Nat}(hx:sW g w .ref (some (i,off)) (a.eval x)) {e:qI}(hr:HO H ti.ty i off (pY H i)=some e) (hside: ∀p∈e.side,p):r8 P o a g w H e:=by
  have hty:=sP hT hs;generalize hb:pY H i=ob at hr;unfold HO at hr;split at hr
  case h_2=>cases hr
  rename_i v z toks;generalize hf:BD v z=of at hr;cases of with
  |none=>cases hr
  | some kn=>
    obtain⟨k,n0⟩:=kn;simp only[TK] at hr;generalize hk:pY H k=ok at hr;unfold TJ at hr;split at hr
    case h_2=>cases hr
    rename_i el u0 l m;generalize hz:zH u0 l v z=oq at hr;cases oq with
    |none=>cases hr
    |some q=>
    obtain⟨v',x'⟩:=q;simp only[YZ] at hr;generalize hga:qT ti.ty v' x' off=oy at hr;cases oy with
    |none=>cases hr
    | some y=>
      simp only[YY,aSC] at hr;subst hr;have hnm:n0=m:=hside _ (aST.2 rfl);subst hnm;obtain⟨g',hH',hJ,heff⟩:=aJv hH hk hb hf hz;obtain⟨p,hp,hv⟩:=wZ hx;obtain⟨p',cs,hp',hR,hra,_,_,_⟩:=hH'.blk i (.cells v' x' []) (by simp [qS,pY]);rw[hJ,hp] at hp';obtain rfl:=aSG hp';obtain⟨c1,c2,c3,rfl,rfl,hR2⟩:=BH hR hga;obtain⟨v0,h1,h2,_⟩:=N7 hT hH' hty (KO hT hH' hra) hR2;exact r8.valueW (v:=v0) (g':=g') (w':=w) (by simp only[execOp,ho,hv,aSO,h1,aSJ,aS1]) (heff _ _ _ _ rfl ⟨h2,trivial⟩)
theorem aJD {t:TypeId}{ti:TI}{x:Operand}(ho:o.op= .load t x) (hs:rO T t=some ti) {i off:Nat}(hx:sW g w .ref (some (i,off)) (a.eval x)) {e:qI}(hr:K1 H ti.ty i off (pY H i)=some e) (hside: ∀p∈e.side,p):r8 P o a g w H e:=by
  have hty:=sP hT hs;generalize hb:pY H i=ob at hr;unfold K1 at hr;split at hr
  case h_2=>cases hr
  rename_i v z toks;generalize hu:AI H v z=ou at hr;cases ou with
  |none=>cases hr
  | some z2=>
    simp only[TN] at hr;generalize hsa:BE H (AJ v z)=osa at hr;generalize hga:qT ti.ty (FT v) z2 off=oy at hr;cases osa with
    |none=>cases hr
    | some q=>
      obtain⟨ps,bs⟩:=q;cases oy with
      |none=>cases hr
      | some y=>
        simp only[TM,aSC] at hr;subst hr;obtain⟨g',k1,k2,k3,_,k5⟩:=aAt hH hsa hside;obtain⟨p,hp,hv⟩:=wZ hx;obtain⟨p',cs,hp',hR,hra,_,_,_⟩:=hH.blk i _ hb;rw[hp] at hp';obtain rfl:=aSG hp';have hRz:=aJx hu (w8 k3.le hR) k5;obtain⟨c1,c2,c3,rfl,rfl,hR2⟩:=BH hRz hga;obtain⟨v0,h1,h2,_⟩:=N7 hT k3.heap hty (KO hT hH hra) hR2;exact r8.value (v:=v0) (g':=g') (w':=w) (by simp only[execOp,ho,hv,aSO,h1,aSJ,aS1]) (k3.slot' ⟨h2,trivial⟩)
theorem aJE {t:TypeId}{x:Operand}(ho:o.op= .load t x) {sx:pW}(hx:rH g w sx (a.eval x)) {e:qI}(hr:TO H (rO T t) sx=some e) (hside: ∀p∈e.side,p):r8 P o a g w H e:=by
  generalize hs:rO T t=ot at hr;replace hx:=hx.1;unfold TO at hr;split at hr
  · rename_i ti k n c i o' _
    obtain⟨v,h1,h2,h3⟩:=aJz hT hH hs hx hr hside;obtain⟨side,slot,upd,rds⟩:=e;simp only at h2 h3;subst h3;exact r8.value (v:=v) (g':=g) (w':=w) (by simp only[execOp,ho,aSO,h1,aSJ,aS1]) (.pure hH h2)
  · rename_i ti u y k
    split at hr
    · rename_i hu
      subst hu;cases hr;have hty:=sP hT hs;obtain⟨b,off,cs,hv,hra,hS,hR⟩:=hx;obtain⟨v,h1,h2,_⟩:=N7 hT hH hty hra hR;exact r8.pure hH (v:=v) (by simp only[execOp,ho,hv,aSO,h1,aSJ,aS1]) h2
    cases hr
  · rename_i ti i off k
    split at hr
    .exact aJD hT hH ho hs hx hr hside
    rcases aAx hr with hr|⟨_,hr⟩
    case inr=>exact aJC hT hH ho hs hx hr hside
    rcases aAw hr with hr|hr
    case inr=>exact aJB hT hH ho hs hx hr
    have hty:=sP hT hs;generalize hb:pY H i=ob at hr;unfold PL at hr;split at hr
    · rename_i u z toks
      generalize hga:qT ti.ty u z off=oy at hr;cases oy with
      |none=>cases hr
      | some y=>
        cases hr;obtain⟨p,hp,hv⟩:=wZ hx;obtain⟨p',cs,hp',hR,hra,_,_,htk⟩:=hH.blk i _ hb;rw[hp] at hp';obtain rfl:=aSG hp';obtain⟨c1,c2,c3,rfl,rfl,hR2⟩:=BH hR hga;obtain⟨v,h1,h2,h3⟩:=N7 hT hH hty (KO hT hH hra) hR2;refine r8.value (v:=v) (g':=g) (w':=w) (by simp only[execOp,ho,hv,aSO,h1,aSJ,aS1]) (.pure hH ⟨h2,?_⟩);obtain⟨ty,el,by',ar,ls⟩:=ti;cases ty with
        | list u'=>
          simp only[EI];generalize htt:wR toks c1.length=ok;cases ok with
          |none=>trivial
          | some k=>
            obtain⟨u2,l,v',g1,g2,g3⟩:=htk _ _ (a0q hT hH htt);obtain⟨heq,hl⟩:=aAv hT hH g1 hga rfl;injection heq with heq'
            subst heq';have hlen:=sJ hR2;obtain⟨v2,rfl⟩:=aTO.1 hlen
            have e2:v'=v2:=by
              have e:(c1++[v2]++c3)[c1.length]? =some v2:=by simp
              rw[e] at g2;exact(aSG g2).symm
            have e3:v=v2:=by
              have h4:=wX rfl h2;have hone:=zY h4 v pD;have:v.cells= #[v]:=by cases v<;>first|rfl|(simp [Value.oneCell'] at hone)
              rw[this] at h3;simpa using h3
            subst e2;subst e3;have e4:(y:List u'.den)=l:=hl;subst e4;exact g3
        |_=>trivial
    cases hr
  cases hr
theorem V1 {ρ:Operand→pW}{x:Option Operand}{n m:Int}(hρ: ∀y∈x.toList,rH g w (ρ y) (a.eval y)) (h:D9 (zI ρ x) n=some m):(x=none∧m=n)∨∃y k,x=some y∧a.eval y= .int k m:=by
  cases x with
  |none=>simp only[zI,D9,aSC] at h;exact .inl ⟨rfl,h.symm⟩
  | some y=>
    have h0:=hρ y pD;simp only[zI] at h;unfold D9 at h;split at h
    .cases ‹some _=none›
    · rename_i k q kk heq
      simp only[aSC] at heq h;rw[heq] at h0;subst h;exact .inr ⟨y,k,rfl,wC h0.1⟩
    cases h
theorem aAy {isSlice:Bool}{len cap:Nat}{lo hi:Option Operand}{m n:Int}(hlo:(lo=none∧m=0)∨∃y k,lo=some y∧a.eval y= .int k m) (hhi:(hi=none∧n=(len:Int))∨∃y k,hi=some y∧a.eval y= .int k n)
    (h0:0≤m) (h1:m≤n) (h2:n≤(len:Int)) (h3:len≤cap):(Instr.sliceBounds isSlice len cap (lo.map a.eval) (hi.map a.eval) none).run P w= .ok (m.toNat,n.toNat,cap) w:=by
  have e1:(n.toNat:Int)=n:=Int.toNat_of_nonneg pB;rcases hlo with⟨rfl,rfl⟩ |⟨y,k,rfl,hy⟩<;>rcases hhi with⟨rfl,rfl⟩ |⟨z,k',rfl,hz⟩
  .simp [Instr.sliceBounds]
  .simp [Instr.sliceBounds,hz,run_sliceBound,(by omega:0≤n),(by omega:n≤(cap:Int))]
  .simp [Instr.sliceBounds,hy,run_sliceBound,h0,h1]
  simp [Instr.sliceBounds,hy,hz,run_sliceBound,(by omega:0≤n),(by omega:n≤(cap:Int)),e1,h0,h1]
theorem aJF {t:TypeId}{x:Operand}{lo hi:Option Operand}(ho:o.op= .slice t x lo hi none) {ρ:Operand→pW}(hx:rH g w (ρ x) (a.eval x)) (hlo: ∀y∈lo.toList,rH g w (ρ y) (a.eval y)) (hhi: ∀y∈hi.toList,rH g w (ρ y) (a.eval y)) {e:qI}
    (hr:AF (YE (rO T t) (ρ x) (zI ρ lo) (zI ρ hi))=some e) (hs: ∀p∈e.side,p):r8 P o a g w H e:=by
  obtain⟨q,hq,rfl⟩:=I0 hr;replace hx:=hx.1;generalize hst:rO T t=ot at hq;generalize hsx:ρ x=sx at hq hx;unfold YE at hq;split at hq
  · rename_i el by' ar ls_ l k
    generalize hb1:D9 (zI ρ lo) 0=o1 at hq;generalize hb2:D9 (zI ρ hi) (List.length l)=o2 at hq;unfold SV at hq;split at hq
    · rename_i m n
      cases hq;obtain⟨k1,k2,k3⟩:=hs _ (aST.2 rfl);have h2:=(sP hT hst).2;simp only[wV] at h2;have hv:=wY hx;have hbd:=aAy (P:=P) (isSlice:=false) (cap:=List.length l) hT hH (V1 hT hH hlo hb1) (V1 hT hH hhi hb2) k1 k2 k3 (aSW _);refine r8.pure hH (v:= .string ⟨(qR l m n).toArray⟩) ?_ (KN _ _ _);have hsz:(⟨List.toArray l⟩:ByteArray).size=List.length l:=by simp [ByteArray.size]
      have hext:(⟨List.toArray l⟩:ByteArray).extract m.toNat n.toNat=⟨(qR l m n).toArray⟩:=by
        apply ByteArray.ext;apply aTF.1;simp [qR]
      simp only[execOp,ho,hv,Option.map_none,Instr.sliceAt,Instr.slice,aSO,aSX h2,aSJ,Option.isSome_none,aTS,aUy,hsz,hbd,hext,aS1]
    cases hq
  · rename_i u el by' ar ls_ t1 l k
    split at hq
    · rename_i htu
      subst htu;generalize hb1:D9 (zI ρ lo) 0=o1 at hq;generalize hb2:D9 (zI ρ hi) (List.length l)=o2 at hq;unfold SV at hq;split at hq
      · rename_i m n
        cases hq;obtain⟨k1,k2,k3⟩:=hs _ (aST.2 rfl);obtain⟨h2,h3,_⟩:=(sP hT hst).2;obtain⟨ei,hei,hz⟩:=aSS.1 h3;simp only[aS7] at hz;obtain⟨ad,cap,hv,hle,hl⟩:=EU hx;have hbd:=aAy (P:=P) (isSlice:=true) (cap:=cap) hT hH (V1 hT hH hlo hb1) (V1 hT hH hhi hb2) k1 k2 k3 hle;refine r8.pure hH (v:= .slice (if cap=m.toNat then ad else ad.map (·.add (m.toNat*t1.cells))) (n.toNat-m.toNat) (cap-m.toNat)) ?_ (.inr ⟨rfl,(if cap=m.toNat then ad else ad.map (·.add (m.toNat*t1.cells))),cap-m.toNat,?_,?_,?_⟩)
        .simp only[execOp,ho,hv,Option.map_none,Instr.sliceAt,Instr.slice,aSO,aSX h2,aSJ,hbd,sizeOf,typeInfo,aTz,hei,hz.1,aS1]
        .rw[a0o k1 k2 k3]
        .rw[a0o k1 k2 k3];omega
        rcases hl with rfl|⟨b,off,rfl,hL⟩
        .exact .inl (by simp [qR])
        by_cases hc:cap=m.toNat
        · left
          apply aS9;rw[a0o k1 k2 k3];omega
        right
        rw[aSD hc];refine⟨b,off+m.toNat*t1.cells,by simp [aTK],?_⟩;exact aAg _ (aAf _ hL pB)
      cases hq
    cases hq
  cases hq
end
theorem a0r {α:Type}{R:α->pI->Prop}{c:Nat}(hR: ∀x cs,R x cs->∀v∈cs,v.oneCell'=true): ∀{l:List α}{cs:pI},tU R c l cs->∀v∈cs,v.oneCell'=true
 |[],_,h=>by rw[h];simp
 |_::_,_,⟨c1,c2,e,_,h2,h3⟩=>by
  subst e;intro v hv;rcases aTR.1 hv with h|h
  .exact hR _ _ h2 v h
  exact a0r hR h3 v h
theorem V2 {α:Type}{R:α->pI->Prop}{c:Nat}: ∀{l:List α}{cs cy:pI}{i:Nat}{y:α},tU R c l cs->R y cy->cy.length=c->i<l.length->
  ∃c1 c2 c3,cs=c1++c2++c3/\c1.length=i*c/\c2.length=c/\tU R c (l.set i y) (c1++cy++c3)
 |[],_,_,_,_,_,_,_,h=>by simp at h
 |_::l,_,cy,0,y,⟨c1,c2,e,h1,_,h3⟩,hy,hc,_=>⟨[],c1,c2,by simpa using e,by simp,h1,⟨cy,c2,by simp,hc,hy,h3⟩⟩
 |x::l,_,cy,i+1,y,⟨c1,c2,e,h1,h2,h3⟩,hy,hc,hi=>by
  obtain⟨d1,d2,d3,e1,e2,e3,e4⟩:=V2 h3 hy hc (by simpa using hi);refine⟨c1++d1,d2,d3,by rw[e,e1];simp,by rw[aSH,h1,e2,aTW];omega,e3,⟨c1,d1++cy++d3,by simp,h1,h2,e4⟩⟩
theorem Q6 {α:Type}{R:α->pI->Prop}{w:pM}{S:Nat->Nat->Prop}{c b:Nat}: ∀{l:List α}{o:Nat},yG R w S c b o l->∃cs,tU R c l cs/\w.rangeAt b o cs/\∀j,j<l.length*c->S b (o+j)
 |[],o,_=>⟨[],rfl,fun j v h=>by simp at h,fun j h=>by simp at h⟩
 |x::l,o,⟨⟨c1,h1,h2,h3,h4⟩,h5⟩=>by
  obtain⟨c2,k1,k2,k3⟩:=Q6 h5;refine⟨c1++c2,⟨c1,c2,rfl,h1,h4,k1⟩,fun j v hv=>?_,fun j hj=>?_⟩
  .by_cases hj:j<c
   .exact h2 j v (by rwa [aSU pB] at hv)
   have:=k2 (j-c) v (by rw[aSM pB,h1] at hv;exact hv);rwa [show o+c+(j-c)=o+j from by omega] at this
  by_cases hj':j<c
  .exact h3 j hj'
  have:=k3 (j-c) (by rw[aSI,aTW] at hj;omega);rwa [show o+c+(j-c)=o+j from by omega] at this
theorem aAz {g:Gh}{w:pM}{t:Ty}: ∀n,tU (Rd g w t) t.cells (CS t n) (List.flatten (List.replicate n (tY t)))
 |0=>rfl
 |n+1=>⟨tY t,_,rfl,sJ (DE g w t),DE g w t,aAz n⟩
theorem aAA (t:Ty): ∀n,(CS t n).length=n
 |0=>rfl
 |n+1=>by simp [CS,aAA t n]
def Gh.tok (g:Gh) (k n:Nat) (v:pN):Gh:={g with cur:=fun k' n'=>if k'=k/\n'=n then some v else g.cur k' n'}
def Gh.var (g:Gh) (i b:Nat) (k:Option (TypeId×Nat)):Gh:={g with J:=fun i'=>if i'=i then some ⟨b,0,k⟩ else g.J i'}
def Gh.shut (g:Gh) (b m:Nat):Gh:={g with S:=fun b' o=>g.S b' o\/(b'=b/\o<m)}
section
variable {g:Gh}{w:pM}{H:rX}(hH:s5 g w H)
include hH
theorem rD.nilTok {side:List Prop}{d:DV}{rds:pL}{base e c:Nat}{u:Ty}(hd:d= .val (.list u) []) (hf: ∀n,g.cur base n=none):
  rD g w H ⟨side,(d,some base),[(base,.grow e c 0)],rds⟩ (g.tok base 0 (.slice none 0 0)) w (.slice none 0 0):=by
 have le:Le g w (g.tok base 0 (.slice none 0 0)) w:=⟨fun _ _ h=>h,fun _ _ _=>rfl,fun _ _ h=>h,fun k n v h=>by
  show (if k=base/\n=0 then _ else _)=_;rw[aSD (fun⟨e1,_⟩=>by rw[e1,hf] at h;cases h)];exact h⟩
 have fr:Fr (sI g H (q9 [(base,pV.grow e c 0)])) w w g.S (g.tok base 0 (.slice none 0 0)).S:= .refl _ _ _;have gho: ∀i,i∉q9 [(base,pV.grow e c 0)]->(g.tok base 0 (.slice none 0 0)).J i=g.J i/\(g.tok base 0 (.slice none 0 0)).cur i=g.cur i:=fun i hi=>⟨rfl,by
  funext n;show (if i=base/\n=0 then _ else _)=_;rw[aSD (fun⟨e1,_⟩=>hi (by simp [q9,e1]))]⟩
 have cur0:(g.tok base 0 (.slice none 0 0)).cur base 0=some (.slice none 0 0):=by simp [Gh.tok]
 have own: ∀i blk b o,i∈q9 [(base,pV.grow e c 0)]->pY (qS [(base,pV.grow e c 0)] H) i=some blk->¬rY (g.tok base 0 (.slice none 0 0)) i blk b o:=by
  intro i blk b o hi hg ho;simp only[q9,aST] at hi;subst hi;simp only[qS,pY,aT5,aSC] at hg;subst hg;obtain⟨v,hv,hb⟩:=ho;rw[cur0] at hv;obtain rfl:=aSG hv;cases hb
 subst hd;refine⟨le,⟨.inr ⟨rfl,none,0,rfl,aSW _,.inl rfl⟩,cur0⟩,hH.upd le fr (fun i blk b o h1 h2 h3=>absurd h3 (own i blk b o h1 h2)) gho (fun i blk hi hg=>?_) (fun i j bi bj b o hi hj hij hgi hgj hoi hoj=>own i bi b o hi hgi hoi) hH.sl,fr,fun i blk b o h1 h2 h3=>absurd h3 (own i blk b o h1 h2),gho,fun i u' y us h=>by
  simp only[qS,pY] at h;split at h
  .cases h
  exact .inl ⟨y,us,h⟩⟩
 simp only[q9,aST] at hi;subst hi;simp only[qS,pY,aT5,aSC] at hg;subst hg;refine⟨.slice none 0 0,[],cur0,World.ownsRow_nil w 0 e c,fun m hm=>?_,fun b hb=>by cases hb⟩;show (if i=i/\m=0 then _ else _)=_;rw[aSD pB];exact hf m
theorem rD.row {side:List Prop}{rds:pL}{s:pW}{val:pN}{k:Nat}{e:TypeId}{t:Ty}{l:List t.den}{n:Nat}{v:pN}{xs:pI}{w':pM}
  (hl:l.length=n) (hown:w'.ownsRow 0 e t.cells v n xs) (hF:tU (Rd g w t) t.cells l xs) (hnone: ∀m,n<m->g.cur k m=none) (hcur: ∀u,g.cur k n=some u->u=v)
  (hg:w.grownBy w' (v.ownBlock)\/∃q,w.grownBy w' q/\∀b,q=some b->∀o,sI g H [k] b o)
  (hcell: ∀b o,g.S b o->w'.cell? ⟨b,o,none⟩=w.cell? ⟨b,o,none⟩)
  (hseal: ∀b,v.ownBlock=some b->∀o,¬g.S b o)
  (hperm: ∀b,v.ownBlock=some b->w.heap.size<=b\/∀o,sI g H [k] b o)
  (hslot:rH (g.tok k n v) w' s val):rD g w H ⟨side,s,[(k,.row e t l n)],rds⟩ (g.tok k n v) w' val:=by
 have le:Le g w (g.tok k n v) w':=⟨fun _ _ h=>h,fun b o h=>hcell b o h,fun _ _ h=>h,fun k' n' v' h=>by
  show (if k'=k/\n'=n then _ else _)=_;by_cases hk:k'=k/\n'=n
  .obtain⟨rfl,rfl⟩:=hk;rw[aSB ⟨rfl,rfl⟩,hcur _ h]
  rw[aSD hk];exact h⟩
 have cur1:(g.tok k n v).cur k n=some v:=by simp [Gh.tok]
 have hblk: ∀b,b<w.heap.size->(∀o,¬sI g H (q9 [(k,pV.row e t l n)]) b o)->w'.heap[b]? =w.heap[b]? :=by
  intro b hb hno;rcases hg with hg|⟨q,hg,hq⟩
  .refine hg.block b hb (fun e1=>?_);rcases hperm b e1.symm with h|h
   .omega
   exact hno 0 (h 0)
  exact hg.block b hb (fun e1=>hno 0 (hq b e1.symm 0))
 have hgo:w'.os=w.os/\w'.tape=w.tape/\w'.output=w.output/\w.heap.size<=w'.heap.size:=by
  rcases hg with hg|⟨q,hg,_⟩
  .exact⟨hg.os,hg.tape,hg.output,hg.size⟩
  exact⟨hg.os,hg.tape,hg.output,hg.size⟩
 have hall: ∀b o,sI g H (q9 [(k,pV.row e t l n)]) b o->True:=fun _ _ _=>trivial;have hcell2: ∀b o,b<w.heap.size->¬sI g H (q9 [(k,pV.row e t l n)]) b o->(w'.cell? ⟨b,o,none⟩=w.cell? ⟨b,o,none⟩/\w'.frozen? ⟨b,o,none⟩=w.frozen? ⟨b,o,none⟩):=by
  intro b o hb hno;have:w'.heap[b]? =w.heap[b]? :=by
   rcases hg with hg|⟨q,hg,hq⟩
   .refine hg.block b hb (fun e1=>?_);rcases hperm b e1.symm with h|h
    .omega
    exact hno (h o)
   exact hg.block b hb (fun e1=>hno (hq b e1.symm o))
  exact⟨aS0 (a:=⟨b,o,none⟩) this,aTq (a:=⟨b,o,none⟩) this⟩
 have hshape: ∀b s,w.shape? b=some s->w'.shape? b=some s\/∀o,sI g H (q9 [(k,pV.row e t l n)]) b o:=by
  intro b s hs;rcases hg with hg|⟨q,hg,hq⟩
  .by_cases e1:v.ownBlock=some b
   .rcases hperm b e1 with h|h
    .have:=BI hs;omega
    exact .inr h
   exact .inl ((BJ (hg.block b (BI hs) (fun h=>e1 h.symm))).trans hs)
  by_cases e1:q=some b
  .exact .inr (hq b e1)
  exact .inl ((BJ (hg.block b (BI hs) (fun h=>e1 h.symm))).trans hs)
 have fr:Fr (sI g H (q9 [(k,pV.row e t l n)])) w w' g.S (g.tok k n v).S:=⟨hgo.1,hgo.2.1,hgo.2.2.1,hgo.2.2.2,hblk,hcell2,fun b o h=> .inl h,hshape⟩;have gho: ∀i,i∉q9 [(k,pV.row e t l n)]->(g.tok k n v).J i=g.J i/\(g.tok k n v).cur i=g.cur i:=fun i hi=>⟨rfl,by
  funext n';show (if i=k/\n'=n then _ else _)=_;rw[aSD (fun⟨e1,_⟩=>hi (by simp [q9,e1]))]⟩
 have get: ∀i blk,i∈q9 [(k,pV.row e t l n)]->pY (qS [(k,pV.row e t l n)] H) i=some blk->i=k/\blk= .row e t l n:=by
  intro i blk hi hg;simp only[q9,aST] at hi;subst hi;simp only[qS,pY,aT5,aSC] at hg;exact⟨rfl,hg.symm⟩
 have perm: ∀i blk b o,i∈q9 [(k,pV.row e t l n)]->pY (qS [(k,pV.row e t l n)] H) i=some blk->rY (g.tok k n v) i blk b o->w.heap.size<=b\/sI g H (q9 [(k,pV.row e t l n)]) b o:=by
  intro i blk b o hi hgt ho;obtain⟨rfl,rfl⟩:=get i blk hi hgt;obtain⟨v',hv',hb⟩:=ho;rw[cur1] at hv';obtain rfl:=aSG hv';exact(hperm b hb).imp id (fun h=>h o)
 refine⟨le,hslot,hH.upd le fr perm gho (fun i blk hi hgt=>?_) (fun i j bi bj b o hi hj hij hgi hgj _ _=>hij ((get i bi hi hgi).1.trans (get j bj hj hgj).1.symm)) (fun b o h=>aTd (hH.sl b o h) hgo.2.2.2),fr,perm,gho,fun i u' y us h=>by
  simp only[qS,pY] at h;split at h
  .cases h
  exact .inl ⟨y,us,h⟩⟩
 obtain⟨rfl,rfl⟩:=get i blk hi hgt;refine⟨hl,v,xs,cur1,hown,C8 (fun _ _ h=>w8 le h) hF,fun m hm=>?_,hseal⟩;show (if i=i/\m=n then _ else _)=_;rw[aSD pB];exact hnone m hm
theorem rD.newVarJ {side:List Prop}{rds:pL}{base:Nat}{t:Ty}{x:t.den}{toks:pG}{cs:pI}{e:TypeId}(hR:Rd (g.var base w.heap.size (some (e,cs.length))) w t x cs) (htk:FZ g t x cs toks) (hf:g.J base=none) (hc:g.cur base=fun _=>none):
  rD g w H ⟨side,(.val .ref (some (base,0)),none),[(base,.cells t x toks)],rds⟩ (g.var base w.heap.size (some (e,cs.length))) (w.alloc (.cells cs.toArray e)) (.pointer (some ⟨w.heap.size,0,none⟩)):=by
 have hJ:(g.var base w.heap.size (some (e,cs.length))).J base=some ⟨w.heap.size,0,some (e,cs.length)⟩:=by simp [Gh.var]
 have le:Le g w (g.var base w.heap.size (some (e,cs.length))) (w.alloc (.cells cs.toArray e)):=⟨fun _ _ h=>h,fun b o h=>aS0 (a:=⟨b,o,none⟩) (aTc _ _ _ (hH.sl b o h)),fun i p h=>by
  show (if i=base then _ else _)=_;rw[aSD (fun e1=>by rw[e1,hf] at h;cases h)];exact h,fun _ _ _ h=>h⟩
 have le2:Le (g.var base w.heap.size (some (e,cs.length))) w (g.var base w.heap.size (some (e,cs.length))) (w.alloc (.cells cs.toArray e)):=⟨fun _ _ h=>h,fun b o h=>aS0 (a:=⟨b,o,none⟩) (aTc _ _ _ (hH.sl b o h)),fun _ _ h=>h,fun _ _ _ h=>h⟩;have fr:Fr (sI g H (q9 [(base,pV.cells t x toks)])) w (w.alloc (.cells cs.toArray e)) g.S (g.var base w.heap.size (some (e,cs.length))).S:=
  ⟨rfl,rfl,rfl,by simp,fun b hb _=>aTc _ _ _ hb,fun b o hb _=>⟨aS0 (a:=⟨b,o,none⟩) (aTc _ _ _ hb),aTq (a:=⟨b,o,none⟩) (aTc _ _ _ hb)⟩,fun b o h=> .inl h,fun b s h=> .inl ((BJ (aTc _ _ _ (BI h))).trans h)⟩
 have gho: ∀i,i∉q9 [(base,pV.cells t x toks)]->(g.var base w.heap.size (some (e,cs.length))).J i=g.J i/\(g.var base w.heap.size (some (e,cs.length))).cur i=g.cur i:=fun i hi=>⟨by
  show (if i=base then _ else _)=_;rw[aSD (fun e1=>hi (by simp [q9,e1]))],rfl⟩
 have get: ∀i blk,i∈q9 [(base,pV.cells t x toks)]->pY (qS [(base,pV.cells t x toks)] H) i=some blk->i=base/\blk= .cells t x toks:=by
  intro i blk hi hg;simp only[q9,aST] at hi;subst hi;simp only[qS,pY,aT5,aSC] at hg;exact⟨rfl,hg.symm⟩
 have perm: ∀i blk b o,i∈q9 [(base,pV.cells t x toks)]->pY (qS [(base,pV.cells t x toks)] H) i=some blk->rY (g.var base w.heap.size (some (e,cs.length))) i blk b o->w.heap.size<=b\/sI g H (q9 [(base,pV.cells t x toks)]) b o:=by
  intro i blk b o hi hg ho;obtain⟨rfl,rfl⟩:=get i blk hi hg;obtain⟨p,hp,h1,_⟩:=ho;rw[hJ] at hp;obtain rfl:=aSG hp;exact .inl (aT4 h1.symm)
 have hl:=sJ hR;refine⟨le,⟨.inr ⟨rfl,_,hJ,rfl⟩,trivial⟩,hH.upd le fr perm gho (fun i blk hi hg=>?_) (fun i j bi bj b o hi hj hij hgi hgj _ _=>hij ((get i bi hi hgi).1.trans (get j bj hj hgj).1.symm)) (fun b o h=>aTd (hH.sl b o h) pD),fr,perm,gho,fun i u' y us h=>by
  simp only[qS,pY] at h;split at h
  .rename_i e1;subst e1;exact .inr ⟨hf,fun n=>by rw[hc]⟩
  exact .inl ⟨y,us,h⟩⟩
 obtain⟨rfl,rfl⟩:=get i blk hi hg;refine⟨_,cs,hJ,w8 le2 hR,fun j v hv=>?_,⟨fun j hj=>?_,fun _ s hs=>?_⟩,fun j _ hs=>aUg _ (hH.sl _ _ hs),aAd le.cur htk⟩
 .simp only[aTa];rw[aUB];simpa using hv
 .simp only[aTa];rw[aUB,World.frozen?_alloc_new];exact⟨by simp;omega,rfl⟩
 cases hs;show (match (w.heap.push (.cells cs.toArray e))[w.heap.size]? with|some (.cells c elem _)=>some (elem,c.size) |_=>none)=_
 rw[aUt];simp only[aTG]
theorem rD.newVar {side:List Prop}{rds:pL}{base:Nat}{t:Ty}{x:t.den}{toks:pG}{cs:pI}{e:TypeId}(hR:Rd g w t x cs) (htk:FZ g t x cs toks) (hf:g.J base=none) (hc:g.cur base=fun _=>none):
  rD g w H ⟨side,(.val .ref (some (base,0)),none),[(base,.cells t x toks)],rds⟩ (g.var base w.heap.size (some (e,cs.length))) (w.alloc (.cells cs.toArray e)) (.pointer (some ⟨w.heap.size,0,none⟩)):=
 rD.newVarJ hH (w8 (g:=g) (g':=g.var base w.heap.size (some (e,cs.length))) (w:=w) (w':=w) ⟨fun _ _ h=>h,fun _ _ _=>rfl,fun i p h=>by
  show (if i=base then _ else _)=_;rw[aSD (fun e1=>by rw[e1,hf] at h;cases h)];exact h,fun _ _ _ h=>h⟩ hR) htk hf hc
end
theorem aAB {P:Program}(w:pM) (t ty e:TypeId) (i:TypeInfo) (z:pN) (size bytes:Nat) (ht:P.underlying t=some (.slice e)) (hi:P.info? e=some i) (hz:i.zero=some z)
  (hsize:i.size=size) (hby:i.bytes=bytes) (hzs:z.cells.size=size)
  (v:pN) (n:Nat) (xs:pI) (hown:w.ownsRow 0 e size v n xs)
  (a:Addr) (m c:Nat) (news:pI) (hl:news.length=m*size) (hnews: ∀j u,news[j]? =some u->w.cell? (a.add j)=some u) (h1: ∀u∈news,u.oneCell'=true) (hm:0<m)
  (h63:n+m<=maxLen) (hbytes:(n+m)*bytes<=140737488355328):
  ∃q cap w',(Builtin.append_ #[t,t] ty #[v,.slice (some a) m c]).run P w= .ok (.slice (some ⟨q,0,none⟩) (n+m) cap) w'/\w'.ownsRow 0 e size (.slice (some ⟨q,0,none⟩) (n+m) cap) (n+m) (xs++news)/\
   (q=w.heap.size\/v.ownBlock=some q)/\w.grownBy w' v.ownBlock/\n+m<=cap/\
   ∀b o,b<w.heap.size->(v.ownBlock=some b->o<n*size)->w'.cell? ⟨b,o,none⟩=w.cell? ⟨b,o,none⟩:=by
 subst hsize;subst hby;have hsmall:n+m<=9223372036854775807:=by simp only[maxLen] at h63;omega
 have hlen:(xs++news).length=(n+m)*i.size:=by rw[aSH,hown.1,hl,Nat.add_mul]
 have grown: ∀(old:Nat),old<n+m->∀(row:pK),
   (w.drew.alloc (.cells (xs.toArray++news.toArray++Builtin.zeroCells z.cells (grownCap w (n+m) old e- (n+m))) e)).ownsRow 0 e i.size
    (.slice (some ⟨w.heap.size,0,none⟩) (n+m) (grownCap w (n+m) old e)) (n+m) (xs++news)/\
   w.grownBy (w.drew.alloc (.cells (xs.toArray++news.toArray++Builtin.zeroCells z.cells (grownCap w (n+m) old e- (n+m))) e)) row/\n+m<=grownCap w (n+m) old e/\
   ∀b o,b<w.heap.size->(w.drew.alloc (.cells (xs.toArray++news.toArray++Builtin.zeroCells z.cells (grownCap w (n+m) old e- (n+m))) e)).cell? ⟨b,o,none⟩=w.cell? ⟨b,o,none⟩:=by
  intro old ho row;have hge:=grownCap_ge w (n+m) old e;have hcm:grownCap w (n+m) old e<=maxLen:=grownCap_le_maxLen w (n+m) old e h63;refine⟨⟨hlen,.inr ⟨w.heap.size,_,_,rfl,aTv _,aUF w.drew _,hge,hcm,?_,?_⟩⟩,⟨rfl,rfl,rfl,by simp,fun k hk _=>aTc w.drew _ k hk⟩,hge,fun b o hb=>aS0 (w:=w) (a:=⟨b,o,none⟩) (aTc w.drew _ b hb)⟩
  .simp only[aUG,aTG,size_zeroCells,hzs,hown.1,hl,<-Nat.add_mul];congr 1;omega
  simp only[Array.toList_append,aSN];rw[<-aSN,<-hlen];exact aUj
 rcases hown.2 with⟨rfl,rfl⟩ |⟨g,cap,cur,rfl,hbg,hg,hnc,hcm,hcs,htake⟩
 .have hx:xs=[]:=aS9 (by simpa using hown.1);subst hx;have hr:=run_append_nil (P:=P) w t ty e i z ht hi hz a m c news hl hnews pB pB (by have hb:=hbytes;simp only[aTa] at hb;omega);have hgr:=grown 0 pB (Value.ownBlock (.slice none 0 0));simp only[aTa,List.nil_append,Array.empty_append] at hgr|-;exact⟨_,_,_,hr,hgr.1,.inl rfl,hgr.2.1,hgr.2.2.1,fun b o hb _=>hgr.2.2.2 b o hb⟩
 by_cases hroom:n+m<=cap
 .have hfit:n*i.size+news.length<=cur.size:=by rw[hl,hcs,<-Nat.add_mul];exact Nat.mul_le_mul_right _ hroom
  have hr:=run_append_room (P:=P) w t ty e i ht hi g n cap cur hg a m c news hl hnews h1 hroom hfit;refine⟨_,_,_,hr,⟨hlen,.inr ⟨g,cap,_,rfl,hbg,aUH w g cur _ e _ hg,hroom,hcm,?_,?_⟩⟩,.inr rfl,⟨rfl,rfl,rfl,by simp,fun k _ hk=>aUm w g k _ (fun e=>hk (by simp [Value.ownBlock,e]))⟩,hroom,fun b o hb hso=>?_⟩
  .simp only[aTG,aSH,aTe,aS8,aTx];omega
  .rw[htake,<-hlen];exact aUj
  by_cases hbg':b=g
  .subst hbg';have ho:=hso rfl;rw[cell_setRow_same w b o cur _ e _ hg,cell_of_row w b o cur e (0,0) hg];have hlt:o<(cur.toList.take (n*i.size)).length:=by rw[aTe,aTx];omega
   rw[aSN,List.getElem?_toArray,aSU hlt,List.getElem?_take,aSB ho,aTE]
  exact aS0 (w:=w) (a:=⟨b,o,none⟩) (aUm w g b _ hbg')
 have holds: ∀j u,xs[j]? =some u->w.cell? ((⟨g,0,none⟩:Addr).add j)=some u:=hown.cells (g:=g) rfl;have hr:=run_append_grow (P:=P) w t ty e i z ht hi hz ⟨g,0,none⟩ n cap xs hown.1 holds a m c news hl hnews pB pB (growslice_fits pB hbytes);have hgr:=grown cap pB (Value.ownBlock (.slice (some ⟨g,0,none⟩) n cap));exact⟨_,_,_,hr,hgr.1,.inl rfl,hgr.2.1,hgr.2.2.1,fun b o hb _=>hgr.2.2.2 b o hb⟩
theorem a0s {w:pM}{e:TypeId}{c n:Nat}{q cap:Nat}{xs:pI}(h:w.ownsRow 0 e c (.slice (some ⟨q,0,none⟩) n cap) n xs):w.rangeAt q 0 xs:=fun j u hu=>by
 have:=h.cells (g:=q) rfl j u hu;rwa [aTK] at this
theorem aJG (w:pM) (a:Addr) (v:pN) (b:Nat):(w.setCell a v).shape? b=w.shape? b:=by
 unfold World.shape? World.setCell;simp only[aTC];by_cases h:a.block=b
 .rw[aSB h];cases hb:w.heap[b]? with
  |none=>rfl
  |some x=>
   cases x with
   |cells c e f=>
    simp only[Option.map_some];split<;>simp
   |_=>rfl
 rw[aSD h]
theorem Q7 (b:Nat): ∀(l:pI) (o:Nat) (w:pM) (b':Nat),(w.setCells b o l).shape? b'=w.shape? b'
 |[],_,_,_=>rfl
 |v::l,o,w,b'=>by rw[World.setCells,Q7 b l,aJG]
section
variable {g:Gh}{w:pM}{H:rX}(hH:s5 g w H)
include hH
theorem rD.append {side:List Prop}{rds:pL}{k e c n:Nat}{u:Ty}{l r:List u.den}{w':pM}{q cap:Nat}{v:pN}{xs news:pI}(hk:pY H k=some (.grow e c n)) (hc:c=u.cells)
  (hln:l.length=n) (hv:g.cur k n=some v) (hown:w.ownsRow 0 e c v n xs) (hnone: ∀m,n<m->g.cur k m=none) (hseal: ∀b,v.ownBlock=some b->∀o,g.S b o->o<n*c) (hl:tU (Rd g w u) c l xs) (hr:tU (Rd g w u) c r news) (hm:0<r.length)
  (ho:w'.ownsRow 0 e c (.slice (some ⟨q,0,none⟩) (n+r.length) cap) (n+r.length) (xs++news)) (hq:q=w.heap.size\/v.ownBlock=some q) (hg:w.grownBy w' v.ownBlock) (hcap:n+r.length<=cap)
  (hcell: ∀b o,b<w.heap.size->(v.ownBlock=some b->o<n*c)->w'.cell? ⟨b,o,none⟩=w.cell? ⟨b,o,none⟩):
  rD g w H ⟨side,(.val (.list u) (l++r),some k),[(k,.grow e c (n+r.length))],rds⟩ ((g.tok k (n+r.length) (.slice (some ⟨q,0,none⟩) (n+r.length) cap)).shut q ((n+r.length)*c)) w' (.slice (some ⟨q,0,none⟩) (n+r.length) cap):=by
 have hnb:=hnone (n+r.length) pB;have hownk: ∀o b,v.ownBlock=some b->sI g H (q9 [(k,pV.grow e c (n+r.length))]) b o:=fun o b hb=>⟨k,_,by simp [q9],hk,v,hv,hb⟩;have hqlt:q<w'.heap.size:=(ho.lt q rfl).2;have le:Le g w ((g.tok k (n+r.length) (.slice (some ⟨q,0,none⟩) (n+r.length) cap)).shut q ((n+r.length)*c)) w':=⟨fun _ _ h=> .inl h,fun b o h=>hcell b o (hH.sl b o h) (fun hb=>hseal b hb o h),fun _ _ h=>h,fun k' n' v' h=>by
  show (if k'=k/\n'=n+r.length then _ else _)=_;rw[aSD (fun⟨e1,e2⟩=>by rw[e1,e2,hnb] at h;cases h)];exact h⟩
 have fr:Fr (sI g H (q9 [(k,pV.grow e c (n+r.length))])) w w' g.S ((g.tok k (n+r.length) (.slice (some ⟨q,0,none⟩) (n+r.length) cap)).shut q ((n+r.length)*c)).S:=by
  have hbk: ∀b,b<w.heap.size->∀o,¬sI g H (q9 [(k,pV.grow e c (n+r.length))]) b o->w'.heap[b]? =w.heap[b]? :=fun b hb o hno=>hg.block b hb (fun e1=>hno (hownk o b e1.symm));refine⟨hg.os,hg.tape,hg.output,hg.size,fun b hb hno=>hbk b hb 0 (hno 0),fun b o hb hno=>⟨aS0 (a:=⟨b,o,none⟩) (hbk b hb o hno),aTq (a:=⟨b,o,none⟩) (hbk b hb o hno)⟩,fun b o h=>?_,fun b s hs=>?_⟩
  rotate_left
  .by_cases e1:v.ownBlock=some b
   .exact .inr fun o=>hownk o b e1
   exact .inl ((BJ (hg.block b (BI hs) (fun h=>e1 h.symm))).trans hs)
  rcases h with h|⟨rfl,_⟩
  .exact .inl h
  rcases hq with h|h
  .exact .inr (.inl (aT4 h.symm))
  exact .inr (.inr (hownk o b h))
 have gho: ∀i,i∉q9 [(k,pV.grow e c (n+r.length))]->((g.tok k (n+r.length) (.slice (some ⟨q,0,none⟩) (n+r.length) cap)).shut q ((n+r.length)*c)).J i=g.J i/\((g.tok k (n+r.length) (.slice (some ⟨q,0,none⟩) (n+r.length) cap)).shut q ((n+r.length)*c)).cur i=g.cur i:=fun i hi=>⟨rfl,by
  funext n';show (if i=k/\n'=n+r.length then _ else _)=_;rw[aSD (fun⟨e1,_⟩=>hi (by simp [q9,e1]))]⟩
 have cur1:((g.tok k (n+r.length) (.slice (some ⟨q,0,none⟩) (n+r.length) cap)).shut q ((n+r.length)*c)).cur k (n+r.length)=some (.slice (some ⟨q,0,none⟩) (n+r.length) cap):=by
  show (if k=k/\n+r.length=n+r.length then _ else _)=_;simp
 have get: ∀i blk,i∈q9 [(k,pV.grow e c (n+r.length))]->pY (qS [(k,pV.grow e c (n+r.length))] H) i=some blk->i=k/\blk= .grow e c (n+r.length):=by
  intro i blk hi hg;simp only[q9,aST] at hi;subst hi;simp only[qS,pY,aT5,aSC] at hg;exact⟨rfl,hg.symm⟩
 have perm: ∀i blk b o,i∈q9 [(k,pV.grow e c (n+r.length))]->pY (qS [(k,pV.grow e c (n+r.length))] H) i=some blk->rY ((g.tok k (n+r.length) (.slice (some ⟨q,0,none⟩) (n+r.length) cap)).shut q ((n+r.length)*c)) i blk b o->w.heap.size<=b\/sI g H (q9 [(k,pV.grow e c (n+r.length))]) b o:=by
  intro i blk b o hi hgt ho';obtain⟨rfl,rfl⟩:=get i blk hi hgt;obtain⟨v',hv',hb⟩:=ho';rw[cur1] at hv';obtain rfl:=aSG hv';cases hb;rcases hq with h|h
  .exact .inl (aT4 h.symm)
  exact .inr (hownk o _ h)
 have hF:tU (Rd ((g.tok k (n+r.length) (.slice (some ⟨q,0,none⟩) (n+r.length) cap)).shut q ((n+r.length)*c)) w' u) u.cells (l++r) (xs++news):=hc▸C8 (fun _ _ h=>w8 le h) (a0d hl hr);have hlr:(l++r).length=n+r.length:=by rw[aSH,hln]
 refine⟨le,⟨.inr ⟨rfl,some ⟨q,0,none⟩,cap,by rw[hlr],by rw[hlr];exact hcap,.inr ⟨q,0,rfl,I1 hF (a0s ho) (fun j hj=>?_)⟩⟩,?_⟩,hH.upd le fr perm gho (fun i blk hi hgt=>?_) (fun i j bi bj b o hi hj hij hgi hgj _ _=>hij ((get i bi hi hgi).1.trans (get j bj hj hgj).1.symm)) (fun b o h=>?_),fr,perm,gho,fun i u' y us h=>by
  simp only[qS,pY] at h;split at h
  .cases h
  exact .inl ⟨y,us,h⟩⟩
 .right;rw[hlr] at hj;exact⟨rfl,by rw[hc];omega⟩
 .show _=_;rw[hlr];exact cur1
 .obtain⟨rfl,rfl⟩:=get i blk hi hgt;refine⟨_,_,cur1,ho,fun m hm'=>?_,fun b hb o h=>?_⟩
  .show (if i=i/\m=n+r.length then _ else _)=_;rw[aSD pB];exact hnone m pB
  cases hb;rcases h with h|⟨_,h⟩
  .rcases hq with h2|h2
   .have:q<w.heap.size:=hH.sl _ _ h;omega
   have:=hseal _ h2 o h;rw[Nat.add_mul];omega
  exact h
 rcases h with h|⟨rfl,_⟩
 .exact aTd (hH.sl b o h) hg.size
 exact hqlt
theorem rD.lit {side:List Prop}{rds:pL}{base e c n:Nat}{u:Ty}{l:List u.den}{cs:pI}(hc:c=u.cells) (hln:l.length=n) (hl:tU (Rd g w u) c l cs) (hn:n<=maxLen) (hf: ∀m,g.cur base m=none):
  rD g w H ⟨side,(.val (.list u) l,some base),[(base,.grow e c n)],rds⟩ ((g.tok base n (.slice (some ⟨w.heap.size,0,none⟩) n n)).shut w.heap.size (n*c)) (w.alloc (.cells cs.toArray e)) (.slice (some ⟨w.heap.size,0,none⟩) n n):=by
 have hlen:=KH hl;have le:Le g w ((g.tok base n (.slice (some ⟨w.heap.size,0,none⟩) n n)).shut w.heap.size (n*c)) (w.alloc (.cells cs.toArray e)):=⟨fun _ _ h=> .inl h,fun b o h=>aS0 (a:=⟨b,o,none⟩) (aTc _ _ _ (hH.sl b o h)),fun _ _ h=>h,fun k' n' v' h=>by
  show (if k'=base/\n'=n then _ else _)=_;rw[aSD (fun⟨e1,e2⟩=>by rw[e1,hf] at h;cases h)];exact h⟩
 have fr:Fr (sI g H (q9 [(base,pV.grow e c n)])) w (w.alloc (.cells cs.toArray e)) g.S ((g.tok base n (.slice (some ⟨w.heap.size,0,none⟩) n n)).shut w.heap.size (n*c)).S:=
  ⟨rfl,rfl,rfl,by simp,fun b hb _=>aTc _ _ _ hb,fun b o hb _=>⟨aS0 (a:=⟨b,o,none⟩) (aTc _ _ _ hb),aTq (a:=⟨b,o,none⟩) (aTc _ _ _ hb)⟩,fun b o h=>h.imp id fun h=> .inl (aT4 h.1.symm),fun b s h=> .inl ((BJ (aTc _ _ _ (BI h))).trans h)⟩
 have gho: ∀i,i∉q9 [(base,pV.grow e c n)]->((g.tok base n (.slice (some ⟨w.heap.size,0,none⟩) n n)).shut w.heap.size (n*c)).J i=g.J i/\((g.tok base n (.slice (some ⟨w.heap.size,0,none⟩) n n)).shut w.heap.size (n*c)).cur i=g.cur i:=fun i hi=>⟨rfl,by
  funext n';show (if i=base/\n'=n then _ else _)=_;rw[aSD (fun⟨e1,_⟩=>hi (by simp [q9,e1]))]⟩
 have cur1:((g.tok base n (.slice (some ⟨w.heap.size,0,none⟩) n n)).shut w.heap.size (n*c)).cur base n=some (.slice (some ⟨w.heap.size,0,none⟩) n n):=by
  show (if base=base/\n=n then _ else _)=_;simp
 have get: ∀i blk,i∈q9 [(base,pV.grow e c n)]->pY (qS [(base,pV.grow e c n)] H) i=some blk->i=base/\blk= .grow e c n:=by
  intro i blk hi hg;simp only[q9,aST] at hi;subst hi;simp only[qS,pY,aT5,aSC] at hg;exact⟨rfl,hg.symm⟩
 have perm: ∀i blk b o,i∈q9 [(base,pV.grow e c n)]->pY (qS [(base,pV.grow e c n)] H) i=some blk->rY ((g.tok base n (.slice (some ⟨w.heap.size,0,none⟩) n n)).shut w.heap.size (n*c)) i blk b o->w.heap.size<=b\/sI g H (q9 [(base,pV.grow e c n)]) b o:=by
  intro i blk b o hi hgt ho';obtain⟨rfl,rfl⟩:=get i blk hi hgt;obtain⟨v',hv',hb⟩:=ho';rw[cur1] at hv';obtain rfl:=aSG hv';cases hb;exact .inl (aSW _)
 have hF:tU (Rd ((g.tok base n (.slice (some ⟨w.heap.size,0,none⟩) n n)).shut w.heap.size (n*c)) (w.alloc (.cells cs.toArray e)) u) u.cells l cs:=hc▸C8 (fun _ _ h=>w8 le h) hl;have hra:(w.alloc (.cells cs.toArray e)).rangeAt w.heap.size 0 cs:=fun j v hv=>by
  rw[aTa,aUB];simpa using hv
 refine⟨le,⟨.inr ⟨rfl,some ⟨w.heap.size,0,none⟩,n,by rw[hln],by rw[hln];exact aSW _,.inr ⟨w.heap.size,0,rfl,I1 hF hra (fun j hj=>?_)⟩⟩,?_⟩,hH.upd le fr perm gho (fun i blk hi hgt=>?_) (fun i j bi bj b o hi hj hij hgi hgj _ _=>hij ((get i bi hi hgi).1.trans (get j bj hj hgj).1.symm)) (fun b o h=>?_),fr,perm,gho,fun i u' y us h=>by
  simp only[qS,pY] at h;split at h
  .cases h
  exact .inl ⟨y,us,h⟩⟩
 .right;rw[hln] at hj;exact⟨rfl,by rw[hc];omega⟩
 .show _=_;rw[hln];exact cur1
 .obtain⟨rfl,rfl⟩:=get i blk hi hgt;refine⟨_,cs,cur1,⟨by rw[hlen,hln],.inr ⟨w.heap.size,n,cs.toArray,rfl,aTv _,aUF w _,aSW _,hn,by simp [hlen,hln],by simp [<-hln,<-hlen]⟩⟩,fun m hm'=>?_,fun b hb o h=>?_⟩
  .show (if i=i/\m=n then _ else _)=_;rw[aSD pB];exact hf m
  cases hb;rcases h with h|⟨_,h⟩
  .exact absurd (hH.sl _ _ h) (aUg _)
  exact h
 rcases h with h|⟨rfl,_⟩
 .exact aTd (hH.sl b o h) pD
 simp
theorem a0t: ∀{toks:pG}{off n q k:Nat},(q,k)∈sZ toks off n->(q,k)∈toks/\¬(off<=q/\q<off+n)
 |[],_,_,_,_,h=>by simp [sZ] at h
 |(q',k')::r,off,n,q,k,h=>by
  simp only[sZ] at h;split at h
  .obtain⟨h1,h2⟩:=a0t h;exact⟨aSQ _ h1,h2⟩
  rename_i hn;rcases aSP.1 h with h|h
  .cases h;exact⟨by simp,hn⟩
  obtain⟨h1,h2⟩:=a0t h;exact⟨aSQ _ h1,h2⟩
theorem aJH {u:Ty}{y:u.den}: ∀{t:Ty}{x z:t.den}{o:Nat},u.isRow=false->sB u y t x o=some z->qT u t z o=some y:=by
 intro t
 induction t with
 |pair a b iha ihb=>
  intro x z o hu h;have hne:u≠.pair a b:=by intro e;rw[e] at hu;cases hu
  have key: ∀o,(if o<a.cells then(sB u y a x.1 o).map (fun q=>(q,x.2)) else(sB u y b x.2 (o-a.cells)).map (fun q=>(x.1,q)))=some z->
    (if o<a.cells then qT u a z.1 o else qT u b z.2 (o-a.cells))=some y:=by
   intro o h;by_cases ho:o<a.cells
   .rw[aSB ho] at h|-;obtain⟨q,hq,rfl⟩:=aSS.1 h;exact iha hu hq
   rw[aSD ho] at h|-;obtain⟨q,hq,rfl⟩:=aSS.1 h;exact ihb hu hq
  cases o with
  |zero=>
   unfold sB at h;unfold qT;rw[aT0 hne] at h;rw[aT0 (Ne.symm hne)];have:=key 0 (by simpa using h);simpa using this
  |succ o=>
   have:=key (o+1) (by simpa[sB] using h);simpa[qT] using this
 |_=>
  intro x z o hu h;cases o with
  |zero=>
   unfold sB at h;split at h
   .rename_i e;subst e;simp only[tX,aSC] at h
    try subst h
    unfold qT;simp [tX]
   .simp at h
  |succ o=>simp [sB] at h
theorem V3 {u v:Ty}{y:u.den}: ∀{t:Ty}{x z:t.den}{o q:Nat}{l:(Ty.list v).den},sB u y t x o=some z->qT (.list v) t x q=some l->¬(o<=q/\q<o+u.cells)->qT (.list v) t z q=some l:=by
 intro t
 induction t with
 |pair a b iha ihb=>
  intro x z o q l h g hq;by_cases hu:o=0/\u= .pair a b
  .obtain⟨rfl,rfl⟩:=hu;exfalso;apply hq;have: ∀(t:Ty) (x:t.den) (q:Nat) (l:(Ty.list v).den),qT (.list v) t x q=some l->q<t.cells:=by
    intro t
    induction t with
    |pair s t ihs iht=>
     intro x q l g;have key: ∀q,(if q<s.cells then qT (.list v) s x.1 q else qT (.list v) t x.2 (q-s.cells))=some l->q<s.cells+t.cells:=by
      intro q g;by_cases h:q<s.cells
      .omega
      rw[aSD h] at g;have:=iht _ _ _ g;omega
     cases q with
     |zero=>
      unfold qT at g;rw[aT0 (by intro e;cases e)] at g;exact key 0 (by simpa using g)
     |succ q=>exact key (q+1) (by simpa[qT] using g)
    |_=>
     intro x q l g;cases q with
     |zero=>first|(simp [Ty.cells];done) |(unfold qT at g;simp at g)
     |succ q=>simp [qT] at g
   exact⟨aTv _,by simpa using this _ _ _ _ g⟩
  .have keyh:(if o<a.cells then(sB u y a x.1 o).map (fun q=>(q,x.2)) else(sB u y b x.2 (o-a.cells)).map (fun q=>(x.1,q)))=some z:=by
    cases o with
    |zero=>
     unfold sB at h;rw[aT0 (fun e=>hu ⟨rfl,e⟩)] at h;simpa using h
    |succ o=>simpa[sB] using h
   have keyg: ∀x:(Ty.pair a b).den,qT (.list v) (.pair a b) x q=(if q<a.cells then qT (.list v) a x.1 q else qT (.list v) b x.2 (q-a.cells)):=by
    intro x;cases q with
    |zero=>
     conv=>lhs;unfold qT
     rw[aT0 (by intro e;cases e),Nat.zero_sub]
    |succ q=>simp [qT]
   rw[keyg] at g|-;by_cases ho:o<a.cells
   .rw[aSB ho] at keyh;obtain⟨z',hz',rfl⟩:=aSS.1 keyh;by_cases hqa:q<a.cells
    .rw[aSB hqa] at g|-;exact iha hz' g hq
    rw[aSD hqa] at g|-;exact g
   .rw[aSD ho] at keyh;obtain⟨z',hz',rfl⟩:=aSS.1 keyh;by_cases hqa:q<a.cells
    .rw[aSB hqa] at g|-;exact g
    .rw[aSD hqa] at g|-;exact ihb hz' g pB
 |unit=>
  intro x z o q l h g hq;cases q with
  |zero=>
   unfold qT at g;rw[aT0 (by intro e;cases e)] at g;cases g
  |succ q=>simp [qT] at g
 |_=>
  intro x z o q l h g hq;cases o with
  |zero=>
   unfold sB at h;split at h
   .rename_i e;subst e;cases q with
    |zero=>exact absurd ⟨aSW _,Nat.zero_lt_one⟩ hq
    |succ q=>simp [qT] at g
   .simp at h
  |succ o=>simp [sB] at h
theorem rD.store {side:List Prop}{rds:pL}{i:Nat}{u t:Ty}{x z:u.den}{y:t.den}{off:Nat}{toks:pG}{k:pK}{p:Pl}{cy:pI}{v:pN}(hb:pY H i=some (.cells u x toks)) (hp:g.J i=some p)
  (hset:sB t y u x off=some z) (hy:Rd g w t y cy) (hk:CU g t y v k) (hk2: ∀a b,t= .pair a b->k=none) (hv:t.isRow=false->cy=[v]):
  rD g w H ⟨side,(.any,none),[(i,.cells u z (qS (xF k off) (sZ toks off t.cells)))],rds⟩ g (w.setCells p.1 (p.2+off) cy) undef/\w.there p.1 (p.2+off) cy.length:=by
 obtain⟨p',cs,hp',hR,hra,hth,hns,htk⟩:=hH.blk i _ hb;rw[hp] at hp';obtain rfl:=aSG hp';obtain⟨c1,c2,c3,hcs,hl1,hl2,hz⟩:=Q2 hy hR hset;subst hcs;subst hl1;have hcl:=sJ hR;have hyl:=sJ hy;simp only[aSH] at hcl;have hthere:w.there p.1 (p.2+c1.length) cy.length:=fun j hj=>by
  have:=hth.1 (c1.length+j) pB;rwa [<-aTj] at this
 have hout: ∀b o,(b=p.1->o<p.2+c1.length\/p.2+c1.length+cy.length<=o)->(w.setCells p.1 (p.2+c1.length) cy).cell? ⟨b,o,none⟩=w.cell? ⟨b,o,none⟩:=fun b o h=>World.cell?_setCells_out p.1 cy _ w ⟨b,o,none⟩ (fun e _=>h e);have hin: ∀b o,b=p.1->p.2+c1.length<=o->o<p.2+c1.length+cy.length->rY g i (.cells u x toks) b o:=fun b o e h1 h2=>⟨p,hp,e,pB,pB⟩;have hsz:(w.setCells p.1 (p.2+c1.length) cy).heap.size=w.heap.size:=by
  have: ∀(l:pI) (o:Nat) (w:pM),(w.setCells p.1 o l).heap.size=w.heap.size:=by
   intro l
   induction l with
   |nil=>intro o w;rfl
   |cons v l ih=>intro o w;rw[World.setCells,ih];simp [World.setCell]
  exact this _ _ _
 have hbk: ∀b,b≠p.1->(w.setCells p.1 (p.2+c1.length) cy).heap[b]? =w.heap[b]? :=by
  intro b hb;have: ∀(l:pI) (o:Nat) (w:pM),(w.setCells p.1 o l).heap[b]? =w.heap[b]? :=by
   intro l
   induction l with
   |nil=>intro o w;rfl
   |cons v l ih=>intro o w;rw[World.setCells,ih];exact Below.heap_setCell _ _ _ _ hb
  exact this _ _ _
 have hos:(w.setCells p.1 (p.2+c1.length) cy).os=w.os/\(w.setCells p.1 (p.2+c1.length) cy).tape=w.tape/\(w.setCells p.1 (p.2+c1.length) cy).output=w.output:=by
  have: ∀(l:pI) (o:Nat) (w:pM),(w.setCells p.1 o l).os=w.os/\(w.setCells p.1 o l).tape=w.tape/\(w.setCells p.1 o l).output=w.output:=by
   intro l
   induction l with
   |nil=>intro o w;exact⟨rfl,rfl,rfl⟩
   |cons v l ih=>intro o w;rw[World.setCells];exact ih _ _
  exact this _ _ _
 have hiS: ∀b o,g.S b o->¬(b=p.1/\p.2<=o/\o<p.2+u.cells):=fun b o hs ⟨e,h1,h2⟩=>hns (o-p.2) pB (by rw[show p.2+(o-p.2)=o from by omega,<-e];exact hs);have le:Le g w g (w.setCells p.1 (p.2+c1.length) cy):=⟨fun _ _ h=>h,fun b o h=>hout b o (fun e=>by
  have:=hiS b o h;rcases aTD o (p.2+c1.length) with h1|h1
  .exact .inl h1
  rcases aTD o (p.2+c1.length+cy.length) with h2|h2
  .exact absurd ⟨e,pB,pB⟩ this
  exact .inr h2),fun _ _ h=>h,fun _ _ _ h=>h⟩
 have hofI: ∀b o,rY g i (.cells u x toks) b o->sI g H (q9 [(i,pV.cells u z (qS (xF k c1.length) (sZ toks c1.length t.cells)))]) b o:=fun b o h=>⟨i,_,by simp [q9],hb,h⟩;have fr:Fr (sI g H (q9 [(i,pV.cells u z (qS (xF k c1.length) (sZ toks c1.length t.cells)))])) w (w.setCells p.1 (p.2+c1.length) cy) g.S g.S:=by
  refine⟨hos.1,hos.2.1,hos.2.2,aT4 hsz.symm,fun b hb' hno=>?_,fun b o hb' hno=>⟨hout b o (fun e=>?_),World.frozen?_setCells _ _ _ _ _⟩,fun b o h=> .inl h,fun b s hs=> .inl ((Q7 _ _ _ _ _).trans hs)⟩
  .by_cases e:b=p.1
   .cases hcy:cy with
    |nil=>rfl
    |cons q l=>exact absurd (hofI b (p.2+c1.length) (hin b _ e (aSW _) (by rw[hcy];simp))) (hno _)
   exact hbk b e
  rcases aTD o (p.2+c1.length) with h1|h1
  .exact .inl h1
  rcases aTD o (p.2+c1.length+cy.length) with h2|h2
  .exact absurd (hofI b o (hin b o e h1 h2)) hno
  exact .inr h2
 have gho: ∀j,j∉q9 [(i,pV.cells u z (qS (xF k c1.length) (sZ toks c1.length t.cells)))]->g.J j=g.J j/\g.cur j=g.cur j:=fun _ _=>⟨rfl,rfl⟩;have get: ∀j blk,j∈q9 [(i,pV.cells u z (qS (xF k c1.length) (sZ toks c1.length t.cells)))]->pY (qS [(i,pV.cells u z (qS (xF k c1.length) (sZ toks c1.length t.cells)))] H) j=some blk->j=i/\blk= .cells u z (qS (xF k c1.length) (sZ toks c1.length t.cells)):=by
  intro j blk hi hg;simp only[q9,aST] at hi;subst hi;simp only[qS,pY,aT5,aSC] at hg;exact⟨rfl,hg.symm⟩
 have perm: ∀j blk b o,j∈q9 [(i,pV.cells u z (qS (xF k c1.length) (sZ toks c1.length t.cells)))]->pY (qS [(i,pV.cells u z (qS (xF k c1.length) (sZ toks c1.length t.cells)))] H) j=some blk->rY g j blk b o->w.heap.size<=b\/sI g H (q9 [(i,pV.cells u z (qS (xF k c1.length) (sZ toks c1.length t.cells)))]) b o:=by
  intro j blk b o hi hg ho;obtain⟨rfl,rfl⟩:=get j blk hi hg;exact .inr (hofI b o ho)
 refine⟨⟨le,⟨trivial,trivial⟩,hH.upd le fr perm gho (fun j blk hi hg=>?_) (fun i j bi bj b o hi hj hij hgi hgj _ _=>hij ((get i bi hi hgi).1.trans (get j bj hj hgj).1.symm)) (fun b o h=>by rw[hsz];exact hH.sl b o h),fr,perm,gho,fun j u' y' us h=>by
  simp only[qS,pY] at h;split at h
  .rename_i e1;subst e1;simp only[aSC,pV.cells.injEq] at h;obtain⟨rfl,_⟩:=h;exact .inl ⟨x,toks,hb⟩
  exact .inl ⟨y',us,h⟩⟩,hthere⟩
 obtain⟨rfl,rfl⟩:=get j blk hi hg;refine⟨p,_,hp,w8 le hz,fun q v hq=>?_,⟨fun q hq=>?_,fun h0 s hs=>(Q7 _ _ _ _ _).trans (hth.2 h0 s hs)⟩,hns,?_⟩
 .by_cases h1:q<c1.length
  .rw[hout _ _ (fun _=> .inl pB)];refine hra q v ?_;rw[aSN,aSU h1] at hq|-;exact hq
  by_cases h2:q<c1.length+cy.length
  .have:=aT3 p.1 cy (p.2+c1.length) w (fun j hj=>(hthere j hj).1) (q-c1.length) pB;rw[show p.2+c1.length+(q-c1.length)=p.2+q from by omega] at this;rw[this];rw[aSN,aSM pB,aSU pB] at hq;rw[<-hq,aSK pB]
  rw[hout _ _ (fun _=> .inr pB)];refine hra q v ?_;rw[aSN,aSM pB,aSM pB] at hq|-;rw[hl2];rw[hyl] at hq;exact hq
 .have hh:=hth.1 q hq;refine⟨?_,by rw[World.frozen?_setCells];exact hh.2⟩;by_cases h1:q<c1.length\/c1.length+cy.length<=q
  .rw[hout _ _ (fun _=>by omega)];exact hh.1
  have:=aT3 p.1 cy (p.2+c1.length) w (fun j hj=>(hthere j hj).1) (q-c1.length) pB;rw[show p.2+c1.length+(q-c1.length)=p.2+q from by omega] at this;rw[this];rfl
 intro q kk hm;have hsplit:(q,kk)∈xF k c1.length\/(q,kk)∈sZ toks c1.length t.cells:=by
  cases k with
  |none=>exact .inr (by simpa[xF,qS] using hm)
  |some k=>
   simp only[xF,qS,aSP] at hm;rcases hm with hm|hm
   .exact .inl (by simp [xF,hm])
   exact .inr hm
 rcases hsplit with hm|hm
 .cases k with
  |none=>simp [xF] at hm
  |some k=>
   simp only[xF,aST,aS7] at hm;obtain⟨rfl,rfl⟩:=hm;cases t with
   |list t=>
    obtain rfl:=hv rfl;exact⟨t,y,v,aJH hH rfl hset,by simp,hk⟩
   |pair a b=>cases hk2 a b rfl
   |_=>exact hk.elim
 obtain⟨h1,h2⟩:=a0t hH hm;obtain⟨v',l,v1,g1,g2,g3⟩:=htk q kk h1;refine⟨v',l,v1,V3 hH hset g1 h2,?_,g3⟩;rcases aTD q c1.length with h3|h3
 .rw[aSN,aSU h3] at g2|-;exact g2
 have h4:c1.length+t.cells<=q:=by omega
 rw[aSN,aSM pB,aSM pB] at g2|-;rw[hyl];rw[hl2] at g2;exact g2
theorem zK.openS {side:List Prop}{rds:pL}{i:Nat}{u u0:Ty}{el:Nat}{kn:pJ}{x:u.den}{z: Σ t:Ty,t.den}{off:Nat}{toks:pG}{p:Pl}{cy:pI}(hb:pY H i=some (.cells u x toks)) (hp:g.J i=some p)
  (hset:y6 el u0 kn u x off=some z) (hy:BG g kn cy) (hyl:cy.length=1) (hre:HJ rds=true):
  zK g w H ⟨side,(.any,none),[(i,.cells z.1 z.2 [])],rds⟩ g (w.setCells p.1 (p.2+off) cy) undef/\w.there p.1 (p.2+off) cy.length:=by
 obtain⟨p',cs,hp',hR,hra,hth,hns,htk⟩:=hH.blk i _ hb;rw[hp] at hp';obtain rfl:=aSG hp';obtain⟨c1,c2,c3,hcs,hl1,hl2,hz⟩:=aI5 hy hR hset;subst hcs;subst hl1;have hcl:=sJ hR;have hcz:=aI4 hset;simp only[aSH] at hcl;have hthere:w.there p.1 (p.2+c1.length) cy.length:=fun j hj=>by
  have:=hth.1 (c1.length+j) pB;rwa [<-aTj] at this
 have hout: ∀b o,(b=p.1->o<p.2+c1.length\/p.2+c1.length+cy.length<=o)->(w.setCells p.1 (p.2+c1.length) cy).cell? ⟨b,o,none⟩=w.cell? ⟨b,o,none⟩:=fun b o h=>World.cell?_setCells_out p.1 cy _ w ⟨b,o,none⟩ (fun e _=>h e);have hin: ∀b o,b=p.1->p.2+c1.length<=o->o<p.2+c1.length+cy.length->rY g i (.cells u x toks) b o:=fun b o e h1 h2=>⟨p,hp,e,pB,pB⟩;have hsz:(w.setCells p.1 (p.2+c1.length) cy).heap.size=w.heap.size:=by
  have: ∀(l:pI) (o:Nat) (w:pM),(w.setCells p.1 o l).heap.size=w.heap.size:=by
   intro l
   induction l with
   |nil=>intro o w;rfl
   |cons v l ih=>intro o w;rw[World.setCells,ih];simp [World.setCell]
  exact this _ _ _
 have hbk: ∀b,b≠p.1->(w.setCells p.1 (p.2+c1.length) cy).heap[b]? =w.heap[b]? :=by
  intro b hb;have: ∀(l:pI) (o:Nat) (w:pM),(w.setCells p.1 o l).heap[b]? =w.heap[b]? :=by
   intro l
   induction l with
   |nil=>intro o w;rfl
   |cons v l ih=>intro o w;rw[World.setCells,ih];exact Below.heap_setCell _ _ _ _ hb
  exact this _ _ _
 have hos:(w.setCells p.1 (p.2+c1.length) cy).os=w.os/\(w.setCells p.1 (p.2+c1.length) cy).tape=w.tape/\(w.setCells p.1 (p.2+c1.length) cy).output=w.output:=by
  have: ∀(l:pI) (o:Nat) (w:pM),(w.setCells p.1 o l).os=w.os/\(w.setCells p.1 o l).tape=w.tape/\(w.setCells p.1 o l).output=w.output:=by
   intro l
   induction l with
   |nil=>intro o w;exact⟨rfl,rfl,rfl⟩
   |cons v l ih=>intro o w;rw[World.setCells];exact ih _ _
  exact this _ _ _
 have hiS: ∀b o,g.S b o->¬(b=p.1/\p.2<=o/\o<p.2+u.cells):=fun b o hs ⟨e,h1,h2⟩=>hns (o-p.2) pB (by rw[show p.2+(o-p.2)=o from by omega,<-e];exact hs);have le:Le g w g (w.setCells p.1 (p.2+c1.length) cy):=⟨fun _ _ h=>h,fun b o h=>hout b o (fun e=>by
  have:=hiS b o h;rcases aTD o (p.2+c1.length) with h1|h1
  .exact .inl h1
  rcases aTD o (p.2+c1.length+cy.length) with h2|h2
  .exact absurd ⟨e,pB,pB⟩ this
  exact .inr h2),fun _ _ h=>h,fun _ _ _ h=>h⟩
 have hofI: ∀b o,rY g i (.cells u x toks) b o->sI g H (q9 [(i,pV.cells z.1 z.2 [])]) b o:=fun b o h=>⟨i,_,by simp [q9],hb,h⟩;have fr:Fr (sI g H (q9 [(i,pV.cells z.1 z.2 [])])) w (w.setCells p.1 (p.2+c1.length) cy) g.S g.S:=by
  refine⟨hos.1,hos.2.1,hos.2.2,aT4 hsz.symm,fun b hb' hno=>?_,fun b o hb' hno=>⟨hout b o (fun e=>?_),World.frozen?_setCells _ _ _ _ _⟩,fun b o h=> .inl h,fun b s hs=> .inl ((Q7 _ _ _ _ _).trans hs)⟩
  .by_cases e:b=p.1
   .cases hcy:cy with
    |nil=>rfl
    |cons q l=>exact absurd (hofI b (p.2+c1.length) (hin b _ e (aSW _) (by rw[hcy];simp))) (hno _)
   exact hbk b e
  rcases aTD o (p.2+c1.length) with h1|h1
  .exact .inl h1
  rcases aTD o (p.2+c1.length+cy.length) with h2|h2
  .exact absurd (hofI b o (hin b o e h1 h2)) hno
  exact .inr h2
 have gho: ∀j,j∉q9 [(i,pV.cells z.1 z.2 [])]->g.J j=g.J j/\g.cur j=g.cur j:=fun _ _=>⟨rfl,rfl⟩;have get: ∀j blk,j∈q9 [(i,pV.cells z.1 z.2 [])]->pY (qS [(i,pV.cells z.1 z.2 [])] H) j=some blk->j=i/\blk= .cells z.1 z.2 []:=by
  intro j blk hi hg;simp only[q9,aST] at hi;subst hi;simp only[qS,pY,aT5,aSC] at hg;exact⟨rfl,hg.symm⟩
 have perm: ∀j blk b o,j∈q9 [(i,pV.cells z.1 z.2 [])]->pY (qS [(i,pV.cells z.1 z.2 [])] H) j=some blk->rY g j blk b o->w.heap.size<=b\/sI g H (q9 [(i,pV.cells z.1 z.2 [])]) b o:=by
  intro j blk b o hi hg ho;obtain⟨rfl,rfl⟩:=get j blk hi hg;obtain⟨q,hq,e1,e2,e3⟩:=ho;rw[hcz] at e3;exact .inr (hofI b o ⟨q,hq,e1,e2,e3⟩)
 refine⟨⟨le,⟨trivial,trivial⟩,hH.upd le fr perm gho (fun j blk hi hg=>?_) (fun i j bi bj b o hi hj hij hgi hgj _ _=>hij ((get i bi hi hgi).1.trans (get j bj hj hgj).1.symm)) (fun b o h=>by rw[hsz];exact hH.sl b o h),fr,perm,gho,fun h=>by rw[hre] at h;cases h⟩,hthere⟩;obtain⟨rfl,rfl⟩:=get j blk hi hg;refine⟨p,_,hp,w8 le hz,fun q v hq=>?_,⟨fun q hq=>?_,fun h0 s hs=>(Q7 _ _ _ _ _).trans (hth.2 (by rw[<-hcz];exact h0) s hs)⟩,fun q hq=>hns q (by rw[<-hcz];exact hq),fun _ _ hm=>by cases hm⟩
 .by_cases h1:q<c1.length
  .rw[hout _ _ (fun _=> .inl pB)];refine hra q v ?_;rw[aSN,aSU h1] at hq|-;exact hq
  by_cases h2:q<c1.length+cy.length
  .have:=aT3 p.1 cy (p.2+c1.length) w (fun j hj=>(hthere j hj).1) (q-c1.length) pB;rw[show p.2+c1.length+(q-c1.length)=p.2+q from by omega] at this;rw[this];rw[aSN,aSM pB,aSU pB] at hq;rw[<-hq,aSK pB]
  rw[hout _ _ (fun _=> .inr pB)];refine hra q v ?_;rw[aSN,aSM pB,aSM pB] at hq|-;rw[hl2];rw[hyl] at hq;exact hq
 have hh:=hth.1 q (by rw[<-hcz];exact hq);refine⟨?_,by rw[World.frozen?_setCells];exact hh.2⟩;by_cases h1:q<c1.length\/c1.length+cy.length<=q
 .rw[hout _ _ (fun _=>by omega)];exact hh.1
 have:=aT3 p.1 cy (p.2+c1.length) w (fun j hj=>(hthere j hj).1) (q-c1.length) pB;rw[show p.2+c1.length+(q-c1.length)=p.2+q from by omega] at this;rw[this];rfl
end
end Go.Proofs.YtcpbaddnmpeipaaGreatDoor.Vc
