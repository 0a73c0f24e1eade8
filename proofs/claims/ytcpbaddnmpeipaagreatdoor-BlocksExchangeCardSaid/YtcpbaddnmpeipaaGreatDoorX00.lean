/- Packed by a program of mine (wip/tools/pack.py): the same texts with short names and few blanks. -/
import Derived.Below
import Derived.Calls
import Derived.Deep.MidRow
import Derived.Deep.Upon
import Derived.Laws.AppendOwn
import Derived.Laws.BitsLemmas
import Derived.Laws.OwnMore
import Derived.Shelf.Unicode.DecodeSlow
import Derived.Still
import Derived.WalkKit
set_option linter.defProp false
set_option linter.unusedVariables false
set_option linter.unusedSimpArgs false
set_option linter.unusedSectionVars false
set_option maxRecDepth 100000
set_option maxHeartbeats 4000000
namespace Go.Proofs
abbrev pP:=List UInt8
abbrev pQ:=List pP
def aFO:=@_root_.Option.some.injEq
def aFP:=@_root_.if_pos
def aFQ:=@_root_.if_neg
def aFR:=@_root_.List.length_append
def aFS:=@_root_.Option.isSome_iff_exists
def aFT:=@_root_.Option.bind_some
def aFU:=@_root_.Option.some.inj
def aFV:=@_root_.List.length_cons
def aFW:=@_root_.List.getElem?_eq_getElem
def aFX:=@_root_.Go.Result.andThen_ok
def aFY:=@_root_.decide_eq_true_eq
def aFZ:=@_root_.List.getElem?_append_right
def aF0:=@_root_.Bool.and_eq_true
def aF1:=@_root_.List.mem_cons
def aF2:=@_root_.List.mem_cons_of_mem
def aF3:=@_root_.List.append_assoc
def aF4:=@_root_.Go.Sem.run_bind
def aF5:=@_root_.List.getElem?_eq_some_iff
def aF6:=@_root_.Option.map_eq_some_iff
def aF7:=@_root_.List.mem_singleton
def aF8:=@_root_.List.length_nil
def aF9:=@_root_.List.getElem?_append_left
def aGa:=@_root_.List.mem_cons_self
def aGb:=@_root_.List.getD_eq_getElem?_getD
def aGc:=@_root_.Nat.le_refl
def aGd:=@_root_.congrArg
def aGe:=@_root_.Go.run_underlying
def aGf:=@_root_.Go.World.cell?_of_block
def aGg:=@_root_.Go.Sem.run_pure
def aGh:=@_root_.Array.getElem?_eq_some_iff
def aGi:=@_root_.Prod.mk.injEq
def aGj:=@_root_.Bool.not_eq_true'
def aGk:=@_root_.Nat.zero_add
def aGl:=@_root_.List.eq_nil_of_length_eq_zero
def aGm:=@_root_.Go.RowKit.Below.heap_alloc
def aGn:=@_root_.Array.getD_eq_getD_getElem?
def aGo:=@_root_.List.getElem?_cons_zero
def aGp:=@_root_.List.length_drop
def aGq:=@_root_.Nat.lt_of_lt_of_le
def aGr:=@_root_.List.pairwise_iff_getElem
def aGs:=@_root_.List.drop_eq_getElem_cons
def aGt:=@_root_.of_decide_eq_true
def aGu:=@_root_.decide_eq_false_iff_not
def aGv:=@_root_.Nat.add_assoc
def aGw:=@_root_.List.flatten_cons
def aGx:=@_root_.decide_eq_true
def aGy:=@_root_.List.length_take
def aGz:=@_root_.List.reverse_cons
def aGA:=@_root_.List.any_eq_false
def aGB:=@_root_.Nat.add_sub_cancel_left
def aGC:=@_root_.List.getElem?_cons_succ
def aGD:=@_root_.List.cons.injEq
def aGE:=@_root_.List.mem_append
def aGF:=@_root_.Go.World.frozen?_of_block
def aGG:=@_root_.List.getElem_mem
def aGH:=@_root_.List.length_pos_iff
def aGI:=@_root_.Int.toNat_natCast
def aGJ:=@_root_.List.length_eq_zero_iff
def aGK:=@_root_.List.all_eq_true
def aGL:=@_root_.Nat.le_trans
def aGM:=@_root_.List.findIdx?_eq_none_iff
def aGN:=@_root_.List.drop_length
def aGO:=@_root_.Int.le_refl
def aGP:=@_root_.Array.length_toList
def aGQ:=@_root_.List.getElem?_take_of_lt
def aGR:=@_root_.Go.run_program
def aGS:=@_root_.Nat.zero_le
def aGT:=@_root_.List.size_toArray
def aGU:=@_root_.List.map_cons
def aGV:=@_root_.List.length_map
def aGW:=@_root_.List.findIdx?_eq_some_iff_getElem
def aGX:=@_root_.Array.getElem?_toList
def aGY:=@_root_.Array.getElem?_modify
def aGZ:=@_root_.Bool.not_eq_true
def aG0:=@_root_.Nat.add_zero
def aG1:=@_root_.List.take_append_drop
def aG2:=@_root_.List.length_singleton
def aG3:=@_root_.Array.toList_inj
def aG4:=@_root_.List.drop_zero
def aG5:=@_root_.Nat.succ_mul
def aG6:=@_root_.Nat.lt_or_ge
def aG7:=@_root_.List.getElem?_eq_none
def aG8:=@_root_.Go.Addr.add_mid
def aG9:=@_root_.Array.getElem?_setIfInBounds_ne
def aHa:=@_root_.Nat.mul_le_mul_right
def aHb:=@_root_.Bool.or_eq_false_iff
def aHc:=@_root_.List.length_eq_one_iff
def aHd:=@_root_.Nat.le_of_ble_eq_true
def aHe:=@_root_.List.take_left
def aHf:=@_root_.List.flatMap_cons
def aHg:=@_root_.Go.World.cell?_alloc_new
def aHh:=@_root_.Bool.false_eq_true
def aHi:=@_root_.dif_neg
def aHj:=@_root_.List.not_mem_nil
def aHk:=@_root_.Array.toArray_toList
def aHl:=@_root_.Go.World.cell?_setCells_in
def aHm:=@_root_.Nat.sub_self
def aHn:=@_root_.Nat.le_of_eq
def aHo:=@_root_.Bool.or_eq_true
def aHp:=@_root_.if_true
def aHq:=@_root_.decide_eq_decide
def aHr:=@_root_.beq_iff_eq
def aHs:=@_root_.List.findIdx?_cons
def aHt:=@_root_.Classical.choose_spec
def aHu:=@_root_.Bool.not_eq_false'
def aHv:=@_root_.List.mem_range
def aHw:=@_root_.Go.Value.slice.injEq
def aHx:=@_root_.List.append_inj
def aHy:=@_root_.Nat.mul_one
def aHz:=@_root_.Nat.lt_irrefl
def aHA:=@_root_.List.getElem_of_mem
def aHB:=@_root_.Go.wpIn_mono
def aHC:=@_root_.List.take_append_of_le_length
def aHD:=@_root_.List.range'_succ
def aHE:=@_root_.Go.IntKind.wrap_i64
def aHF:=@_root_.Array.getElem?_setIfInBounds
def aHG:=@_root_.Go.setRow_other
def aHH:=@_root_.List.singleton_append
def aHI:=@_root_.Bool.eq_iff_iff
def aHJ:=@_root_.Bool.and_eq_false_iff
def aHK:=@_root_.Int.tmod_eq_emod_of_nonneg
def aHL:=@_root_.List.pairwise_append
def aHM:=@_root_.Array.getElem?_eq_getElem
def aHN:=@_root_.List.mem_toArray
def aHO:=@_root_.List.drop_succ_cons
def aHP:=@_root_.Array.getElem?_push_size
def aHQ:=@_root_.dif_pos
def aHR:=@_root_.List.pairwise_singleton
def aHS:=@_root_.List.pairwise_cons
def aHT:=@_root_.Go.IntKind.wrap_u8
def aHU:=@_root_.Array.foldl_toList
def aHV:=@_root_.Option.getD_some
def aHW:=@_root_.if_false
def aHX:=@_root_.Go.heap_alloc_new
def aHY:=@_root_.List.drop_left
def aHZ:=@_root_.List.drop_drop
def aH0:=@_root_.Array.size_append
def aH1:=@_root_.Go.setRow_heap
theorem pT{p:Prop}(h:p:=by omega):p:=h
theorem pU{p:Prop}(h:p:=by decide):p:=h
theorem pV{p:Prop}(h:p:=by simp):p:=h
theorem pW{p:Prop}(h:p:=by simp;omega):p:=h
theorem qG{p:Prop}(h:p:=by first|rfl|trivial):p:=h
theorem qH{p:Prop}(h:p:=by kernel_rfl):p:=h
theorem qI{p:Prop}(h:p:=by rfl):p:=h
theorem qJ{p:Prop}(h:p:=by first|rfl|(simp only[go_sem];done)|(simp only[go_sem];rfl)):p:=h
theorem pR{a:Type}{p q r:a->Prop}(k:a)(h1:p k:=by rfl)(h2:q k:=by rfl)(h3:r k:=by rfl): ∃k,p k/\q k/\r k:=⟨k,h1,h2,h3⟩
theorem pS{a:Type}{p q r:a->Prop}(k:a)(h1:p k:=by first|rfl|(simp only[go_sem];done)|(simp only[go_sem];rfl))(h2:q k:=by first|rfl|(simp only[go_sem];done)|(simp only[go_sem];rfl))(h3:r k:=by first|rfl|(simp only[go_sem];done)|(simp only[go_sem];rfl)): ∃k,p k/\q k/\r k:=⟨k,h1,h2,h3⟩
abbrev pX:=List (pP×Bool)
abbrev pY:=List (Nat×Nat)
abbrev pZ:=List Int
abbrev q8:=List Value
abbrev q9:=Option (Nat×Nat)
abbrev qB:=Option Nat
abbrev qC:=List Nat
abbrev qD:=World
abbrev qE:=Value
end Go.Proofs
namespace Go.Proofs.YtcpbaddnmpeipaaGreatDoor.Vc
def NG:Nat:=6
def Jf:Nat:=82
def JL:Nat:=188
def JM:Nat:=155
def HV:Nat:=98
def LV:Nat:=32
abbrev a3T:Nat:=6
abbrev a3U:Nat:=7
def Jg:List (Nat×Nat×qE):=[(5,15,.int .u8 4)]
def a3V (w:qD):Prop:= ∀x∈Jg,x.1<NG/\w.cell? ⟨x.1,x.2.1,none⟩=some x.2.2
def G7 (w:qD):Prop:=NG<=w.heap.size/\Lib.Utf8Tabs 1 2 w/\(∃m,w.cell? ⟨0,0,none⟩=some (.int .i64 m))/\a3V w
theorem JN {w w':qD}(h:G7 w) (hs:w.heap.size<=w'.heap.size) (hb: ∀b,b<NG->w'.heap[b]? =w.heap[b]?):G7 w':=by
 obtain⟨h0,⟨F,E⟩,⟨m,h3⟩,h4⟩:=h;have j: ∀b o,b<NG->w'.cell? ⟨b,o,none⟩=w.cell? ⟨b,o,none⟩:=fun b o h=>aGf (a:=⟨b,o,none⟩) (hb b h);refine⟨aGL h0 hs,⟨fun c D=>?_,fun i hi=>⟨?_,?_⟩⟩,⟨m,?_⟩,fun x z=>⟨(h4 x z).1,(j _ _ (h4 x z).1).trans (h4 x z).2⟩⟩
 .rw[j _ _ pU];exact F c D
 .rw[j _ _ pU];exact(E i hi).1
 .rw[j _ _ pU];exact(E i hi).2
 rw[j _ _ pU];exact h3
attribute [go_sem] Jf JM HV LV
inductive Ty where
 |bool|int (k:IntKind) |str|list (t:Ty) |unit|pair (a b:Ty) |ref|clo|mp|rl (e:Nat) (t:Ty) |mref|fn|ap
 deriving DecidableEq
@[go_sem] abbrev rO:Ty:= .pair .bool (.pair .str .unit)
@[go_sem] abbrev rP:Ty:= .pair .str (.pair .str .unit)
abbrev Ty.den:Ty->Type
 | .bool=>Bool
 | .int _=>Int
 | .str=>pP
 | .list t=>List t.den
 | .unit=>Unit
 | .pair a b=>a.den×b.den
 | .ref=>q9
 | .clo=>Option (Nat×pY)
 | .mp=>qB
 | .rl _ _=>q9
 | .fn=>qB
 | .mref=>q9
 | .ap=>Nat×Nat×(Nat×Nat)×(Nat×Nat)
@[go_sem] def Ty.cells:Ty->Nat
 | .unit=>0
 | .pair a b=>a.cells+b.cells
 | .bool| .int _| .str| .list _| .ref| .clo| .mp| .rl _ _| .mref| .fn| .ap=>1
@[go_sem] def Ty.zero:(t:Ty)->t.den
 | .bool=>false
 | .int _=>(0:Int)
 | .str=>[]
 | .list _=>[]
 | .unit=>()
 | .pair a b=>(a.zero,b.zero)
 | .ref=>none
 | .clo=>none
 | .mp=>none
 | .rl _ _=>none
 | .fn=>none
 | .mref=>none
 | .ap=>(0,0,(0,0),(0,0))
@[go_sem] def Ty.isRow:Ty->Bool
 | .unit| .pair _ _=>true
 | .bool| .int _| .str| .list _| .ref| .clo| .mp| .rl _ _| .mref| .fn| .ap=>false
@[go_sem] def Ty.pure:Ty->Bool
 | .ref| .clo| .mp| .rl _ _| .mref| .ap=>false
 | .list t=>t.pure
 | .pair a b=>a.pure&&b.pure
 | .bool| .int _| .str| .unit| .fn=>true
def qV (t:Ty) (l:List t.den) (i:Int):t.den:=l.getD i.toNat t.zero
def sK (l:pP) (i:Int):Int:=((l.getD i.toNat 0).toNat:Int)
def uM {t u:Ty}(h:t=u) (x:t.den):u.den:=h▸x
@[go_sem] theorem OL {t:Ty}(x:t.den):uM (rfl:t=t) x=x:=rfl
@[go_sem] def rH (u:Ty):(t:Ty)->t.den->Nat->Option u.den
 |t,x,0=>if h:t=u then some (uM h x) else match t,x with
  | .pair a b,x=>if 0<a.cells then rH u a x.1 0 else rH u b x.2 0
  |_,_=>none
 | .pair a b,x,o+1=>if o+1<a.cells then rH u a x.1 (o+1) else rH u b x.2 (o+1-a.cells)
 |_,_,_=>none
@[go_sem] def sT (u:Ty) (y:u.den):(t:Ty)->t.den->Nat->Option t.den
 |t,x,0=>if h:u=t then some (uM h y) else match t,x with
  | .pair a b,x=>if 0<a.cells then(sT u y a x.1 0).map (fun z=>(z,x.2)) else(sT u y b x.2 0).map (fun z=>(x.1,z))
  |_,_=>none
 | .pair a b,x,o+1=>if o+1<a.cells then(sT u y a x.1 (o+1)).map (fun z=>(z,x.2)) else(sT u y b x.2 (o+1-a.cells)).map (fun z=>(x.1,z))
 |_,_,_=>none
@[go_sem] def Ty.proj:(t:Ty)->t.den->Nat->Option (Σ u:Ty,u.den)
 | .pair a _,x,0=>some ⟨a,x.1⟩
 | .pair _ b,x,i+1=>b.proj x.2 i
 |_,_,_=>none
@[go_sem] def Ty.offs:Ty->Nat->qB
 | .pair _ _,0=>some 0
 | .pair a b,i+1=>(b.offs i).map fun o=>a.cells+o
 |_,_=>none
@[go_sem] def Ty.fld:Ty->Nat->Option Ty
 | .pair a _,0=>some a
 | .pair _ b,i+1=>b.fld i
 |_,_=>none
@[go_sem] def Ty.setPart (u:Ty) (y:u.den):(t:Ty)->t.den->Nat->Option t.den
 | .pair a b,x,0=>if h:u=a then some (uM h y,x.2) else none
 | .pair a b,x,i+1=>(Ty.setPart u y b x.2 i).map fun z=>(x.1,z)
 |_,_,_=>none
inductive DV where
 |any
 |nilS
 |val (t:Ty) (x:t.den)
 |at (t:Ty) (x:t.den)
 |tup (l:List ((Σ t:Ty,t.den)×qB))
 |cond (p:Bool) (d:DV)
 |flag (p q:Prop)
 |own (k n:Nat)
 |elt (k n c:Nat) (i:Int) (o:Nat)
 |apd (d:DV)
 |nxt (b:Bool) (p c:Int)
abbrev qQ:=DV×qB
inductive qP where
 |cells (t:Ty) (x:t.den) (toks:pY)
 |grow (e:TypeId) (c:Nat) (n:Nat)
 |row (e:TypeId) (t:Ty) (l:List t.den) (n:Nat)
 |map (k v:Ty) (l:List (k.den×v.den))
 |iter (s:pP) (p:Nat)
 |dead
structure St where
 env:List (Nat×qQ)
 H:List (Nat×qP)
 nb:Nat
 N:Nat
 np:Nat:=0
@[go_sem] def lk:List (Nat×qQ)->Nat->qQ
 |[],_=>(.any,none)
 |(k,s)::r,t=>if k=t then s else lk r t
@[go_sem] def qS:List (Nat×qP)->Nat->Option qP
 |[],_=>none
 |(k,s)::r,t=>if k=t then some s else qS r t
structure TI where
 ty:Ty
 elem:TypeId:=0
 bytes:Nat:=0
 arr:Bool:=false
 ls:List (Nat×TypeId×Nat):=[]
abbrev sZ:=List (Nat×TI)
@[go_sem] def s5:sZ->TypeId->Option TI
 |[],_=>none
 |(k,s)::r,t=>if k=t then some s else s5 r t
inductive PK where
 |v|own|p (t:Ty) (os:qC) |m|r|f (ks:List (Ty×qC)) |q
structure r5 where
 side:List Prop
 ret:List qQ
 H:List qP
structure rM where
 ps:List PK
 C:List qQ->List qP->Option r5
 gs:List (Nat×Nat×PK):=[]
 same:qC:=[]
 row:Option ((t:Ty)->List t.den->Option (List t.den)):=none
abbrev tP:=Nat->Option rM
structure r6 where
 side:List Prop
 slot:qQ
 upd:List (Nat×qP)
 rds:qC
abbrev co:Nat:=900000000
@[go_sem] def JO:qC->Bool
 |[]=>false
 |i::_=>if i=1000000000 then true else false
@[go_sem] def Jh:Option r6->Option r6->Option r6
 |some r,_=>some r
 |none,r=>r
@[go_sem] def BH:Option (List Prop×DV)->Option r6
 |some (p,d)=>some ⟨p,(d,none),[],[]⟩
 |none=>none
@[go_sem] def cp:qE->DV
 | .bool b=> .val .bool b
 | .int k n=> .val (.int k) n
 | .string s=> .val .str s.data.toList
 | .slice none 0 0=> .nilS
 | .pointer none=> .val .ref none
 | .nilFunc=> .val .clo none
 | .map none=> .val .mp none
 |_=> .any
@[go_sem] def uC (env:List (Nat×qQ)):Operand->qQ
 | .tmp t=>lk env t
 | .const v=>(cp v,none)
 | .func f=>(.val .clo (some (f,[])),none)
 | .global _=>(.any,none)
@[go_sem] def OM:Option TI->qQ->qQ
 |some ⟨.list t,_,_,_,_⟩,(.nilS,_)=>(.val (.list t) [],none)
 |some ⟨.ap,_,_,_,_⟩,(.val .clo none,_)=>(.val .ap (0,0,(0,0),(0,0)),none)
 |_,s=>s
@[go_sem] def LW:IntKind->Int->List Prop×DV
 | .i64,n=>([-9223372036854775808<=n/\n<=9223372036854775807],.val (.int .i64) n)
 |k,n=>([],.val (.int k) (k.wrap n))
@[go_sem] def rD {α:Type}:List α->List α->List α
 |[],m=>m
 |x::l,m=>x::rD l m
@[go_sem] def CZ:(t:Ty)->t.den->t.den->Option Bool
 | .bool,a,b=>some (a==b)
 | .int _,a,b=>some (decide ((a:Int)=b))
 | .str,a,b=>some (decide ((a:pP)=b))
 | .unit,_,_=>some true
 | .pair s t,a,b=>eqAnd (CZ s a.1 b.1) (CZ t a.2 b.2)
 |_,_,_=>none
where
 eqAnd:Option Bool->Option Bool->Option Bool
  |some x,some y=>some (x&&y)
  |_,_=>none
attribute [go_sem] CZ.eqAnd
@[go_sem] def cq (k:IntKind) (a b:Int):BinOp->Option (List Prop×DV)
 | .add=>some (LW k (a+b))
 | .sub=>some (LW k (a-b))
 | .mul=>some (LW k (a*b))
 | .eql=>some ([],.val .bool (decide (a=b)))
 | .neq=>some ([],.val .bool (!decide (a=b)))
 | .lss=>some ([],.val .bool (decide (a<b)))
 | .leq=>some ([],.val .bool (decide (a<=b)))
 | .gtr=>some ([],.val .bool (decide (b<a)))
 | .geq=>some ([],.val .bool (decide (b<=a)))
 | .quo=>some ([b≠0],.val (.int k) (k.wrap (Int.tdiv a b)))
 | .rem=>some ([b≠0],.val (.int k) (Int.tmod a b))
 | .and=>some ([],.val (.int k) (bits .and k a b))
 | .or=>some ([],.val (.int k) (bits .or k a b))
 | .xor=>some ([],.val (.int k) (bits .xor k a b))
 | .andNot=>some ([],.val (.int k) (bits .andNot k a b))
 |_=>none
def cr (k:IntKind) (a b:Int):Int:=k.wrap (a*2^min b.toNat k.bits)
def zA (k:IntKind) (a b:Int):Int:=a.fdiv (2^min b.toNat k.bits)
@[go_sem] def Ji (k:IntKind) (a:Int) (k':IntKind) (b:Int):BinOp->Option (List Prop×DV)
 | .shl=>some ([0<=b],.val (.int k) (cr k a b))
 | .shr=>some ([0<=b],.val (.int k) (zA k a b))
 |op=>if k=k' then cq k a b op else none
@[go_sem] def ct (a b:pP):BinOp->Option (List Prop×DV)
 | .add=>some ([((a++b).length:Int)<=9223372036854775807],.val .str (a++b))
 | .eql=>some ([],.val .bool (decide (a=b)))
 | .neq=>some ([],.val .bool (!decide (a=b)))
 | .lss=>some ([],.val .bool (Op.bytesLess a b))
 | .leq=>some ([],.val .bool (Op.bytesLess a b||decide (a=b)))
 | .gtr=>some ([],.val .bool (!(Op.bytesLess a b||decide (a=b))))
 | .geq=>some ([],.val .bool (!Op.bytesLess a b))
 |_=>none
@[go_sem] def ON:BinOp->Option Bool->Option (List Prop×DV)
 | .eql,some r=>some ([],.val .bool r)
 | .neq,some r=>some ([],.val .bool (!r))
 |_,_=>none
@[go_sem] def V3 (op:BinOp):qQ->qQ->Option (List Prop×DV)
 |(.val (.int k) a,_),(.val (.int k') b,_)=>Ji k a k' b op
 |(.val .str a,_),(.val .str b,_)=>ct a b op
 |_,_=>none
@[go_sem] def Jj (k:IntKind) (a b:Int):BinOp->Option (List Prop×DV)
 | .add=>some ([],.val (.int k) (k.wrap (a+b)))
 | .sub=>some ([],.val (.int k) (k.wrap (a-b)))
 | .mul=>some ([],.val (.int k) (k.wrap (a*b)))
 |_=>none
@[go_sem] def V4 (op:BinOp):Option TI->qQ->qQ->Option (List Prop×DV)
 |some ⟨.int _,_,_,true,_⟩,(.val (.int k) a,_),(.val (.int k') b,_)=>if k=k' then Jj k a b op else none
 |_,_,_=>none
@[go_sem] def Jk (u:Ty) (b:Nat) (op:BinOp) (t t':Ty) (x:t.den) (y:t'.den):Option (List Prop×DV):=
 if h:t'=t then(if t=u/\(t= .bool\/(t.isRow=true/\b=1)) then ON op (CZ t x (uM h y)) else none) else none
@[go_sem] def V5 {α:Type}(l:List α):BinOp->Option (List Prop×DV)
 | .eql=>some ([],.flag (l=[]) True)
 | .neq=>some ([],.flag True (l=[]))
 |_=>none
@[go_sem] def zS {α:Type}:Option α->Bool
 |none=>true
 |some _=>false
@[go_sem] def cu:Option TI->BinOp->qQ->qQ->Option (List Prop×DV)
 |some ⟨.list _,_,_,_,_⟩,op,(.val (.list _) l,_),(.nilS,_)=>V5 l op
 |some ⟨.list _,_,_,_,_⟩,op,(.nilS,_),(.val (.list _) l,_)=>V5 l op
 |some ⟨.ap,_,_,_,_⟩,op,(.val .ap x,_),(.val .clo none,_)=>ON op (some (decide (x.1=0)))
 |some ⟨.clo,_,_,_,_⟩,op,(.val .fn x,_),(.val .clo none,_)=>ON op (some (zS x))
 |some ⟨u,_,b,_,_⟩,op,(.val t x,_),(.val t' y,_)=>Jk u b op t t' x y
 |_,_,_,_=>none
@[go_sem] def cz:Option (List Prop×DV)->Option (List Prop×DV)->Option (List Prop×DV)
 |some r,_=>some r
 |none,r=>r
@[go_sem] def da:UnOp->qQ->Option (List Prop×DV)
 | .not,(.val .bool b,_)=>some ([],.val .bool (!b))
 | .neg,(.val (.int k) n,_)=>some (LW k (-(n:Int)))
 |_,_=>none
def tO (l:pZ):pP:=l.map fun n=>UInt8.ofNat n.toNat
def uY (s:pP):pZ:=s.map fun b=>(b.toNat:Int)
@[go_sem] def V6:Option TI->Option TI->qQ->Option (List Prop×DV)
 |some _,some ⟨.int k,_,_,_,_⟩,(.val (.int _) n,_)=>some ([],.val (.int k) (k.wrap n))
 |some _,some ⟨.str,_,_,_,_⟩,(.val .str s,_)=>some ([],.val .str s)
 |_,_,_=>none
@[go_sem] def Jl (l:pZ):Option TI->Option (List Prop×DV)
 |some ⟨.int .u8,_,_,_,_⟩=>some ([],.val .str (tO l))
 |_=>none
@[go_sem] def db (T:sZ):Option TI->Option TI->qQ->Option (List Prop×DV)
 |some ⟨.list (.int .u8),e,_,_,_⟩,some ⟨.str,_,_,_,_⟩,(.val (.list (.int .u8)) l,_)=>Jl l (s5 T e)
 |_,_,_=>none
def sG {α:Type}(l:List α) (lo hi:Int):List α:=(l.drop lo.toNat).take (hi.toNat-lo.toNat)
@[go_sem] def EY:Option qQ->Int->Option Int
 |none,d=>some d
 |some (.val (.int _) n,_),_=>some n
 |_,_=>none
@[go_sem] def V7 (t:Ty) (n:Nat) (f:Int->Int->t.den):Option Int->Option Int->Option (List Prop×DV)
 |some a,some b=>some ([0<=a/\a<=b/\b<=(n:Int)],.val t (f a b))
 |_,_=>none
@[go_sem] def dc:Option TI->qQ->Option qQ->Option qQ->Option (List Prop×DV)
 |some ⟨.str,_,_,_,_⟩,(.val .str l,_),lo,hi=>V7 .str (List.length l) (sG l) (EY lo 0) (EY hi (List.length l))
 |some ⟨.list u,_,_,_,_⟩,(.val (.list t) l,_),lo,hi=>if t=u then V7 (.list t) (List.length l) (sG l) (EY lo 0) (EY hi (List.length l)) else none
 |_,_,_,_=>none
@[go_sem] def V8 (t:Ty) (x:t.den) (i:Nat):Option Ty->Option t.den
 |some (.list u)=>Ty.setPart (.list u) [] t x i
 |_=>none
@[go_sem] def BI (t:Ty):Option t.den->List (Nat×qQ)->Option t.den
 |some x,[]=>some x
 |some x,(i,(.val u y,_))::r=>BI t (Ty.setPart u y t x i) r
 |some x,(i,(.nilS,_))::r=>BI t (V8 t x i (t.fld i)) r
 |_,_=>none
@[go_sem] def E9 (t:Ty):Nat->List t.den
 |0=>[]
 |n+1=>t.zero::E9 t n
@[go_sem] def Jm (t:Ty) (n:Nat) (l:List t.den) (i:Nat) (u:Ty) (y:u.den):Option (List t.den):=if h:u=t/\i<n then some (l.set i (uM h.1 y)) else none
@[go_sem] def CF (t:Ty) (n:Nat):Option (List t.den)->List (Nat×qQ)->Option (List t.den)
 |some l,[]=>some l
 |some l,(i,(.val u y,_))::r=>CF t n (Jm t n l i u y) r
 |_,_=>none
attribute [go_sem] List.set_cons_zero List.set_cons_succ
@[go_sem] def LX:List qQ->Option pY
 |[]=>some []
 |(.val .ref (some p),_)::r=>(LX r).map (p:: ·)
 |_=>none
@[go_sem] def xV:pY->Nat->qB
 |[],_=>none
 |(o,k)::r,a=>if o=a then some k else xV r a
@[go_sem] def yI:qB->Nat->pY
 |some k,o=>[(o,k)]
 |none,_=>[]
@[go_sem] def tT:pY->Nat->Nat->pY
 |[],_,_=>[]
 |(q,k)::r,o,n=>if o<=q/\q<o+n then tT r o n else(q,k)::tT r o n
@[go_sem] def G8:Ty->qB->qB
 | .list _,k=>k
 |_,_=>none
@[go_sem] def zT {α:Type}:List α->List α->List α
 |[],acc=>acc
 |x::l,acc=>zT l (x::acc)
inductive rY where
 |box (id:Nat) (u:Ty) (x:u.den) (toks:pY) (o:Nat)
 |tok (id:Nat)
@[go_sem] def rY.id:rY->Nat
 | .box i _ _ _ _=>i
 | .tok k=>k
@[go_sem] def AT:Nat->qC->Bool
 |_,[]=>false
 |i,j::r=>if i=j then true else AT i r
@[go_sem] def sP:List rY->qC
 |[]=>[]
 |w::r=>w.id::sP r
structure tC where
 args:List qQ
 H:List qP
 ws:List rY
 n:Nat
@[go_sem] def LY:qC->Nat->pY
 |[],_=>[]
 |q::qs,n=>(q,n)::LY qs (n+1)
@[go_sem] def D0 (k:Nat):Option qP->Option tC->Option tC
 |some (.grow e c m),some a=>if AT k (sP a.ws)=true then none else some ⟨a.args,.grow e c m::a.H,.tok k::a.ws,a.n+1⟩
 |_,_=>none
@[go_sem] def AC (H:List (Nat×qP)):qB->Option tC->Option tC
 |some k,a=>D0 k (qS H k) a
 |none,_=>none
@[go_sem] def zL (H:List (Nat×qP)) (toks:pY) (o:Nat):qC->Option tC->Option tC
 |[],a=>a
 |q::qs,a=>zL H toks o qs (AC H (xV toks (o+q)) a)
@[go_sem] def OO (n:Nat):qC->Bool
 |[]=>true
 |q::qs=>decide (q<n)&&OO n qs
@[go_sem] def G9 (H:List (Nat×qP)) (t:Ty) (os:qC) (i o:Nat) (u:Ty) (x:u.den) (toks:pY) (a:tC):Option t.den->Option tC
 |some y=>if (OO t.cells os&& !AT i (sP a.ws))=true then zL H toks o os (some ⟨(.val .ref (some (a.n,0)),none)::a.args,.cells t y (LY os (a.n+1))::a.H,.box i u x toks o::a.ws,a.n+1⟩) else none
 |none=>none
@[go_sem] def wD (H:List (Nat×qP)) (t:Ty) (os:qC) (i o:Nat) (a:tC):Option qP->Option tC
 |some (.cells u x toks)=>G9 H t os i o u x toks a (rH t u x o)
 |_=>none
@[go_sem] def D1 (t:Ty) (x:t.den) (k:Nat) (a:tC):Option qP->Option tC
 |some (.grow e c m)=>if (t.pure&& !AT k (sP a.ws))=true then some ⟨(.val t x,some a.n)::a.args,.grow e c m::a.H,.tok k::a.ws,a.n+1⟩ else none
 |_=>none
@[go_sem] def V9 (t:Ty) (x:t.den) (a:tC):Option tC:=
 if t.pure=true then some ⟨(.val t x,none)::a.args,a.H,a.ws,a.n⟩ else none
@[go_sem] def VA (f:FuncId) (a:tC):Option tC:=some ⟨(.val .clo (some (f,[])),none)::a.args,a.H,a.ws,a.n⟩
@[go_sem] def VB (a:tC):Option tC:=some ⟨(.nilS,none)::a.args,a.H,a.ws,a.n⟩
@[go_sem] def D2 (i:Nat) (a:tC):Option qP->Option tC
 |some (.map k v l)=>if (k.pure&&v.pure&& !AT i (sP a.ws))=true then some ⟨(.val .mp (some a.n),none)::a.args,.map k v l::a.H,.tok i::a.ws,a.n+1⟩ else none
 |_=>none
def yJ (k n:Nat) (a:tC):Option qP->Option tC
 |some (.row e t l m)=>if (t.pure&& !AT k (sP a.ws))=true then some ⟨(.own a.n n,none)::a.args,.row e t l m::a.H,.tok k::a.ws,a.n+1⟩ else none
 |some (.grow e c m)=>if (!AT k (sP a.ws))=true then some ⟨(.own a.n n,none)::a.args,.grow e c m::a.H,.tok k::a.ws,a.n+1⟩ else none
 |_=>none
attribute [go_sem] yJ.eq_1 yJ.eq_2 yJ.eq_3
@[go_sem] def yK (H:List (Nat×qP)) (f:FuncId) (args:List qQ):List (Ty×qC)->pY->pY->Option tC->Option tC
 |[],[],ids,some a=>some ⟨(.val .clo (some (f,zT ids [])),none)::args,a.H,a.ws,a.n⟩
 |(t,os)::ks,(i,o)::cs,ids,some a=>yK H f args ks cs ((a.n,0)::ids) (wD H t os i o a (qS H i))
 |_,_,_,_=>none
@[go_sem] def EA (i o:Nat):List rY->Nat->q9
 |[],_=>none
 | .box j _ _ _ oc::r,c=>if j=i/\oc<=o then some (c,o-oc) else EA i o r (c+1)
 | .tok _::r,c=>EA i o r (c+1)
@[go_sem] def R6 (a:tC):q9->Option tC
 |some p=>some ⟨(.val .ref (some p),none)::a.args,a.H,a.ws,a.n⟩
 |none=>none
@[go_sem] def yM (H:List (Nat×qP)) (a:tC):PK->qQ->Option tC
 | .v,(.val .clo (some (f,[])),_)=>VA f a
 | .v,(.val t x,_)=>V9 t x a
 | .v,(.nilS,_)=>VB a
 | .own,(.val (.list t) x,some k)=>D1 (.list t) x k a (qS H k)
 | .p t os,(.val .ref (some (i,o)),_)=>wD H t os i o a (qS H i)
 | .m,(.val .mp (some i),_)=>D2 i a (qS H i)
 | .r,(.own k n,_)=>yJ k n a (qS H k)
 | .f ks,(.val .clo (some (f,cs)),_)=>yK H f a.args ks cs [] (some a)
 | .q,(.val .ref (some (i,o)),_)=>R6 a (EA i o (zT a.ws []) 0)
 |_,_=>none
@[go_sem] def yN (H:List (Nat×qP)):List PK->List qQ->Option tC->Option tC
 |_,_,none=>none
 |[],[],some a=>some a
 |p::ps,s::ss,some a=>yN H ps ss (yM H a p s)
 |_,_,some _=>none
@[go_sem] def a3W:Option q9->qQ
 |some (some p)=>(.val .ref (some p),none)
 |_=>(.any,none)
@[go_sem] def a3X:Option qB->qQ
 |some (some i)=>(.val .mp (some i),none)
 |_=>(.any,none)
@[go_sem] def a3Y:Option q9->qQ
 |some (some (k,n))=>(.own k n,none)
 |_=>(.any,none)
@[go_sem] def D3:(t:Ty)->t.den->Nat->Option q9
 | .rl _ _,x,0=>some x
 | .pair a b,x,o=>if o<a.cells then D3 a x.1 o else D3 b x.2 (o-a.cells)
 |_,_,_=>none
@[go_sem] def LZ (q:Nat):PK->Option qP->qQ
 | .r,some (.cells t y _)=>a3Y (D3 t y q)
 | .p _ _,some (.cells t y _)=>a3W (rH .ref t y q)
 | .m,some (.cells t y _)=>a3X (rH .mp t y q)
 |_,_=>(.any,none)
@[go_sem] def JP:List qP->Nat->Option qP
 |[],_=>none
 |b::_,0=>some b
 |_::r,n+1=>JP r n
@[go_sem] def OP (l:List qQ):Option tC->Option tC
 |some a=>some ⟨l,a.H,a.ws,a.n⟩
 |none=>none
@[go_sem] def CG (H:List (Nat×qP)):List (Nat×Nat×PK)->Option tC->Option tC
 |_,none=>none
 |[],some a=>some a
 |(c,q,pk)::r,some a=>CG H r (OP a.args (yM H a pk (LZ q pk (JP a.H (a.n-1-c)))))
@[go_sem] def wE (i:Nat):List rY->Nat->qB
 |[],_=>none
 | .tok j::r,c=>if j=i then some c else wE i r (c+1)
 | .box _ _ _ _ _::r,c=>wE i r (c+1)
@[go_sem] def GA {α β:Type}:Option α->Option β->Option (α×β)
 |some a,some b=>some (a,b)
 |_,_=>none
@[go_sem] def VC (W:List rY):q9->Option q9
 |none=>some none
 |some (i,o)=>(EA i o W 0).map some
@[go_sem] def Jn (W:List rY):qB->Option qB
 |none=>some none
 |some i=>(wE i W 0).map some
@[go_sem] def Jo (W:List rY):q9->Option q9
 |none=>some none
 |some (k,n)=>(wE k W 0).map fun c=>some (c,n)
@[go_sem] def R7:Option (Nat×pY)->Option (Option (Nat×pY))
 |none=>some none
 |some (f,[])=>some (some (f,[]))
 |_=>none
@[go_sem] def VD (c n3 n4:Nat):q9->qB->qB->Option (Nat×Nat×(Nat×Nat)×(Nat×Nat))
 |some (i,0),some k3,some k4=>some (c,i,(k3,n3),(k4,n4))
 |_,_,_=>none
@[go_sem] def Jp (W:List rY):Nat×Nat×(Nat×Nat)×(Nat×Nat)->Option (Nat×Nat×(Nat×Nat)×(Nat×Nat))
 |(c,i,(k3,n3),(k4,n4))=>VD c n3 n4 (EA i 0 W 0) (wE k3 W 0) (wE k4 W 0)
@[go_sem] def D4 (W:List rY):(t:Ty)->t.den->Option t.den
 | .ref,x=>VC W x
 | .clo,x=>R7 x
 | .mp,x=>Jn W x
 | .pair a b,x=>GA (if a.pure=true then some x.1 else D4 W a x.1) (if b.pure=true then some x.2 else D4 W b x.2)
 | .list t,x=>if t.pure=true then some x else none
 | .bool,x=>some x
 | .int _,x=>some x
 | .str,x=>some x
 | .unit,x=>some x
 | .rl _ _,x=>Jo W x
 | .fn,x=>some x
 | .mref,x=>VC W x
 | .ap,x=>Jp W x
@[go_sem] def de:Option qP->Option (List qP)->Option (List qP)
 |some b,some l=>some (b::l)
 |_,_=>none
@[go_sem] def a3Z (t:Ty) (ts:pY):Option t.den->Option qP
 |some y=>some (.cells t y ts)
 |none=>none
def M0 (W:List rY):qP->Option qP
 | .cells t y ts=>if t.pure=true then some (.cells t y ts) else a3Z t ts (D4 W t y)
 |b=>some b
attribute [go_sem] M0.eq_1 M0.eq_2
@[go_sem] def JQ (W:List rY):List qP->Option (List qP)
 |[]=>some []
 |b::r=>de (M0 W b) (JQ W r)
@[go_sem] def zU:List rY->Nat->Option rY
 |[],_=>none
 |w::_,0=>some w
 |_::r,n+1=>zU r n
@[go_sem] def OQ (n:Nat) (c:Nat):Option rY->Bool
 |some _=>false
 |none=>decide (c<n)
@[go_sem] def AD (base n c:Nat):Option rY->qB
 |some (.box _ _ _ _ _)=>none
 |some (.tok k)=>some k
 |none=>if c<n then some (base+c) else none
@[go_sem] def Jq (base n c o:Nat):Option rY->qQ
 |some (.box i _ _ _ o')=>(.val .ref (some (i,o'+o)),none)
 |wh=>if OQ n c wh=true then(.val .ref (some (base+c,o)),none) else(.any,none)
@[go_sem] def M1 (base n:Nat) (W:List rY):qB->qB
 |some c=>AD base n c (zU W c)
 |none=>none
@[go_sem] def a30 (m:Nat):qB->qQ
 |some k=>(.own k m,none)
 |none=>(.any,none)
@[go_sem] def a32:qB->qQ
 |some k=>(.val .mp (some k),none)
 |none=>(.any,none)
@[go_sem] def R8 (base n c o:Nat):Option rY->q9
 |some (.box i _ _ _ o')=>some (i,o'+o)
 |wh=>if OQ n c wh=true then some (base+c,o) else none
@[go_sem] def a33:q9->Option pY->Option pY
 |some p,some l=>some (p::l)
 |_,_=>none
@[go_sem] def OR (base n:Nat) (W:List rY):pY->Option pY
 |[]=>some []
 |(c,o)::r=>a33 (R8 base n c o (zU W c)) (OR base n W r)
@[go_sem] def a34 (f:Nat):Option pY->qQ
 |some l=>(.val .clo (some (f,l)),none)
 |none=>(.any,none)
@[go_sem] def VE (base n:Nat) (W:List rY):qQ->qQ
 |(.own c m,_)=>a30 m (M1 base n W (some c))
 |(.val .ref (some (c,o)),_)=>Jq base n c o (zU W c)
 |(.val .ref none,_)=>(.val .ref none,none)
 |(.val .mp (some c),_)=>a32 (M1 base n W (some c))
 |(.val .mp none,_)=>(.val .mp none,none)
 |(.val .clo (some (f,cs)),_)=>a34 f (OR base n W cs)
 |(.val t x,k)=>if t.pure=true then(.val t x,M1 base n W (G8 t k)) else(.any,none)
 |_=>(.any,none)
@[go_sem] def a35 (q:Nat):qB->pY->pY
 |some k,r=>(q,k)::r
 |none,r=>r
@[go_sem] def EZ (base n:Nat) (W:List rY) (o:Nat):pY->pY
 |[]=>[]
 |(q,c)::r=>a35 (o+q) (AD base n c (zU W c)) (EZ base n W o r)
@[go_sem] def M2 (base n:Nat) (W:List rY):q9->Option q9
 |none=>some none
 |some (c,o)=>back2 c o (zU W c)
where
 back2 (c o:Nat):Option rY->Option q9
  |some (.box i _ _ _ o')=>some (some (i,o'+o))
  |wh=>if OQ n c wh=true then some (some (base+c,o)) else none
attribute [go_sem] M2.back2
@[go_sem] def Jr (base n:Nat) (W:List rY):qB->Option qB
 |none=>some none
 |some c=>(AD base n c (zU W c)).map some
@[go_sem] def Js (base n:Nat) (W:List rY):q9->Option q9
 |none=>some none
 |some (c,q)=>(AD base n c (zU W c)).map fun k=>some (k,q)
@[go_sem] def Ju (base n:Nat) (W:List rY):Nat×Nat×(Nat×Nat)×(Nat×Nat)->Option (Nat×Nat×(Nat×Nat)×(Nat×Nat))
 |(c,i,(k3,n3),(k4,n4))=>VD c n3 n4 (R8 base n i 0 (zU W i)) (AD base n k3 (zU W k3)) (AD base n k4 (zU W k4))
@[go_sem] def CH (base n:Nat) (W:List rY):(t:Ty)->t.den->Option t.den
 | .ref,x=>M2 base n W x
 | .clo,x=>R7 x
 | .mp,x=>Jr base n W x
 | .pair a b,x=>GA (if a.pure=true then some x.1 else CH base n W a x.1) (if b.pure=true then some x.2 else CH base n W b x.2)
 | .list t,x=>if t.pure=true then some x else none
 | .bool,x=>some x
 | .int _,x=>some x
 | .str,x=>some x
 | .unit,x=>some x
 | .rl _ _,x=>Js base n W x
 | .fn,x=>some x
 | .mref,x=>M2 base n W x
 | .ap,x=>Ju base n W x
@[go_sem] def VF (i o:Nat) (u t:Ty) (toks ts:pY):Option u.den->Option (Nat×qP)
 |some z=>some (i,.cells u z (rD ts (tT toks o t.cells)))
 |none=>none
@[go_sem] def Jv (i:Nat) (t:Ty) (ts:pY):Option t.den->Option (Nat×qP)
 |some y=>some (i,.cells t y ts)
 |none=>none
def zB (base n c:Nat) (W:List rY):qP->Option (Nat×qP)
 | .cells t y ts=>if t.pure=true then some (base+c,.cells t y (EZ base n W 0 ts)) else Jv (base+c) t (EZ base n W 0 ts) (CH base n W t y)
 | .grow e m k=>some (base+c,.grow e m k)
 | .row e t l n=>if t.pure=true then some (base+c,.row e t l n) else none
 | .map k v l=>if (k.pure&&v.pure)=true then some (base+c,.map k v l) else none
 | .iter _ _=>none
 | .dead=>some (base+c,.dead)
attribute [go_sem] zB.eq_1 zB.eq_2 zB.eq_3 zB.eq_4 zB.eq_5 zB.eq_6
def wU (k:Nat):qP->Option (Nat×qP)
 | .cells _ _ _=>none
 | .grow e m n=>some (k,.grow e m n)
 | .row e t l n=>if t.pure=true then some (k,.row e t l n) else none
 | .map s v l=>if (s.pure&&v.pure)=true then some (k,.map s v l) else none
 | .iter _ _=>none
 | .dead=>some (k,.dead)
attribute [go_sem] wU.eq_1 wU.eq_2 wU.eq_3 wU.eq_4 wU.eq_5 wU.eq_6
@[go_sem] def Jw (i o:Nat) (u t:Ty) (toks ts:pY) (x:u.den):Option t.den->Option (Nat×qP)
 |some y=>VF i o u t toks ts (sT t y u x o)
 |none=>none
@[go_sem] def yO (base n i o:Nat) (W:List rY) (u:Ty) (x:u.den) (toks:pY):qP->Option (Nat×qP)
 | .cells t y ts=>if t.pure=true then VF i o u t toks (EZ base n W o ts) (sT t y u x o) else Jw i o u t toks (EZ base n W o ts) x (CH base n W t y)
 | .dead=>some (i,.dead)
 | .grow _ _ _=>none
 | .row _ _ _ _=>none
 | .map _ _ _=>none
 | .iter _ _=>none
@[go_sem] def R9:Option (Nat×qP)->Option (List (Nat×qP))->Option (List (Nat×qP))
 |some q,some r=>some (q::r)
 |_,_=>none
@[go_sem] def CI (base n:Nat) (W:List rY):Nat->List rY->List qP->Option (List (Nat×qP))
 |_,[],[]=>some []
 |c,[],b::L=>R9 (zB base n c W b) (CI base n W (c+1) [] L)
 |c,.box i u x toks o::ws,b::L=>R9 (yO base n i o W u x toks b) (CI base n W (c+1) ws L)
 |c,.tok k::ws,b::L=>R9 (wU k b) (CI base n W (c+1) ws L)
 |_,_::_,[]=>none
@[go_sem] def HW:List qQ->Option (List ((Σ t:Ty,t.den)×qB))
 |[]=>some []
 |(.val t x,k)::r=>(HW r).map ((⟨t,x⟩,k):: ·)
 |(.own k n,_)::r=>(HW r).map ((⟨.rl 0 .unit,some (k,n)⟩,none):: ·)
 |_=>none
@[go_sem] def a36:Option (List ((Σ t:Ty,t.den)×qB))->qQ
 |some q=>(.tup q,none)
 |none=>(.any,none)
@[go_sem] def OS:List qQ->Option qQ
 |[]=>some (.tup [],none)
 |[s]=>some s
 |s::s'::l=>some (a36 (HW (s::s'::l)))
@[go_sem] def df (W:List rY):qC->qC
 |[]=>[]
 |c::r=>sameId (zU W c) (df W r)
where
 sameId:Option rY->qC->qC
  |some w,r=>w.id::r
  |none,r=>r
attribute [go_sem] df.sameId
@[go_sem] def RA (side:List Prop) (rds:qC):Option (List (Nat×qP))->Option qQ->Option r6
 |some H,some s=>some ⟨side,s,H,rds⟩
 |_,_=>none
@[go_sem] def RB (base n:Nat) (W:List rY):List qQ->List qQ
 |[]=>[]
 |s::r=>VE base n W s::RB base n W r
@[go_sem] def rI:List qP->Nat
 |[]=>0
 |_::r=>rI r+1
@[go_sem] def VG (base:Nat) (W:List rY) (sm:qC):Option r5->Option r6
 |some r=>RA r.side (rD (sP W) (df W sm)) (CI base (rI r.H) W 0 W r.H) (OS (RB base (rI r.H) W r.ret))
 |none=>none
@[go_sem] def VH (C:List qQ->List qP->Option r5) (sm:qC) (base:Nat) (W:List rY) (args:List qQ):Option (List qP)->Option r6
 |some L=>VG base W sm (C args L)
 |none=>none
@[go_sem] def RC (C:List qQ->List qP->Option r5) (sm:qC) (base:Nat):Option tC->Option r6
 |some a=>VH C sm base (zT a.ws []) (zT a.args []) (JQ (zT a.ws []) (zT a.H []))
 |none=>none
@[go_sem] def HY (H:List (Nat×qP)) (base:Nat) (args:List qQ):Option rM->Option r6
 |some g=>RC g.C g.same base (CG H g.gs (yN H g.ps args (some ⟨[],[],[],0⟩)))
 |none=>none
@[go_sem] def RD:List PK->List qQ->qB
 | .r::ps,_::ss=>RD ps ss
 |_::_,(.own k _,_)::_=>some k
 |_::ps,_::ss=>RD ps ss
 |_,_=>none
@[go_sem] def Jy (k:Nat) (t:Ty) (l:List t.den):qQ->qQ
 |(.own j m,x)=>if j=k then(.val (.list t) l,none) else(.own j m,x)
 |s=>s
@[go_sem] def RE (k:Nat) (t:Ty) (l:List t.den):List qQ->List qQ
 |[]=>[]
 |s::r=>Jy k t l s::RE k t l r
@[go_sem] def M3 (k n:Nat):List qQ->List Prop
 |[]=>[]
 |(.own j m,_)::r=>(j=k->m=n)::M3 k n r
 |_::r=>M3 k n r
@[go_sem] def HZ:Ty->Bool
 | .list _=>false
 | .pair a b=>HZ a&&HZ b
 | .bool| .int _| .str| .unit| .fn=>true
 | .ref| .clo| .mp| .rl _ _| .mref| .ap=>false
@[go_sem] def qU:List (Nat×qP)->qC
 |[]=>[]
 |(i,_)::r=>i::qU r
@[go_sem] def OT:List (Nat×qP)->Bool
 |[]=>true
 |(_,.cells t _ [])::r=>HZ t&&OT r
 |_=>false
@[go_sem] def VI:List ((Σ t:Ty,t.den)×qB)->Bool
 |[]=>true
 |(⟨t,_⟩,_)::r=>HZ t&&VI r
@[go_sem] def dg:List ((Σ t:Ty,t.den)×qB)->List ((Σ t:Ty,t.den)×qB)
 |[]=>[]
 |(q,_)::r=>(q,none)::dg r
@[go_sem] def VJ:qQ->Option qQ
 |(.val t x,_)=>if HZ t=true then some (.val t x,none) else none
 |(.tup l,_)=>if VI l=true then some (.tup (dg l),none) else none
 |_=>none
@[go_sem] def dh (sd:List Prop) (k:Nat) (side:List Prop) (U:List (Nat×qP)) (rds:qC):Option qQ->Option r6
 |some s=>if (OT U&& !AT k (qU U))=true then some ⟨rD sd side,s,U,k::rds⟩ else none
 |none=>none
@[go_sem] def di (sd:List Prop) (k:Nat):Option r6->Option r6
 |some ⟨side,s,U,rds⟩=>dh sd k side U rds (VJ s)
 |none=>none
@[go_sem] def RF (H:List (Nat×qP)) (base:Nat) (args:List qQ) (g:rM) (k:Nat):Option qP->Option r6
 |some (.row _ t l m)=>di (M3 k m args) k (HY ((k,.dead)::H) base (RE k t l args) (some g))
 |_=>none
@[go_sem] def Jz (H:List (Nat×qP)) (base:Nat) (args:List qQ) (g:rM):qB->Option r6
 |some k=>RF H base args g k (qS H k)
 |none=>HY H base args (some g)
@[go_sem] def Ka (k n m e:Nat) (t:Ty):Option (List t.den)->Option r6
 |some l=>some ⟨[n=m,m<4611686018427387904],(.tup [],none),[(k,.row e t l m)],[k]⟩
 |none=>none
@[go_sem] def dj (F:(t:Ty)->List t.den->Option (List t.den)) (k n:Nat):Option qP->Option r6
 |some (.row e t l m)=>Ka k n m e t (F t l)
 |_=>none
@[go_sem] def VK (H:List (Nat×qP)) (F:(t:Ty)->List t.den->Option (List t.den)):List qQ->Option r6
 |[(.own k n,_)]=>dj F k n (qS H k)
 |_=>none
@[go_sem] def dk (base:Nat):Option TI->qQ->Option r6
 |some ⟨.list u,e,_,true,_⟩,(.nilS,_)=>some ⟨[],(.own base 0,none),[(base,.row e u [] 0)],[]⟩
 |some ⟨.list u,e,_,false,_⟩,(.nilS,_)=>some ⟨[],(.val (.list u) [],some base),[(base,.grow e u.cells 0)],[]⟩
 |_,(.nilS,_)=>none
 |_,s=>some ⟨[],s,[],[]⟩
@[go_sem] def GB:Ty->Nat->Bool
 | .list _,0=>true
 | .pair a b,o=>if o<a.cells then GB a o else GB b (o-a.cells)
 |_,_=>false
@[go_sem] def GC (t:Ty):List (Nat×TypeId×Nat)->Bool
 |[]=>true
 |(o,_,_)::r=>GB t o&&GC t r
@[go_sem] def D5:List (Nat×TypeId×Nat)->Nat->pY
 |[],_=>[]
 |(o,_,_)::r,i=>(o,i)::D5 r (i+1)
@[go_sem] def F0:List (Nat×TypeId×Nat)->Nat->List (Nat×qP)
 |[],_=>[]
 |(_,e,c)::r,i=>rD (F0 r (i+1)) [(i,.grow e c 0)]
@[go_sem] def dl (e:Nat):Bool:=if e=82 then true else if e=Jf then true else false
@[go_sem] def dm (e:Nat) (u:Ty) (o:Nat):q9->List (Nat×Nat×Ty)
 |none=>[(o,e,u)]
 |some _=>[]
@[go_sem] def AE:(t:Ty)->t.den->Nat->List (Nat×Nat×Ty)
 | .rl e u,x,o=>dm e u o x
 | .pair a b,x,o=>rD (AE a x.1 o) (AE b x.2 (o+a.cells))
 |_,_,_=>[]
@[go_sem] def dn (o:Nat):q9->qC
 |none=>[o]
 |some _=>[]
@[go_sem] def I0:(t:Ty)->t.den->Nat->qC
 | .mref,x,o=>dn o x
 | .pair a b,x,o=>rD (I0 a x.1 o) (I0 b x.2 (o+a.cells))
 |_,_,_=>[]
@[go_sem] def Kb:Nat->qC->qC
 |2,[0]=>[0]
 |_,_=>[]
@[go_sem] def VL (el:Nat) (t:Ty) (y:t.den):qC:=if dl el=true then Kb t.cells (I0 t y 0) else[]
@[go_sem] def CJ (t:Ty):Nat->List (Nat×Nat×Ty)->Option t.den->Option t.den
 |_,[],x=>x
 |i,(o,e,u)::r,some x=>CJ t (i+1) r (sT (.rl e u) (some (i,0)) t x o)
 |_,_::_,none=>none
@[go_sem] def JR (t:Ty) (i:Nat):qC->Option t.den->Option t.den
 |[],x=>x
 |q::r,some x=>JR t i r (sT .mref (some (i,q)) t x q)
 |_::_,none=>none
@[go_sem] def GD:List (Nat×Nat×Ty)->Nat->List (Nat×qP)
 |[],_=>[]
 |(_,e,u)::r,i=>rD (GD r (i+1)) [(i,.row e u [] 0)]
@[go_sem] def RG {α:Type}:List α->Nat
 |[]=>0
 |_::r=>RG r+1
@[go_sem] def Kc (base:Nat) (t:Ty) (ls:List (Nat×TypeId×Nat)) (R:List (Nat×Nat×Ty)):Option t.den->Option r6
 |some z=>some ⟨[],(.val .ref (some (base,0)),none),(base,.cells t z (D5 ls (base+1)))::rD (GD R (base+1+RG ls)) (F0 ls (base+1)),[]⟩
 |none=>none
@[go_sem] def RH (base el:Nat) (t:Ty) (y:t.den) (ls:List (Nat×TypeId×Nat)):Bool->Option r6
 |true=>Kc base t ls (AE t y 0) (JR t base (VL el t y) (CJ t (base+1+RG ls) (AE t y 0) (some y)))
 |false=>none
@[go_sem] def D6 (k:Nat):List (Nat×TypeId×Nat)->List (Nat×TypeId×Nat)
 |[]=>[]
 |(o,e,c)::r=>if o+1=k then D6 k r else(o,e,c)::D6 k r
@[go_sem] def Kd (base el:Nat) (ls:List (Nat×TypeId×Nat)):(t:Ty)->t.den->qB->Option r6
 | .pair a b,y,some k=>RH base el (.pair a b) y (D6 k ls) (GC (.pair a b) (D6 k ls))
 | .list u,y,k=>some ⟨[],(.val .ref (some (base,0)),none),[(base,.cells (.list u) y (yI k 0))],[]⟩
 |t,y,_=>some ⟨[],(.val .ref (some (base,0)),none),[(base,.cells t y [])],[]⟩
@[go_sem] def RI (base el:Nat):Option TI->Option r6
 |some ⟨.list u,e,_,_,_⟩=>some ⟨[],(.val .ref (some (base,0)),none),[(base,.cells (.list u) [] [(0,base+1)]),(base+1,.grow e u.cells 0)],[]⟩
 |some ti=>RH base el ti.ty ti.ty.zero ti.ls (GC ti.ty ti.ls)
 |none=>none
@[go_sem] def dp (base el:Nat):Option TI->qQ->Option r6
 |some ti,(.val t y,k)=>if t=ti.ty then Kd base el ti.ls t y k else none
 |_,_=>none
@[go_sem] def dq (base el:Nat):Option TI->qQ->Option r6
 |some ⟨.list u,e,_,true,_⟩,(.nilS,_)=>RH base el (.rl e u) none [] true
 |some ⟨.list u,e,b,a,ls⟩,(.nilS,_)=>RI base el (some ⟨.list u,e,b,a,ls⟩)
 |ti,s=>dp base el ti (OM ti s)
@[go_sem] def M4:Ty->Bool
 | .list _=>true
 | .pair a b=>M4 a||M4 b
 | .bool| .int _| .str| .unit| .ref| .clo| .mp| .rl _ _| .mref| .fn| .ap=>false
@[go_sem] def VM:qB->qB->qB
 |some o,some m=>if m=0 then some (o+1) else none
 |_,_=>none
@[go_sem] def dr:Ty->Bool
 | .list _=>true
 | .pair _ _| .bool| .int _| .str| .unit| .ref| .clo| .mp| .rl _ _| .mref| .fn| .ap=>false
@[go_sem] def VN (u:Ty) (o m:qB):Bool->Bool->qB
 |false,_=>m
 |true,true=>VM o m
 |true,false=>none
@[go_sem] def BJ (t:Ty):List (Nat×qQ)->qB
 |[]=>some 0
 |(_,(.nilS,_))::r=>BJ t r
 |(i,(.val u _,_))::r=>VN u (t.offs i) (BJ t r) (M4 u) (dr u)
 |_=>none
@[go_sem] def du:Ty->qB->qB
 | .pair _ _,m=>m
 |_,_=>none
@[go_sem] def a38 (t:Ty) (k:qB):Option t.den->Option r6
 |some x=>some ⟨[],(.val t x,k),[],[]⟩
 |none=>none
@[go_sem] def dv (sl:List (Nat×qQ)):Option TI->Option r6
 |some ti=>if ti.ty.isRow=true then a38 ti.ty (du ti.ty (BJ ti.ty sl)) (BI ti.ty (some ti.ty.zero) sl) else none
 |none=>none
@[go_sem] def VO (base e c n:Nat) (t:Ty):Option (List t.den)->Option r6
 |some l=>if n<=16777216/\n*c<=16777216 then some ⟨[],(.val (.list t) l,some base),[(base,.grow e c n)],[]⟩ else none
 |none=>none
@[go_sem] def Ke (base e n:Nat) (t:Ty):Option (List t.den)->Option r6
 |some l=>if t.pure=true/\n<=16777216/\n*t.cells<=16777216 then some ⟨[],(.own base n,none),[(base,.row e t l n)],[]⟩ else none
 |none=>none
@[go_sem] def dw (base n:Nat) (sl:List (Nat×qQ)):Option TI->Option r6
 |some ⟨.list u,e,_,true,_⟩=>if n=0 then Ke base e n u (CF u n (some (E9 u n)) sl) else VO base e u.cells n u (CF u n (some (E9 u n)) sl)
 |some ⟨.list u,e,_,false,_⟩=>VO base e u.cells n u (CF u n (some (E9 u n)) sl)
 |_=>none
@[go_sem] def Kf (t:Ty) (k:qB) (i:Nat):Option t.den->Option r6
 |some y=>some ⟨[],(.val t y,k),[],[i]⟩
 |none=>none
@[go_sem] def RJ (t:Ty) (i off:Nat):Option qP->Option r6
 |some (.cells u x toks)=>Kf t (G8 t (xV toks off)) i (rH t u x off)
 |_=>none
@[go_sem] def Kg (u:Ty) (k n m:Nat):Option u.den->Option r6
 |some y=>some ⟨[n=m],(.val u y,none),[],[k]⟩
 |none=>none
@[go_sem] def RK (u:Ty) (k n c:Nat) (i:Int) (o:Nat):Option qP->Option r6
 |some (.row _ t l m)=>if c=t.cells then Kg u k n m (rH u t (qV t l i) o) else none
 |_=>none
@[go_sem] def dz (i:Nat):Option q9->Option r6
 |some (some (k,n))=>some ⟨[],(.own k n,none),[],[i]⟩
 |_=>none
@[go_sem] def VP (i off:Nat):TI->Option qP->Option r6
 |⟨.list u,e,_,_,_⟩,some (.cells v x _)=>dz i (rH (.rl e u) v x off)
 |_,_=>none
@[go_sem] def ec:q9->q9->q9
 |some p,_=>some p
 |none,q=>q
@[go_sem] def CK:(t:Ty)->t.den->q9
 | .rl _ _,x=>x
 | .pair a b,x=>ec (CK a x.1) (CK b x.2)
 |_,_=>none
@[go_sem] def ee (u0:Ty) (l:List u0.den) (u:Ty):q9->Option (Σ t:Ty,t.den)
 |some _=>if u=u0 then some ⟨.list u0,l⟩ else none
 |none=>none
@[go_sem] def M5 (a b:Ty) (x:a.den) (y:b.den):q9->Option (Σ t:Ty,t.den)->Option (Σ t:Ty,t.den)->Option (Σ t:Ty,t.den)
 |some _,some ⟨a',x'⟩,_=>some ⟨.pair a' b,(x',y)⟩
 |some _,none,_=>none
 |none,_,some ⟨b',y'⟩=>some ⟨.pair a b',(x,y')⟩
 |none,_,none=>none
@[go_sem] def AF (u0:Ty) (l:List u0.den):(t:Ty)->t.den->Option (Σ t:Ty,t.den)
 | .rl _ u,x=>ee u0 l u x
 | .pair a b,x=>M5 a b x.1 x.2 (CK a x.1) (AF u0 l a x.1) (AF u0 l b x.2)
 |_,_=>none
@[go_sem] def ef (t:Ty) (i k:Nat) (sd:Prop) (e:TypeId) (c n:Nat) (v:Ty) (x:v.den):Option t.den->Option r6
 |some y=>some ⟨[sd],(.val t y,none),[(i,.cells v x []),(k,.grow e c n)],[1000000000,i,k]⟩
 |none=>none
@[go_sem] def eh (t:Ty) (i off k:Nat) (sd:Prop) (e:TypeId) (c n:Nat):Option (Σ t:Ty,t.den)->Option r6
 |some ⟨v,x⟩=>ef t i k sd e c n v x (rH t v x off)
 |none=>none
@[go_sem] def VQ (t:Ty) (i off k n0:Nat) (v:Ty) (x:v.den):Option qP->Option r6
 |some (.row e u0 l m)=>eh t i off k (n0=m) e u0.cells (List.length l) (AF u0 l v x)
 |_=>none
@[go_sem] def VR (H:List (Nat×qP)) (t:Ty) (i off:Nat) (v:Ty) (x:v.den):q9->Option r6
 |some (k,n0)=>VQ t i off k n0 v x (qS H k)
 |none=>none
@[go_sem] def JS (H:List (Nat×qP)) (t:Ty) (i off:Nat):Option qP->Option r6
 |some (.cells v x _)=>VR H t i off v x (CK v x)
 |_=>none
@[go_sem] def I1:Ty->Ty
 | .rl _ u=> .list u
 | .pair a b=> .pair (I1 a) (I1 b)
 | .bool=> .bool
 | .int k=> .int k
 | .str=> .str
 | .list t=> .list t
 | .unit=> .unit
 | .ref=> .ref
 | .clo=> .clo
 | .mp=> .mp
 | .mref=> .mref
 | .fn=> .fn
 | .ap=> .ap
@[go_sem] def Kh (u:Ty):Option qP->Option (List u.den)
 |some (.row _ t l _)=>if h:t=u then some (uM (t:= .list t) (u:= .list u) (by rw[h]) l) else none
 |_=>none
@[go_sem] def ej (H:List (Nat×qP)) (u:Ty):q9->Option (List u.den)
 |some (k,_)=>Kh u (qS H k)
 |none=>some []
@[go_sem] def BK (H:List (Nat×qP)):(t:Ty)->t.den->Option (I1 t).den
 | .rl _ u,x=>ej H u x
 | .pair a b,x=>GA (BK H a x.1) (BK H b x.2)
 | .bool,x=>some x
 | .int _,x=>some x
 | .str,x=>some x
 | .list _,x=>some x
 | .unit,x=>some x
 | .ref,x=>some x
 | .clo,x=>some x
 | .mp,x=>some x
 | .mref,x=>some x
 | .fn,x=>some x
 | .ap,x=>some x
@[go_sem] def ek:q9->pY
 |some p=>[p]
 |none=>[]
@[go_sem] def BL:(t:Ty)->t.den->pY
 | .rl _ _,x=>ek x
 | .pair a b,x=>rD (BL a x.1) (BL b x.2)
 |_,_=>[]
@[go_sem] def VS (k n:Nat):Option qP->Option (Prop×qP)
 |some (.row e t _ m)=>some (n=m,.grow e t.cells m)
 |_=>none
@[go_sem] def M6 (k:Nat):Option (Prop×qP)->Option (List Prop×List (Nat×qP))->Option (List Prop×List (Nat×qP))
 |some (p,b),some (ps,bs)=>some (p::ps,(k,b)::bs)
 |_,_=>none
@[go_sem] def RL (k:Nat):pY->Bool
 |[]=>false
 |(j,_)::r=>if j=k then true else RL k r
@[go_sem] def CL (H:List (Nat×qP)):pY->Option (List Prop×List (Nat×qP))
 |[]=>some ([],[])
 |(k,n)::r=>if RL k r=true then none else M6 k (VS k n (qS H k)) (CL H r)
@[go_sem] def VT (t:Ty) (i:Nat):Option (List Prop×List (Nat×qP))->Option t.den->Option r6
 |some (ps,bs),some y=>some ⟨ps,(.val t y,none),bs,i::qU bs⟩
 |_,_=>none
@[go_sem] def VU (H:List (Nat×qP)) (t:Ty) (i off:Nat) (v:Ty) (x:v.den):Option (I1 v).den->Option r6
 |some z=>VT t i (CL H (BL v x)) (rH t (I1 v) z off)
 |none=>none
@[go_sem] def M7 (H:List (Nat×qP)) (t:Ty) (i off:Nat):Option qP->Option r6
 |some (.cells v x _)=>VU H t i off v x (BK H v x)
 |_=>none
@[go_sem] def Ki (H:List (Nat×qP)) (t:Ty) (i off:Nat) (b:Option qP):Option r6->Option r6
 |some r=>some r
 |none=>JS H t i off b
@[go_sem] def VV (H:List (Nat×qP)):Option TI->qQ->Option r6
 |some ti,(.elt k n c i o,_)=>RK ti.ty k n c i o (qS H k)
 |some ti,(.at u x,_)=>if u=ti.ty then some ⟨[],(.val u x,none),[],[]⟩ else none
 |some ti,(.val .ref (some (i,off)),_)=>if ti.elem=co then M7 H ti.ty i off (qS H i) else Ki H ti.ty i off (qS H i) (Jh (RJ ti.ty i off (qS H i)) (VP i off ti (qS H i)))
 |_,_=>none
@[go_sem] def OU (u:Ty) (i:Nat) (toks:pY):Option u.den->Option r6
 |some z=>some ⟨[],(.any,none),[(i,.cells u z toks)],[i]⟩
 |none=>none
@[go_sem] def VW (t:Ty) (y:t.den) (k:qB) (i off:Nat):Option qP->Option r6
 |some (.cells u x toks)=>OU u i (rD (yI (G8 t k) off) (tT toks off t.cells)) (sT t y u x off)
 |_=>none
@[go_sem] def OV (off:Nat):pY->pY
 |[]=>[]
 |(o,k)::r=>(off+o,k)::OV off r
@[go_sem] def Kj (u:Ty) (i:Nat) (nt toks:pY) (bs:List (Nat×qP)):Option u.den->Option r6
 |some z=>some ⟨[],(.any,none),(i,.cells u z (rD nt toks))::rD bs [(i,.cells u z toks)],[i]⟩
 |none=>none
@[go_sem] def VX (t:Ty) (y:t.den) (ls:List (Nat×TypeId×Nat)) (base i off:Nat):Option qP->Bool->Option r6
 |some (.cells u x toks),true=>Kj u i (OV off (D5 ls base)) (tT toks off t.cells) (F0 ls base) (sT t y u x off)
 |_,_=>none
@[go_sem] def I2 (base i off:Nat) (b:Option qP):List (Nat×TypeId×Nat)->(t:Ty)->t.den->qB->Option r6
 |q::r,.pair a c,y,some k=>VX (.pair a c) y (D6 k (q::r)) base i off b (GC (.pair a c) (D6 k (q::r)))
 |_,t,y,k=>VW t y k i off b
@[go_sem] def M8:Ty->Bool
 | .rl _ _=>true
 | .pair a b=>M8 a||M8 b
 |_=>false
@[go_sem] def VY (base:Nat) (sd:List Prop) (s:qQ) (i:Nat) (v:Ty) (ts:pY) (U:List (Nat×qP)) (R:List (Nat×Nat×Ty)):Option v.den->Option r6
 |some z=>some ⟨sd,s,(i,.cells v z ts)::rD (GD R base) U,[i]⟩
 |none=>none
@[go_sem] def VZ (n:Nat):List (Nat×qP)->Bool
 |[]=>true
 |(i,_)::r=>if i<n then VZ n r else false
@[go_sem] def RM (base:Nat):Option r6->Option r6
 |some ⟨sd,s,(i,.cells v z ts)::U,_⟩=>if VZ base ((i,.cells v z ts)::U)=true then VY base sd s i v ts ((i,.cells v z ts)::U) (AE v z 0) (CJ v base (AE v z 0) (some z)) else none
 |_=>none
@[go_sem] def eo (base:Nat) (e:Option r6):Bool->Option r6
 |true=>RM base e
 |false=>e
@[go_sem] def W3 (i k n m e:Nat) (u v:Ty) (l:List u.den) (ts:pY):Option v.den->Option r6
 |some z=>some ⟨[n=m],(.any,none),[(i,.cells v z ts),(k,.grow e u.cells m)],[i,k]⟩
 |none=>none
@[go_sem] def RN (i off k n:Nat) (u v:Ty) (x:v.den) (ts:pY):Option qP->Option r6
 |some (.row e t l m)=>if h:t=u then W3 i k n m e t v l ts (sT (.list t) l v x off) else none
 |_=>none
@[go_sem] def W4:Option q9->Nat×Nat
 |some (some p)=>p
 |_=>(0,0)
@[go_sem] def Kk (i j o:Nat) (r3 r4:Nat×Nat):Option (List Prop×(Nat×Nat×(Nat×Nat)×(Nat×Nat))):=
 if j=i then(if o=6 then some ([],(1,i,r3,r4)) else if o=7 then some ([],(2,i,r3,r4)) else none) else none
@[go_sem] def Kl (i k n c o:Nat) (ix:Int) (r3 r4:Nat×Nat):Option (List Prop×(Nat×Nat×(Nat×Nat)×(Nat×Nat))):=
 if c=1 then(if o=0 then(if k=r3.1 then some ([n=r3.2,ix+1=(n:Int)],(3,i,(k,r3.2),r4)) else none) else none)
 else if c=2 then(if o=1 then(if k=r4.1 then some ([n=r4.2,ix+1=(n:Int)],(4,i,r3,(k,r4.2))) else none) else none) else none
@[go_sem] def W5 (i:Nat):DV->Nat×Nat->Nat×Nat->Option (List Prop×(Nat×Nat×(Nat×Nat)×(Nat×Nat)))
 | .val .ref (some (j,o)),r3,r4=>Kk i j o r3 r4
 | .elt k n c ix o,r3,r4=>Kl i k n c o ix r3 r4
 |_,_,_=>none
@[go_sem] def ep (i off:Nat) (v:Ty) (ts:pY) (sd:List Prop):Option v.den->Option r6
 |some z=>some ⟨sd,(.any,none),[(i,.cells v z (tT ts off 1))],[i]⟩
 |none=>none
@[go_sem] def eq (i off:Nat) (v:Ty) (x:v.den) (ts:pY):Option (List Prop×(Nat×Nat×(Nat×Nat)×(Nat×Nat)))->Option r6
 |some (sd,y)=>ep i off v ts sd (sT .ap y v x off)
 |none=>none
@[go_sem] def et (i off:Nat) (d:DV):Ty->Option qP->Option r6
 | .ap,some (.cells v x ts)=>eq i off v x ts (W5 i d (W4 (D3 v x 8)) (W4 (D3 v x 11)))
 |_,_=>none
@[go_sem] def Km (k n m:Nat) (e:TypeId) (t:Ty) (l:List t.den) (i:Int):Option t.den->Option r6
 |some z=>some ⟨[n=m],(.any,none),[(k,.row e t (l.set i.toNat z) m)],[k]⟩
 |none=>none
@[go_sem] def W6 (u:Ty) (y:u.den) (k n c:Nat) (i:Int) (o:Nat):Option qP->Option r6
 |some (.row e t l m)=>if c=t.cells then Km k n m e t l i (sT u y t (qV t l i) o) else none
 |_=>none
@[go_sem] def eu (b:Ty) (y:b.den):Option (Σ t:Ty,t.den)->Option (Σ t:Ty,t.den)
 |some ⟨a,x⟩=>some ⟨.pair a b,(x,y)⟩
 |none=>none
@[go_sem] def ew (a:Ty) (x:a.den):Option (Σ t:Ty,t.den)->Option (Σ t:Ty,t.den)
 |some ⟨b,y⟩=>some ⟨.pair a b,(x,y)⟩
 |none=>none
@[go_sem] def zC (e:Nat) (u:Ty) (kn:q9):(t:Ty)->t.den->Nat->Option (Σ t:Ty,t.den)
 | .list v,_,0=>if v=u then some ⟨.rl e u,kn⟩ else none
 | .pair a b,x,o=>if o<a.cells then eu b x.2 (zC e u kn a x.1 o) else ew a x.1 (zC e u kn b x.2 (o-a.cells))
 |_,_,_=>none
@[go_sem] def ez (i:Nat):Option (Σ t:Ty,t.den)->Option r6
 |some ⟨v,z⟩=>some ⟨[],(.any,none),[(i,.cells v z [])],[1000000000,i]⟩
 |none=>none
@[go_sem] def Kn (H:List (Nat×qP)) (i off k n e:Nat) (u v:Ty) (x:v.den) (ts:pY):List (Nat×TypeId×Nat)->Option r6
 |[]=>ez i (zC e u (some (k,n)) v x off)
 |_::_=>RN i off k n u v x (tT ts off 1) (qS H k)
@[go_sem] def fe (H:List (Nat×qP)) (i off k n e:Nat) (u v:Ty) (x:v.den) (ts:pY) (ls:List (Nat×TypeId×Nat)):Option r6->Option r6
 |some r=>some r
 |none=>Kn H i off k n e u v x ts ls
@[go_sem] def OW (H:List (Nat×qP)) (i off k n:Nat):TI->Option qP->Option r6
 |⟨.list u,e,_,_,ls⟩,some (.cells v x toks)=>fe H i off k n e u v x toks ls (OU v i (tT toks off 1) (sT (.rl e u) (some (k,n)) v x off))
 |_,_=>none
@[go_sem] def W7 (base:Nat) (H:List (Nat×qP)):Option TI->qQ->qQ->Option r6
 |some ti,(.val .ref (some (i,off)),_),(.own k n,_)=>OW H i off k n ti (qS H i)
 |some ti,(.val .ref (some (i,off)),_),(.apd d,_)=>et i off d ti.ty (qS H i)
 |some ti,(.elt k n c i o,_),(.val t y,_)=>if t=ti.ty then W6 t y k n c i o (qS H k) else none
 |some ti,(.val .ref (some (i,off)),_),(.val t y,k)=>if t=ti.ty then eo (base+16) (I2 base i off (qS H i) ti.ls t y k) (M8 t) else none
 |_,_,_=>none
@[go_sem] def ff:qQ->Option r6
 |(.val .ref (some p),_)=>some ⟨[],(.val .ref (some p),none),[],[]⟩
 |(.at t x,_)=>some ⟨[],(.at t x,none),[],[]⟩
 |(.elt k n c i o,_)=>some ⟨[],(.elt k n c i o,none),[],[]⟩
 |_=>none
@[go_sem] def Ko (f:FuncId):Option pY->Option r6
 |some l=>some ⟨[],(.val .clo (some (f,l)),none),[],[]⟩
 |none=>none
@[go_sem] def a4a (f:FuncId) (l:Option pY):List Operand->Option r6
 |[]=>Ko f l
 |_=>none
@[go_sem] def W8 (side:List Prop):Option (Σ t:Ty,t.den)->Option r6
 |some ⟨t,x⟩=>if 0<t.cells then some ⟨side,(.at t x,none),[],[]⟩ else none
 |none=>none
@[go_sem] def W9 (side:List Prop) (i off:Nat):qB->Option Ty->Option r6
 |some o,some u=>if 0<u.cells then some ⟨side,(.val .ref (some (i,off+o)),none),[],[]⟩ else none
 |_,_=>none
@[go_sem] def Kp (k n c:Nat) (i:Int) (o:Nat):qB->Option Ty->Option r6
 |some q,some u=>if 0<u.cells then some ⟨[],(.elt k n c i (o+q),none),[],[]⟩ else none
 |_,_=>none
@[go_sem] def fh (f:Nat):Option TI->qQ->Option r6
 |some ⟨t,_,_,false,_⟩,(.elt k n c i o,_)=>Kp k n c i o (t.offs f) (t.fld f)
 |some ⟨t,_,_,false,_⟩,(.at u y,_)=>if u=t then W8 [] (u.proj y f) else none
 |some ⟨t,_,_,false,_⟩,(.val .ref (some (i,off)),_)=>W9 [] i off (t.offs f) (t.fld f)
 |_,_=>none
@[go_sem] def a4b:Option (Σ t:Ty,t.den)->Option r6
 |some ⟨t,x⟩=>some ⟨[],(.val t x,none),[],[]⟩
 |none=>none
@[go_sem] def fi (f:Nat):Option TI->qQ->Option r6
 |some ⟨t,_,_,false,_⟩,(.val u y,_)=>if u=t then a4b (u.proj y f) else none
 |_,_=>none
@[go_sem] def fj:Option TI->qQ->qQ->Option r6
 |some ⟨.list t',_,_,_,_⟩,(.own k n,_),(.val (.int _) i,_)=>if 0<t'.cells then some ⟨[0<=i/\i<(n:Int)],(.elt k n t'.cells i 0,none),[],[]⟩ else none
 |some ⟨.list t',_,_,_,_⟩,(.val (.list t) l,_),(.val (.int _) i,_)=>if t=t' then some ⟨[0<=i/\i<(List.length l:Int)],(.at t (qV t l i),none),[],[]⟩ else none
 |some ⟨.pair a b,_,_,true,_⟩,(.val .ref (some (i,off)),_),(.val (.int _) n,_)=>W9 [(0:Int)<=n] i off ((Ty.pair a b).offs (Int.toNat n)) ((Ty.pair a b).fld (Int.toNat n))
 |some ⟨.pair a b,_,_,true,_⟩,(.at u x,_),(.val (.int _) n,_)=>if u= .pair a b then W8 [(0:Int)<=n] (u.proj x (Int.toNat n)) else none
 |_,_,_=>none
@[go_sem] def fk:Option TI->qQ->qQ->Option r6
 |some ⟨.str,_,_,_,_⟩,(.val .str l,_),(.val (.int _) i,_)=>some ⟨[0<=i/\i<(List.length l:Int)],(.val (.int .u8) (sK l i),none),[],[]⟩
 |_,_,_=>none
@[go_sem] def a4c (e:Nat) (u:Ty):q9->qQ
 |some (k,n)=>(.own k n,none)
 |none=>(.val (.rl e u) none,none)
@[go_sem] def a4d:(t:Ty)->t.den->qB->qQ
 | .rl e u,x,_=>a4c e u x
 | .bool,x,k=>(.val .bool x,k)
 | .int i,x,k=>(.val (.int i) x,k)
 | .str,x,k=>(.val .str x,k)
 | .list u,x,k=>(.val (.list u) x,k)
 | .unit,x,k=>(.val .unit x,k)
 | .pair a b,x,k=>(.val (.pair a b) x,k)
 | .ref,x,k=>(.val .ref x,k)
 | .clo,x,k=>(.val .clo x,k)
 | .mp,x,k=>(.val .mp x,k)
 | .mref,x,k=>(.val .mref x,k)
 | .ap,x,k=>(.val .ap x,k)
 | .fn,x,k=>(.val .fn x,k)
@[go_sem] def WA:List ((Σ t:Ty,t.den)×qB)->Nat->Option r6
 |[],_=>none
 |(⟨t,x⟩,k)::_,0=>some ⟨[],a4d t x k,[],[]⟩
 |_::r,n+1=>WA r n
@[go_sem] def Kq (b:Bool) (p c:Int):Nat->Option r6
 |0=>some ⟨[],(.val .bool b,none),[],[]⟩
 |1=>some ⟨[b=true],(.val (.int .i64) p,none),[],[]⟩
 |2=>some ⟨[b=true],(.val (.int .i32) c,none),[],[]⟩
 |_=>none
@[go_sem] def fm (i:Nat):qQ->Option r6
 |(.tup l,_)=>WA l i
 |(.nxt b p c,_)=>Kq b p c i
 |_=>none
@[go_sem] def WB (i:Nat):Option qP->Option r6
 |some (.map _ _ l)=>some ⟨[],(.val (.int .i64) (List.length l:Int),none),[],[i]⟩
 |_=>none
@[go_sem] def fp (H:List (Nat×qP)):Option TI->List qQ->Option r6
 |some ⟨.mp,_,_,_,_⟩,[(.val .mp (some i),_)]=>WB i (qS H i)
 |some ⟨.str,_,_,_,_⟩,[(.val .str l,_)]=>some ⟨[],(.val (.int .i64) (List.length l:Int),none),[],[]⟩
 |some ⟨.list _,_,_,_,_⟩,[(.val (.list _) l,_)]=>some ⟨[],(.val (.int .i64) (List.length l:Int),none),[],[]⟩
 |some ⟨.list _,_,_,_,_⟩,[(.own _ n,_)]=>some ⟨[],(.val (.int .i64) (n:Int),none),[],[]⟩
 |_,_=>none
@[go_sem] def WC (a:Ty) (l r:List a.den) (k e' by':Nat):Option qP->Option r6
 |some (.grow e c n)=>if e=e'/\c=a.cells/\0<c/\0<by' then some ⟨[List.length l=n,(List.length l+List.length r)*by'<=140737488355328],(.val (.list a) (l++r),some k),[(k,.grow e c (List.length (l++r)))],[k]⟩ else none
 |_=>none
@[go_sem] def WD (b:Ty) (r:List b.den) (k n e' by':Nat):Option qP->Option r6
 |some (.row e t l m)=>if h:b=t then(if e=e'/\0<t.cells/\0<by' then some ⟨[n=m,(n+List.length r)*by'<=140737488355328],(.own k (List.length (l++uM (t:= .list b) (u:= .list t) (by rw[h]) r)),none),[(k,.row e t (l++uM (t:= .list b) (u:= .list t) (by rw[h]) r) (List.length (l++uM (t:= .list b) (u:= .list t) (by rw[h]) r)))],[k]⟩ else none) else none
 |_=>none
@[go_sem] def WE (H:List (Nat×qP)):Option TI->List qQ->Option r6
 |some ⟨.list u,e,by',_,_⟩,[(.own k n,_),(.val (.list b) r,_)]=>if b=u then WD b r k n e by' (qS H k) else none
 |some ⟨.list u,e,by',_,_⟩,[(.val (.list a) l,some k),(.val (.list b) r,_)]=>if h:b=a/\a=u then WC a l (uM (t:= .list b) (u:= .list a) (by rw[h.1]) r) k e by' (qS H k) else none
 |_,_=>none
@[go_sem] def WF (mx:Bool):List qQ->Option (List Prop×DV)
 |[(.val (.int k) a,_),(.val (.int k') b,_)]=>if k=k' then some ([],.val (.int k) (if mx then max (a:Int) b else min (a:Int) b)) else none
 |_=>none
@[go_sem] def fq:pY->List qQ
 |[]=>[]
 |c::r=>(.val .ref (some c),none)::fq r
@[go_sem] def WG (H:List (Nat×qP)) (base:Nat) (args:List qQ) (g:rM):Option ((t:Ty)->List t.den->Option (List t.den))->Option r6
 |some F=>VK H F args
 |none=>Jz H base args g (RD g.ps args)
@[go_sem] def M9 (H:List (Nat×qP)) (base:Nat) (args:List qQ):Option rM->Option r6
 |some g=>WG H base args g g.row
 |none=>none
@[go_sem] def JT (Γ:tP) (f:Nat):Option rM:=if f<1000000000 then Γ f else none
@[go_sem] def MA (Γ:tP) (H:List (Nat×qP)) (base:Nat) (args:List qQ):qQ->Option r6
 |(.val .clo (some (f,caps)),_)=>M9 H base (args++fq caps) (JT Γ f)
 |(.val .fn (some f),_)=>M9 H base args (JT Γ f)
 |_=>none
@[go_sem] def CM (T:sZ) (ρ:Operand->qQ):List Operand->List TypeId->List qQ
 |x::xs,t::ts=>OM (s5 T t) (ρ x)::CM T ρ xs ts
 |_,_=>[]
@[go_sem] def w6 (ρ:Operand->qQ):List Operand->List qQ
 |[]=>[]
 |x::xs=>ρ x::w6 ρ xs
@[go_sem] def uW (ρ:Operand->qQ):List (Nat×Operand)->List (Nat×qQ)
 |[]=>[]
 |(i,x)::xs=>(i,ρ x)::uW ρ xs
@[go_sem] def AG (ρ:Operand->qQ):Option Operand->Option qQ
 |some x=>some (ρ x)
 |none=>none
@[go_sem] def WH (T:sZ) (H:List (Nat×qP)) (ss:List qQ):List TypeId->Option r6
 |t::_=>fp H (s5 T t) ss
 |[]=>none
@[go_sem] def WI (l:pZ) (s:pP) (k e':Nat):Option qP->Option r6
 |some (.grow e c n)=>if e=e'/\c=1 then some ⟨[List.length l=n,List.length l+List.length s<=140737488355328],(.val (.list (.int .u8)) (l++uY s),some k),[(k,.grow e c (List.length (l++uY s)))],[k]⟩ else none
 |_=>none
@[go_sem] def ft (H:List (Nat×qP)):Option TI->Option TI->List qQ->Option r6
 |some ⟨.list (.int .u8),e,1,_,_⟩,some ⟨.str,_,_,_,_⟩,[(.val (.list (.int .u8)) l,some k),(.val .str s,_)]=>WI l s k e (qS H k)
 |_,_,_=>none
@[go_sem] def WJ (T:sZ) (H:List (Nat×qP)) (ss:List qQ):List TypeId->Option r6
 |[t,u]=>if t=u then WE H (s5 T t) ss else ft H (s5 T t) (s5 T u) ss
 |_=>none
@[go_sem] def MB:List Operand->List TypeId->Bool
 |[],[]=>true
 |_::xs,_::ts=>MB xs ts
 |_,_=>false
@[go_sem] def fu:List qQ->Option TI->Option r6
 |[(.val .ref (some p),_)],some ⟨.ap,_,_,_,_⟩=>some ⟨[],(.apd (.val .ref (some p)),none),[],[]⟩
 |[(.elt k n c ix o,_)],some ⟨.ap,_,_,_,_⟩=>some ⟨[],(.apd (.elt k n c ix o),none),[],[]⟩
 |_,_=>none
@[go_sem] def Kr (args:List qQ) (ti:Option TI):pY->Option r6
 |[]=>fu args ti
 |_=>none
@[go_sem] def MC (c:Nat) (y1 y2 y3 y4:pP):pP:=if c=1 then y1 else if c=2 then y2 else if c=3 then y3 else y4
@[go_sem] def MD (b:Bool) (z y:pP):pP:=if b=true then z else y
abbrev I3:Ty:= .pair .str (.pair .str .unit)
def GE (l:pQ):pP:=l.getD (l.length-1) []
def JU (l:List (pP×pP×Unit)):pP:=(l.getD (l.length-1) ([],[],())).2.1
def GF (b:Bool) (z:pP) (l:pQ):pQ:=if b=true then l.set (l.length-1) z else l
def GG (b:Bool) (z:pP) (l:List (pP×pP×Unit)):List (pP×pP×Unit):=if b=true then l.set (l.length-1) ((l.getD (l.length-1) ([],[],())).1,z,()) else l
@[go_sem] def fv (c i k3 n3 k4 n4:Nat) (u:Ty) (ts:pY) (e3:Nat) (l3:pQ) (m3 e4:Nat) (l4:List (pP×pP×Unit)) (m4:Nat) (z:pP) (b:Bool) (sd:List Prop):Option u.den->Option r6
 |some x=>some ⟨(c≠0)::(n3=m3)::(n4=m4)::((z.length:Int)<=9223372036854775807)::sd,(.val .bool b,none),[(i,.cells u x (tT (tT ts 6 1) 7 1)),(k3,.row e3 .str (GF (b&&decide (c=3)) z l3) m3),(k4,.row e4 I3 (GG (b&&decide (4<=c)) z l4) m4)],[i,k3,k4]⟩
 |none=>none
@[go_sem] def Ks {u:Ty}(b:Bool) (z:pP) (o:Nat) (x:u.den):Option pP->Option u.den
 |some y=>sT .str (MD b z y) u x o
 |none=>none
@[go_sem] def OX {u:Ty}(b:Bool) (z:pP) (o:Nat):Option u.den->Option u.den
 |some x=>Ks b z o x (rH .str u x o)
 |none=>none
@[go_sem] def fw (c i k3 n3 k4 n4:Nat) (u:Ty) (x:u.den) (ts:pY) (e3:Nat) (l3:pQ) (m3 e4:Nat) (l4:List (pP×pP×Unit)) (m4:Nat) (z:pP):Option r5->Option r6
 |some ⟨sd,[(.val .bool b,none)],[]⟩=>fv c i k3 n3 k4 n4 u ts e3 l3 m3 e4 l4 m4 z b sd (OX (b&&decide (c=2)) z 7 (OX (b&&decide (c=1)) z 6 (some x)))
 |_=>none
@[go_sem] def fy (Γ:tP) (c i k3 n3 k4 n4:Nat) (s:pP) (u:Ty) (x:u.den) (ts:pY) (e3:Nat) (l3:pQ) (m3 e4:Nat) (l4:List (pP×pP×Unit)) (m4:Nat):Option rM->Option pP->Option pP->Option r6
 |some g,some y1,some y2=>fw c i k3 n3 k4 n4 u x ts e3 l3 m3 e4 l4 m4 (MC c y1 y2 (GE l3) (JU l4)++s) (g.C [(.val .str (MC c y1 y2 (GE l3) (JU l4)++s),none)] [])
 |_,_,_=>none
@[go_sem] def fz (Γ:tP) (c i k3 n3 k4 n4:Nat) (s:pP) (u:Ty) (x:u.den) (ts:pY):Option qP->Option qP->Option r6
 |some (.row e3 .str l3 m3),some (.row e4 (.pair .str (.pair .str .unit)) l4 m4)=>fy Γ c i k3 n3 k4 n4 s u x ts e3 l3 m3 e4 l4 m4 (JT Γ HV) (rH .str u x 6) (rH .str u x 7)
 |_,_=>none
@[go_sem] def ga (i k3 k4:Nat):Bool:=if i=k3 then false else if i=k4 then false else if k3=k4 then false else true
@[go_sem] def WK (Γ:tP) (H:List (Nat×qP)) (c i k3 n3 k4 n4:Nat) (s:pP):Option qP->Bool->Option r6
 |some (.cells u x ts),true=>fz Γ c i k3 n3 k4 n4 s u x ts (qS H k3) (qS H k4)
 |_,_=>none
@[go_sem] def ME (Γ:tP) (H:List (Nat×qP)):Nat×Nat×(Nat×Nat)×(Nat×Nat)->List qQ->Option TI->Option r6
 |(c,i,(k3,n3),(k4,n4)),[(.val .str s,_)],some ⟨.ap,_,_,_,_⟩=>WK Γ H c i k3 n3 k4 n4 s (qS H i) (ga i k3 k4)
 |_,_,_=>none
@[go_sem] def gc (T:sZ) (Γ:tP) (base:Nat) (H:List (Nat×qP)) (args:List qQ) (f:Nat) (caps:pY):Option r6:=
 if f=JM then Kr args (s5 T LV) caps else MA Γ H base args (.val .clo (some (f,caps)),none)
@[go_sem] def OY (T:sZ) (Γ:tP) (base:Nat) (H:List (Nat×qP)) (args:List qQ):qQ->Option r6
 |(.val .ap x,_)=>ME Γ H x args (s5 T LV)
 |(.val .clo (some (f,caps)),_)=>gc T Γ base H args f caps
 |s=>MA Γ H base args s
@[go_sem] def gd (T:sZ) (Γ:tP) (ρ:Operand->qQ) (base:Nat) (H:List (Nat×qP)) (args:List Operand) (tys:List TypeId) (f:qQ):Bool->Option r6
 |true=>OY T Γ base H (CM T ρ args tys) f
 |false=>none
@[go_sem] def MF (T:sZ) (Γ:tP) (ρ:Operand->qQ) (base:Nat) (H:List (Nat×qP)) (args:Array Operand) (tys:Array TypeId):Callee->Option r6
 | .builtin .len=>WH T H (w6 ρ args.toList) tys.toList
 | .builtin .append=>WJ T H (w6 ρ args.toList) tys.toList
 | .builtin .max=>BH (WF true (w6 ρ args.toList))
 | .builtin .min=>BH (WF false (w6 ρ args.toList))
 | .value f=>gd T Γ ρ base H args.toList tys.toList (ρ f) (MB args.toList tys.toList)
 |_=>none
@[go_sem] def F1:Ty->Bool
 | .int _| .str| .bool=>true
 |_=>false
def I4:(k:Ty)->k.den->k.den->Bool
 | .int _,a,b=>decide ((a:Int)=b)
 | .str,a,b=>decide ((a:pP)=b)
 | .bool,a,b=>a==b
 |_,_,_=>false
def sW (k v:Ty):List (k.den×v.den)->k.den->v.den
 |[],_=>v.zero
 |(x,y)::r,a=>if I4 k a x=true then y else sW k v r a
def GH (k v:Ty):List (k.den×v.den)->k.den->Bool
 |[],_=>false
 |(x,_)::r,a=>if I4 k a x=true then true else GH k v r a
def tA (k v:Ty) (a:k.den) (b:v.den):List (k.den×v.den)->List (k.den×v.den)
 |[]=>[(a,b)]
 |(x,y)::r=>if I4 k a x=true then(a,b)::r else(x,y)::tA k v a b r
@[go_sem] def Kt (base:Nat):Option TI->Option TI->Option r6
 |some k,some v=>if F1 k.ty=true then some ⟨[],(.val .mp (some base),none),[(base,.map k.ty v.ty [])],[]⟩ else none
 |_,_=>none
@[go_sem] def ge (T:sZ) (base:Nat):Option TI->Option Operand->Option r6
 |some ⟨.mp,e,f,_,_⟩,none=>Kt base (s5 T e) (s5 T f)
 |_,_=>none
@[go_sem] def WL (k:Ty) (a:k.den) (u:Ty) (i:Nat) (ok:Bool):Option qP->Option r6
 |some (.map k' v l)=>if h:k=k'/\v=u then(if F1 k=true then(match ok with
   |true=>some ⟨[],(.tup [(⟨v,sW k' v l (uM h.1 a)⟩,none),(⟨.bool,GH k' v l (uM h.1 a)⟩,none)],none),[],[i]⟩
   |false=>some ⟨[],(.val v (sW k' v l (uM h.1 a)),none),[],[i]⟩) else none) else none
 |_=>none
@[go_sem] def gg (H:List (Nat×qP)) (ok:Bool) (i:Nat):Option TI->Option TI->qQ->Option r6
 |some kt,some vt,(.val k a,_)=>if k=kt.ty then WL k a vt.ty i ok (qS H i) else none
 |_,_,_=>none
@[go_sem] def Ku (ok:Bool):Option TI->Option TI->qQ->Option r6
 |some kt,some vt,(.val k _,_)=>if k=kt.ty then(if F1 k=true then(match ok with
   |true=>some ⟨[],(.tup [(⟨vt.ty,vt.ty.zero⟩,none),(⟨.bool,false⟩,none)],none),[],[]⟩
   |false=>some ⟨[],(.val vt.ty vt.ty.zero,none),[],[]⟩) else none) else none
 |_,_,_=>none
@[go_sem] def WM (T:sZ) (H:List (Nat×qP)) (ok:Bool):Option TI->qQ->qQ->Option r6
 |some ⟨.mp,e,f,_,_⟩,(.val .mp (some i),_),s=>gg H ok i (s5 T e) (s5 T f) s
 |some ⟨.mp,e,f,_,_⟩,(.val .mp none,_),s=>Ku ok (s5 T e) (s5 T f) s
 |_,_,_=>none
@[go_sem] def OZ (k:Ty) (a:k.den) (u:Ty) (b:u.den) (i:Nat):Option qP->Option r6
 |some (.map k' v l)=>if h:k=k'/\u=v then(if F1 k=true then some ⟨[],(.any,none),[(i,.map k' v (tA k' v (uM h.1 a) (uM h.2 b) l))],[i]⟩ else none) else none
 |_=>none
@[go_sem] def WN (H:List (Nat×qP)) (i:Nat):Option TI->qQ->qQ->Option r6
 |some kt,(.val k a,_),(.val u b,_)=>if k=kt.ty then OZ k a u b i (qS H i) else none
 |_,_,_=>none
@[go_sem] def Kv:Option TI->qQ->qQ
 |some ⟨.fn,_,_,_,_⟩,(.val .clo (some (f,[])),_)=>(.val .fn (some f),none)
 |_,s=>s
@[go_sem] def WO (T:sZ):Option TI->qQ->qQ
 |some ⟨.mp,_,f,_,_⟩,s=>Kv (s5 T f) s
 |_,s=>s
@[go_sem] def P0 (T:sZ) (H:List (Nat×qP)):Option TI->qQ->qQ->qQ->Option r6
 |some ⟨.mp,e,_,_,_⟩,(.val .mp (some i),_),s,x=>WN H i (s5 T e) s x
 |_,_,_,_=>none
def xW (s:pP) (p:Nat):Int:=((Utf8.decode ⟨s.toArray⟩ p).1:Int)
def gh (s:pP) (p:Nat):Nat:=(Utf8.decode ⟨s.toArray⟩ p).2
def BM (s:pP) (p:Nat):Nat:=if p<s.length then p+gh s p else p
@[go_sem] def gi (base:Nat):Option TI->qQ->Option r6
 |some ⟨.str,_,_,_,_⟩,(.val .str s,_)=>some ⟨[],(.val .ref (some (base,0)),none),[(base,.iter s 0)],[]⟩
 |_,_=>none
@[go_sem] def gj (i:Nat):Option qP->Option r6
 |some (.iter s p)=>some ⟨[],(.nxt (decide (p<List.length s)) ((p:Nat):Int) (xW s p),none),[(i,.iter s (BM s p))],[i]⟩
 |_=>none
@[go_sem] def WP (H:List (Nat×qP)):Bool->qQ->Option r6
 |true,(.val .ref (some (i,0)),_)=>gj i (qS H i)
 |_,_=>none
@[go_sem] def uX (T:sZ) (Γ:tP) (ty:TypeId) (ρ:Operand->qQ) (base:Nat) (H:List (Nat×qP)):Op->Option r6
 | .move x| .assign x=>dk base (s5 T ty) (ρ x)
 | .alloc e=>RI base e (s5 T e)
 | .box e x=>dq base e (s5 T e) (ρ x)
 | .build t ps=>dv (uW ρ ps.toList) (s5 T t)
 | .buildSlice t n ps=>dw base n (uW ρ ps.toList) (s5 T t)
 | .load t a=>VV H (s5 T t) (ρ a)
 | .store t a x=>W7 base H (s5 T t) (ρ a) (OM (s5 T t) (ρ x))
 | .nilCheck x=>ff (ρ x)
 | .binOp op t x y _=>BH (cz (V4 op (s5 T t) (ρ x) (ρ y)) (cz (V3 op (ρ x) (ρ y)) (cu (s5 T t) op (ρ x) (ρ y))))
 | .unOp op _ x=>BH (da op (ρ x))
 | .convert src dst x=>BH (cz (V6 (s5 T src) (s5 T dst) (ρ x)) (db T (s5 T src) (s5 T dst) (ρ x)))
 | .makeFunc (.func f) first caps=>a4a f (LX (w6 ρ caps.toList)) first.toList
 | .slice t x lo hi none=>BH (dc (s5 T t) (ρ x) (AG ρ lo) (AG ρ hi))
 | .fieldAddr t x f=>fh f (s5 T t) (ρ x)
 | .field t x f=>fi f (s5 T t) (ρ x)
 | .indexAddr t x ix=>fj (s5 T t) (ρ x) (ρ ix)
 | .index t x ix=>fk (s5 T t) (ρ x) (ρ ix)
 | .extract x i=>fm i (ρ x)
 | .makeMap t r=>ge T base (s5 T t) r
 | .range t x=>gi base (s5 T t) (ρ x)
 | .next x b=>WP H b (ρ x)
 | .lookup t x i ok=>WM T H ok (s5 T t) (ρ x) (ρ i)
 | .mapUpdate t m k x=>P0 T H (s5 T t) (ρ m) (ρ k) (WO T (s5 T t) (ρ x))
 | .insert t m k x=>P0 T H (s5 T t) (ρ m) (ρ k) (WO T (s5 T t) (ρ x))
 | .call c=>MF T Γ ρ base H c.args c.argTypes c.callee
 |_=>none
@[go_sem] def tV:qQ->qQ
 |(.cond _ d,_)=>(d,none)
 |s=>s
@[go_sem] def zV (G:Bool):List qQ->List Prop
 |[]=>[]
 |(.cond p _,_)::r=>(G=true->p=true)::zV G r
 |_::r=>zV G r
@[go_sem] def Kw (b:Bool):qQ->Option Bool
 |(.val .bool c,_)=>some (c==b)
 |(.cond p (.val .bool c),_)=>some (p&&(c==b))
 |_=>none
@[go_sem] def AU:List Oper->Nat->Option Tmp
 |[],_=>none
 |o::_,0=>o.dst
 |_::r,n+1=>AU r n
@[go_sem] def I5 (env:List (Nat×qQ)) (b:Bool):Option Tmp->Option Bool
 |some t=>Kw b (lk env t)
 |none=>none
@[go_sem] def Kx (b:Bool):qQ->Bool
 |(.val .bool c,_)=>c==b
 |(.cond p (.val .bool c),_)=>p&&(c==b)
 |(.cond p .any,_)=>p
 |_=>true
@[go_sem] def MG (env:List (Nat×qQ)) (b:Bool):Option Tmp->Bool
 |some t=>Kx b (lk env t)
 |none=>true
@[go_sem] def WQ (j:Nat) (b:Bool):Nat:=1000000000+(2*j+if b=true then 1 else 0)
@[go_sem] theorem aDR (x y:Bool):cond x y false=(x&&y):=by cases x<;>rfl
@[go_sem] theorem aDS (x y:Bool):cond x true y=(x||y):=by cases x<;>rfl
@[go_sem] def Ky (x:Bool):qQ->qQ->Option r6
 |(.val .bool y,_),(.val .bool z,_)=>some ⟨[],(.val .bool (cond x y z),none),[],[]⟩
 |(.cond p (.val .bool y),_),(.val .bool z,_)=>some ⟨[x=true->p=true],(.val .bool (cond x y z),none),[],[]⟩
 |(.val .bool y,_),(.cond p (.val .bool z),_)=>some ⟨[x=false->p=true],(.val .bool (cond x y z),none),[],[]⟩
 |(.cond q (.val .bool y),_),(.cond p (.val .bool z),_)=>some ⟨[x=true->q=true,x=false->p=true],(.val .bool (cond x y z),none),[],[]⟩
 |(.val .bool y,_),(.cond _ .any,_)=>some ⟨[x=true],(.val .bool y,none),[],[]⟩
 |(.cond q (.val .bool y),_),(.cond _ .any,_)=>some ⟨[x=true,q=true],(.val .bool y,none),[],[]⟩
 |(.cond _ .any,_),(.val .bool z,_)=>some ⟨[x=false],(.val .bool z,none),[],[]⟩
 |(.cond _ .any,_),(.cond p (.val .bool z),_)=>some ⟨[x=false,p=true],(.val .bool z,none),[],[]⟩
 |_,_=>none
@[go_sem] def RO:qQ->qQ->qQ->Option r6
 |(.val .bool x,_),a,b=>Ky x a b
 |_,_,_=>none
@[go_sem] def sY:Op->List Operand
 | .move x| .assign x| .box _ x| .load _ x| .nilCheck x| .unOp _ _ x| .convert _ _ x| .fieldAddr _ x _| .field _ x _| .extract x _=>[x]
 | .build _ ps| .buildSlice _ _ ps=>parts ps.toList
 | .store _ a v| .binOp _ _ a v _| .indexAddr _ a v| .index _ a v=>[a,v]
 | .lookup _ a v _=>[a,v]
 | .range _ x| .next x _=>[x]
 | .mapUpdate _ m k x=>[m,k,x]
 | .insert _ m k x=>[m,k,x]
 | .makeFunc _ _ caps=>caps.toList
 | .slice _ x l h _=>x::rD (opt l) (opt h)
 | .call ⟨.value f,args,_⟩=>f::args.toList
 | .call ⟨_,args,_⟩=>args.toList
 |_=>[]
where
 parts:List (Nat×Operand)->List Operand
  |[]=>[]
  |(_,x)::r=>x::parts r
 opt:Option Operand->List Operand
  |some x=>[x]
  |none=>[]
attribute [go_sem] sY.parts sY.opt
@[go_sem] def P1 (l:List Prop):Option r6->Option r6
 |some e=>some ⟨rD l e.side,e.slot,e.upd,e.rds⟩
 |none=>none
@[go_sem] def RP (G:Bool):List Prop->List Prop
 |[]=>[]
 |p::r=>(G=true->p)::RP G r
@[go_sem] def JV (G:Bool) (l:List Prop):Option r6->Option r6
 |some ⟨side,(d,_),[],rds⟩=>some ⟨rD l (RP G side),(.cond G d,none),[],rds⟩
 |some ⟨side,s,u::us,rds⟩=>some ⟨(G=true)::rD l (RP G side),s,u::us,rds⟩
 |none=>none
@[go_sem] def D7 (env:List (Nat×qQ)):List Operand->List qQ
 |[]=>[]
 |x::r=>uC env x::D7 env r
@[go_sem] def P2 (T:sZ) (Γ:tP) (o:Oper) (s:St):Option Bool->Op->Option r6
 |some G,.pick c a b=>JV G (zV G [uC s.env c]) (RO (tV (uC s.env c)) (uC s.env a) (uC s.env b))
 |some G,op=>JV G (zV G (D7 s.env (sY op))) (uX T Γ o.type (fun x=>tV (uC s.env x)) s.nb s.H op)
 |none,_=>none
@[go_sem] def Kz:Op->Bool
 | .defer _=>true
 |_=>false
@[go_sem] def La (up:Bool):Bool->Option r6
 |true=>none
 |false=>some ⟨[up=false],(.cond false .any,none),[],[]⟩
@[go_sem] def RQ (T:sZ) (Γ:tP) (o:Oper) (s:St) (up:Bool) (g:Option Bool) (op:Op):Option rM->Option r6
 |some _=>La up (Kz op)
 |none=>P2 T Γ o s g op
@[go_sem] def P3 (T:sZ) (Γ:tP) (o:Oper) (s:St):Op->Option r6
 | .pick c a b=>RO (uC s.env c) (uC s.env a) (uC s.env b)
 |op=>P1 (zV true (D7 s.env (sY op))) (uX T Γ o.type (fun x=>tV (uC s.env x)) s.nb s.H op)
@[go_sem] def JW (np:Nat):List (Nat×qP)->Bool
 |[]=>true
 |(i,.cells _ _ _)::r=>if np<=i then JW np r else false
 |_::r=>JW np r
@[go_sem] def Lb (np:Nat) (e:r6):Bool->Option r6
 |true=>if JW np e.upd=true then some e else none
 |false=>some e
@[go_sem] def gl (np:Nat):Option r6->Option r6
 |some e=>Lb np e (JO e.rds)
 |none=>none
@[go_sem] def P4 (T:sZ) (Γ:tP) (ops:List Oper) (o:Oper) (s:St):Option r6:=
 match o.guard with
 |none=>P3 T Γ o s o.op
 |some (j,b)=>RQ T Γ o s (MG s.env b (AU ops j)) (I5 s.env b (AU ops j)) o.op (Γ (WQ j b))
@[go_sem] def AH (T:sZ) (Γ:tP) (ops:List Oper) (o:Oper) (s:St):Option r6:=gl s.np (P4 T Γ ops o s)
@[go_sem] def uN:Option Tmp->qQ->List (Nat×qQ)->List (Nat×qQ)
 |some d,s,env=>(d,s)::env
 |none,_,env=>env
structure wF where
 s:St
 side:List Prop
 es:List r6
@[go_sem] def JX (N:Nat):Option Tmp->Bool
 |some d=>decide (d<N)
 |none=>true
@[go_sem] def JY (n:Nat):List (Nat×qP)->Bool
 |[]=>true
 |(i,_)::r=>decide (i<n)&&JY n r
@[go_sem] def D8 (i:Nat):qC->Bool
 |[]=>false
 |j::r=>if j=i then AT i r else D8 i r
@[go_sem] def MH (H U:List (Nat×qP)) (rds:qC):List (Nat×qP)->List Prop
 |[]=>[]
 |(i,_)::r=>if D8 i rds=true then(qS U i=qS H i)::MH H U rds r else MH H U rds r
@[go_sem] def JZ (rds:qC):List (Nat×qP)->List (Nat×qP)
 |[]=>[]
 |(i,b)::r=>if D8 i rds=true then JZ rds r else(i,b)::JZ rds r
@[go_sem] def yP (e:r6):List (Nat×qP):=JZ e.rds e.upd
@[go_sem] def WR (o:Oper) (a:wF):Option r6->Option wF
 |some e=>if (JX a.s.N o.dst&&JY (a.s.nb+32) e.upd)=true then some ⟨⟨uN o.dst e.slot a.s.env,rD e.upd a.s.H,a.s.nb+32,a.s.N,a.s.np⟩,rD a.side (rD (MH a.s.H e.upd e.rds e.upd) e.side),e::a.es⟩ else none
 |none=>none
@[go_sem] def vD (T:sZ) (Γ:tP) (ops:List Oper):List Oper->Option wF->Option wF
 |[],a=>a
 |o::r,some a=>vD T Γ ops r (WR o a (AH T Γ ops o a.s))
 |_::_,none=>none
@[go_sem] def RR:List (Nat×qP)->qC->Bool
 |[],_=>false
 |(i,_)::r,l=>l.contains i||RR r l
@[go_sem] def I6 (a b:r6):Bool:= !RR (yP a) (rD b.rds (qU b.upd))&& !RR (yP b) a.rds
def MI (lo:Nat):List (Nat×qP)->Bool
 |[]=>true
 |(i,_)::r=>(decide (i<lo)||decide (lo+32<=i))&&MI lo r
def WS (i0 j0:Nat) (ops:Array Oper) (bs:qC) (nb i:Nat) (o:Oper) (e:r6):List Oper->List r6->Nat->Bool
 |p::ps,f::fs,j=>((bs.getD j 0).testBit i||(o.apart ops p&&(I6 e f||(decide (i=i0)&&decide (j=j0)))&&MI (nb+32*i) f.upd))&&WS i0 j0 ops bs nb i o e ps fs (j+1)
 |_,_,_=>true
def WT (i0 j0:Nat) (ops:Array Oper) (bs:qC) (nb:Nat):List Oper->List r6->Nat->Bool
 |o::os,e::es,i=>WS i0 j0 ops bs nb i o e os es (i+1)&&WT i0 j0 ops bs nb os es (i+1)
 |_,_,_=>true
def WU:List Oper->Nat->Bool
 |[],_=>true
 |o::r,i=>o.after.toList.all (fun e=> !Region.binds .any e||decide (e.on<i))&&WU r (i+1)
def WV (i0 j0:Nat) (ops:Array Oper) (nb:Nat) (es:List r6):Bool:=WU ops.toList 0&&WT i0 j0 ops (Region.before ops).toList nb ops.toList es 0
def MJ (ops:Array Oper) (nb:Nat) (es:List r6):Bool:=WV ops.size 0 ops nb es
@[go_sem] def Lc (ops:Array Oper) (nb:Nat):Option wF->Option wF
 |some a=>if MJ ops nb a.es.reverse then some a else none
 |none=>none
@[go_sem] def RS (T:sZ) (Γ:tP) (ops:Array Oper) (s:St):Bool->Option wF
 |true=>Lc ops s.nb (vD T Γ ops.toList ops.toList (some ⟨s,[],[]⟩))
 |false=>vD T Γ ops.toList ops.toList (some ⟨s,[],[]⟩)
inductive Ex where
 |normal|exit (id:Nat) |ret
structure wL where
 slots:qC
 ids:pY:=[]
@[go_sem] def wM:pY->Nat->qB
 |[],_=>none
 |(n,o)::r,k=>if o=k then some n else wM r k
@[go_sem] def Ld (m:pY):q9->q9
 |some (i,o)=>(wM m i).map fun j=>(j,o)
 |none=>none
@[go_sem] def D9 (m:pY):pY->Option pY
 |[]=>some []
 |(i,o)::r=>renCons (wM m i) o (D9 m r)
where
 renCons:qB->Nat->Option pY->Option pY
  |some j,o,some r=>some ((j,o)::r)
  |_,_,_=>none
attribute [go_sem] D9.renCons
@[go_sem] def Lf (m:pY):qB->qB
 |some k=>wM m k
 |none=>none
@[go_sem] def a4e (n:Nat):qB->qQ
 |some k=>(.own k n,none)
 |none=>(.any,none)
@[go_sem] def Lg (m:pY):Option (Nat×pY)->Option (Option (Nat×pY))
 |none=>some none
 |some (f,l)=>(D9 m l).map fun l'=>some (f,l')
@[go_sem] def WW (m:pY):q9->Option q9
 |none=>some none
 |some (i,o)=>(wM m i).map fun j=>some (j,o)
@[go_sem] def Lh (m:pY):qB->Option qB
 |none=>some none
 |some i=>(wM m i).map some
@[go_sem] def Li (m:pY):q9->Option q9
 |none=>some none
 |some (k,n)=>(wM m k).map fun j=>some (j,n)
@[go_sem] def gm (c n3 n4:Nat):qB->qB->qB->Option (Nat×Nat×(Nat×Nat)×(Nat×Nat))
 |some i,some k3,some k4=>some (c,i,(k3,n3),(k4,n4))
 |_,_,_=>none
@[go_sem] def Lj (m:pY):Nat×Nat×(Nat×Nat)×(Nat×Nat)->Option (Nat×Nat×(Nat×Nat)×(Nat×Nat))
 |(c,i,(k3,n3),(k4,n4))=>gm c n3 n4 (wM m i) (wM m k3) (wM m k4)
@[go_sem] def zW (m:pY):(t:Ty)->t.den->Option t.den
 | .ref,x=>WW m x
 | .clo,x=>Lg m x
 | .mp,x=>Lh m x
 | .pair a b,x=>GA (if a.pure=true then some x.1 else zW m a x.1) (if b.pure=true then some x.2 else zW m b x.2)
 | .list t,x=>if t.pure=true then some x else none
 | .bool,x=>some x
 | .int _,x=>some x
 | .str,x=>some x
 | .unit,x=>some x
 | .rl _ _,x=>Li m x
 | .fn,x=>some x
 | .mref,x=>WW m x
 | .ap,x=>Lj m x
@[go_sem] def AV (m:pY):qQ->qQ
 |(.own k n,_)=>a4e n (wM m k)
 |(.val .ref none,_)=>(.val .ref none,none)
 |(.val .ref (some p),_)=>refSlot (Ld m (some p))
 |(.val .clo (some (f,l)),_)=>cloSlot f (D9 m l)
 |(.val .mp (some i),_)=>mpSlot (wM m i)
 |(.val t x,k)=>if t.pure then(.val t x,Lf m (G8 t k)) else valSlot t (zW m t x)
 |(.at t x,_)=>if t.pure then(.at t x,none) else(.any,none)
 |(.nilS,_)=>(.nilS,none)
 |_=>(.any,none)
where
 refSlot:q9->qQ
  |some p=>(.val .ref (some p),none)
  |none=>(.any,none)
 cloSlot (f:Nat):Option pY->qQ
  |some l=>(.val .clo (some (f,l)),none)
  |none=>(.any,none)
 valSlot (t:Ty):Option t.den->qQ
  |some y=>(.val t y,none)
  |none=>(.any,none)
 mpSlot:qB->qQ
  |some j=>(.val .mp (some j),none)
  |none=>(.any,none)
attribute [go_sem] AV.refSlot AV.cloSlot AV.mpSlot AV.valSlot
@[go_sem] def WX (q j:Nat):pY->pY
 |[]=>[(q,j)]
 |(a,b)::r=>if q<=a then(q,j)::(a,b)::r else(a,b)::WX q j r
@[go_sem] def MK (m:pY):pY->pY
 |[]=>[]
 |(q,k)::r=>renTok1 q (wM m k) (MK m r)
where
 renTok1 (q:Nat):qB->pY->pY
  |some j,r=>WX q j r
  |none,r=>r
attribute [go_sem] MK.renTok1
@[go_sem] def gn (t:Ty) (toks:pY):Option t.den->qP
 |some y=> .cells t y toks
 |none=> .dead
def zX (m:pY):Option qP->qP
 |some (.cells t x toks)=>if t.pure then .cells t x (MK m toks) else gn t (MK m toks) (zW m t x)
 |some (.grow e c n)=> .grow e c n
 |some (.row e t l n)=>if t.pure then .row e t l n else .dead
 |some (.map k v l)=>if k.pure&&v.pure then .map k v l else .dead
 |some (.iter s p)=> .iter s p
 |_=> .dead
attribute [go_sem] zX.eq_1 zX.eq_2 zX.eq_3 zX.eq_4 zX.eq_5 zX.eq_6
@[go_sem] def RT (m:pY) (env:List (Nat×qQ)):qC->List (Nat×qQ)
 |[]=>[]
 |t::r=>(t,AV m (lk env t))::RT m env r
@[go_sem] def WY (m:pY) (H:List (Nat×qP)):pY->List (Nat×qP)
 |[]=>[]
 |(n,o)::r=>(n,zX m (qS H o))::WY m H r
@[go_sem] def WZ:pY->Nat
 |[]=>0
 |(n,_)::r=>max (n+1) (WZ r)
@[go_sem] def P5 (n o:Nat):pY->Bool
 |[]=>false
 |(n',o')::r=>decide (n'=n)||decide (o'=o)||P5 n o r
@[go_sem] def xI (np:Nat):pY->Bool
 |[]=>true
 |(n,o)::r=>(decide (np<=n)||decide (n=o))&& !P5 n o r&&xI np r
@[go_sem] def RU (s:St) (k:wL):Bool->St
 |true=>⟨RT k.ids s.env k.slots,WY k.ids s.H k.ids,max s.np (WZ k.ids),s.N,s.np⟩
 |false=>⟨[],[],s.nb,s.N,s.np⟩
@[go_sem] def St.keep (s:St) (k:wL):St:=RU s k (xI s.np k.ids)
@[go_sem] def rN:List Prop->Prop
 |[]=>True
 |[p]=>p
 |p::q::r=>p/\rN (q::r)
@[go_sem] def Lk (Q:Ex->St->Prop):Option wF->Prop
 |some a=>rN a.side/\Q .normal a.s
 |none=>False
@[go_sem] def Ll (A B:Prop):qQ->Prop
 |(.val .bool x,_)=>(x=true->A)/\(x=false->B)
 |(.flag p q,_)=>(p->A)/\(q->B)
 |_=>False
@[go_sem] def RV (f:St->Prop) (Q:Ex->St->Prop):Ex->St->Prop
 | .normal,s=>f s
 | .exit j,s=>Q (.exit j) s
 | .ret,s=>Q .ret s
@[go_sem] def ML (id:Nat) (Q:Ex->St->Prop):Ex->St->Prop
 | .normal,s=>Q .normal s
 | .exit j,s=>if j=id then Q .normal s else Q (.exit j) s
 | .ret,s=>Q .ret s
@[go_sem] def a4f (I:St->Prop) (μ:St->Nat) (m:Nat) (Q:Ex->St->Prop):Ex->St->Prop
 | .normal,s=> ∃k:wL,I (s.keep k)/\μ (s.keep k)<m
 | .exit j,s=>Q (.exit j) s
 | .ret,s=>Q .ret s
def wV (T:sZ) (Γ:tP):Code->St->(Ex->St->Prop)->Prop
 | .skip,s,Q=>Q .normal s
 | .label _,s,Q=>Q .normal s
 | .region _ ops draw,s,Q=>Lk Q (RS T Γ ops s draw)
 | .seq a b,s,Q=>wV T Γ a s (RV (fun s'=>wV T Γ b s' Q) Q)
 | .cond c a b,s,Q=>Ll (wV T Γ a s Q) (wV T Γ b s Q) (uC s.env c)
 | .block id c,s,Q=>wV T Γ c s (ML id Q)
 | .loop c,s,Q=> ∃(k:wL) (I:St->Prop) (μ:St->Nat),I (s.keep k)/\∀s,I s->wV T Γ c s (a4f I μ (μ s) Q)
 | .exit id,s,Q=>Q (.exit id) s
 | .ret,s,Q=>Q .ret s
 |_,_,_=>False
attribute [go_sem] Ty.list.injEq Ty.pair.injEq Ty.int.injEq
section
variable {T:sZ}{Γ:tP}{s:St}{Q:Ex->St->Prop}
theorem a4g {id:Nat}{ops:Array Oper}{a:wF}(h:vD T Γ ops.toList ops.toList (some ⟨s,[],[]⟩)=some a) (hp:rN a.side) (hq:Q .normal a.s):wV T Γ (.region id ops false) s Q:=by
 unfold wV RS;rw[h];exact⟨hp,hq⟩
theorem a4h {id:Nat}{ops:Array Oper}{a:wF}(h:vD T Γ ops.toList ops.toList (some ⟨s,[],[]⟩)=some a) (hf:MJ ops s.nb a.es.reverse=true) (hp:rN a.side) (hq:Q .normal a.s):wV T Γ (.region id ops true) s Q:=by
 unfold wV RS;rw[h];show Lk Q (if MJ ops s.nb a.es.reverse=true then some a else none);rw[aFP hf];exact⟨hp,hq⟩
end
end Go.Proofs.YtcpbaddnmpeipaaGreatDoor.Vc
namespace Go.Proofs.YtcpbaddnmpeipaaGreatDoor.Vc
open Go.RowKit
abbrev sJ:=List (Nat×qP)
structure Pl where
 b:Nat
 o:Nat
 k:Option (TypeId×Nat):=none
structure Gh where
 S:Nat->Nat->Prop
 J:Nat->Option Pl
 cur:Nat->Nat->Option qE
def zD {α:Type}(R:α->q8->Prop) (w:qD) (S:Nat->Nat->Prop) (c b:Nat):Nat->List α->Prop
 |_,[]=>True
 |o,x::xs=>(∃cs,cs.length=c/\w.rangeAt b o cs/\(∀j,j<c->S b (o+j))/\R x cs)/\zD R w S c b (o+c) xs
def zE (g:Gh):pY->q8->Prop
 |[],vs=>vs=[]
 |(i,o)::l,vs=> ∃p vs',g.J i=some p/\vs= .pointer (some ⟨p.1,p.2+o,none⟩)::vs'/\zE g l vs'
def RW (g:Gh):q9->q8->Prop
 |none,cs=>cs=[.pointer none]
 |some (i,o),cs=> ∃p,g.J i=some p/\cs=[.pointer (some ⟨p.1,p.2+o,none⟩)]
def K0 (g:Gh):Option (Nat×pY)->q8->Prop
 |none,cs=>cs=[.nilFunc]
 |some (f,l),cs=> ∃vs,zE g l vs/\cs=[.func (.func f) #[] vs.toArray]
def MM (g:Gh):qB->q8->Prop
 |none,cs=>cs=[.map none]
 |some i,cs=> ∃p,g.J i=some p/\cs=[.map (some p.1)]
def gp (k:Option (TypeId×Nat)) (o:Nat):Prop:=o=0/\∃e,dl e=true/\k=some (e,2)
def CN (g:Gh):q9->q8->Prop
 |none,cs=>cs=[.slice none 0 0]
 |some (k,n),cs=> ∃v,g.cur k n=some v/\cs=[v]/\((v= .slice none 0 0/\n=0)\/∃b cap,v= .slice (some ⟨b,0,none⟩) n cap/\n<=cap)
def RX (g:Gh):q9->q8->Prop
 |none,cs=>cs=[.pointer none]
 |some (i,o),cs=> ∃p,g.J i=some p/\gp p.3 (p.2+o)/\(cs=[.pointer none]\/cs=[.pointer (some ⟨p.1,p.2+o,none⟩)])
def GI (g:Gh) (w:qD):Nat×Nat×(Nat×Nat)×(Nat×Nat)->q8->Prop
 |(c,i,(k3,n3),(k4,n4)),cs=>(c=0/\cs=[.nilFunc])\/(c≠0/\∃b α,cs=[.func (.func JL) #[] #[.pointer (some ⟨b,0,none⟩)]]/\g.S b 0/\w.cell? ⟨b,0,none⟩=some (.pointer (some α))/\
   (c=1->∃p,g.J i=some p/\α=⟨p.1,p.2+a3T,none⟩)/\(c=2->∃p,g.J i=some p/\α=⟨p.1,p.2+a3U,none⟩)/\
   (c=3->∃bb cap,g.cur k3 n3=some (.slice (some ⟨bb,0,none⟩) n3 cap)/\0<n3/\α=⟨bb,n3-1,none⟩)/\
   (4<=c->∃bb cap,g.cur k4 n4=some (.slice (some ⟨bb,0,none⟩) n4 cap)/\0<n4/\α=⟨bb,(n4-1)*2+1,none⟩))
def X0:qB->q8->Prop
 |none,cs=>cs=[.nilFunc]
 |some f,cs=>cs=[.func (.func f) #[] #[]]
def Rd (g:Gh) (w:qD):(t:Ty)->t.den->q8->Prop
 | .bool,x,cs=>cs=[.bool x]
 | .int k,n,cs=>cs=[.int k n]
 | .str,l,cs=>cs=[.string ⟨List.toArray l⟩]
 | .list t,l,cs=> ∃a cap,cs=[.slice a (List.length l) cap]/\List.length l<=cap/\(l=[]\/∃b o,a=some ⟨b,o,none⟩/\zD (Rd g w t) w g.S t.cells b o l)
 | .unit,_,cs=>cs=[]
 | .pair s t,x,cs=> ∃c1 c2,cs=c1++c2/\Rd g w s x.1 c1/\Rd g w t x.2 c2
 | .ref,x,cs=>RW g x cs
 | .clo,x,cs=>K0 g x cs
 | .mp,x,cs=>MM g x cs
 | .rl _ _,x,cs=>CN g x cs
 | .fn,x,cs=>X0 x cs
 | .mref,x,cs=>RX g x cs
 | .ap,x,cs=>GI g w x cs
def tJ (g:Gh) (w:qD) (t:Ty) (x:t.den) (v:qE):Prop:=
 (t.isRow=true/\∃cs:q8,v= .agg cs.toArray/\Rd g w t x cs)\/(t.isRow=false/\Rd g w t x [v])
def yQ (k:Nat):Ty->Nat->q8->Prop
 | .list _,o,cs=>o+1=k\/cs=[.slice none 0 0]
 | .pair a b,o,cs=> ∃c1 c2,cs=c1++c2/\c1.length=a.cells/\yQ k a o c1/\yQ k b (o+a.cells) c2
 |_,_,_=>True
def EB (g:Gh) (t:Ty) (x:t.den) (v:qE):qB->Prop
 |none=>True
 |some k=>match t,x with
  | .list _,l=>g.cur k (List.length l)=some v
  | .pair a b,_=>yQ k (.pair a b) 0 v.cells.toList
  |_,_=>False
def K1 (g:Gh) (w:qD):List ((Σ t:Ty,t.den)×qB)->q8->Prop
 |[],vs=>vs=[]
 |(⟨t,x⟩,k)::l,vs=> ∃v vs',vs=v::vs'/\tJ g w t x v/\EB g t x v k/\K1 g w l vs'
def zM (g:Gh) (w:qD):DV->qE->Prop
 | .any,_=>True
 | .nilS,v=>v= .slice none 0 0
 | .val t x,v=>tJ g w t x v
 | .at t x,v=> ∃b o cs,v= .pointer (some ⟨b,o,none⟩)/\w.rangeAt b o cs/\(∀j,j<t.cells->g.S b (o+j))/\Rd g w t x cs
 | .tup l,v=> ∃vs:q8,v= .tuple vs.toArray/\K1 g w l vs
 | .cond p d,v=>(p=true->zM g w d v)/\(p=false->v=undef)
 | .flag p q,v=> ∃b,v= .bool b/\(b=true->p)/\(b=false->q)
 | .own k n,v=>g.cur k n=some v/\((v= .slice none 0 0/\n=0)\/∃b cap,v= .slice (some ⟨b,0,none⟩) n cap/\n<=cap)
 | .nxt b p c,v=>(b=true->v= .tuple #[.bool true,.int .i64 p,.int .i32 c])/\(b=false->v= .tuple #[.bool false])
 | .elt k n c i o,v=> ∃b cap,g.cur k n=some (.slice (some ⟨b,0,none⟩) n cap)/\0<=i/\i<(n:Int)/\v= .pointer (some ⟨b,i.toNat*c+o,none⟩)
 | .apd d,v=> ∃b u,v= .func (.func JL) #[] #[.pointer (some ⟨b,0,none⟩)]/\g.S b 0/\w.cell? ⟨b,0,none⟩=some u/\zM g w d u
def rX (g:Gh) (w:qD) (s:qQ) (v:qE):Prop:=
 zM g w s.1 v/\match s with
  |(_,none)=>True
  |(.val t x,some k)=>EB g t x v (some k)
  |(_,some _)=>False
structure Le (g:Gh) (w:qD) (g':Gh) (w':qD):Prop where
 S: ∀b o,g.S b o->g'.S b o
 cell: ∀b o,g.S b o->w'.cell? ⟨b,o,none⟩=w.cell? ⟨b,o,none⟩
 J: ∀i p,g.J i=some p->g'.J i=some p
 cur: ∀k n v,g.cur k n=some v->g'.cur k n=some v
def Le.refl (g:Gh) (w:qD):Le g w g w:=⟨fun _ _ h=>h,fun _ _ _=>rfl,fun _ _ h=>h,fun _ _ _ h=>h⟩
def Le.trans {g g' g'':Gh}{w w' w'':qD}(h:Le g w g' w') (k:Le g' w' g'' w''):Le g w g'' w'':=
 ⟨fun b o x=>k.S b o (h.S b o x),fun b o x=>(k.cell b o (h.S b o x)).trans (h.cell b o x),fun i p x=>k.J i p (h.J i p x),fun i n v x=>k.cur i n v (h.cur i n v x)⟩
def gq {g g':Gh}(j: ∀i p,g.J i=some p->g'.J i=some p): ∀{l:pY}{vs:q8},zE g l vs->zE g' l vs
 |[],_,h=>h
 |(_,_)::_,_,⟨p,vs',D,z,h3⟩=>⟨p,vs',j _ _ D,z,gq j h3⟩
def a4i {g g':Gh}(j: ∀i p,g.J i=some p->g'.J i=some p): ∀{x:q9}{cs:q8},RW g x cs->RW g' x cs
 |none,_,h=>h
 |some (_,_),_,⟨p,D,z⟩=>⟨p,j _ _ D,z⟩
def a4j {g g':Gh}(j: ∀i p,g.J i=some p->g'.J i=some p): ∀{x:Option (Nat×pY)}{cs:q8},K0 g x cs->K0 g' x cs
 |none,_,h=>h
 |some (_,_),_,⟨vs,D,z⟩=>⟨vs,gq j D,z⟩
def a4k {g g':Gh}(j: ∀i p,g.J i=some p->g'.J i=some p): ∀{x:qB}{cs:q8},MM g x cs->MM g' x cs
 |none,_,h=>h
 |some _,_,⟨p,D,z⟩=>⟨p,j _ _ D,z⟩
def a4l {g g':Gh}(j: ∀k n v,g.cur k n=some v->g'.cur k n=some v): ∀{x:q9}{cs:q8},CN g x cs->CN g' x cs
 |none,_,h=>h
 |some (_,_),_,⟨v,D,z⟩=>⟨v,j _ _ _ D,z⟩
def a4m {g g':Gh}(j: ∀i p,g.J i=some p->g'.J i=some p): ∀{x:q9}{cs:q8},RX g x cs->RX g' x cs
 |none,_,h=>h
 |some (_,_),_,⟨p,D,z⟩=>⟨p,j _ _ D,z⟩
def a4n {g g':Gh}{w w':qD}(h:Le g w g' w'): ∀{x:Nat×Nat×(Nat×Nat)×(Nat×Nat)}{cs:q8},GI g w x cs->GI g' w' x cs
 |(_,_,(_,_),(_,_)),_,.inl r=> .inl r
 |(_,_,(_,_),(_,_)),_,.inr ⟨h0,b,α,e,j,z,E,D,h3,h4⟩=> .inr ⟨h0,b,α,e,h.S _ _ j,(h.cell _ _ j).trans z,fun q=>let ⟨p,a1,a2⟩:=E q;⟨p,h.J _ _ a1,a2⟩,fun q=>let ⟨p,a1,a2⟩:=D q;⟨p,h.J _ _ a1,a2⟩,fun q=>let ⟨bb,cap,a1,a2⟩:=h3 q;⟨bb,cap,h.cur _ _ _ a1,a2⟩,fun q=>let ⟨bb,cap,a1,a2⟩:=h4 q;⟨bb,cap,h.cur _ _ _ a1,a2⟩⟩
def gr {α:Type}{R R':α->q8->Prop}{w w':qD}{S S':Nat->Nat->Prop}{c b:Nat}(F: ∀x cs,R x cs->R' x cs) (E: ∀o,S b o->S' b o)
  (D: ∀o,S b o->w'.cell? ⟨b,o,none⟩=w.cell? ⟨b,o,none⟩): ∀{l:List α}{o:Nat},zD R w S c b o l->zD R' w' S' c b o l
 |[],_,_=>trivial
 |_::_,o,⟨⟨cs,G,K,h3,h4⟩,I⟩=>⟨⟨cs,G,fun j v z=>by
   have h:j<c:=G▸(aF5.1 z).1;rw[D _ (h3 j h)];exact K j v z,fun j h=>E _ (h3 j h),F _ _ h4⟩,gr F E D I⟩
def wW {g g':Gh}{w w':qD}(h:Le g w g' w'): ∀{t:Ty}{x:t.den}{cs:q8},Rd g w t x cs->Rd g' w' t x cs
 | .bool,_,_,r=>r
 | .int _,_,_,r=>r
 | .str,_,_,r=>r
 | .unit,_,_,r=>r
 | .ref,_,_,r=>a4i h.J r
 | .clo,_,_,r=>a4j h.J r
 | .mp,_,_,r=>a4k h.J r
 | .rl _ _,_,_,r=>a4l h.cur r
 | .fn,_,_,r=>r
 | .mref,_,_,r=>a4m h.J r
 | .ap,_,_,r=>a4n h r
 | .pair _ _,_,_,⟨c1,c2,e,r1,r2⟩=>⟨c1,c2,e,wW h r1,wW h r2⟩
 | .list _,_,_,⟨a,cap,e,hle,hl⟩=>⟨a,cap,e,hle,hl.imp id fun⟨b,o,ea,hr⟩=>⟨b,o,ea,gr (fun _ _=>wW h) (fun _=>h.S _ _) (fun _=>h.cell _ _) hr⟩⟩
def t8 {g:Gh}{w:qD}: ∀{t:Ty}{x:t.den}{cs:q8},Rd g w t x cs->cs.length=t.cells
 | .bool,_,_,r=>by cases r;rfl
 | .int _,_,_,r=>by cases r;rfl
 | .str,_,_,r=>by cases r;rfl
 | .unit,_,_,r=>by cases r;rfl
 | .ref,none,_,r=>by cases r;rfl
 | .ref,some (_,_),_,⟨_,_,e⟩=>by cases e;rfl
 | .clo,none,_,r=>by cases r;rfl
 | .clo,some (_,_),_,⟨_,_,e⟩=>by cases e;rfl
 | .mp,none,_,r=>by cases r;rfl
 | .mp,some _,_,⟨_,_,e⟩=>by cases e;rfl
 | .fn,none,_,r=>by cases r;rfl
 | .fn,some _,_,r=>by cases r;rfl
 | .rl _ _,none,_,r=>by cases r;rfl
 | .rl _ _,some (_,_),_,⟨_,_,e,_⟩=>by cases e;rfl
 | .mref,none,_,r=>by cases r;rfl
 | .mref,some (_,_),_,⟨_,_,_,e⟩=>by rcases e with e|e<;>(cases e;rfl)
 | .ap,(_,_,(_,_),(_,_)),_,.inl ⟨_,e⟩=>by cases e;rfl
 | .ap,(_,_,(_,_),(_,_)),_,.inr ⟨_,_,_,e,_⟩=>by cases e;rfl
 | .pair _ _,_,_,⟨c1,c2,e,r1,r2⟩=>by rw[e,aFR,t8 r1,t8 r2];rfl
 | .list _,_,_,⟨_,_,e,_,_⟩=>by cases e;rfl
def X1 {g g':Gh}{w w':qD}(h:Le g w g' w') {t:Ty}{x:t.den}{v:qE}(r:tJ g w t x v):tJ g' w' t x v:=
 r.imp (fun⟨a,cs,e,q⟩=>⟨a,cs,e,wW h q⟩) (fun⟨a,q⟩=>⟨a,wW h q⟩)
def Lm {g g':Gh}{w w':qD}(h:Le g w g' w') {t:Ty}{x:t.den}{v:qE}{k:qB}(r:EB g t x v k):EB g' t x v k:=by
 cases k with
 |none=>trivial
 |some k=>
  cases t with
  |list u=>exact h.cur _ _ _ r
  |pair a b=>exact r
  |_=>exact r.elim
def Ln {g g':Gh}{w w':qD}(h:Le g w g' w'): ∀{l:List ((Σ t:Ty,t.den)×qB)}{vs:q8},K1 g w l vs->K1 g' w' l vs
 |[],_,r=>r
 |(⟨_,_⟩,_)::_,_,⟨v,vs',e,r1,r2,r3⟩=>⟨v,vs',e,X1 h r1,Lm h r2,Ln h r3⟩
def RY {g g':Gh}{w w':qD}(h:Le g w g' w'): ∀{d:DV}{v:qE},zM g w d v->zM g' w' d v
 | .any,_,r=>r
 | .nilS,_,r=>r
 | .val _ _,_,r=>X1 h r
 | .at t _,_,⟨b,o,cs,e,D,z,h3⟩=>⟨b,o,cs,e,fun j v F=>by
   by_cases E:j<t.cells
   .rw[h.cell _ _ (z j E)];exact D j v F
   .exact absurd (aF5.1 F).1 (by rw[t8 h3];exact E),fun j E=>h.S _ _ (z j E),wW h h3⟩
 | .tup _,_,⟨vs,e,r⟩=>⟨vs,e,Ln h r⟩
 | .cond _ _,_,⟨r1,r2⟩=>⟨fun p=>RY h (r1 p),r2⟩
 | .flag _ _,_,r=>r
 | .own _ _,_,⟨D,z⟩=>⟨h.cur _ _ _ D,z⟩
 | .nxt _ _ _,_,r=>r
 | .elt _ _ _ _ _,_,⟨b,cap,D,z⟩=>⟨b,cap,h.cur _ _ _ D,z⟩
 | .apd _,_,⟨b,u,e,G,I,r⟩=>⟨b,u,e,h.S _ _ G,(h.cell _ _ G).trans I,RY h r⟩
def EC {g g':Gh}{w w':qD}(h:Le g w g' w') {s:qQ}{v:qE}(r:rX g w s v):rX g' w' s v:=by
 obtain⟨d,k⟩:=s;refine⟨RY h r.1,?_⟩;have r2:=r.2;cases k with
 |none=>trivial
 |some k=>
  cases d with
  |val t x=>exact Lm h r2
  |_=>exact r2.elim
def AW {g:Gh}{w:qD}: ∀{t:Ty}{x:t.den}{cs:q8},Rd g w t x cs->∀v∈cs,v.oneCell'=true
 | .bool,_,_,r=>by cases r;intro v j;simp at j;subst j;rfl
 | .int _,_,_,r=>by cases r;intro v j;simp at j;subst j;rfl
 | .str,_,_,r=>by cases r;intro v j;simp at j;subst j;rfl
 | .unit,_,_,r=>by cases r;intro v j;simp at j
 | .ref,none,_,r=>by cases r;intro v j;simp at j;subst j;rfl
 | .ref,some (_,_),_,⟨_,_,e⟩=>by cases e;intro v j;simp at j;subst j;rfl
 | .clo,none,_,r=>by cases r;intro v j;simp at j;subst j;rfl
 | .clo,some (_,_),_,⟨_,_,e⟩=>by cases e;intro v j;simp at j;subst j;rfl
 | .mp,none,_,r=>by cases r;intro v j;simp at j;subst j;rfl
 | .mp,some _,_,⟨_,_,e⟩=>by cases e;intro v j;simp at j;subst j;rfl
 | .fn,none,_,r=>by cases r;intro v j;simp at j;subst j;rfl
 | .fn,some _,_,r=>by cases r;intro v j;simp at j;subst j;rfl
 | .rl _ _,none,_,r=>by cases r;intro v j;simp at j;subst j;rfl
 | .rl _ _,some (_,_),_,⟨_,_,e,hs⟩=>by
  cases e;intro v j;simp at j;subst j;rcases hs with⟨rfl,_⟩ |⟨_,_,rfl,_⟩<;>rfl
 | .mref,none,_,r=>by cases r;intro v j;simp at j;subst j;rfl
 | .mref,some (_,_),_,⟨_,_,_,e⟩=>by rcases e with e|e<;>(cases e;intro v j;simp at j;subst j;rfl)
 | .ap,(_,_,(_,_),(_,_)),_,.inl ⟨_,e⟩=>by cases e;intro v j;simp at j;subst j;rfl
 | .ap,(_,_,(_,_),(_,_)),_,.inr ⟨_,_,_,e,_⟩=>by cases e;intro v j;simp at j;subst j;rfl
 | .pair _ _,_,_,⟨c1,c2,e,r1,r2⟩=>by
  subst e;intro v j;rcases aGE.1 j with h|h
  .exact AW r1 v h
  .exact AW r2 v h
 | .list _,_,_,⟨_,_,e,_,_⟩=>by cases e;intro v j;simp at j;subst j;rfl
def wG {g g':Gh}{w:qD}(j:g'.S=g.S): ∀{t:Ty}{x:t.den}{cs:q8},t.pure=true->Rd g w t x cs->Rd g' w t x cs
 | .bool,_,_,_,r=>r
 | .int _,_,_,_,r=>r
 | .str,_,_,_,r=>r
 | .unit,_,_,_,r=>r
 | .ref,_,_,h,_=>by simp [Ty.pure] at h
 | .clo,_,_,h,_=>by simp [Ty.pure] at h
 | .mp,_,_,h,_=>by simp [Ty.pure] at h
 | .rl _ _,_,_,h,_=>by simp [Ty.pure] at h
 | .fn,_,_,_,r=>r
 | .mref,_,_,h,_=>by simp [Ty.pure] at h
 | .ap,_,_,h,_=>by simp [Ty.pure] at h
 | .pair _ _,_,_,h,⟨c1,c2,e,r1,r2⟩=>by
  simp only[Ty.pure,aF0] at h;exact⟨c1,c2,e,wG j h.1 r1,wG j h.2 r2⟩
 | .list _,_,_,h,⟨a,cap,e,hle,hl⟩=>by
  simp only[Ty.pure] at h;exact⟨a,cap,e,hle,hl.imp id fun⟨b,o,ea,hr⟩=>⟨b,o,ea,gr (fun _ _ r=>wG j h r) (fun _ q=>by rw[j];exact q) (fun _ _=>rfl) hr⟩⟩
def F2 (g:Gh) (w:qD) (k v:Ty):List (k.den×v.den)->List MapEntry->Prop
 |[],es=>es=[]
 |(a,b)::l,es=> ∃e es',es=e::es'/\tJ g w k a e.key/\tJ g w v b e.val/\F2 g w k v l es'
def gt {g g':Gh}{w w':qD}(h:Le g w g' w') {k v:Ty}: ∀{l:List (k.den×v.den)}{es:List MapEntry},F2 g w k v l es->F2 g' w' k v l es
 |[],_,r=>r
 |_::_,_,⟨e,es',z,j,h3,h4⟩=>⟨e,es',z,X1 h j,X1 h h3,gt h h4⟩
def Lo {g g':Gh}{w:qD}(h:g'.S=g.S) {t:Ty}{x:t.den}{v:qE}(hp:t.pure=true) (r:tJ g w t x v):tJ g' w t x v:=
 r.imp (fun⟨a,cs,e,q⟩=>⟨a,cs,e,wG h hp q⟩) (fun⟨a,q⟩=>⟨a,wG h hp q⟩)
def RZ {g g':Gh}{w:qD}(h:g'.S=g.S) {k v:Ty}(z:k.pure=true) (j:v.pure=true): ∀{l:List (k.den×v.den)}{es:List MapEntry},F2 g w k v l es->F2 g' w k v l es
 |[],_,r=>r
 |_::_,_,⟨e,es',E,D,h3,h4⟩=>⟨e,es',E,Lo h z D,Lo h j h3,RZ h z j h4⟩
def uI {α:Type}(R:α->q8->Prop) (c:Nat):List α->q8->Prop
 |[],cs=>cs=[]
 |x::xs,cs=> ∃c1 c2,cs=c1++c2/\c1.length=c/\R x c1/\uI R c xs c2
def MN {α:Type}{R:α->q8->Prop}{c:Nat}: ∀{l:List α}{cs:q8},uI R c l cs->cs.length=l.length*c
 |[],_,h=>by rw[h];simp
 |_::l,_,⟨c1,c2,e,j,_,h3⟩=>by rw[e,aFR,j,MN h3,aFV,aG5];omega
def gu {α:Type}{R:α->q8->Prop}{c:Nat}: ∀{l m:List α}{cs ds:q8},uI R c l cs->uI R c m ds->uI R c (l++m) (cs++ds)
 |[],_,_,_,h,k=>by rw[h];exact k
 |_::_,_,_,_,⟨c1,c2,e,z,j,h3⟩,k=>⟨c1,c2++_,by rw[e,aF3],z,j,gu h3 k⟩
def DA {α:Type}{R R':α->q8->Prop}{c:Nat}(j: ∀x cs,R x cs->R' x cs): ∀{l:List α}{cs:q8},uI R c l cs->uI R' c l cs
 |[],_,h=>h
 |_::_,_,⟨c1,c2,e,D,z,h3⟩=>⟨c1,c2,e,D,j _ _ z,DA j h3⟩
def CO {g:Gh}{w:qD}{u:Ty}: ∀{t:Ty}{x:t.den}{cs:q8}{o:Nat}{y:u.den},Rd g w t x cs->rH u t x o=some y->
  ∃c1 c2 c3,cs=c1++c2++c3/\c1.length=o/\Rd g w u y c2:=by
 intro t
 induction t with
 |pair a b iha ihb=>
  intro x cs o y r h;obtain⟨c1,c2,e,r1,r2⟩:=r;have key: ∀o,(if o<a.cells then rH u a x.1 o else rH u b x.2 (o-a.cells))=some y->∃d1 d2 d3,cs=d1++d2++d3/\d1.length=o/\Rd g w u y d2:=by
   intro o h;by_cases ho:o<a.cells
   .rw[aFP ho] at h;obtain⟨d1,d2,d3,e',hl,hr⟩:=iha r1 h;exact⟨d1,d2,d3++c2,by rw[e,e'];simp,hl,hr⟩
   rw[aFQ ho] at h;obtain⟨d1,d2,d3,e',hl,hr⟩:=ihb r2 h;refine⟨c1++d1,d2,d3,by rw[e,e'];simp,?_,hr⟩;rw[aFR,hl,t8 r1];omega
  cases o with
  |zero=>
   unfold rH at h;by_cases j:Ty.pair a b=u
   .rw[aHQ j] at h;subst j;simp only[uM,aFO] at h;subst h;exact⟨[],cs,[],by simp,rfl,⟨c1,c2,e,r1,r2⟩⟩
   .rw[aHi j] at h;refine key 0 ?_;simpa using h
  |succ o=>exact key (o+1) (by simpa[rH] using h)
 |_=>
  intro x cs o y r h;cases o with
  |zero=>
   unfold rH at h;split at h
   .rename_i j;subst j;simp only[uM,aFO] at h
    try subst h
    exact⟨[],cs,[],by simp,rfl,r⟩
   .simp at h
  |succ o=>simp [rH] at h
def S0 {g:Gh}{w:qD}{u:Ty}{y:u.den}{cy:q8}(E:Rd g w u y cy): ∀{t:Ty}{x z:t.den}{cs:q8}{o:Nat},Rd g w t x cs->sT u y t x o=some z->
  ∃c1 c2 c3,cs=c1++c2++c3/\c1.length=o/\c2.length=u.cells/\Rd g w t z (c1++cy++c3):=by
 intro t
 induction t with
 |pair a b iha ihb=>
  intro x z cs o r h;obtain⟨c1,c2,e,r1,r2⟩:=r;have key: ∀o,(if o<a.cells then(sT u y a x.1 o).map (fun q=>(q,x.2)) else(sT u y b x.2 (o-a.cells)).map (fun q=>(x.1,q)))=some z->
    ∃d1 d2 d3,cs=d1++d2++d3/\d1.length=o/\d2.length=u.cells/\Rd g w (.pair a b) z (d1++cy++d3):=by
   intro o h;by_cases ho:o<a.cells
   .rw[aFP ho] at h;obtain⟨q,hq,rfl⟩:=aF6.1 h;obtain⟨d1,d2,d3,e',hl,j,hr⟩:=iha r1 hq;exact⟨d1,d2,d3++c2,by rw[e,e'];simp,hl,j,⟨d1++cy++d3,c2,by simp,hr,r2⟩⟩
   rw[aFQ ho] at h;obtain⟨q,hq,rfl⟩:=aF6.1 h;obtain⟨d1,d2,d3,e',hl,j,hr⟩:=ihb r2 hq;refine⟨c1++d1,d2,d3,by rw[e,e'];simp,?_,j,⟨c1,d1++cy++d3,by simp,r1,hr⟩⟩;rw[aFR,hl,t8 r1];omega
  cases o with
  |zero=>
   unfold sT at h;by_cases D:u=Ty.pair a b
   .rw[aHQ D] at h;subst D;simp only[uM,aFO] at h;subst h;exact⟨[],cs,[],by simp,rfl,t8 (t:= .pair a b) (x:=x) ⟨c1,c2,e,r1,r2⟩,by simpa using E⟩
   .rw[aHi D] at h;refine key 0 ?_;simpa using h
  |succ o=>exact key (o+1) (by simpa[sT] using h)
 |_=>
  intro x z cs o r h;cases o with
  |zero=>
   unfold sT at h;split at h
   .rename_i D;subst D;simp only[uM,aFO] at h
    try subst h
    exact⟨[],cs,[],by simp,rfl,t8 r,by simpa using E⟩
   .simp at h
  |succ o=>simp [sT] at h
def a4o {e:Nat}{u:Ty}{kn:q9}: ∀{t:Ty}{x:t.den}{o:Nat}{q: Σ t:Ty,t.den},zC e u kn t x o=some q->q.1.cells=t.cells:=by
 intro t
 induction t with
 |pair a b iha ihb=>
  intro x o q h;unfold zC at h;split at h
  .cases hq:zC e u kn a x.1 o with
   |none=>rw[hq] at h;cases h
   |some r=>
    obtain⟨a',x'⟩:=r;rw[hq] at h;simp only[eu,aFO] at h;subst h;have:=iha hq;simp only[Ty.cells] at this|-;omega
  .cases hq:zC e u kn b x.2 (o-a.cells) with
   |none=>rw[hq] at h;cases h
   |some r=>
    obtain⟨b',y'⟩:=r;rw[hq] at h;simp only[ew,aFO] at h;subst h;have:=ihb hq;simp only[Ty.cells] at this|-;omega
 |list v=>
  intro x o q h;cases o with
  |zero=>
   simp only[zC] at h;split at h
   .simp only[aFO] at h;subst h;rfl
   .cases h
  |succ o=>simp [zC] at h
 |_=>intro x o q h;cases o<;>simp [zC] at h
def a4p {g:Gh}{w:qD}{e:Nat}{u:Ty}{kn:q9}{cy:q8}(D:CN g kn cy): ∀{t:Ty}{x:t.den}{cs:q8}{o:Nat}{q: Σ t:Ty,t.den},Rd g w t x cs->zC e u kn t x o=some q->
  ∃c1 c2 c3,cs=c1++c2++c3/\c1.length=o/\c2.length=1/\Rd g w q.1 q.2 (c1++cy++c3):=by
 intro t
 induction t with
 |pair a b iha ihb=>
  intro x cs o q r h;obtain⟨c1,c2,e1,r1,r2⟩:=r;unfold zC at h;split at h
  .cases hq:zC e u kn a x.1 o with
   |none=>rw[hq] at h;cases h
   |some z=>
    obtain⟨a',x'⟩:=z;rw[hq] at h;simp only[eu,aFO] at h;subst h;obtain⟨d1,d2,d3,e',hl,j,hr⟩:=iha r1 hq;exact⟨d1,d2,d3++c2,by rw[e1,e'];simp,hl,j,⟨d1++cy++d3,c2,by simp,hr,r2⟩⟩
  .cases hq:zC e u kn b x.2 (o-a.cells) with
   |none=>rw[hq] at h;cases h
   |some z=>
    obtain⟨b',y'⟩:=z;rw[hq] at h;simp only[ew,aFO] at h;subst h;obtain⟨d1,d2,d3,e',hl,j,hr⟩:=ihb r2 hq;refine⟨c1++d1,d2,d3,by rw[e1,e'];simp,?_,j,⟨c1,d1++cy++d3,by simp,r1,hr⟩⟩;rw[aFR,hl,t8 r1];omega
 |list v=>
  intro x cs o q r h;cases o with
  |zero=>
   simp only[zC] at h;split at h
   .simp only[aFO] at h;subst h;exact⟨[],cs,[],by simp,rfl,t8 r,by rw[List.nil_append,List.append_nil];exact D⟩
   .cases h
  |succ o=>simp [zC] at h
 |_=>intro x cs o q r h;cases o<;>simp [zC] at h
def I7 (g:Gh) (t:Ty) (x:t.den) (cs:q8) (toks:pY):Prop:=
 ∀o k,(o,k)∈toks->∃(u:Ty) (l:List u.den) (v:qE),rH (.list u) t x o=some l/\cs[o]? =some v/\g.cur k l.length=some v
def a4q (w:qD) (p:Pl) (n:Nat):Prop:=w.there p.1 p.2 n/\(0<n->∀s,p.3=some s->w.shape? p.1=some s)
def CP {w:qD}{b:Nat}{s:TypeId×Nat}(h:w.shape? b=some s):b<w.heap.size:=by
 unfold World.shape? at h;cases hb:w.heap[b]? with
 |none=>rw[hb] at h;cases h
 |some x=>exact(aGh.1 hb).1
def CQ {w w':qD}{b:Nat}(h:w'.heap[b]? =w.heap[b]?):w'.shape? b=w.shape? b:=by
 unfold World.shape?;rw[h]
def AX (g:Gh) (w:qD) (i:Nat):qP->Prop
 | .cells t x toks=> ∃p cs,g.J i=some p/\Rd g w t x cs/\w.rangeAt p.1 p.2 cs/\a4q w p t.cells/\(∀j,j<t.cells->¬g.S p.1 (p.2+j))/\I7 g t x cs toks
 | .grow e c n=> ∃v xs,g.cur i n=some v/\w.ownsRow 0 e c v n xs/\(∀m,n<m->g.cur i m=none)/\∀b,v.ownBlock=some b->∀o,g.S b o->o<n*c
 | .row e t l n=>l.length=n/\∃v xs,g.cur i n=some v/\w.ownsRow 0 e t.cells v n xs/\uI (Rd g w t) t.cells l xs/\(∀m,n<m->g.cur i m=none)/\∀b,v.ownBlock=some b->∀o,¬g.S b o
 | .map k v l=> ∃p es clock,g.J i=some p/\p.2=0/\w.heap[p.1]? =some (.map es clock)/\F2 g w k v l es.toList/\∀o,¬g.S p.1 o
 | .iter s n=> ∃p,g.J i=some p/\p.2=0/\w.heap[p.1]? =some (.stringIter ⟨s.toArray⟩ n)/\∀o,¬g.S p.1 o
 | .dead=>True
def sL (g:Gh) (i:Nat):qP->Nat->Nat->Prop
 | .cells t _ _,b,o=> ∃p,g.J i=some p/\b=p.1/\p.2<=o/\o<p.2+t.cells
 | .grow _ _ n,b,_=> ∃v,g.cur i n=some v/\v.ownBlock=some b
 | .row _ _ _ n,b,_=> ∃v,g.cur i n=some v/\v.ownBlock=some b
 | .map _ _ _,b,_=> ∃p,g.J i=some p/\b=p.1
 | .iter _ _,b,_=> ∃p,g.J i=some p/\b=p.1
 | .dead,_,_=>False
structure sO (g:Gh) (w:qD) (H:sJ):Prop where
 blk: ∀i b,qS H i=some b->AX g w i b
 dis: ∀i j bi bj b o,i≠j->qS H i=some bi->qS H j=some bj->sL g i bi b o->sL g j bj b o->False
 sl: ∀b o,g.S b o->b<w.heap.size
 tab:G7 w/\∀i blk b o,qS H i=some blk->sL g i blk b o->NG<=b
def t7 (g:Gh) (H:sJ) (ids:qC) (b o:Nat):Prop:= ∃i blk,i∈ids/\qS H i=some blk/\sL g i blk b o
structure Fr (A:Nat->Nat->Prop) (w w':qD) (S S':Nat->Nat->Prop):Prop where
 os:w'.os=w.os
 tape:w'.tape=w.tape
 output:w'.output=w.output
 size:w.heap.size<=w'.heap.size
 blk: ∀b,b<w.heap.size->(∀o,¬A b o)->w'.heap[b]? =w.heap[b]?
 cell: ∀b o,b<w.heap.size->¬A b o->w'.cell? ⟨b,o,none⟩=w.cell? ⟨b,o,none⟩/\w'.frozen? ⟨b,o,none⟩=w.frozen? ⟨b,o,none⟩
 new: ∀b o,S' b o->S b o\/w.heap.size<=b\/A b o
 shape: ∀b s,w.shape? b=some s->w'.shape? b=some s\/∀o,A b o
def Fr.refl (A:Nat->Nat->Prop) (w:qD) (S:Nat->Nat->Prop):Fr A w w S S:=
 ⟨rfl,rfl,rfl,aGc _,fun _ _ _=>rfl,fun _ _ _ _=>⟨rfl,rfl⟩,fun _ _ h=> .inl h,fun _ _ h=> .inl h⟩
def Fr.trans {A B:Nat->Nat->Prop}{w w' w'':qD}{S S' S'':Nat->Nat->Prop}(h:Fr A w w' S S') (k:Fr B w' w'' S' S'') (E: ∀b o,B b o->w.heap.size<=b\/A b o):Fr A w w'' S S'':=by
 refine⟨k.os.trans h.os,k.tape.trans h.tape,k.output.trans h.output,aGL h.size k.size,fun b hb D=>?_,fun b o hb D=>?_,fun b o hs=>?_,fun b s hs=>?_⟩
 .refine(k.blk b (aGq hb h.size) fun o ho=>?_).trans (h.blk b hb D);rcases E b o ho with j|j
  .omega
  exact D o j
 .have j:=h.cell b o hb D;have z:=k.cell b o (aGq hb h.size) (fun ho=>by
   rcases E b o ho with j|j
   .omega
   exact D j)
  exact⟨z.1.trans j.1,z.2.trans j.2⟩
 .rcases k.new b o hs with j|j|j
  .exact h.new b o j
  .exact .inr (.inl (aGL h.size j))
  exact .inr (E b o j)
 rcases h.shape b s hs with j|j
 .rcases k.shape b s j with z|z
  .exact .inl z
  refine .inr fun o=>(E b o (z o)).resolve_left ?_;have:=CP hs;omega
 exact .inr j
structure rU (g:Gh) (w:qD) (H:sJ) (e:r6) (g':Gh) (w':qD) (v:qE):Prop where
 le:Le g w g' w'
 slot:rX g' w' e.slot v
 heap:sO g' w' (rD e.upd H)
 fr:Fr (t7 g H (qU e.upd)) w w' g.S g'.S
 perm: ∀i blk b o,i∈qU e.upd->qS (rD e.upd H) i=some blk->sL g' i blk b o->w.heap.size<=b\/t7 g H (qU e.upd) b o
 gho: ∀i,i∉qU e.upd->g'.J i=g.J i/\g'.cur i=g.cur i
 ty: ∀i u y us,qS (rD e.upd H) i=some (.cells u y us)->(∃x ts,qS H i=some (.cells u x ts))\/(g.J i=none/\∀n,g.cur i n=none)
structure AI (g:Gh) (w:qD) (H:sJ) (e:r6) (g':Gh) (w':qD) (v:qE):Prop where
 le:Le g w g' w'
 slot:rX g' w' e.slot v
 heap:sO g' w' (rD e.upd H)
 fr:Fr (t7 g H (qU e.upd)) w w' g.S g'.S
 perm: ∀i blk b o,i∈qU e.upd->qS (rD e.upd H) i=some blk->sL g' i blk b o->w.heap.size<=b\/t7 g H (qU e.upd) b o
 gho: ∀i,i∉qU e.upd->g'.J i=g.J i/\g'.cur i=g.cur i
 ty:JO e.rds=false->∀i u y us,qS (rD e.upd H) i=some (.cells u y us)->(∃x ts,qS H i=some (.cells u x ts))\/(g.J i=none/\∀n,g.cur i n=none)
def rU.w {g:Gh}{w:qD}{H:sJ}{e:r6}{g':Gh}{w':qD}{v:qE}(h:rU g w H e g' w' v):AI g w H e g' w' v:=⟨h.le,h.slot,h.heap,h.fr,h.perm,h.gho,fun _=>h.ty⟩
def MO {w:qD}{B:Nat}{e:TypeId}{c n:Nat}{v:qE}{xs:q8}(h:w.ownsRow B e c v n xs) {b:Nat}(hb:v.ownBlock=some b):b<w.heap.size:=(h.lt b hb).2
def S1 {w:qD}{b o:Nat}{v:qE}(h:w.cell? ⟨b,o,none⟩=some v):b<w.heap.size:=by
 have:=World.block_lt_of_cell? w ⟨b,o,none⟩ h;exact this
def MP {g:Gh}{w:qD}{i:Nat}{blk:qP}(h:AX g w i blk) {b o:Nat}(ho:sL g i blk b o):b<w.heap.size:=by
 cases blk with
 |cells t x toks=>
  obtain⟨p,cs,hp,_,_,E,_⟩:=h;obtain⟨q,hq,rfl,G,F⟩:=ho;rw[hp] at hq;obtain rfl:=aFU hq;have:=(E.1 (o-p.2) pT).1;obtain⟨v,z⟩:=aFS.1 this;exact S1 z
 |grow e c n=>
  obtain⟨v,xs,z,hr,_⟩:=h;obtain⟨v',j,hb⟩:=ho;rw[z] at j;obtain rfl:=aFU j;exact MO hr hb
 |row e t l n=>
  obtain⟨_,v,xs,z,hr,_⟩:=h;obtain⟨v',j,hb⟩:=ho;rw[z] at j;obtain rfl:=aFU j;exact MO hr hb
 |map k v l=>
  obtain⟨p,es,cl,hp,_,D,_,_⟩:=h;obtain⟨q,hq,rfl⟩:=ho;rw[hp] at hq;obtain rfl:=aFU hq;exact(aGh.1 D).1
 |iter s n=>
  obtain⟨p,hp,_,D,_⟩:=h;obtain⟨q,hq,rfl⟩:=ho;rw[hp] at hq;obtain rfl:=aFU hq;exact(aGh.1 D).1
 |dead=>exact ho.elim
def Lp {g g':Gh}(j: ∀k n v,g.cur k n=some v->g'.cur k n=some v) {t:Ty}{x:t.den}{cs:q8}{toks:pY}(h:I7 g t x cs toks):I7 g' t x cs toks:=
 fun o k hm=>let ⟨u,l,v,D,z,h3⟩:=h o k hm;⟨u,l,v,D,z,j _ _ _ h3⟩
def K2 {g g':Gh}{w w':qD}{i:Nat}{blk:qP}(h:AX g w i blk) (le:Le g w g' w') (R:g'.J i=g.J i) (E:g'.cur i=g.cur i)
  (Q: ∀b o,sL g i blk b o->w'.cell? ⟨b,o,none⟩=w.cell? ⟨b,o,none⟩/\w'.frozen? ⟨b,o,none⟩=w.frozen? ⟨b,o,none⟩)
  (hb: ∀b,(∀o,sL g i blk b o)->w'.heap[b]? =w.heap[b]?) (K: ∀b o,sL g i blk b o->g'.S b o->g.S b o) (V: ∀b o s,sL g i blk b o->w.shape? b=some s->w'.shape? b=some s):AX g' w' i blk:=by
 cases blk with
 |cells t x toks=>
  obtain⟨p,cs,hp,hr,Y,Z,hs,U⟩:=h;have ho: ∀j,j<t.cells->sL g i (.cells t x toks) p.1 (p.2+j):=fun j G=>⟨p,hp,rfl,pT,pT⟩;refine⟨p,cs,R.trans hp,wW le hr,fun j v I=>?_,⟨fun j G=>?_,fun h0 s X=>V _ _ _ (ho 0 h0) (Z.2 h0 s X)⟩,fun j G D=>hs j G (K _ _ (ho j G) D),Lp le.cur U⟩
  .have G:j<t.cells:=t8 hr▸(aF5.1 I).1;rw[(Q _ _ (ho j G)).1];exact Y j v I
  .rw[(Q _ _ (ho j G)).1,(Q _ _ (ho j G)).2];exact Z.1 j G
 |grow e c n=>
  obtain⟨v,xs,I,hr,M,hs⟩:=h;have z: ∀b,v.ownBlock=some b->∀o,sL g i (.grow e c n) b o:=fun b hb o=>⟨v,I,hb⟩;refine⟨v,xs,by rw[E];exact I,⟨hr.1,?_⟩,fun m hm=>by rw[E];exact M m hm,fun b F o D=>hs b F o (K _ _ (z b F o) D)⟩;rcases hr.2 with h0|⟨q,cap,cur,e1,e2,e3,e4⟩
  .exact .inl h0
  .subst e1;exact .inr ⟨q,cap,cur,rfl,e2,by rw[hb q (z q rfl)];exact e3,e4⟩
 |row e t l n=>
  obtain⟨hl,v,xs,I,hr,hF,M,hs⟩:=h;have z: ∀b,v.ownBlock=some b->∀o,sL g i (.row e t l n) b o:=fun b hb o=>⟨v,I,hb⟩;refine⟨hl,v,xs,by rw[E];exact I,⟨hr.1,?_⟩,DA (fun _ _ h=>wW le h) hF,fun m hm=>by rw[E];exact M m hm,fun b F o D=>hs b F o (K _ _ (z b F o) D)⟩;rcases hr.2 with h0|⟨q,cap,cur,e1,e2,e3,e4⟩
  .exact .inl h0
  .subst e1;exact .inr ⟨q,cap,cur,rfl,e2,by rw[hb q (z q rfl)];exact e3,e4⟩
 |map k v l=>
  obtain⟨p,es,cl,hp,h0,O,hM,hs⟩:=h;have z: ∀o,sL g i (.map k v l) p.1 o:=fun o=>⟨p,hp,rfl⟩;exact⟨p,es,cl,R.trans hp,h0,(hb _ z).trans O,gt le hM,fun o D=>hs o (K _ _ (z o) D)⟩
 |iter s n=>
  obtain⟨p,hp,h0,O,hs⟩:=h;have z: ∀o,sL g i (.iter s n) p.1 o:=fun o=>⟨p,hp,rfl⟩;exact⟨p,R.trans hp,h0,(hb _ z).trans O,fun o D=>hs o (K _ _ (z o) D)⟩
 |dead=>trivial
def xX {g g':Gh}{i:Nat}{blk:qP}(j:g'.J i=g.J i) (h:g'.cur i=g.cur i) {b o:Nat}:sL g' i blk b o↔sL g i blk b o:=by
 cases blk<;>simp [sL,j,h]
def AY {i:Nat}: ∀{u:List (Nat×qP)}{H:sJ},i∉qU u->qS (rD u H) i=qS H i
 |[],_,_=>rfl
 |(k,b)::r,H,h=>by
  simp only[qU,aF1,not_or] at h;simp only[rD,qS];rw[aFQ (Ne.symm h.1)];exact AY h.2
def sO.upd {g g':Gh}{w w':qD}{H:sJ}{u:List (Nat×qP)}(h:sO g w H) (le:Le g w g' w') (fr:Fr (t7 g H (qU u)) w w' g.S g'.S)
  (perm: ∀i blk b o,i∈qU u->qS (rD u H) i=some blk->sL g' i blk b o->w.heap.size<=b\/t7 g H (qU u) b o)
  (gho: ∀i,i∉qU u->g'.J i=g.J i/\g'.cur i=g.cur i)
  (hb: ∀i blk,i∈qU u->qS (rD u H) i=some blk->AX g' w' i blk)
  (U: ∀i j bi bj b o,i∈qU u->j∈qU u->i≠j->qS (rD u H) i=some bi->qS (rD u H) j=some bj->sL g' i bi b o->sL g' j bj b o->False)
  (sl: ∀b o,g'.S b o->b<w'.heap.size):sO g' w' (rD u H):=by
 have out: ∀i blk,i∉qU u->qS H i=some blk->∀b o,sL g i blk b o->b<w.heap.size/\¬t7 g H (qU u) b o:=fun i blk hi O b o ho=>
  ⟨MP (h.blk i blk O) ho,fun⟨j,bj,G,F,E⟩=>h.dis i j blk bj b o (fun e=>hi (e▸G)) O F ho E⟩
 refine⟨fun i blk O=>?_,fun i j bi bj b o Q M F K E=>?_,sl,JN h.tab.1 fr.size (fun b hb=>fr.blk b (aGq hb h.tab.1.1) (fun o ⟨j,bj,_,k1,k2⟩=>Nat.not_lt.2 (h.tab.2 j bj b o k1 k2) hb)),fun i blk b o O ho=>?_⟩
 rotate_right
 .by_cases hi:i∈qU u
  .rcases perm i blk b o hi O ho with D|⟨j,bj,_,k1,k2⟩
   .exact aGL h.tab.1.1 D
   exact h.tab.2 j bj b o k1 k2
  exact h.tab.2 i blk b o ((AY hi).symm.trans O) ((xX (gho i hi).1 (gho i hi).2).1 ho)
 .by_cases hi:i∈qU u
  .exact hb i blk hi O
  have z:=(AY hi).symm.trans O;have R:=gho i hi;refine K2 (h.blk i blk z) le R.1 R.2 (fun b o ho=>?_) (fun b ho=>?_) (fun b o ho hs=>?_) (fun b o s ho hs=>(fr.shape b s hs).resolve_right fun D=>(out i blk hi z b o ho).2 (D o))
  .exact fr.cell b o (out i blk hi z b o ho).1 (out i blk hi z b o ho).2
  .exact fr.blk b (out i blk hi z b 0 (ho 0)).1 (fun o=>(out i blk hi z b o (ho o)).2)
  rcases fr.new b o hs with D|D|D
  .exact D
  .have:=(out i blk hi z b o ho).1;omega
  exact absurd D (out i blk hi z b o ho).2
 by_cases hi:i∈qU u<;>by_cases G:j∈qU u
 .exact U i j bi bj b o hi G Q M F K E
 .have z:=(AY G).symm.trans F;have I:=(xX (gho j G).1 (gho j G).2).1 E;rcases perm i bi b o hi M K with D|D
  .have:=(out j bj G z b o I).1;omega
  exact(out j bj G z b o I).2 D
 .have z:=(AY hi).symm.trans M;have I:=(xX (gho i hi).1 (gho i hi).2).1 K;rcases perm j bj b o G F E with D|D
  .have:=(out i bi hi z b o I).1;omega
  exact(out i bi hi z b o I).2 D
 exact h.dis i j bi bj b o Q ((AY hi).symm.trans M) ((AY G).symm.trans F) ((xX (gho i hi).1 (gho i hi).2).1 K) ((xX (gho j G).1 (gho j G).2).1 E)
def rU.pure {g:Gh}{w:qD}{H:sJ}{side:List Prop}{s:qQ}{rds:qC}{v:qE}(h:sO g w H) (hs:rX g w s v):rU g w H ⟨side,s,[],rds⟩ g w v:=
 ⟨.refl _ _,hs,h,.refl _ _ _,fun _ _ _ _ hi=>(by cases hi),fun _ _=>⟨rfl,rfl⟩,fun _ _ y us h=> .inl ⟨y,us,h⟩⟩
def AI.pure {g:Gh}{w:qD}{H:sJ}{side:List Prop}{s:qQ}{rds:qC}{v:qE}(h:sO g w H) (hs:rX g w s v):AI g w H ⟨side,s,[],rds⟩ g w v:=(rU.pure h hs).w
def MQ {α:Type}: ∀(l m n:List α),rD (rD l m) n=rD l (rD m n)
 |[],_,_=>rfl
 |x::l,m,n=>by simp only[rD,MQ l m n]
def DB {i:Nat}: ∀{l m:List (Nat×qP)},i∈qU (rD l m)↔i∈qU l\/i∈qU m
 |[],m=>by simp [rD,qU]
 |(k,b)::l,m=>by simp only[rD,qU,aF1,DB (l:=l),or_assoc]
def rU.trans {g:Gh}{w:qD}{H:sJ}{e1 e2:r6}{g1 g2:Gh}{w1 w2:qD}{v1 v2:qE}{side:List Prop}{rds:qC}(h:rU g w H e1 g1 w1 v1) (k:rU g1 w1 (rD e1.upd H) e2 g2 w2 v2):rU g w H ⟨side,e2.slot,rD e2.upd e1.upd,rds⟩ g2 w2 v2:=by
 have K: ∀b o,t7 g1 (rD e1.upd H) (qU e2.upd) b o->w.heap.size<=b\/t7 g H (qU (rD e2.upd e1.upd)) b o:=by
  rintro b o ⟨i,blk,hi,z,ho⟩;by_cases D:i∈qU e1.upd
  .refine(h.perm i blk b o D z ho).imp id fun⟨j,bj,F,q⟩=>⟨j,bj,DB.2 (.inr F),q⟩
  exact .inr ⟨i,blk,DB.2 (.inl hi),(AY D).symm.trans z,(xX (h.gho i D).1 (h.gho i D).2).1 ho⟩
 have mono: ∀b o,t7 g H (qU e1.upd) b o->t7 g H (qU (rD e2.upd e1.upd)) b o:=fun b o ⟨j,bj,F,q⟩=>⟨j,bj,DB.2 (.inr F),q⟩;refine⟨h.le.trans k.le,k.slot,by simp only[MQ];exact k.heap,?_,fun i blk b o hi z ho=>?_,fun i hi=>?_,fun i u y us z=>?_⟩
 .have D:Fr (t7 g H (qU (rD e2.upd e1.upd))) w w1 g.S g1.S:=⟨h.fr.os,h.fr.tape,h.fr.output,h.fr.size,fun b hb G=>h.fr.blk b hb (fun o ho=>G o (mono b o ho)),fun b o hb G=>h.fr.cell b o hb (fun ho=>G (mono b o ho)),fun b o hs=>(h.fr.new b o hs).imp id (Or.imp id (mono b o)),fun b s hs=>(h.fr.shape b s hs).imp id fun h o=>mono b o (h o)⟩;exact D.trans k.fr K
 .simp only[MQ] at z;by_cases E:i∈qU e2.upd
  .rcases k.perm i blk b o E z ho with h3|h3
   .exact .inl (aGL h.fr.size h3)
   exact K b o h3
  have I:i∈qU e1.upd:=(DB.1 hi).resolve_left E;rw[AY E] at z;exact(h.perm i blk b o I z ((xX (k.gho i E).1 (k.gho i E).2).1 ho)).imp id (mono b o)
 .have E:i∉qU e2.upd:=fun q=>hi (DB.2 (.inl q));have D:i∉qU e1.upd:=fun q=>hi (DB.2 (.inr q));exact⟨(k.gho i E).1.trans (h.gho i D).1,(k.gho i E).2.trans (h.gho i D).2⟩
 simp only[MQ] at z;rcases k.ty i u y us z with⟨x,ts,h3⟩ |⟨h3,h4⟩
 .exact h.ty i u x ts h3
 right;refine⟨?_,fun n=>?_⟩
 .cases F:g.J i with
  |none=>rfl
  |some p=>rw[h.le.J i p F] at h3;cases h3
 cases F:g.cur i n with
 |none=>rfl
 |some p=>rw[<-h4 n,h.le.cur i n p F]
def rU.congrH {g:Gh}{w:qD}{H H':sJ}{e:r6}{g':Gh}{w':qD}{v:qE}(h:rU g w H e g' w' v) (hH:H=H'):rU g w H' e g' w' v:=hH▸h
def I8 {α:Type}{x:α}: ∀{l m:List α},x∈rD l m↔x∈l\/x∈m
 |[],m=>by simp [rD]
 |y::l,m=>by simp only[rD,aF1,I8 (l:=l),or_assoc]
def rU.slot' {g:Gh}{w:qD}{H:sJ}{sd sd2:List Prop}{s s2:qQ}{U:List (Nat×qP)}{r r2:qC}{g':Gh}{w':qD}{v v2:qE}(h:rU g w H ⟨sd,s,U,r⟩ g' w' v) (hs:rX g' w' s2 v2):rU g w H ⟨sd2,s2,U,r2⟩ g' w' v2:=
 ⟨h.le,hs,h.heap,h.fr,h.perm,h.gho,h.ty⟩
def sO.ext0 {g:Gh}{w:qD}{H H':sJ}(h:sO g w H) (e: ∀i,qS H i=qS H' i):sO g w H':=
 ⟨fun i b hb=>h.blk i b (by rw[e];exact hb),fun i j bi bj b o z E D=>h.dis i j bi bj b o z (by rw[e];exact E) (by rw[e];exact D),h.sl,h.tab.1,fun i b bb oo hb ho=>h.tab.2 i b bb oo (by rw[e];exact hb) ho⟩
def rU.more {g:Gh}{w:qD}{H:sJ}{sd sd2:List Prop}{s:qQ}{U U2:List (Nat×qP)}{r r2:qC}{g':Gh}{w':qD}{v:qE}(h:rU g w H ⟨sd,s,U,r⟩ g' w' v) (F: ∀i,qS (rD U2 H) i=qS (rD U H) i) (hm: ∀i,i∈qU U->i∈qU U2):rU g w H ⟨sd2,s,U2,r2⟩ g' w' v:=by
 have mono: ∀b o,t7 g H (qU U) b o->t7 g H (qU U2) b o:=fun b o ⟨j,bj,G,q⟩=>⟨j,bj,hm j G,q⟩;refine⟨h.le,h.slot,h.heap.ext0 (fun i=>(F i).symm),⟨h.fr.os,h.fr.tape,h.fr.output,h.fr.size,fun b hb E=>h.fr.blk b hb (fun o ho=>E o (mono b o ho)),fun b o hb E=>h.fr.cell b o hb (fun ho=>E (mono b o ho)),fun b o hs=>(h.fr.new b o hs).imp id (Or.imp id (mono b o)),fun b s hs=>(h.fr.shape b s hs).imp id fun h o=>mono b o (h o)⟩,fun i blk b o hi z ho=>?_,fun i hi=>h.gho i (fun q=>hi (hm i q)),fun i u y us z=>h.ty i u y us ((F i).symm.trans z)⟩;rw[F] at z;by_cases D:i∈qU U
 .exact(h.perm i blk b o D z ho).imp id (mono b o)
 exact .inr ⟨i,blk,hi,(AY D).symm.trans z,(xX (h.gho i D).1 (h.gho i D).2).1 ho⟩
def uO:Ty->q8
 | .bool=>[.bool false]
 | .int k=>[.int k 0]
 | .str=>[.string ⟨#[]⟩]
 | .list _=>[.slice none 0 0]
 | .unit=>[]
 | .pair a b=>uO a++uO b
 | .ref=>[.pointer none]
 | .clo=>[.nilFunc]
 | .mp=>[.map none]
 | .rl _ _=>[.slice none 0 0]
 | .fn=>[.nilFunc]
 | .mref=>[.pointer none]
 | .ap=>[.nilFunc]
def yR (t:Ty):qE:=if t.isRow then .agg (uO t).toArray else(uO t).headD undef
def P6 (P:Program):Ty->Nat->List Field->Prop
 | .unit,_,[]=>True
 | .pair a b,o,f::r=>f.offset=o/\(P.info? f.type).map (·.size)=some a.cells/\(P.underlying f.type).map (·.isRow)=some a.isRow/\P6 P b (o+a.cells) r
 |_,_,_=>False
def S2 (P:Program) (e:TypeId):Ty->Nat->Prop
 | .unit,0=>True
 | .pair a b,n+1=>(P.info? e).map (·.size)=some a.cells/\(P.underlying e).map (·.isRow)=some a.isRow/\S2 P e b n
 |_,_=>False
inductive gv where
 |ty (t:TypeId) |fs (o:Nat) (l:List Field) |el (e:TypeId) (i m:Nat)
inductive zN (P:Program):Nat->gv->Ty->Prop
 |bool {h t}:P.underlying t=some .bool->zN P h (.ty t) .bool
 |int {h t k}:P.underlying t=some (.int k)->zN P h (.ty t) (.int k)
 |str {h t}:P.underlying t=some .string->zN P h (.ty t) .str
 |struct {h t fs ty}:ty.isRow=true->P.underlying t=some (.struct fs)->P.stoodInHeld t=false->zN P h (.fs 0 fs.toList) ty->zN P (h+1) (.ty t) ty
 |arr {h t e n ty}:ty.isRow=true->P.underlying t=some (.array n e)->(P.info? e).isSome=true->zN P h (.el e 0 n) ty->zN P (h+1) (.ty t) ty
 |nil {h o}:zN P h (.fs o []) .unit
 |cons {h o}{f:Field}{r a b}:f.name≠ "_" ->f.offset=o->(P.info? f.type).map (·.size)=some a.cells->(P.underlying f.type).map (·.isRow)=some a.isRow->zN P h (.ty f.type) a->zN P h (.fs (o+a.cells) r) b->zN P h (.fs o (f::r)) (.pair a b)
 |anil {h e i}:zN P h (.el e i 0) .unit
 |acons {h e i m a b}:(P.info? e).map (·.size)=some a.cells->(P.underlying e).map (·.isRow)=some a.isRow->zN P h (.ty e) a->zN P h (.el e (i+1) m) b->zN P h (.el e i (m+1)) (.pair a b)
def Lq (P:Program):Prop:=
 (∀(w:qD) (p:Option Addr),Calls P JM #[.pointer p] w fun e w'=> ∃b,e= .returned (.func (.func JL) #[] #[.pointer (some ⟨b,0,none⟩)])/\w.heap.size<=b/\b<w'.heap.size/\w'.cell? ⟨b,0,none⟩=some (.pointer p)/\Below w.heap.size w w')/\
 (∀args w,(callFunc JM args).run P w= .ok (.enter JM args) w)/\(∀args w,(callFunc JL args).run P w= .ok (.enter JL args) w)/\
 ∀(w:qD) (b:Nat) (α:Addr) (y s:pP) (ok:Bool),w.cell? ⟨b,0,none⟩=some (.pointer (some α))->w.cell? α=some (.string ⟨y.toArray⟩)->w.frozen? α=false->α.spot=none->((y++s).length:Int)<=9223372036854775807->
  (∀w1,Below w.heap.size w w1->Calls P HV #[.string ⟨(y++s).toArray⟩] w1 fun e w'=>e= .returned (.bool ok)/\Below w1.heap.size w1 w')->
  Calls P JL #[.string ⟨s.toArray⟩,.pointer (some ⟨b,0,none⟩)] w fun e w'=>e= .returned (.bool ok)/\∃w1,Below w.heap.size w w1/\w'=if ok=true then w1.setCells α.block α.off [.string ⟨(y++s).toArray⟩] else w1
def xY (P:Program) (t:TypeId) (ti:TI):Prop:=
 match ti.ty with
 | .bool=>P.underlying t=some .bool
 | .int k=>P.underlying t=some (.int k)
 | .str=>P.underlying t=some .string
 | .ref=> ∃e,P.underlying t=some (.pointer e)
 | .clo=> ∃a b c,P.underlying t=some (.func a b c)
 | .mp=>P.underlying t=some (.map ti.elem ti.bytes)
 | .rl _ _=> ∃e,P.underlying t=some (.slice e)
 | .fn=> ∃a b c,P.underlying t=some (.func a b c)
 | .mref=> ∃e,P.underlying t=some (.pointer e)
 | .ap=>(∃a b c,P.underlying t=some (.func a b c))/\Lq P
 | .list u=>P.underlying t=some (.slice ti.elem)/\(P.info? ti.elem).map (fun i=>(i.size,i.bytes,i.zero))=some (u.cells,ti.bytes,some (yR u))/\(P.underlying ti.elem).map (·.isRow)=some u.isRow
 |ty=>((ti.arr=false/\∃fs,P.underlying t=some (.struct fs)/\P6 P ty 0 fs.toList)\/(ti.arr=true/\∃n e,P.underlying t=some (.array n e)/\S2 P e ty n/\(P.info? e).isSome=true))/\(ti.bytes=1->P.eqGuardType P.depth t=false/\∃h,h<9000/\zN P h (.ty t) ty)
def tU (P:Program) (t:TypeId) (ti:TI):Prop:=(P.info? t).map (fun i=>(i.size,i.zero))=some (ti.ty.cells,some (yR ti.ty))/\xY P t ti
def xZ (P:Program):sZ->Prop
 |[]=>True
 |(t,ti)::r=>tU P t ti/\xZ P r
theorem tB {P:Program}: ∀{T:sZ},xZ P T->∀{t:TypeId}{ti:TI},s5 T t=some ti->tU P t ti
 |[],_,_,_,h=>by simp [s5] at h
 |(k,ti)::r,hT,t,ti',h=>by
  simp only[s5] at h;by_cases j:k=t
  .rw[aFP j] at h;subst j;rw[<-aFU h];exact hT.1
  rw[aFQ j] at h;exact tB hT.2 h
theorem F3 (g:Gh) (w:qD): ∀t:Ty,Rd g w t t.zero (uO t)
 | .bool=>rfl
 | .int _=>rfl
 | .str=>rfl
 | .list _=>⟨none,0,rfl,aGc _,.inl rfl⟩
 | .unit=>rfl
 | .pair a b=>⟨_,_,rfl,F3 g w a,F3 g w b⟩
 | .ref=>rfl
 | .clo=>rfl
 | .mp=>rfl
 | .rl _ _=>rfl
 | .fn=>rfl
 | .mref=>rfl
 | .ap=> .inl ⟨rfl,rfl⟩
theorem MR (g:Gh) (w:qD) (t:Ty):tJ g w t t.zero (yR t):=by
 unfold tJ yR;by_cases h:t.isRow=true
 .left;rw[aFP h];exact⟨h,_,rfl,F3 g w t⟩
 right;rw[aFQ h];refine⟨by simpa using h,?_⟩;cases t<;>first|exact F3 g w _|(simp [Ty.isRow] at h)
theorem GJ {g:Gh}{w:qD}{t:Ty}{x:t.den}{v:qE}(h:tJ g w t x v):Rd g w t x v.cells.toList:=by
 rcases h with⟨_,cs,rfl,r⟩ |⟨hr,r⟩
 .simpa[Value.cells] using r
 have j:=AW r v pV;have:v.cells= #[v]:=by cases v<;>first|rfl|(simp [Value.oneCell'] at j)
 rw[this];exact r
theorem y5 {g:Gh}{w:qD}{t:Ty}{x:t.den}{v:qE}(hr:t.isRow=false) (h:tJ g w t x v):Rd g w t x [v]:=by
 rcases h with⟨j,_⟩ |⟨_,r⟩
 .rw[hr] at j;cases j
 exact r
theorem wH {g:Gh}{w:qD}{k:IntKind}{n:Int}{v:qE}(h:tJ g w (.int k) n v):v= .int k n:=by
 have:=y5 rfl h;simp only[Rd,aGD,and_true] at this;exact this
theorem vU {g:Gh}{w:qD}{n:Bool}{v:qE}(h:tJ g w .bool n v):v= .bool n:=by
 have:=y5 rfl h;simp only[Rd,aGD,and_true] at this;exact this
theorem x7 {g:Gh}{w:qD}{l:pP}{v:qE}(h:tJ g w .str l v):v= .string ⟨l.toArray⟩:=by
 have:=y5 rfl h;simp only[Rd,aGD,and_true] at this;exact this
theorem F4 {g:Gh}{w:qD}{t:Ty}{l:List t.den}{v:qE}(h:tJ g w (.list t) l v): ∃a cap,v= .slice a l.length cap/\l.length<=cap/\(l=[]\/∃b o,a=some ⟨b,o,none⟩/\zD (Rd g w t) w g.S t.cells b o l):=by
 have:=y5 rfl h;obtain⟨a,cap,e,z,j⟩:=this;simp only[aGD,and_true] at e;exact⟨a,cap,e,z,j⟩
theorem y6 {g:Gh}{w:qD}{i o:Nat}{v:qE}(h:tJ g w .ref (some (i,o)) v): ∃p,g.J i=some p/\v= .pointer (some ⟨p.1,p.2+o,none⟩):=by
 have:=y5 rfl h;obtain⟨p,j,e⟩:=this;simp only[aGD,and_true] at e;exact⟨p,j,e⟩
theorem MS {g:Gh}{w:qD}{t:Ty}{x:t.den}{v:qE}(hr:t.isRow=true) (h:tJ g w t x v): ∃cs:q8,v= .agg cs.toArray/\Rd g w t x cs:=by
 rcases h with⟨_,r⟩ |⟨j,_⟩
 .exact r
 rw[hr] at j;cases j
theorem wN (g:Gh) (w:qD) (k:IntKind) (n:Int):tJ g w (.int k) n (.int k n):= .inr ⟨rfl,rfl⟩
theorem vV (g:Gh) (w:qD) (b:Bool):tJ g w .bool b (.bool b):= .inr ⟨rfl,rfl⟩
theorem DC (g:Gh) (w:qD) (l:pP):tJ g w .str l (.string ⟨l.toArray⟩):= .inr ⟨rfl,rfl⟩
def rR (P:Program) (o:Oper) (a:Act) (g:Gh) (w:qD) (H:sJ) (e:r6):Prop:=
 ∀(K:Act->qD->Prop) (Q:Exit->Act->qD->Prop),(∀g' w' v,AI g w H e g' w' v->K (a.put o.dst v) w')->o.wp P a w K Q
theorem rR.valueW {P:Program}{o:Oper}{a:Act}{g g':Gh}{w w':qD}{H:sJ}{e:r6}{v:qE}(hr:(execOp a.eval o).run P w= .ok (.value v) w') (h:AI g w H e g' w' v):rR P o a g w H e:=by
 intro K Q j;unfold Oper.wp;rw[hr];exact j g' w' v h
theorem rR.skipW {P:Program}{o:Oper}{a:Act}{g g':Gh}{w w':qD}{H:sJ}{e:r6}(hr:(execOp a.eval o).run P w= .ok .skip w') (h:AI g w H e g' w' undef):rR P o a g w H e:=by
 intro K Q j;unfold Oper.wp;rw[hr];exact j g' w' undef h
theorem rR.value {P:Program}{o:Oper}{a:Act}{g g':Gh}{w w':qD}{H:sJ}{e:r6}{v:qE}(hr:(execOp a.eval o).run P w= .ok (.value v) w') (h:rU g w H e g' w' v):rR P o a g w H e:= .valueW hr h.w
theorem rR.skip {P:Program}{o:Oper}{a:Act}{g g':Gh}{w w':qD}{H:sJ}{e:r6}(hr:(execOp a.eval o).run P w= .ok .skip w') (h:rU g w H e g' w' undef):rR P o a g w H e:= .skipW hr h.w
theorem rR.pure {P:Program}{o:Oper}{a:Act}{g:Gh}{w:qD}{H:sJ}{side:List Prop}{d:DV}{rds:qC}{v:qE}(hH:sO g w H) (hr:(execOp a.eval o).run P w= .ok (.value v) w) (h:zM g w d v):
  rR P o a g w H ⟨side,(d,none),[],rds⟩:= .value hr (.pure hH ⟨h,trivial⟩)
section
variable {P:Program}{o:Oper}{a:Act}{g:Gh}{w:qD}{H:sJ}
theorem X2 {g:Gh}{w:qD}{k:IntKind}(q:Int) (hq: ∀p∈(LW k q).1,p):zM g w (LW k q).2 (.int k (k.wrap q)):=by
 cases k<;>simp only[LW] at hq|- <;>first|exact wN _ _ _ _|skip
 have h0:=hq _ (aF7.2 rfl);rw[show IntKind.i64.wrap q=q from IntWalk.i64_in q pT];exact wN _ _ _ _
theorem a4r (g:Gh) {op:BinOp}{xt:TypeId}{x y:Operand}{k:IntKind}{m n:Int}{r:List Prop×DV}(hr:cq k m n op=some r) (hs: ∀p∈r.1,p):
  ∃v,(do eqGuard op xt x y (.int k m) (.int k n);Go.binOp op xt (.int k m) (.int k n):Sem qE).run P w= .ok v w/\zM g w r.2 v:=by
 cases op<;>simp only[cq,aFO,reduceCtorEq] at hr
 all_goals subst hr
 case add=>exact⟨.int k (k.wrap _),by simp [eqGuard,Go.binOp,Op.intArith],X2 _ hs⟩
 case sub=>exact⟨.int k (k.wrap _),by simp [eqGuard,Go.binOp,Op.intArith],X2 _ hs⟩
 case mul=>exact⟨.int k (k.wrap _),by simp [eqGuard,Go.binOp,Op.intArith],X2 _ hs⟩
 case eql=>exact⟨.bool (decide (m=n)),by simp [eqGuard,Go.binOp,Op.intCmp];rfl,vV _ _ _⟩
 case neq=>exact⟨.bool (!decide (m=n)),by simp [eqGuard,Go.binOp,Op.intCmp,bne];rfl,vV _ _ _⟩
 case lss=>exact⟨.bool (decide _),by simp [eqGuard,Go.binOp,Op.intCmp],vV _ _ _⟩
 case leq=>exact⟨.bool (decide _),by simp [eqGuard,Go.binOp,Op.intCmp],vV _ _ _⟩
 case gtr=>exact⟨.bool (decide (n<m)),by simp [eqGuard,Go.binOp,Op.intCmp],vV _ _ _⟩
 case geq=>exact⟨.bool (decide (n<=m)),by simp [eqGuard,Go.binOp,Op.intCmp],vV _ _ _⟩
 case quo=>
  have h0:=hs _ (aF7.2 rfl);exact⟨.int k (k.wrap (Int.tdiv m n)),by simp [eqGuard,Go.binOp,Op.intDiv,h0],wN _ _ _ _⟩
 case rem=>
  have h0:=hs _ (aF7.2 rfl);exact⟨.int k (Int.tmod m n),by simp [eqGuard,Go.binOp,Op.intDiv,h0],wN _ _ _ _⟩
 case and=>exact⟨.int k (bits .and k m n),by simp [eqGuard,Go.binOp,intBits_and],wN _ _ _ _⟩
 case or=>exact⟨.int k (bits .or k m n),by simp [eqGuard,Go.binOp,intBits_or],wN _ _ _ _⟩
 case xor=>exact⟨.int k (bits .xor k m n),by simp [eqGuard,Go.binOp,intBits_xor],wN _ _ _ _⟩
 case andNot=>exact⟨.int k (bits .andNot k m n),by simp [eqGuard,Go.binOp,intBits_andNot],wN _ _ _ _⟩
theorem S3 (m n:pP):(m==n)=decide (m=n):=by rw[aHI];simp
theorem a4s (g:Gh) {op:BinOp}{xt:TypeId}{x y:Operand}{m n:pP}{r:List Prop×DV}(hr:ct m n op=some r) (hs: ∀p∈r.1,p):
  ∃v,(do eqGuard op xt x y (.string ⟨m.toArray⟩) (.string ⟨n.toArray⟩);Go.binOp op xt (.string ⟨m.toArray⟩) (.string ⟨n.toArray⟩):Sem qE).run P w= .ok v w/\zM g w r.2 v:=by
 have hl: ∀l:pP,(⟨l.toArray⟩:ByteArray).size=l.length:=fun l=>by simp [ByteArray.size]
 cases op<;>simp only[ct,aFO,reduceCtorEq] at hr
 all_goals subst hr
 case add=>
  have h0:=hs _ (aF7.2 rfl);refine⟨.string ⟨(m++n).toArray⟩,?_,DC _ _ _⟩;rw[aFR] at h0;have h: ¬(((⟨m.toArray⟩:ByteArray).size+(⟨n.toArray⟩:ByteArray).size:Nat):Int) >IntKind.i64.max:=by rw[hl,hl,show IntKind.i64.max=9223372036854775807 from by decide];omega
  simp only[eqGuard,Go.binOp,Op.stringOp,aF4,aFQ h];simp;rfl
 case eql=>exact⟨.bool (decide (m=n)),by simp [eqGuard,Go.binOp,Op.stringOp,S3],vV _ _ _⟩
 case neq=>exact⟨.bool (!decide (m=n)),by simp [eqGuard,Go.binOp,Op.stringOp,S3],vV _ _ _⟩
 case lss=>exact⟨.bool (Op.bytesLess m n),by simp [eqGuard,Go.binOp,Op.stringOp],vV _ _ _⟩
 case leq=>exact⟨.bool (Op.bytesLess m n||decide (m=n)),by simp [eqGuard,Go.binOp,Op.stringOp,S3],vV _ _ _⟩
 case gtr=>exact⟨.bool (!(Op.bytesLess m n||decide (m=n))),by simp [eqGuard,Go.binOp,Op.stringOp,S3],vV _ _ _⟩
 case geq=>exact⟨.bool (!Op.bytesLess m n),by simp [eqGuard,Go.binOp,Op.stringOp],vV _ _ _⟩
theorem K3 {r:Option (List Prop×DV)}{e:r6}(h:BH r=some e): ∃q,r=some q/\e=⟨q.1,(q.2,none),[],[]⟩:=by
 cases r with
 |none=>cases h
 |some q=>obtain⟨p,d⟩:=q;exact⟨(p,d),rfl,(aFU h).symm⟩
theorem a4t (hH:sO g w H) {op:BinOp}{xt yt:TypeId}{x y:Operand}(ho:o.op= .binOp op xt x y yt) {sx sy:qQ}(j:rX g w sx (a.eval x)) (h:rX g w sy (a.eval y)) {e:r6}
  (hr:BH (V3 op sx sy)=some e) (hs: ∀p∈e.side,p):rR P o a g w H e:=by
 obtain⟨q,hq,rfl⟩:=K3 hr;have go: ∀{u v:qE},a.eval x=u->a.eval y=v->(∃z,(do eqGuard op xt x y u v;Go.binOp op xt u v:Sem qE).run P w= .ok z w/\zM g w q.2 z)->rR P o a g w H ⟨q.1,(q.2,none),[],[]⟩:=by
  rintro u v rfl rfl ⟨z,D,F⟩;refine rR.pure hH (v:=z) ?_ F;unfold execOp;rw[ho];simp only[aF4,aGg] at D|-;rw[D];rfl
 obtain⟨dx,kx⟩:=sx;obtain⟨dy,ky⟩:=sy;replace j:=j.1;replace h:=h.1;unfold V3 at hq;split at hq
 .rename_i k m k1 k' n k2 e1 e2;simp only[aGi] at e1 e2;obtain⟨rfl,-⟩:=e1;obtain⟨rfl,-⟩:=e2;unfold Ji at hq;split at hq
  .cases hq;have h0:=hs _ (aF7.2 rfl);exact go (wH j) (wH h) ⟨.int k (cr k m n),by simp [eqGuard,Go.binOp,Op.shift,cr,Int.not_lt.2 h0],wN _ _ _ _⟩
  .cases hq;have h0:=hs _ (aF7.2 rfl);exact go (wH j) (wH h) ⟨.int k (zA k m n),by simp [eqGuard,Go.binOp,Op.shift,zA,Int.not_lt.2 h0],wN _ _ _ _⟩
  by_cases E:k=k'
  .subst E;rw[aFP rfl] at hq;exact go (wH j) (wH h) (a4r g hq hs)
  rw[aFQ E] at hq;cases hq
 .rename_i m k1 n k2 e1 e2;simp only[aGi] at e1 e2;obtain⟨rfl,-⟩:=e1;obtain⟨rfl,-⟩:=e2;exact go (x7 j) (x7 h) (a4s g hq hs)
 cases hq
theorem a4u (hH:sO g w H) {op:BinOp}{xt yt:TypeId}{x y:Operand}(ho:o.op= .binOp op xt x y yt) {ti:Option TI}{sx sy:qQ}(E:rX g w sx (a.eval x)) (D:rX g w sy (a.eval y)) {e:r6}
  (hr:BH (V4 op ti sx sy)=some e):rR P o a g w H e:=by
 obtain⟨q,hq,rfl⟩:=K3 hr;unfold V4 at hq;split at hq
 .rename_i k m _ k' n _;by_cases z:k=k'
  .subst z;rw[aFP rfl] at hq;have j:=wH E.1;have h:=wH D.1;cases op<;>simp only[Jj,aFO,reduceCtorEq] at hq
   all_goals subst hq
   all_goals refine rR.pure hH (v:= .int k (k.wrap _)) ?_ (wN _ _ _ _)
   all_goals
    unfold execOp;rw[ho];simp [j,h,eqGuard,Go.binOp,Op.intArith]
  rw[aFQ z] at hq;cases hq
 cases hq
theorem a4v (hH:sO g w H) {op:UnOp}{xt:TypeId}{x:Operand}(ho:o.op= .unOp op xt x) {sx:qQ}(h:rX g w sx (a.eval x)) {e:r6}
  (hr:BH (da op sx)=some e) (hs: ∀p∈e.side,p):rR P o a g w H e:=by
 obtain⟨q,hq,rfl⟩:=K3 hr;replace h:=h.1;unfold da at hq;split at hq
 .have:=vU h;cases hq;refine rR.pure hH (v:= .bool _) ?_ (vV _ _ _);simp [execOp,ho,this,Op.unary]
 .rename_i k n _;have:=wH h;cases hq;refine rR.pure hH (v:= .int k (k.wrap (-n))) ?_ (X2 _ hs);simp [execOp,ho,this,Op.unary,Op.intArith]
 cases hq
theorem X3 {t:TypeId}{ti:TI}(h:tU P t ti): ∃d,P.underlying t=some d/\d.isRow=ti.ty.isRow:=by
 have j:=h.2;unfold xY at j;obtain⟨ty,el,by',ar,ls⟩:=ti;cases ty<;>simp only at j
 case bool=>exact⟨_,j,rfl⟩
 case int=>exact⟨_,j,rfl⟩
 case str=>exact⟨_,j,rfl⟩
 case list=>exact⟨_,j.1,rfl⟩
 case ref=>obtain⟨e,h⟩:=j;exact⟨_,h,rfl⟩
 case clo=>obtain⟨a,b,c,h⟩:=j;exact⟨_,h,rfl⟩
 case mp=>exact⟨_,j,rfl⟩
 case rl=>obtain⟨e,h⟩:=j;exact⟨_,h,rfl⟩
 case fn=>obtain⟨a,b,c,h⟩:=j;exact⟨_,h,rfl⟩
 case ap=>obtain⟨⟨a,b,c,h⟩,_⟩:=j;exact⟨_,h,rfl⟩
 case mref=>obtain⟨e,h⟩:=j;exact⟨_,h,rfl⟩
 all_goals
  rcases j.1 with⟨_,fs,h,_⟩ |⟨_,n,e,h,_⟩
  .exact⟨_,h,rfl⟩
  exact⟨_,h,rfl⟩
theorem F5 {t:TypeId}{ti:TI}(h:tU P t ti): ∃i,P.info? t=some i/\i.size=ti.ty.cells/\i.zero=some (yR ti.ty):=by
 obtain⟨i,hi,j⟩:=aF6.1 h.1;simp only[aGi] at j;exact⟨i,hi,j.1,j.2⟩
theorem a4w {T:sZ}(hT:xZ P T) (hH:sO g w H) {st dt:TypeId}{x:Operand}(ho:o.op= .convert st dt x) {sx:qQ}(z:rX g w sx (a.eval x)) {e:r6}
  (hr:BH (V6 (s5 T st) (s5 T dt) sx)=some e):rR P o a g w H e:=by
 obtain⟨q,hq,rfl⟩:=K3 hr;replace z:=z.1;generalize hs:s5 T st=os at hq;generalize D:s5 T dt=od at hq;unfold V6 at hq;split at hq
 .rename_i k' k _ _ _ _ k0 n _;obtain⟨d,j,_⟩:=X3 (tB hT hs);have h:=(tB hT D).2;simp only[xY] at h;have:=wH z;cases hq;refine rR.pure hH (v:= .int k (k.wrap n)) ?_ (wN _ _ _ _);simp [execOp,ho,this,Go.convert,aGe j,aGe h,Conv.intToInt]
 .rename_i k' _ _ _ _ s _;obtain⟨d,j,_⟩:=X3 (tB hT hs);have h:=(tB hT D).2;simp only[xY] at h;have:=x7 z;cases hq;refine rR.pure hH (v:= .string ⟨List.toArray s⟩) ?_ (DC _ _ _);simp [execOp,ho,this,Go.convert,aGe j,aGe h]
 cases hq
theorem MT {α:Type}{R:α->q8->Prop}{w:qD}{S:Nat->Nat->Prop}{c b:Nat}: ∀{l:List α}{o i:Nat}{x:α},zD R w S c b o l->l[i]? =some x->
  ∃cs,cs.length=c/\w.rangeAt b (o+i*c) cs/\(∀j,j<c->S b (o+i*c+j))/\R x cs
 |y::l,o,0,x,⟨⟨cs,D,z,h3,h4⟩,_⟩,h=>by
  simp only[aGo,aFO] at h;subst h;exact⟨cs,D,by simpa using z,by simpa using h3,h4⟩
 |y::l,o,i+1,x,⟨_,E⟩,h=>by
  simp only[aGC] at h;obtain⟨cs,D,z,h3,h4⟩:=MT E h;have e:o+c+i*c=o+(i+1)*c:=by rw[aG5];omega
  exact⟨cs,D,by rw[<-e];exact z,by rw[<-e];exact h3,h4⟩
theorem Lr {α:Type}{R:α->q8->Prop}{w:qD}{S:Nat->Nat->Prop}{c b:Nat}: ∀{l:List α}{o:Nat}(i:Nat),zD R w S c b o l->i<=l.length->zD R w S c b (o+i*c) (l.drop i)
 |_,o,0,h,_=>by simpa using h
 |[],o,i+1,_,h=>by simp at h
 |y::l,o,i+1,⟨_,j⟩,h=>by
  have:=Lr i j (by simpa using h);have e:o+c+i*c=o+(i+1)*c:=by rw[aG5];omega
  rw[<-e];simpa using this
theorem Ls {α:Type}{R:α->q8->Prop}{w:qD}{S:Nat->Nat->Prop}{c b:Nat}: ∀{l:List α}{o:Nat}(i:Nat),zD R w S c b o l->zD R w S c b o (l.take i)
 |_,_,0,_=>by simp [zD]
 |[],_,_+1,_=>by simp [zD]
 |_::_,_,i+1,⟨h,j⟩=>by simpa[zD] using⟨h,Ls i j⟩
theorem gw {g:Gh}{w:qD}: ∀{t:Ty}{x:t.den}{cs:q8}{f:Nat}{u:Ty}{y:u.den},Rd g w t x cs->t.proj x f=some ⟨u,y⟩->
  ∃o c1 c2 c3,t.offs f=some o/\t.fld f=some u/\cs=c1++c2++c3/\c1.length=o/\Rd g w u y c2:=by
 intro t
 induction t with
 |pair a b _ ihb=>
  intro x cs f u y r h;obtain⟨c1,c2,e,r1,r2⟩:=r;cases f with
  |zero=>
   simp only[Ty.proj,aFO,Sigma.mk.injEq] at h;obtain⟨rfl,j⟩:=h;obtain rfl:=eq_of_heq j;exact⟨0,[],c1,c2,rfl,rfl,by simpa using e,rfl,r1⟩
  |succ f=>
   simp only[Ty.proj] at h;obtain⟨o,d1,d2,d3,D,j,h3,h4,z⟩:=ihb r2 h;refine⟨a.cells+o,c1++d1,d2,d3,by simp [Ty.offs,D],by simpa[Ty.fld] using j,by rw[e,h3];simp,?_,z⟩;rw[aFR,h4,t8 r1]
 |_=>intro x cs f u y r h;cases f<;>simp [Ty.proj] at h
theorem gx {P:Program}: ∀{ty:Ty}{off:Nat}{fs:List Field}{f o:Nat}{u:Ty},P6 P ty off fs->ty.offs f=some o->ty.fld f=some u->
  ∃fd,fs[f]? =some fd/\fd.offset=off+o/\(P.info? fd.type).map (·.size)=some u.cells/\(P.underlying fd.type).map (·.isRow)=some u.isRow:=by
 intro ty
 induction ty with
 |pair a b _ ihb=>
  intro off fs f o u h ho j;cases fs with
  |nil=>exact h.elim
  |cons fd fs=>
   obtain⟨E,D,h3,h4⟩:=h;cases f with
   |zero=>
    simp only[Ty.offs,aFO] at ho;simp only[Ty.fld,aFO] at j;subst ho;subst j;exact⟨fd,rfl,pT,D,h3⟩
   |succ f=>
    simp only[Ty.offs,aF6] at ho;obtain⟨o',z,rfl⟩:=ho;obtain⟨fd',k1,k2,k3,k4⟩:=ihb h4 z j;exact⟨fd',by simpa using k1,pT,k3,k4⟩
 |_=>intro off fs f o u h ho j;cases f<;>simp [Ty.offs] at ho
theorem gy {P:Program}{e:TypeId}: ∀{ty:Ty}{n f o:Nat}{u:Ty},S2 P e ty n->ty.offs f=some o->ty.fld f=some u->
  f<n/\(P.info? e).map (·.size)=some u.cells/\(P.underlying e).map (·.isRow)=some u.isRow/\o=f*u.cells:=by
 intro ty
 induction ty with
 |pair a b _ ihb=>
  intro n f o u h ho j;cases n with
  |zero=>exact h.elim
  |succ n=>
   obtain⟨z,h3,h4⟩:=h;cases f with
   |zero=>
    simp only[Ty.offs,aFO] at ho;simp only[Ty.fld,aFO] at j;subst ho;subst j;exact⟨pT,z,h3,by simp⟩
   |succ f=>
    simp only[Ty.offs,aF6] at ho;obtain⟨o',D,rfl⟩:=ho;obtain⟨k1,k2,k3,k4⟩:=ihb h4 D j;rw[z] at k2;have E:a.cells=u.cells:=aFU k2;exact⟨pT,by rw[z,E],k3,by rw[k4,E,aG5];omega⟩
 |_=>intro n f o u h ho j;cases f<;>simp [Ty.offs] at ho
theorem S4 {t:TypeId}{u:Ty}(hi:(P.info? t).map (·.size)=some u.cells) (hr:(P.underlying t).map (·.isRow)=some u.isRow) {y:u.den}{c1 c2 c3:q8}(h:Rd g w u y c2):
  ∃v,(part t (c1++c2++c3).toArray c1.length).run P w= .ok v w/\tJ g w u y v:=by
 obtain⟨i,hi,F⟩:=aF6.1 hi;obtain⟨d,G,z⟩:=aF6.1 hr;have hl:=t8 h;by_cases E:u.isRow=true
 .refine⟨.agg c2.toArray,?_,.inl ⟨E,c2,rfl,h⟩⟩;have j:(isAgg t).run P w= .ok true w:=by
   unfold isAgg;rw[aF4,aGe G w];rw[E] at z;cases d<;>simp_all [TypeDesc.isRow]
  simp only[part,aF4,j,aFX,aHp,sizeOf,typeInfo,aGR,hi,F,aGg];congr 2;apply aG3.1;simp [<-hl]
 have D:u.isRow=false:=by simpa using E
 have I:u.cells=1:=by cases u<;>first|rfl|(simp [Ty.isRow] at D)
 obtain⟨v,rfl⟩: ∃v,c2=[v]:=by
  rw[I] at hl;exact aHc.1 hl
 refine⟨v,?_,.inr ⟨D,h⟩⟩;have j:(isAgg t).run P w= .ok false w:=by
  unfold isAgg;rw[aF4,aGe G w];rw[D] at z;cases d<;>simp_all [TypeDesc.isRow]
 simp only[part,aF4,j,aFX];simp
theorem gz {t:TypeId}{ti:TI}(h:tU P t ti) (hr:ti.ty.isRow=true):
  (ti.arr=false/\∃fs,P.underlying t=some (.struct fs)/\P6 P ti.ty 0 fs.toList)\/(ti.arr=true/\∃n e,P.underlying t=some (.array n e)/\S2 P e ti.ty n/\(P.info? e).isSome=true):=by
 have j:=h.2;unfold xY at j;obtain⟨ty,el,by',ar,ls⟩:=ti;cases ty<;>simp only[Ty.isRow,aHh] at hr<;>exact j.1
theorem Lt {t:TypeId}{ti:TI}(h:tU P t ti) (hr:ti.ty.isRow=true) (j:ti.arr=false): ∃fs,P.underlying t=some (.struct fs)/\P6 P ti.ty 0 fs.toList:=by
 rcases gz h hr with⟨_,h⟩ |⟨h,_⟩
 .exact h
 rw[j] at h;cases h
theorem Lu {t:TypeId}{ti:TI}(h:tU P t ti) (hr:ti.ty.isRow=true) (j:ti.arr=true): ∃n e,P.underlying t=some (.array n e)/\S2 P e ti.ty n/\(P.info? e).isSome=true:=by
 rcases gz h hr with⟨h,_⟩ |⟨_,h⟩
 .rw[j] at h;cases h
 exact h
theorem a4x {t:Ty}{x:t.den}{f:Nat}{q: Σ u:Ty,u.den}(h:t.proj x f=some q):t.isRow=true:=by
 cases t<;>first|rfl|(cases f<;>simp [Ty.proj] at h)
theorem a4y {t:Ty}{f o:Nat}(h:t.offs f=some o):t.isRow=true:=by
 cases t<;>first|rfl|(cases f<;>simp [Ty.offs] at h)
end
theorem a4z (l:pP) (n:Nat) (h:n<l.length):(⟨l.toArray⟩:ByteArray)[n]? =some l[n]:=by
 have:n<(⟨l.toArray⟩:ByteArray).size:=by simpa[ByteArray.size] using h
 rw[getElem?_pos (⟨l.toArray⟩:ByteArray) n this];rfl
theorem y7 {i:Int}{n:Nat}(h0:0<=i) (h:i<n):i.toNat<n:=by omega
theorem Lv {i:Int}{n:Nat}(h0:0<=i) (h:i.toNat<n):i<n:=by omega
section
variable {P:Program}{o:Oper}{a:Act}{g:Gh}{w:qD}{H:sJ}{T:sZ}(hT:xZ P T) (hH:sO g w H)
include hT hH
theorem a4A {t:TypeId}{x:Operand}{f:Nat}(ho:o.op= .field t x f) {sx:qQ}(j:rX g w sx (a.eval x)) {e:r6}(hr:fi f (s5 T t) sx=some e):rR P o a g w H e:=by
 generalize hs:s5 T t=ot at hr;replace j:=j.1;unfold fi at hr;split at hr
 .rename_i ty el by' ls_ u y _;split at hr
  .rename_i M;subst M;have F:=tB hT hs;generalize hp:u.proj y f=q at hr;cases q with
   |none=>cases hr
   |some q=>
    obtain⟨u,z⟩:=q;cases hr;have h:=a4x hp;obtain⟨cs,K,O⟩:=MS h j;obtain⟨oo,c1,c2,c3,U,R,rfl,rfl,Q⟩:=gw O hp;obtain⟨fs,G,I⟩:=Lt F h rfl;obtain⟨fd,k1,k2,k3,k4⟩:=gx I U R;obtain⟨v,E,D⟩:=S4 k3 k4 (P:=P) (c1:=c1) (c3:=c3) Q;refine rR.pure hH (v:=v) ?_ D;have k1':fs[f]? =some fd:=by simpa using k1
    simp only[execOp,ho,K,Instr.field,aF4,aGe G,aFX,k1',asAgg,aGg,k2,aGk,E]
  cases hr
 cases hr
theorem ia {t:TypeId}{ti:TI}(h:tU P t ti) (E:ti.arr=false) {f oo:Nat}{u:Ty}(F:ti.ty.offs f=some oo) (I:ti.ty.fld f=some u) (G:0<u.cells) (b off:Nat):
  (Instr.fieldAt t (.pointer (some ⟨b,off,none⟩)) f).run P w= .ok (.pointer (some ⟨b,off+oo,none⟩)) w:=by
 obtain⟨fs,z,D⟩:=Lt h (a4y F) E;obtain⟨fd,k1,k2,k3,k4⟩:=gx D F I;obtain⟨i,hi,j⟩:=aF6.1 k3;have k1':fs[f]? =some fd:=by simpa using k1
 have hne: ¬(u.cells=0):=by omega
 simp only[Instr.fieldAt,aF4,aGe z,aFX,k1',Instr.sureAddr,aGg,fieldPlace,sizeOf,typeInfo,aGR,hi,j,aFQ hne,k2,aGk,aG8]
theorem a4B {t:TypeId}{x:Operand}{f:Nat}(ho:o.op= .fieldAddr t x f) {sx:qQ}(E:rX g w sx (a.eval x)) {e:r6}(hr:fh f (s5 T t) sx=some e):rR P o a g w H e:=by
 generalize hs:s5 T t=ot at hr;replace E:=E.1;unfold fh at hr;split at hr
 .rename_i ty el by' ls_ k n c i o' _;have D:=tB hT hs;generalize I:ty.offs f=o1 at hr;generalize G:ty.fld f=o2 at hr;unfold Kp at hr;split at hr
  .split at hr
   .rename_i oo u h;cases hr;obtain⟨b,cap,Y,R,Q,F⟩:=E;refine rR.pure hH (v:= .pointer (some ⟨b,i.toNat*c+o'+oo,none⟩)) ?_ ⟨b,cap,Y,R,Q,by rw[aGv]⟩;simp only[execOp,ho,F,aF4,ia hT hH D rfl I G h,aFX,aGg]
   cases hr
  cases hr
 .rename_i ty el by' ls_ u y _;split at hr
  .rename_i X;subst X;have D:=tB hT hs;generalize hp:u.proj y f=q at hr;cases q with
   |none=>cases hr
   |some q=>
    obtain⟨u,z⟩:=q;simp only[W8] at hr;split at hr
    .rename_i h;cases hr;obtain⟨b,off,cs,F,M,Z,U⟩:=E;obtain⟨oo,c1,c2,c3,I,G,rfl,rfl,V⟩:=gw U hp;refine rR.pure hH (v:= .pointer (some ⟨b,off+c1.length,none⟩)) ?_ ⟨b,off+c1.length,c2,rfl,fun j v K=>?_,fun j K=>?_,V⟩
     .simp only[execOp,ho,F,aF4,ia hT hH D rfl I G h,aFX,aGg]
     .have:=M (c1.length+j) v (by
       have O:=(aF5.1 K).1;rw[aF3,aFZ pT,aGB,aF9 O];exact K)
      rw[aGv];exact this
     have:=Z (c1.length+j) (by
      have:=t8 U;have h6:=t8 V;simp only[aFR] at this;omega)
     rw[aGv];exact this
    cases hr
  cases hr
 .rename_i ty el by' ls_ i off _;have D:=tB hT hs;generalize I:ty.offs f=o1 at hr;generalize G:ty.fld f=o2 at hr;unfold W9 at hr;split at hr
  .split at hr
   .rename_i oo u h;cases hr;obtain⟨p,hp,F⟩:=y6 E;refine rR.pure hH (v:= .pointer (some ⟨p.1,p.2+off+oo,none⟩)) ?_ (.inr ⟨rfl,p,hp,by rw[aGv]⟩);simp only[execOp,ho,F,aF4,ia hT hH D rfl I G h,aFX,aGg]
   cases hr
  cases hr
 cases hr
theorem a4C {x:Operand}{i:Nat}(ho:o.op= .extract x i) {sx:qQ}(D:rX g w sx (a.eval x)) {e:r6}(hr:fm i sx=some e) (hs: ∀p∈e.side,p):rR P o a g w H e:=by
 replace D:=D.1;unfold fm at hr;split at hr
 rotate_left
 .rename_i b p c _;have run: ∀(v:qE) (vs:Array qE),a.eval x= .tuple vs->vs[i]? =some v->(execOp a.eval o).run P w= .ok (.value v) w:=by
   intro v vs z j;simp [execOp,ho,z,Instr.extract,j]
  obtain⟨z,j⟩:=D;unfold Kq at hr;split at hr
  .cases hr;cases b with
   |true=>exact rR.pure hH (run (.bool true) _ (z rfl) rfl) (vV _ _ _)
   |false=>exact rR.pure hH (run (.bool false) _ (j rfl) rfl) (vV _ _ _)
  .cases hr;have hb:=hs (b=true) pV;exact rR.pure hH (run (.int .i64 p) _ (z hb) rfl) (wN _ _ _ _)
  .cases hr;have hb:=hs (b=true) pV;exact rR.pure hH (run (.int .i32 c) _ (z hb) rfl) (wN _ _ _ _)
  cases hr
 rotate_left
 .rename_i l _;obtain⟨vs,E,hl⟩:=D;have key: ∀(l:List ((Σ t:Ty,t.den)×qB)) (vs:q8) (i:Nat),K1 g w l vs->WA l i=some e->∃v,vs[i]? =some v/\rX g w e.slot v/\e.upd=[]/\e.rds=[]:=by
   intro l
   induction l with
   |nil=>intro vs i _ h;cases i<;>cases h
   |cons q l ih=>
    obtain⟨⟨t,x⟩,k⟩:=q;rintro vs i ⟨v,vs',rfl,r1,r2,r3⟩ h;cases i with
    |zero=>
     simp only[WA,aFO] at h;subst h;refine⟨v,rfl,?_,rfl,rfl⟩;have gen:rX g w (.val t x,k) v:=⟨r1,by
      cases k with
      |none=>trivial
      |some k=>exact r2⟩
     cases t with
     |rl e u=>
      cases x with
      |none=>exact⟨r1,trivial⟩
      |some q=>
       obtain⟨k',n⟩:=q;obtain⟨v',z,j,h3⟩:=y5 rfl r1;simp only[aGD,and_true] at j;subst j;exact⟨⟨z,h3⟩,trivial⟩
     |_=>exact gen
    |succ i=>
     obtain⟨v',z,j,h3,h4⟩:=ih vs' i r3 h;exact⟨v',by simpa using z,j,h3,h4⟩
  obtain⟨v,z,j,h3,h4⟩:=key l vs i hl hr;obtain⟨side,slot,upd,rds⟩:=e;simp only at j h3 h4;subst h3;refine rR.value (v:=v) (g':=g) (w':=w) ?_ (.pure hH j);have:vs.toArray[i]? =some v:=by simpa using z
  simp [execOp,ho,E,Instr.extract,this]
 cases hr
theorem a4D {x:Operand}(ho:o.op= .nilCheck x) {sx:qQ}(z:rX g w sx (a.eval x)) {e:r6}(hr:ff sx=some e):rR P o a g w H e:=by
 replace z:=z.1;unfold ff at hr;split at hr
 .rename_i p _;obtain⟨i,off⟩:=p;cases hr;obtain⟨p,hp,j⟩:=y6 z;refine rR.pure hH (v:=a.eval x) ?_ z;simp [execOp,ho,j]
 .cases hr;obtain⟨b,off,cs,j,h⟩:=z;refine rR.pure hH (v:=a.eval x) ?_ ⟨b,off,cs,j,h⟩;simp [execOp,ho,j]
 .cases hr;obtain⟨b,cap,E,D,h3,j⟩:=z;refine rR.pure hH (v:=a.eval x) ?_ ⟨b,cap,E,D,h3,j⟩;simp [execOp,ho,j]
 cases hr
theorem a4E {t:TypeId}{x ix:Operand}(ho:o.op= .index t x ix) {sx si:qQ}(D:rX g w sx (a.eval x)) (hi:rX g w si (a.eval ix)) {e:r6}(hr:fk (s5 T t) sx si=some e) (hs: ∀p∈e.side,p):rR P o a g w H e:=by
 generalize hst:s5 T t=ot at hr;replace D:=D.1;replace hi:=hi.1;unfold fk at hr;split at hr
 .rename_i _ _ _ _ l _ k i _;cases hr;have hb:=hs _ (aF7.2 rfl);have F:=(tB hT hst).2;simp only[xY] at F;have G:=x7 D;have E:=wH hi;have j:(Int.toNat i)<List.length l:=y7 hb.1 hb.2;refine rR.pure hH (v:= .int .u8 (sK l i)) ?_ (wN _ _ _ _);have z:(if (0:Int)<=i then(⟨List.toArray l⟩:ByteArray)[Int.toNat i]? else none)=some (l[Int.toNat i]):=by
   rw[aFP hb.1];exact a4z l _ j
  have h:sK l i=((l[Int.toNat i]).toNat:Int):=by
   unfold sK;rw[aGb,aFW j];rfl
  simp only[execOp,ho,G,E,Instr.index,asIntOf,aF4,aGg,aFX,aGe F,z,h]
 cases hr
theorem a4F {t:TypeId}{x ix:Operand}(ho:o.op= .indexAddr t x ix) {sx si:qQ}(Q:rX g w sx (a.eval x)) (hi:rX g w si (a.eval ix)) {e:r6}(hr:fj (s5 T t) sx si=some e) (hs: ∀p∈e.side,p):rR P o a g w H e:=by
 generalize hst:s5 T t=ot at hr;replace Q:=Q.1;replace hi:=hi.1;unfold fj at hr;split at hr
 .rename_i t' el by' ar ls_ k n _ k' i _;split at hr
  .rename_i I;cases hr;have hb:=hs _ (aF7.2 rfl);obtain⟨K,h3,_⟩:=(tB hT hst).2;obtain⟨ei,D,G⟩:=aF6.1 h3;simp only[aGi] at G;have h:=wH hi;obtain⟨hc,F⟩:=Q;rcases F with⟨_,rfl⟩ |⟨b,cap,F,hn⟩
   .exact absurd (Int.lt_of_le_of_lt hb.1 hb.2) (Int.lt_irrefl 0)
   refine rR.pure hH (v:= .pointer (some ⟨b,0+Int.toNat i*t'.cells,none⟩)) ?_ ⟨b,cap,by rw[<-F];exact hc,hb.1,hb.2,by rw[aGk,aG0]⟩;simp only[execOp,ho,F,h,Instr.indexAt,asIntOf,aF4,aGg,aFX,aGe K,sizeOf,typeInfo,aGR,D,G.1,aFP hb,aG8]
  cases hr
 .rename_i t' el by' ar ls_ t1 l _ k i _;split at hr
  .rename_i ha;subst ha;cases hr;have hb:=hs _ (aF7.2 rfl);obtain⟨K,h3,_⟩:=(tB hT hst).2;obtain⟨ei,D,G⟩:=aF6.1 h3;simp only[aGi] at G;have h:=wH hi;obtain⟨ad,cap,F,hle,hl⟩:=F4 Q;have R:(Int.toNat i)<List.length l:=y7 hb.1 hb.2;rcases hl with rfl|⟨b,off,rfl,hL⟩
   .simp at R
   have U:l[Int.toNat i]? =some (qV t1 l i):=by
    unfold qV;rw[aGb,aFW R];rfl
   obtain⟨cs,ht,hk,hh,hg⟩:=MT hL U;refine rR.pure hH (v:= .pointer (some ⟨b,off+Int.toNat i*t1.cells,none⟩)) ?_ ⟨b,_,cs,rfl,hk,hh,hg⟩;simp only[execOp,ho,F,h,Instr.indexAt,asIntOf,aF4,aGg,aFX,aGe K,sizeOf,typeInfo,aGR,D,G.1,aFP hb,aG8]
  cases hr
 .rename_i s u el by' ls_ i off _ k n _;have M:=tB hT hst;generalize Y:(Ty.pair s u).offs (Int.toNat n)=o1 at hr;generalize K:(Ty.pair s u).fld (Int.toNat n)=o2 at hr;unfold W9 at hr;split at hr
  .split at hr
   .rename_i oo v I;cases hr;have E:=hs _ (aF7.2 rfl);obtain⟨p,hp,F⟩:=y6 Q;have h:=wH hi;obtain⟨len,el',V,O,_⟩:=Lu M rfl rfl;obtain⟨k1,k2,k3,k4⟩:=gy O Y K;obtain⟨ei,D,G⟩:=aF6.1 k2;have hb:(0:Int)<=n/\(n:Int)<(len:Int):=⟨E,Lv E k1⟩;refine rR.pure hH (v:= .pointer (some ⟨p.1,p.2+off+oo,none⟩)) ?_ (.inr ⟨rfl,p,hp,by rw[aGv]⟩);simp only[execOp,ho,F,h,Instr.indexAt,Instr.sureAddr,asIntOf,aF4,aGg,aFX,aGe V,sizeOf,typeInfo,aGR,D,G,aFP hb,aG8,k4]
   cases hr
  cases hr
 .rename_i s u el by' ls_ u' y _ k n _;split at hr
  .rename_i Z;subst Z;have M:=tB hT hst;generalize hp:(Ty.pair s u).proj y (Int.toNat n)=q at hr;cases q with
   |none=>cases hr
   |some q=>
    obtain⟨v,z⟩:=q;simp only[W8] at hr;split at hr
    .rename_i I;cases hr;have E:=hs _ (aF7.2 rfl);obtain⟨b,off,cs,F,hd,hS,hR⟩:=Q;have h:=wH hi;obtain⟨oo,c1,c2,c3,Y,K,rfl,rfl,h5⟩:=gw hR hp;obtain⟨len,el',V,O,_⟩:=Lu M rfl rfl;obtain⟨k1,k2,k3,k4⟩:=gy O Y K;obtain⟨ei,D,G⟩:=aF6.1 k2;have hb:(0:Int)<=n/\(n:Int)<(len:Int):=⟨E,Lv E k1⟩;refine rR.pure hH (v:= .pointer (some ⟨b,off+c1.length,none⟩)) ?_ ⟨b,off+c1.length,c2,rfl,fun j v X=>?_,fun j X=>?_,h5⟩
     .simp only[execOp,ho,F,h,Instr.indexAt,Instr.sureAddr,asIntOf,aF4,aGg,aFX,aGe V,sizeOf,typeInfo,aGR,D,G,aFP hb,aG8,<-k4]
     .have:=hd (c1.length+j) v (by
       have he:=(aF5.1 X).1;rw[aF3,aFZ pT,aGB,aF9 he];exact X)
      rw[aGv];exact this
     have:=hS (c1.length+j) (by
      have:=t8 hR;have h6:=t8 h5;simp only[aFR] at this;omega)
     rw[aGv];exact this
    cases hr
  cases hr
 cases hr
end
theorem Lw (off:Nat): ∀(vl:q8) (k:Nat) (cs:Array qE) (c1 c2 c3:q8),cs.toList=c1++c2++c3->c1.length=off+k->c2.length=vl.length->
  ((vl.zipIdx k).foldl (fun(cs:Array qE) (p:qE×Nat)=>cs.setIfInBounds (off+p.2) p.1) cs).toList=c1++vl++c3
 |[],_,cs,c1,c2,c3,h,_,j=>by
  have:c2=[]:=aGl (by simpa using j);subst this;simpa using h
 |v::vl,k,cs,c1,c2,c3,h,z,j=>by
  cases c2 with
  |nil=>simp at j
  |cons u c2=>
   simp only[List.zipIdx_cons,List.foldl_cons];have:=Lw off vl (k+1) (cs.setIfInBounds (off+k) v) (c1++[v]) c2 c3 (by
    rw[Array.toList_setIfInBounds,h,<-z];simp) pW (by simpa using j)
   rw[this];simp
theorem a4G (off:Nat) (vs cs:Array qE) (c1 c2 c3:q8) (h:cs.toList=c1++c2++c3) (D:c1.length=off) (z:c2.length=vs.size):
  (vs.zipIdx.foldl (fun(cs:Array qE) (x:qE×Nat)=>match x with|(c,j)=>cs.setIfInBounds (off+j) c) cs).toList=c1++vs.toList++c3:=by
 rw[<-aHU,Array.toList_zipIdx];exact Lw off vs.toList 0 cs c1 c2 c3 h pT (by simpa using z)
theorem Lx {place:Nat->q9}{cells:Array qE}{i:Nat}{v:qE}{rest:List (Nat×qE)}{off size:Nat}{c1 c2 c3:q8}(hp:place i=some (off,size)) (hs:v.cells.size=size)
  (h:cells.toList=c1++c2++c3) (j:c1.length=off) (D:c2.length=size):
  Instr.fill place cells ((i,v)::rest)=Instr.fill place (c1++v.cells.toList++c3).toArray rest:=by
 have z:cells.size=c1.length+c2.length+c3.length:=by rw[<-aGP,h];simp;omega
 simp only[Instr.fill,hp];rw[aFQ (by simp [hs];omega)];congr 1;apply aG3.1;rw[a4G off v.cells cells c1 c2 c3 h j pT]
theorem ib {k:Nat}: ∀{t:Ty}{o:Nat}{cs:q8},M4 t=false->cs.length=t.cells->yQ k t o cs
 | .bool,_,_,_,_=>trivial
 | .int _,_,_,_,_=>trivial
 | .str,_,_,_,_=>trivial
 | .unit,_,_,_,_=>trivial
 | .ref,_,_,_,_=>trivial
 | .clo,_,_,_,_=>trivial
 | .mp,_,_,_,_=>trivial
 | .rl _ _,_,_,_,_=>trivial
 | .fn,_,_,_,_=>trivial
 | .mref,_,_,_,_=>trivial
 | .ap,_,_,_,_=>trivial
 | .list _,_,_,h,_=>by simp [M4] at h
 | .pair a b,_,cs,h,hl=>by
  simp only[M4,aHb] at h;simp only[Ty.cells] at hl;exact⟨cs.take a.cells,cs.drop a.cells,by simp,by rw[aGy];omega,ib h.1 (by rw[aGy];omega),ib h.2 (by rw[aGp];omega)⟩
theorem ic: ∀t:Ty,(uO t).length=t.cells
 | .bool=>rfl
 | .int _=>rfl
 | .str=>rfl
 | .unit=>rfl
 | .ref=>rfl
 | .clo=>rfl
 | .mp=>rfl
 | .rl _ _=>rfl
 | .fn=>rfl
 | .mref=>rfl
 | .ap=>rfl
 | .list _=>rfl
 | .pair a b=>by simp only[uO,aFR,ic a,ic b,Ty.cells]
theorem X4 {k:Nat}: ∀(t:Ty) (o:Nat),yQ k t o (uO t)
 | .bool,_=>trivial
 | .int _,_=>trivial
 | .str,_=>trivial
 | .unit,_=>trivial
 | .ref,_=>trivial
 | .clo,_=>trivial
 | .mp,_=>trivial
 | .rl _ _,_=>trivial
 | .fn,_=>trivial
 | .mref,_=>trivial
 | .ap,_=>trivial
 | .list _,_=> .inr rfl
 | .pair a b,_=>⟨uO a,uO b,rfl,ic a,X4 a _,X4 b _⟩
theorem Ly {g:Gh}{w:qD}{k:Nat}: ∀{t:Ty}{x:t.den}{cs:q8}{off o:Nat},yQ k t off cs->Rd g w t x cs->GB t o=true->off+o+1≠k->∃(u:Ty),rH (.list u) t x o=some []/\cs[o]? =some (.slice none 0 0):=by
 intro t
 induction t with
 |pair a b iha ihb=>
  intro x cs off o z hr hl D;obtain⟨c1,c2,e,E,G,h3⟩:=z;obtain⟨d1,d2,e',r1,r2⟩:=hr;have F:c1=d1/\c2=d2:=aHx (e.symm.trans e') (by rw[E,t8 r1]);obtain⟨rfl,rfl⟩:=F;have key: ∀(u:Ty) q,rH (.list u) (.pair a b) x q=if q<a.cells then rH (.list u) a x.1 q else rH (.list u) b x.2 (q-a.cells):=by
   intro u q;cases q with
   |zero=>
    conv=>lhs;unfold rH
    rw[aHi (by intro e;cases e),Nat.zero_sub]
   |succ q=>simp [rH]
  have h:(if o<a.cells then GB a o else GB b (o-a.cells))=true:=by
   cases o<;>simpa[GB] using hl
  by_cases ho:o<a.cells
  .rw[aFP ho] at h;obtain⟨u,k1,k2⟩:=iha G r1 h D;exact⟨u,by rw[key,aFP ho];exact k1,by rw[e,aF9 pT];exact k2⟩
  .rw[aFQ ho] at h;obtain⟨u,k1,k2⟩:=ihb h3 r2 h pT;exact⟨u,by rw[key,aFQ ho];exact k1,by rw[e,aFZ pT,E];exact k2⟩
 |list u=>
  intro x cs off o z hr hl D;cases o with
  |succ o=>simp [GB] at hl
  |zero=>
   obtain⟨a,cap,e,_,_⟩:=hr;have j:cs=[.slice none 0 0]:=z.resolve_left (by simpa using D);rw[j] at e;simp only[aGD,aHw,and_true] at e;have:(x:List u.den)=[]:=aGl e.2.1.symm;subst this;exact⟨u,by unfold rH;simp [uM],by rw[j];rfl⟩
 |_=>intro x cs off o z hr hl;cases o<;>simp [GB] at hl
theorem a4H {g:Gh}{w:qD}{u:Ty}{y:u.den}{cy:q8}(D:Rd g w u y cy): ∀{t:Ty}{x z:t.den}{cs:q8}{f:Nat},Rd g w t x cs->Ty.setPart u y t x f=some z->
  ∃o c1 c2 c3,t.offs f=some o/\t.fld f=some u/\cs=c1++c2++c3/\c1.length=o/\c2.length=u.cells/\Rd g w t z (c1++cy++c3)/\(∀k off,yQ k t off cs->yQ k u (off+o) cy->yQ k t off (c1++cy++c3)):=by
 intro t
 induction t with
 |pair a b _ ihb=>
  intro x z cs f r h;obtain⟨c1,c2,e,r1,r2⟩:=r;cases f with
  |zero=>
   simp only[Ty.setPart] at h;split at h
   .rename_i E;subst E;simp only[uM,aFO] at h;subst h;refine⟨0,[],c1,c2,rfl,rfl,by simpa using e,rfl,t8 r1,⟨cy,c2,by simp,D,r2⟩,fun k off ⟨d1,d2,e',k1,_,k3⟩ j=>?_⟩;obtain⟨rfl,rfl⟩:=aHx (e'.symm.trans e) (by rw[k1,t8 r1]);exact⟨cy,d2,by simp,t8 D,j,k3⟩
   .cases h
  |succ f=>
   simp only[Ty.setPart,aF6] at h;obtain⟨q,hq,rfl⟩:=h;obtain⟨o,d1,d2,d3,M,K,h3,h4,I,G,F⟩:=ihb r2 hq;refine⟨a.cells+o,c1++d1,d2,d3,by simp [Ty.offs,M],by simpa[Ty.fld] using K,by rw[e,h3];simp,?_,I,⟨c1,d1++cy++d3,by simp,r1,G⟩,fun k off ⟨k1,k2,e',k3,k4,k5⟩ j=>by
    obtain⟨rfl,rfl⟩:=aHx (e'.symm.trans e) (by rw[k3,t8 r1]);exact⟨k1,d1++cy++d3,by simp,k3,k4,F k _ k5 (by rw[aGv];exact j)⟩⟩
   rw[aFR,h4,t8 r1]
 |_=>intro x z cs f r h;cases f<;>simp [Ty.setPart] at h
theorem ie {g:Gh}{w:qD}{t:Ty}{ev:Operand->qE}{ρ:Operand->qQ}{place:Nat->q9}(hp: ∀f o u,t.offs f=some o->t.fld f=some u->place f=some (o,u.cells)):
  ∀(ps:List (Nat×Operand)) (x z:t.den) (cs:q8),Rd g w t x cs->(∀q∈ps,rX g w (ρ q.2) (ev q.2))->BI t (some x) (uW ρ ps)=some z->
  ∃cs',Instr.fill place cs.toArray (ps.map fun q=>(q.1,ev q.2))=some cs'.toArray/\Rd g w t z cs'/\(∀m k,BJ t (uW ρ ps)=some m->m=0\/m=k->yQ k t 0 cs->yQ k t 0 cs')
 |[],x,z,cs,r,_,h=>by
  simp only[uW,BI,aFO] at h;subst h;exact⟨cs,rfl,r,fun _ _ _ _ h=>h⟩
 |(i,q)::ps,x,z,cs,r,hq,h=>by
  have h0:=hq (i,q) pV;have step: ∀{u:Ty}{y:u.den}{z1:t.den},tJ g w u y (ev q)->Ty.setPart u y t x i=some z1->BI t (some z1) (uW ρ ps)=some z->(∀m k,BJ t (uW ρ ((i,q)::ps))=some m->m=0\/m=k->(∀o,t.offs i=some o->yQ k u o (ev q).cells.toList)/\∃m',BJ t (uW ρ ps)=some m'/\(m'=0\/m'=k))->
    ∃cs',Instr.fill place cs.toArray (((i,q)::ps).map fun q=>(q.1,ev q.2))=some cs'.toArray/\Rd g w t z cs'/\(∀m k,BJ t (uW ρ ((i,q)::ps))=some m->m=0\/m=k->yQ k t 0 cs->yQ k t 0 cs'):=by
   intro u y z1 U D h F;obtain⟨o,c1,c2,c3,V,h2,rfl,h4,h5,Z,Y⟩:=a4H (GJ U) r D;obtain⟨cs',hf,hr,X⟩:=ie hp ps z1 z _ Z (fun q M=>hq q (by simp [M])) h;refine⟨cs',?_,hr,fun m k j hm R=>?_⟩
   rotate_left
   .obtain⟨q1,m',q2,q3⟩:=F m k j hm;exact X m' k q2 q3 (Y k 0 R (by rw[aGk];exact q1 o V))
   simp only[aGU];rw[Lx (hp i o u V h2) (by have:=t8 (GJ U);simpa using this) (c1:=c1) (c2:=c2) (c3:=c3) pV h4 h5];exact hf
  generalize hs:ρ q=s at h0;simp only[uW,hs] at h;obtain⟨d,k⟩:=s;cases d with
  |val u y=>
   simp only[BI] at h;generalize D:Ty.setPart u y t x i=o1 at h;cases o1 with
   |none=>cases ps with
    |nil=>simp [uW,BI] at h
    |cons p ps=>simp [uW,BI] at h
   |some z1=>
    have F: ∀m k,BJ t (uW ρ ((i,q)::ps))=some m->m=0\/m=k->(∀o,t.offs i=some o->yQ k u o (ev q).cells.toList)/\∃m',BJ t (uW ρ ps)=some m'/\(m'=0\/m'=k):=by
     intro m k j hm;simp only[uW,hs,BJ] at j;cases K:M4 u with
     |false=>
      rw[K] at j;simp only[VN] at j;exact⟨fun o _=>ib K (t8 (GJ h0.1)),m,j,hm⟩
     |true=>
      rw[K] at j;cases E:dr u with
      |false=>rw[E] at j;simp [VN] at j
      |true=>
       rw[E] at j;simp only[VN] at j;cases ho:t.offs i with
       |none=>rw[ho] at j;simp [VM] at j
       |some o=>
        rw[ho] at j;cases G:BJ t (uW ρ ps) with
        |none=>rw[G] at j;simp [VM] at j
        |some m'=>
         rw[G] at j;simp only[VM] at j;split at j
         .rename_i Q;subst Q;simp only[aFO] at j;refine⟨fun o' O=>?_,0,rfl,.inl rfl⟩;obtain rfl:=aFU O;cases u with
          |list u=>exact .inl pT
          |_=>simp [dr] at E
         cases j
    obtain⟨cs',k1,k2,k3⟩:=step h0.1 D h F;exact⟨cs',k1,k2,k3⟩
  |nilS=>
   simp only[BI] at h;generalize ha:t.fld i=fl at h;cases fl with
   |none=>cases ps<;>simp [V8,uW,BI] at h
   |some u=>
    cases u with
    |list u=>
     simp only[V8] at h;generalize D:Ty.setPart (.list u) [] t x i=o1 at h;cases o1 with
     |none=>cases ps<;>simp [uW,BI] at h
     |some z1=>
      have I:ev q= .slice none 0 0:=h0.1;refine step (u:= .list u) (y:=[]) ?_ D h (fun m k j hm=>?_)
      .rw[I];exact .inr ⟨rfl,none,0,rfl,aGc _,.inl rfl⟩
      .simp only[uW,hs,BJ] at j;exact⟨fun o _=>by rw[I];exact .inr rfl,m,j,hm⟩
    |_=>cases ps<;>simp [V8,uW,BI] at h
  |_=>simp [BI] at h
section
variable {P:Program}{o:Oper}{a:Act}{g:Gh}{w:qD}{H:sJ}{T:sZ}(hT:xZ P T) (hH:sO g w H)
include hT hH
theorem Lz {P:Program}(w:qD): ∀(fs:List Field),(∀f∈fs,∃n,(P.info? f.type).map (·.size)=some n)->
  (fs.mapM (fun f=>do pure (f.offset,<-sizeOf f.type):Field->Sem (Nat×Nat))).run P w= .ok (fs.map fun f=>(f.offset,((P.info? f.type).map (·.size)).getD 0)) w
 |[],_=>rfl
 |f::fs,h=>by
  obtain⟨n,j⟩:=h f pV;obtain⟨i,hi,z⟩:=aF6.1 j;rw[List.mapM_cons];simp only[aF4,sizeOf,typeInfo,aGR,hi,aFX,aGg];have:=Lz w fs (fun f hf=>h f (by simp [hf]));simp only[sizeOf,typeInfo,aF4,aGR] at this;rw[this];simp [hi]
theorem a4I {P:Program}: ∀{ty:Ty}{off:Nat}{fs:List Field},P6 P ty off fs->∀f∈fs,∃n,(P.info? f.type).map (·.size)=some n:=by
 intro ty
 induction ty with
 |pair a b _ ihb=>
  intro off fs h f hf;cases fs with
  |nil=>cases hf
  |cons fd fs=>
   obtain⟨_,j,_,h4⟩:=h;rcases aF1.1 hf with rfl|hf
   .exact⟨_,j⟩
   .exact ihb h4 f hf
 |unit=>intro off fs h f hf;cases fs with|nil=>cases hf|cons=>exact h.elim
 |_=>intro off fs h f hf;cases fs<;>exact h.elim
omit hT hH in
theorem Ma {t:Ty}{x:t.den}{cs:q8}{ps:List (Nat×qQ)}(h: ∀m k,BJ t ps=some m->m=0\/m=k->yQ k t 0 (uO t)->yQ k t 0 cs):match ((DV.val t x,du t (BJ t ps)):qQ) with
  |(_,none)=>True
  |(.val t x,some k)=>EB g t x (.agg cs.toArray) (some k)
  |(_,some _)=>False:=by
 cases hp:BJ t ps with
 |none=>cases t<;>trivial
 |some m=>
  cases t with
  |pair a b=>
   have:=h m m hp (.inr rfl) (X4 _ _);simpa[du,EB,Value.cells] using this
  |_=>trivial
omit hT in
theorem rR.pureS {s:qQ}{v:qE}(hr:(execOp a.eval o).run P w= .ok (.value v) w) (hs:rX g w s v):rR P o a g w H ⟨[],s,[],[]⟩:=
 rR.value hr (.pure hH hs)
theorem a4J {t:TypeId}{ps:Array (Nat×Operand)}(ho:o.op= .build t ps) {ρ:Operand->qQ}(hρ: ∀q∈ps.toList,rX g w (ρ q.2) (a.eval q.2)) {e:r6}(hr:dv (uW ρ ps.toList) (s5 T t)=some e):rR P o a g w H e:=by
 generalize hs:s5 T t=ot at hr;cases ot with
 |none=>cases hr
 |some ti=>
  have F:=tB hT hs;simp only[dv] at hr;by_cases h:ti.ty.isRow=true
  case neg=>rw[aFQ h] at hr;cases hr
  rw[aFP h] at hr;generalize hb:BI ti.ty (some ti.ty.zero) (uW ρ ps.toList)=ox at hr;cases ox with
  |none=>cases hr
  |some x=>
   cases hr;obtain⟨i,hi,ha,hz⟩:=F5 F;have R:yR ti.ty= .agg (uO ti.ty).toArray:=by unfold yR;rw[aFP h]
   have E: ∀w,(zeroValue t).run P w= .ok (.agg (uO ti.ty).toArray) w:=by
    intro w;simp [zeroValue,typeInfo,hi,hz,R]
   have z:(ps.map fun(q:Nat×Operand)=>(q.1,a.eval q.2)).toList=ps.toList.map fun q=>(q.1,a.eval q.2):=by simp
   rcases gz F h with⟨Z,fs,X,G⟩ |⟨Z,n,el,hu,Y,D⟩
   .have U:=Lz (P:=P) hT hH w fs.toList (a4I hT hH G);obtain⟨cs',hf,K,M⟩:=ie (g:=g) (w:=w) (ev:=a.eval) (ρ:=ρ) (t:=ti.ty) (place:=fun j=>((fs.map fun f=>(f.offset,((P.info? f.type).map (·.size)).getD 0))[j]?)) (fun f oo u Q O=>by
     obtain⟨fd,k1,k2,k3,_⟩:=gx G Q O;have k1':fs[f]? =some fd:=by simpa using k1
     simp [k1',k2,k3]) ps.toList ti.ty.zero x (uO ti.ty) (F3 g w ti.ty) hρ hb
    refine rR.pureS hH (v:= .agg cs'.toArray) ?_ ⟨.inl ⟨h,cs',rfl,K⟩,Ma M⟩;have V:(fs.mapM (fun f=>do pure (f.offset,<-sizeOf f.type):Field->Sem (Nat×Nat))).run P w= .ok (fs.map fun f=>(f.offset,((P.info? f.type).map (·.size)).getD 0)) w:=by
     rw[Array.mapM_eq_mapM_toList,Sem.run_map,U];simp only[aFX];congr 1;apply aG3.1;simp
    simp only[execOp,ho,Instr.build,aF4,E,aFX,aGe X,V,Value.cells];rw[z,hf];rfl
   obtain⟨cs',hf,K,M⟩:=ie (g:=g) (w:=w) (ev:=a.eval) (ρ:=ρ) (t:=ti.ty) (place:=fun j=>some (j*((P.info? el).map (·.size)).getD 0,((P.info? el).map (·.size)).getD 0)) (fun f oo u Q O=>by
    obtain⟨k1,k2,k3,k4⟩:=gy Y Q O;simp [k2,k4]) ps.toList ti.ty.zero x (uO ti.ty) (F3 g w ti.ty) hρ hb
   refine rR.pureS hH (v:= .agg cs'.toArray) ?_ ⟨.inl ⟨h,cs',rfl,K⟩,Ma M⟩;obtain⟨ei,I⟩:=aFS.1 D;simp only[I,Option.map_some,aHV] at hf;simp only[execOp,ho,Instr.build,aF4,E,aFX,aGe hu,sizeOf,typeInfo,aGR,I,aGg,Value.cells];rw[z,hf];rfl
theorem ig {ρ:Operand->qQ}{ev:Operand->qE}: ∀{xs:List Operand}{ss:List qQ},(∀x∈xs,rX g w (ρ x) (ev x))->w6 ρ xs=ss->∃vs,xs.map ev=vs/\vs.length=ss.length/\∀(i:Nat) (s:qQ) (v:qE),ss[i]? =some s->vs[i]? =some v->rX g w s v
 |[],_,_,h=>⟨[],rfl,by rw[<-h];rfl,fun i s v _ j=>by simp at j⟩
 |x::xs,ss,z,h=>by
  subst h;obtain⟨vs,F,E,h3⟩:=ig (fun y D=>z y (by simp [D])) rfl (xs:=xs);refine⟨ev x::vs,by simp [F],by simp [w6,E],fun i s v hs j=>?_⟩;cases i with
  |zero=>
   simp only[w6,aGo,aFO] at hs j;subst hs;subst j;exact z x pV
  |succ i=>
   simp only[w6,aGC] at hs j;exact h3 i s v hs j
theorem X5 {ρ:Operand->qQ}{ev:Operand->qE}{args:Array Operand}{s:qQ}(hρ: ∀x∈args.toList,rX g w (ρ x) (ev x)) (h:w6 ρ args.toList=[s]): ∃v,args.map ev= #[v]/\rX g w s v:=by
 obtain⟨vs,z,j,h3⟩:=ig hT hH hρ h;obtain⟨v,rfl⟩:=aHc.1 j;exact⟨v,by apply aG3.1;simpa using z,h3 0 s v rfl rfl⟩
theorem X6 {ρ:Operand->qQ}{ev:Operand->qE}{args:Array Operand}{s t:qQ}(hρ: ∀x∈args.toList,rX g w (ρ x) (ev x)) (h:w6 ρ args.toList=[s,t]): ∃v u,args.map ev= #[v,u]/\rX g w s v/\rX g w t u:=by
 obtain⟨vs,z,j,h3⟩:=ig hT hH hρ h
 match vs,j with
 |[v,u],_=>exact⟨v,u,by apply aG3.1;simpa using z,h3 0 s v rfl rfl,h3 1 t u rfl rfl⟩
theorem I9 {b:Builtin}{args:Array Operand}{tys:Array TypeId}(ho:o.op= .call ⟨.builtin b,args,tys⟩):
  ∃cs,execOp a.eval o=builtin b tys o.type cs (args.map a.eval):=by
 refine⟨args.map fun| .const _=>true|_=>false,?_⟩
 unfold execOp;rw[ho];rfl
theorem a4K (x y:Int):(if y<x then y else x)=min x y:=by rw[Int.min_def];split<;>split<;>omega
theorem a4L (x y:Int):(if y>x then y else x)=max x y:=by rw[Int.max_def];split<;>split<;>omega
theorem a4M {args:Array Operand}{tys:Array TypeId}(ho:o.op= .call ⟨.builtin .len,args,tys⟩) {ρ:Operand->qQ}(hρ: ∀x∈args.toList,rX g w (ρ x) (a.eval x)) {e:r6}
  (hr:WH T H (w6 ρ args.toList) tys.toList=some e):rR P o a g w H e:=by
 obtain⟨t0,tr,I⟩: ∃t0 tr,tys.toList=t0::tr:=by cases h:tys.toList with|nil=>(rw[h] at hr;cases hr) |cons t r=>exact⟨t,r,rfl⟩
 have D:tys[0]? =some t0:=by rw[<-aGX,I];rfl
 rw[I] at hr;simp only[WH] at hr;generalize hst:s5 T t0=ot at hr;generalize E:w6 ρ args.toList=ss at hr;unfold fp at hr;split at hr
 .rename_i el fl ar ls_ i k;generalize hb:qS H i=ob at hr;unfold WB at hr;split at hr
  .rename_i kt vt l;cases hr;obtain⟨v,G,hs⟩:=X5 hT hH hρ E;have z:=(tB hT hst).2;simp only[xY] at z;obtain⟨p,es,cl,hp,Z,U,V,hS⟩:=hH.blk i _ hb;obtain⟨p',K,Q⟩: ∃p,g.J i=some p/\v= .map (some p.1):=by
    rcases hs.1 with⟨Y,_⟩ |⟨_,p,h3,h4⟩
    .cases Y
    simp only[aGD,and_true] at h4;exact⟨p,h3,h4⟩
   rw[hp] at K;obtain rfl:=aFU K;have O: ∀{l:List (kt.den×vt.den)}{es:List MapEntry},F2 g w kt vt l es->es.length=l.length:=by
    intro l
    induction l with
    |nil=>intro es h;rw[show es=[] from h];rfl
    |cons q l ih=>intro es h;obtain⟨e,es',rfl,_,_,X⟩:=h;simp [ih X]
   refine rR.pure hH (v:= .int .i64 (List.length l:Int)) ?_ (wN _ _ _ _);obtain⟨cs,F⟩:=I9 (a:=a) hT hH ho;rw[F,G,Q];have j:(#[Value.map (some p.1)]:Array qE)[0]? =some (.map (some p.1)):=rfl;have M:(getObj p.1).run P w= .ok (.map es cl) w:=by simp [getObj,Sem.run,U]
   simp only[builtin,Builtin.len_,D,j,aF4,aGe z,aFX,aGg,goInt,M];rw[<-O V,aGP]
  cases hr
 .rename_i el by' ar ls_ l k;cases hr;obtain⟨v,G,hs⟩:=X5 hT hH hρ E;have z:=(tB hT hst).2;simp only[xY] at z;have R:=x7 hs.1;refine rR.pure hH (v:= .int .i64 (List.length l:Int)) ?_ (wN _ _ _ _);subst R;obtain⟨cs,F⟩:=I9 (a:=a) hT hH ho;rw[F,G];have j:(#[Value.string ⟨List.toArray l⟩]:Array qE)[0]? =some (.string ⟨List.toArray l⟩):=rfl;simp only[builtin,Builtin.len_,D,j,aF4,aGe z,aFX,aGg,goInt];rfl
 .rename_i u el by' ar ls_ t l k;cases hr;obtain⟨v,G,hs⟩:=X5 hT hH hρ E;have z:=(tB hT hst).2.1;obtain⟨ad,cap,rfl,_⟩:=F4 hs.1;refine rR.pure hH (v:= .int .i64 (List.length l:Int)) ?_ (wN _ _ _ _);obtain⟨cs,F⟩:=I9 (a:=a) hT hH ho;rw[F,G];have j:(#[Value.slice ad (List.length l) cap]:Array qE)[0]? =some (.slice ad (List.length l) cap):=rfl;simp only[builtin,Builtin.len_,D,j,aF4,aGe z,aFX,aGg,goInt]
 .rename_i u el by' ar ls_ ko n k;cases hr;obtain⟨v,G,hs⟩:=X5 hT hH hρ E;have z:=(tB hT hst).2.1;obtain⟨ad,cap,rfl⟩: ∃ad cap,v= .slice ad n cap:=by
   rcases hs.1.2 with⟨h,rfl⟩ |⟨b,cap,h,_⟩
   .exact⟨_,_,h⟩
   exact⟨_,_,h⟩
  refine rR.pure hH (v:= .int .i64 (n:Int)) ?_ (wN _ _ _ _);obtain⟨cs,F⟩:=I9 (a:=a) hT hH ho;rw[F,G];have j:(#[Value.slice ad n cap]:Array qE)[0]? =some (.slice ad n cap):=rfl;simp only[builtin,Builtin.len_,D,j,aF4,aGe z,aFX,aGg,goInt]
 cases hr
theorem Mb {args:Array Operand}{tys:Array TypeId}{mx:Bool}(ho:o.op= .call ⟨.builtin (if mx then .max else .min),args,tys⟩) {ρ:Operand->qQ}(hρ: ∀x∈args.toList,rX g w (ρ x) (a.eval x)) {e:r6}
  (hr:BH (WF mx (w6 ρ args.toList))=some e):rR P o a g w H e:=by
 obtain⟨q,hq,rfl⟩:=K3 hr;generalize j:w6 ρ args.toList=ss at hq;unfold WF at hq;split at hq
 .rename_i k x k1 k' y k2;split at hq
  .rename_i F;subst F;cases hq;obtain⟨v,u,E,D,z⟩:=X6 hT hH hρ j;have e1:=wH D.1;have e2:=wH z.1;subst e1;subst e2;cases mx
   .refine rR.pure hH (v:= .int k (min (x:Int) y)) ?_ (wN _ _ _ _);obtain⟨cs,h⟩:=I9 (a:=a) hT hH ho;rw[h,E];have:=a4K hT hH x y;simp [builtin,Builtin.min_,Builtin.min2,this]
   refine rR.pure hH (v:= .int k (max (x:Int) y)) ?_ (wN _ _ _ _);obtain⟨cs,h⟩:=I9 (a:=a) hT hH ho;rw[h,E];have:=a4L hT hH x y;simp [builtin,Builtin.max_,Builtin.max2,this]
  cases hq
 cases hq
theorem a4N {f:FuncId}{caps:Array Operand}(ho:o.op= .makeFunc (.func f) #[] caps) {ρ:Operand->qQ}(hρ: ∀x∈caps.toList,rX g w (ρ x) (a.eval x)) {e:r6}
  (hr:Ko f (LX (w6 ρ caps.toList))=some e):rR P o a g w H e:=by
 generalize F:LX (w6 ρ caps.toList)=oc at hr;cases oc with
 |none=>cases hr
 |some l=>
  cases hr;have key: ∀(xs:List Operand) (l:pY),(∀x∈xs,rX g w (ρ x) (a.eval x))->LX (w6 ρ xs)=some l->zE g l (xs.map a.eval):=by
   intro xs
   induction xs with
   |nil=>intro l _ h;simp only[w6,LX,aFO] at h;subst h;rfl
   |cons x xs ih=>
    intro l z h;have h0:=z x pV;generalize hs:ρ x=s at h0;simp only[w6,hs] at h;obtain⟨d,k⟩:=s;unfold LX at h;split at h
    .cases ‹_=[]›
    .rename_i p k r heq;simp only[aGD,aGi] at heq;obtain⟨⟨rfl,rfl⟩,rfl⟩:=heq;obtain⟨l',j,rfl⟩:=aF6.1 h;obtain⟨i,off⟩:=p;obtain⟨p,hp,E⟩:=y6 h0.1;exact⟨p,_,hp,by rw[aGU,E],ih l' (fun y D=>z y (by simp [D])) j⟩
    cases h
  refine rR.pure hH (v:= .func (.func f) #[] (caps.map a.eval)) ?_ (.inr ⟨rfl,caps.toList.map a.eval,key _ _ hρ F,by congr 2;apply aG3.1;simp⟩);simp [execOp,ho,Instr.makeFunc]
end
theorem ii {α:Type}{l:List α}{m n:Int}(h0:0<=m) (j:m<=n) (h:n<=(l.length:Int)):(sG l m n).length=n.toNat-m.toNat:=by
  unfold sG;rw[aGy,aGp];omega
theorem X7 {α:Type}{R:α->q8->Prop}{c:Nat}: ∀{l:List α}{cs:q8}{i:Nat}{x:α},uI R c l cs->l[i]? =some x->∃c1 c2 c3,cs=c1++c2++c3/\c1.length=i*c/\c2.length=c/\R x c2
  | y::l,_,0,x,⟨c1,c2,e,j,z,h3⟩,h=>by
    simp only[aGo,aFO] at h;subst h;exact⟨[],c1,c2,by simpa using e,by simp,j,z⟩
  | y::l,_,i+1,x,⟨c1,c2,e,j,z,h3⟩,h=>by
    simp only[aGC] at h;obtain⟨d1,d2,d3,e1,e2,e3,e4⟩:=X7 h3 h;exact⟨c1++d1,d2,d3,by rw[e,e1];simp,by rw[aFR,j,e2,aG5];omega,e3,e4⟩
theorem Mc {t:Ty}{l:List t.den}{i:Int}(h0:0<=i) (h:i.toNat<l.length):l[i.toNat]? =some (qV t l i):=by
  unfold qV;rw[aGb,aFW h];rfl
theorem K4 {α:Type}{R:α->q8->Prop}{w:qD}{S:Nat->Nat->Prop}{c b:Nat}: ∀{l:List α}{o:Nat}{cs:q8},uI R c l cs->w.rangeAt b o cs->(∀j,j<l.length*c->S b (o+j))->zD R w S c b o l
  |[],_,_,_,_,_=>trivial
  | x::l,o,cs,⟨c1,c2,e,D,F,h3⟩,hr,z=>by
    subst e;refine⟨⟨c1,D,fun j v h=>hr j v (by rw[aF9 (aF5.1 h).1];exact h),fun j E=>z j (by rw[aFV,aG5];omega),F⟩,K4 h3 (fun j v h=>?_) (fun j E=>?_)⟩
    · have:=hr (c+j) v (by rw[aFZ pT,D,aGB];exact h)
      rwa [<-aGv] at this
    have:=z (c+j) (by rw[aFV,aG5];omega)
    rwa [<-aGv] at this
theorem ij {u0:Ty}{l:List u0.den}: ∀{t:Ty}{x:t.den}{q: Σ t:Ty,t.den},AF u0 l t x=some q->q.1.cells=t.cells:=by
  intro t
  induction t with
  | rl e u=>
    intro x q h;cases x with
    |none=>cases h
    | some p=>
      simp only[AF,ee] at h;split at h
      .cases h;rfl
      .cases h
  | pair a b iha ihb=>
    intro x q h;simp only[AF] at h;cases hf:CK a x.1 with
    | some p=>
      rw[hf] at h;cases hq:AF u0 l a x.1 with
      |none=>rw[hq] at h;cases h
      | some r=>
        obtain⟨a',x'⟩:=r;rw[hq] at h;simp only[M5,aFO] at h;subst h;have:=iha hq;simp only[Ty.cells] at this|-;omega
    | none=>
      rw[hf] at h;cases hq:AF u0 l b x.2 with
      |none=>rw[hq] at h;simp [M5] at h
      | some r=>
        obtain⟨b',y'⟩:=r;rw[hq] at h;simp only[M5,aFO] at h;subst h;have:=ihb hq;simp only[Ty.cells] at this|-;omega
  |_=>intro x q h;simp [AF] at h
theorem a4O {g:Gh}{w:qD}{k n:Nat}{u0:Ty}{l:List u0.den}(D: ∀cs,CN g (some (k,n)) cs->Rd g w (.list u0) l cs): ∀{t:Ty}{x:t.den}{cs:q8}{q: Σ t:Ty,t.den},CK t x=some (k,n)->AF u0 l t x=some q->Rd g w t x cs->Rd g w q.1 q.2 cs:=by
  intro t
  induction t with
  | rl e u=>
    intro x cs q hf h r;simp only[CK] at hf;subst hf;simp only[AF,ee] at h;split at h
    · cases h
      exact D _ r
    .cases h
  | pair a b iha ihb=>
    intro x cs q hf h r;obtain⟨c1,c2,e,r1,r2⟩:=r;simp only[CK] at hf;simp only[AF] at h;cases j:CK a x.1 with
    | some p=>
      rw[j] at h hf;simp only[ec,aFO] at hf;subst hf;cases hq:AF u0 l a x.1 with
      |none=>rw[hq] at h;cases h
      | some z=>
        obtain⟨a',x'⟩:=z;rw[hq] at h;simp only[M5,aFO] at h;subst h;exact⟨c1,c2,e,iha j hq r1,r2⟩
    | none=>
      rw[j] at h hf;simp only[ec] at hf;cases hq:AF u0 l b x.2 with
      |none=>rw[hq] at h;simp [M5] at h
      | some z=>
        obtain⟨b',y'⟩:=z;rw[hq] at h;simp only[M5,aFO] at h;subst h;exact⟨c1,c2,e,r1,ihb hf hq r2⟩
  |_=>intro x cs q hf;simp [CK] at hf
theorem a4P {g:Gh}{w:qD}{H:sJ}(hH:sO g w H) {k i:Nat}{e:TypeId}{t:Ty}{l:List t.den}{n:Nat}(V:qS H k=some (.row e t l n)) {u:Ty}{x:u.den}{toks:pY}(hi:qS H i=some (.cells u x toks)) (hy:CK u x=some (k,n)) {q: Σ t:Ty,t.den}(hq:AF t l u x=some q):
    ∃ g',sO g' w (rD [(i,qP.cells q.1 q.2 []),(k,qP.grow e t.cells (List.length l))] H)/\g'.J=g.J/\
      ∀side s rds v,JO rds=true->rX g' w s v->AI g w H ⟨side,s,[(i,qP.cells q.1 q.2 []),(k,qP.grow e t.cells (List.length l))],rds⟩ g' w v:=by
  obtain⟨hl,v,xs,hv,F,hF,Q,O⟩:=hH.blk k _ V
  let g':Gh:={g with S:=fun b o=>g.S b o\/(v.ownBlock=some b/\o<n*t.cells)}
  have le:Le g w g' w:=⟨fun _ _ h=> .inl h,fun _ _ _=>rfl,fun _ _ h=>h,fun _ _ _ h=>h⟩;have E: ∀b,v.ownBlock=some b->∀o,sL g k (.row e t l n) b o:=fun b hb o=>⟨v,hv,hb⟩
  have R: ∀u,g.cur k n=some u->((u= .slice none 0 0/\n=0)\/∃b cap,u= .slice (some ⟨b,0,none⟩) n cap/\n<=cap)->tJ g' w (.list t) l u:=by
    intro u U I;rw[hv] at U;obtain rfl:=aFU U;rcases I with⟨rfl,h0⟩ |⟨b,cap,rfl,hd⟩
    · have:l=[]:=aGl (by rw[hl,h0])
      subst this;exact .inr ⟨rfl,none,0,rfl,aGc _,.inl rfl⟩
    refine .inr ⟨rfl,some ⟨b,0,none⟩,cap,by rw[hl],by rw[hl];exact hd,.inr ⟨b,0,rfl,K4 (DA (fun _ _ h=>wW le h) hF) (fun j u U=>?_) (fun j hj=>?_)⟩⟩
    · have:=F.cells (g:=b) rfl j u U
      rwa [aG8] at this
    right
    exact⟨rfl,by rw[hl] at hj;omega⟩
  have ht:i≠k:=fun e1=>by rw[e1,V] at hi;cases hi
  obtain⟨p0,cs0,Z,hz,ha,K,hc,_⟩:=hH.blk i _ hi
  let b':qP:= .cells q.1 q.2 []
  let H':sJ:=(i,b')::(k,qP.grow e t.cells (List.length l))::H
  have M: ∀i' b,qS H' i'=some b->(i'=i/\b=b')\/(i'=k/\b= .grow e t.cells (List.length l))\/(i'≠k/\i'≠i/\qS H i'=some b):=by
    intro i' b hb;simp only[H',qS] at hb;split at hb
    .rename_i e1;exact .inl ⟨e1.symm,(aFU hb).symm⟩
    rename_i e1
    split at hb
    .rename_i e2;exact .inr (.inl ⟨e2.symm,(aFU hb).symm⟩)
    rename_i e2;exact .inr (.inr ⟨Ne.symm e2,Ne.symm e1,hb⟩)
  have D: ∀i' b bb o,qS H' i'=some b->sL g' i' b bb o->∃b0,qS H i'=some b0/\sL g i' b0 bb o:=by
    intro i' b bb o hb ho;rcases M i' b hb with⟨rfl,rfl⟩ |⟨rfl,rfl⟩ |⟨_,_,X⟩
    · obtain⟨p,hp,e1,e2,e3⟩:=ho
      rw[ij hq] at e3;exact⟨_,hi,p,hp,e1,e2,e3⟩
    · obtain⟨u,U,he⟩:=ho
      have Y:g.cur i' (List.length l)=some u:=U;rw[hl] at Y;exact⟨_,V,u,Y,he⟩
    exact⟨b,X,(xX (g':=g') (g:=g) rfl rfl).1 ho⟩
  have G:sO g' w H':=by
    refine⟨fun i' b hb=>?_,fun i' j bi bj b o hx X h2 o1 o2=>?_,fun b o z=>?_,hH.tab.1,fun i' b bb oo hb ho=>by
      obtain⟨c1,k1,k2⟩:=D i' b bb oo hb ho;exact hH.tab.2 i' c1 bb oo k1 k2⟩
    · rcases M i' b hb with⟨rfl,rfl⟩ |⟨rfl,rfl⟩ |⟨hne,_,X⟩
      · have hn: ∀cs,CN g' (some (k,n)) cs->Rd g' w (.list t) l cs:=by
          rintro cs ⟨v1,z1,z2,z3⟩;rw[z2];exact y5 rfl (R v1 z1 z3)
        refine⟨p0,cs0,Z,a4O (n:=n) hn hy hq (wW le hz),ha,?_,?_,fun _ _ hm=>by cases hm⟩
        .rw[ij hq];exact⟨K.1,K.2⟩
        rw[ij hq]
        intro j hj z;rcases z with z|z
        .exact hc j hj z
        exact hH.dis i' k _ _ p0.1 (p0.2+j) ht hi V ⟨p0,Z,rfl,pT,pT⟩ (E _ z.1 _)
      · refine⟨v,xs,by rw[hl];exact hv,by rw[hl];exact F,fun m hm=>Q m (by rw[hl] at hm;exact hm),fun b hb o z=>?_⟩
        rw[hl];rcases z with z|z
        .exact absurd z (O b hb o)
        exact z.2
      exact K2 (hH.blk i' b X) le rfl rfl (fun _ _ _=>⟨rfl,rfl⟩) (fun _ _=>rfl) (fun bb o ho z=>by
         rcases z with z|z
         .exact z
         exact absurd (E bb z.1 o) (fun h5=>hH.dis i' k b _ bb o hne X V ho h5)) (fun _ _ _ _ h=>h)
    · obtain⟨c1,k1,k2⟩:=D i' bi b o X o1
      obtain⟨c2,k3,k4⟩:=D j bj b o h2 o2;exact hH.dis i' j c1 c2 b o hx k1 k3 k2 k4
    rcases z with z|z
    .exact hH.sl b o z
    exact MO F z.1
  refine⟨g',G,rfl,fun side s rds vv hh hs=>⟨le,hs,G,⟨rfl,rfl,rfl,aGc _,fun _ _ _=>rfl,fun _ _ _ _=>⟨rfl,rfl⟩,fun b o z=>?_,fun _ _ h=> .inl h⟩,fun i' blk b o hm hg ho=>?_,fun _ _=>⟨rfl,rfl⟩,fun h=>by rw[hh] at h;cases h⟩⟩
  · rcases z with z|z
    .exact .inl z
    exact .inr (.inr ⟨k,_,by simp [qU],V,E b z.1 o⟩)
  obtain⟨b0,k1,k2⟩:=D i' blk b o hg ho
  exact .inr ⟨i',b0,hm,k1,k2⟩
theorem a4Q {g:Gh}{w:qD}{H:sJ}(hH:sO g w H) {k:Nat}{e:TypeId}{t:Ty}{l:List t.den}{n:Nat}(Y:qS H k=some (.row e t l n)):
    ∃g',g'.J=g.J/\g'.cur=g.cur/\rU g w H ⟨[],(.any,none),[(k,qP.grow e t.cells (List.length l))],[]⟩ g' w undef/\∀cs,CN g' (some (k,n)) cs->Rd g' w (.list t) l cs:=by
  obtain⟨hl,v,xs,Z,E,hF,O,M⟩:=hH.blk k _ Y
  let g':Gh:={g with S:=fun b o=>g.S b o\/(v.ownBlock=some b/\o<n*t.cells)}
  have le:Le g w g' w:=⟨fun _ _ h=> .inl h,fun _ _ _=>rfl,fun _ _ h=>h,fun _ _ _ h=>h⟩;have G: ∀b,v.ownBlock=some b->∀o,sL g k (.row e t l n) b o:=fun b hb o=>⟨v,Z,hb⟩
  have Q: ∀u,g.cur k n=some u->((u= .slice none 0 0/\n=0)\/∃b cap,u= .slice (some ⟨b,0,none⟩) n cap/\n<=cap)->tJ g' w (.list t) l u:=by
    intro u U K;rw[Z] at U;obtain rfl:=aFU U;rcases K with⟨rfl,h0⟩ |⟨b,cap,rfl,X⟩
    · have:l=[]:=aGl (by rw[hl,h0])
      subst this;exact .inr ⟨rfl,none,0,rfl,aGc _,.inl rfl⟩
    refine .inr ⟨rfl,some ⟨b,0,none⟩,cap,by rw[hl],by rw[hl];exact X,.inr ⟨b,0,rfl,K4 (DA (fun _ _ h=>wW le h) hF) (fun j u U=>?_) (fun j hj=>?_)⟩⟩
    · have:=E.cells (g:=b) rfl j u U
      rwa [aG8] at this
    right
    exact⟨rfl,by rw[hl] at hj;omega⟩
  have F: ∀i' b,qS ((k,qP.grow e t.cells (List.length l))::H) i'=some b->(i'=k/\b= .grow e t.cells (List.length l))\/(i'≠k/\qS H i'=some b):=by
    intro i' b hb;simp only[qS] at hb;split at hb
    .rename_i e1;exact .inl ⟨e1.symm,(aFU hb).symm⟩
    rename_i e1;exact .inr ⟨Ne.symm e1,hb⟩
  have D: ∀i' b bb o,qS ((k,qP.grow e t.cells (List.length l))::H) i'=some b->sL g' i' b bb o->∃b0,qS H i'=some b0/\sL g i' b0 bb o:=by
    intro i' b bb o hb ho;rcases F i' b hb with⟨rfl,rfl⟩ |⟨_,I⟩
    · obtain⟨u,U,ha⟩:=ho
      have V:g.cur i' (List.length l)=some u:=U;rw[hl] at V;exact⟨_,Y,u,V,ha⟩
    exact⟨b,I,(xX (g':=g') (g:=g) rfl rfl).1 ho⟩
  have R:sO g' w ((k,qP.grow e t.cells (List.length l))::H):=by
    refine⟨fun i' b hb=>?_,fun i' j bi bj b o hc I h2 o1 o2=>?_,fun b o z=>?_,hH.tab.1,fun i' b bb oo hb ho=>by
      obtain⟨c1,k1,k2⟩:=D i' b bb oo hb ho;exact hH.tab.2 i' c1 bb oo k1 k2⟩
    · rcases F i' b hb with⟨rfl,rfl⟩ |⟨hne,I⟩
      · refine⟨v,xs,by rw[hl];exact Z,by rw[hl];exact E,fun m hm=>O m (by rw[hl] at hm;exact hm),fun b hb o z=>?_⟩
        rw[hl];rcases z with z|z
        .exact absurd z (M b hb o)
        exact z.2
      exact K2 (hH.blk i' b I) le rfl rfl (fun _ _ _=>⟨rfl,rfl⟩) (fun _ _=>rfl) (fun bb o ho z=>by
         rcases z with z|z
         .exact z
         exact absurd (G bb z.1 o) (fun h5=>hH.dis i' k b _ bb o hne I Y ho h5)) (fun _ _ _ _ h=>h)
    · obtain⟨c1,k1,k2⟩:=D i' bi b o I o1
      obtain⟨c2,k3,k4⟩:=D j bj b o h2 o2;exact hH.dis i' j c1 c2 b o hc k1 k3 k2 k4
    rcases z with z|z
    .exact hH.sl b o z
    exact MO E z.1
  refine⟨g',rfl,rfl,⟨le,⟨trivial,trivial⟩,R,⟨rfl,rfl,rfl,aGc _,fun _ _ _=>rfl,fun _ _ _ _=>⟨rfl,rfl⟩,fun b o z=>?_,fun _ _ h=> .inl h⟩,fun i' blk b o hm hg ho=>?_,fun _ _=>⟨rfl,rfl⟩,fun i' u y us hg=>?_⟩,?_⟩
  · rcases z with z|z
    .exact .inl z
    exact .inr (.inr ⟨k,_,by simp [qU],Y,G b z.1 o⟩)
  · obtain⟨b0,k1,k2⟩:=D i' blk b o hg ho
    exact .inr ⟨i',b0,hm,k1,k2⟩
  · rcases F i' _ hg with⟨_,I⟩ |⟨_,I⟩
    .cases I
    exact .inl ⟨y,us,I⟩
  rintro cs ⟨v1,z1,z2,z3⟩
  rw[z2];exact y5 rfl (Q v1 z1 z3)
theorem Md {g:Gh}{w:qD}{H:sJ}(hH:sO g w H) {k:Nat}{e:TypeId}{t:Ty}{l:List t.den}{n:Nat}(h:qS H k=some (.row e t l n)):
    ∃g',g'.J=g.J/\g'.cur=g.cur/\rU g w H ⟨[],(.any,none),[(k,qP.grow e t.cells n)],[]⟩ g' w undef/\∀cs,CN g' (some (k,n)) cs->Rd g' w (.list t) l cs:=by
  have hl:l.length=n:=(hH.blk k _ h).1;obtain⟨g',z,j,h3,h4⟩:=a4Q hH h;rw[hl] at h3;exact⟨g',z,j,h3,h4⟩
theorem Me {k:Nat}: ∀{r:pY},RL k r=false->∀p∈r,p.1≠k
  |[],_,p,hp=>by cases hp
  | (j,m)::r,h,p,hp=>by
    simp only[RL] at h;split at h
    .cases h
    rename_i hne
    rcases aF1.1 hp with rfl|hp
    .exact hne
    exact Me h p hp
theorem Mf {w:qD}{H:sJ}: ∀{ks:pY}{ps:List Prop}{bs:List (Nat×qP)}{g:Gh},sO g w H->CL H ks=some (ps,bs)->(∀p∈ps,p)->
    ∃g',g'.J=g.J/\g'.cur=g.cur/\rU g w H ⟨[],(.any,none),bs,[]⟩ g' w undef/\(∀i,i∈qU bs->∃p∈ks,p.1=i)/\∀p∈ks,∀e t l m,qS H p.1=some (.row e t l m)->∀cs,CN g' (some p) cs->Rd g' w (.list t) l cs
  | [],ps,bs,g,hH,h,_=>by
    simp only[CL,aFO,aGi] at h;obtain⟨rfl,rfl⟩:=h;exact⟨g,rfl,rfl,.pure hH ⟨trivial,trivial⟩,fun i hi=>(by cases hi),fun p hp=>(by cases hp)⟩
  | (k,n)::r,ps,bs,g,hH,h,hs=>by
    simp only[CL] at h;split at h
    .cases h
    rename_i E
    have E:RL k r=false:=by simpa using E
    cases D:VS k n (qS H k) with
    |none=>rw[D] at h;simp [M6] at h
    | some q=>
      obtain⟨pp,b⟩:=q;cases F:CL H r with
      |none=>rw[D,F] at h;simp [M6] at h
      | some q2=>
        obtain⟨ps2,bs2⟩:=q2;rw[D,F] at h;simp only[M6,aFO,aGi] at h;obtain⟨rfl,rfl⟩:=h;obtain⟨g1,k1,k2,k3,k4,k5⟩:=Mf hH F (fun p hp=>hs p (aF2 _ hp));unfold VS at D;split at D
        · rename_i e t l m M
          cases D;have G:n=m:=hs _ aGa;subst G
          have I:k∉qU bs2:=fun hi=>by
            obtain⟨p,hp,e1⟩:=k4 k hi;exact Me E p hp e1
          have K:qS (rD bs2 H) k=some (.row e t l n):=(AY I).trans M;obtain⟨g2,m1,m2,m3,m4⟩:=Md k3.heap K;refine⟨g2,m1.trans k1,m2.trans k2,k3.trans m3,fun i hi=>?_,fun p hp e' t' l' m' z cs hr=>?_⟩
          · simp only[rD,qU,aF1] at hi
            rcases hi with rfl|hi
            .exact⟨_,aGa,rfl⟩
            obtain⟨p,hp,e1⟩:=k4 i hi
            exact⟨p,aF2 _ hp,e1⟩
          rcases aF1.1 hp with rfl|hp
          · simp only at z
            rw[M] at z;simp only[aFO,qP.row.injEq] at z;obtain⟨rfl,rfl,rfl,rfl⟩:=z;exact m4 cs hr
          obtain⟨j,q⟩:=p
          refine wW m3.le (k5 _ hp e' t' l' m' z cs ?_);obtain⟨v,v1,v2⟩:=hr;exact⟨v,by rw[<-m2];exact v1,v2⟩
        cases D
theorem a4R {g:Gh}{w:qD}{H:sJ}: ∀{t:Ty}{x:t.den}{y:(I1 t).den}{cs:q8},BK H t x=some y->Rd g w t x cs->(∀p∈BL t x,∀e t' l m,qS H p.1=some (.row e t' l m)->∀cs,CN g (some p) cs->Rd g w (.list t') l cs)->Rd g w (I1 t) y cs:=by
  intro t
  induction t with
  | rl e u=>
    intro x y cs h r j;cases x with
    | none=>
      obtain rfl:[]=y:=aFU h;exact⟨none,0,r,aGc _,.inl rfl⟩
    | some p=>
      obtain⟨k,n⟩:=p;simp only[BK,ej] at h;unfold Kh at h;split at h
      · rename_i e' t' l m F
        split at h
        · rename_i E
          subst E;cases h;exact j (k,n) (by simp [BL,ek]) _ _ _ _ F cs r
        cases h
      .cases h
  | pair a b iha ihb=>
    intro x y cs h r j;simp only[BK] at h;obtain⟨c1,c2,e,r1,r2⟩:=r;cases z:BK H a x.1 with
    |none=>rw[z] at h;simp [GA] at h
    | some y1=>
      cases D:BK H b x.2 with
      |none=>rw[z,D] at h;simp [GA] at h
      | some y2=>
        rw[z,D] at h;cases h;exact⟨c1,c2,e,iha z r1 (fun p hp=>j p (by simp only[BL];exact I8.2 (.inl hp))),ihb D r2 (fun p hp=>j p (by simp only[BL];exact I8.2 (.inr hp)))⟩
  |_=>intro x y cs h r _;cases h;exact r
section
variable {P:Program}{o:Oper}{a:Act}{g:Gh}{w:qD}{H:sJ}{T:sZ}(hT:xZ P T) (hH:sO g w H)
include hT hH
theorem P7 {t:TypeId}{ti:TI}(z:tU P t ti) {x:ti.ty.den}{b off:Nat}{cs:q8}(D:w.rangeAt b off cs) (F:Rd g w ti.ty x cs):
    ∃v,(Instr.loadAt t (.pointer (some ⟨b,off,none⟩))).run P w= .ok v w/\tJ g w ti.ty x v/\v.cells.toList=cs:=by
  obtain⟨d,K,h⟩:=X3 z;obtain⟨i,hi,I,_⟩:=F5 z;have hl:=t8 F;by_cases hr:ti.ty.isRow=true
  .refine⟨.agg cs.toArray,run_loadAt_mid w b off t cs d D K (by rw[h,hr]) (by rw[hi,Option.map_some,I,hl]),.inl ⟨hr,cs,rfl,F⟩,by simp [Value.cells]⟩
  have j:ti.ty.isRow=false:=by simpa using hr
  have O:ti.ty.cells=1:=by
    obtain⟨ty,el,by',ar,ls⟩:=ti;cases ty<;>first|rfl|(simp [Ty.isRow] at j)
  obtain⟨v,rfl⟩: ∃v,cs=[v]:=by rw[O] at hl;exact aHc.1 hl
  have G:=AW F v pV;refine⟨v,?_,.inr ⟨j,F⟩,by cases v<;>first|rfl|(simp [Value.oneCell'] at G)⟩
  have M:w.cell? ⟨b,off,none⟩=some v:=by simpa using D 0 v rfl
  have E:(isAgg t).run P w= .ok false w:=by
    unfold isAgg;rw[aF4,aGe K w];rw[j] at h;cases d<;>simp_all [TypeDesc.isRow]
  simp [Instr.loadAt,Instr.sureAddr,loadVar,aF4,E,M]
theorem MU {b off:Nat}{c1 c2 c3:q8}(h:w.rangeAt b off (c1++c2++c3)):w.rangeAt b (off+c1.length) c2:=fun j v D=>by
  have:=h (c1.length+j) v (by
    have z:=(aF5.1 D).1;rw[aF3,aFZ pT,aGB,aF9 z];exact D)
  rw[aGv];exact this
theorem Mg {k n c:Nat}{i:Int}{o':Nat}{v:qE}(K:zM g w (.elt k n c i o') v) {e:TypeId}{t:Ty}{l:List t.den}{m:Nat}(O:qS H k=some (.row e t l m)) (z:n=m) (Q:c=t.cells):
    ∃ b cap xs c1 c2 c3,v= .pointer (some ⟨b,i.toNat*c+o',none⟩)/\g.cur k m=some (.slice (some ⟨b,0,none⟩) m cap)/\w.ownsRow 0 e t.cells (.slice (some ⟨b,0,none⟩) m cap) m xs/\uI (Rd g w t) t.cells l xs/\l.length=m/\i.toNat<l.length/\0<=i/\
      xs=c1++c2++c3/\c1.length=i.toNat*c/\c2.length=c/\Rd g w t (qV t l i) c2:=by
  subst z;subst Q;obtain⟨b,cap,I,G,h3,M⟩:=K;obtain⟨hl,v0,xs,h,j,F,E,D⟩:=hH.blk k _ O;rw[I] at h;obtain rfl:=aFU h;have hi:i.toNat<l.length:=by rw[hl];omega
  obtain⟨c1,c2,c3,e1,e2,e3,e4⟩:=X7 F (Mc G hi);exact⟨b,cap,xs,c1,c2,c3,M,I,j,F,hl,hi,G,e1,e2,e3,e4⟩
theorem a4S {e:TypeId}{c n:Nat}{q cap:Nat}{xs:q8}(h:w.ownsRow 0 e c (.slice (some ⟨q,0,none⟩) n cap) n xs):w.rangeAt q 0 xs:=fun j u z=>by
  have:=h.cells (g:=q) rfl j u z;rwa [aG8] at this
theorem a4T {t:TypeId}{ti:TI}(hst:s5 T t=some ti) {k n c:Nat}{i:Int}{o':Nat}{vx:qE}(I:zM g w (.elt k n c i o') vx) {e:r6}(hr:RK ti.ty k n c i o' (qS H k)=some e) (hs: ∀p∈e.side,p):
    ∃v,(Instr.loadAt t vx).run P w= .ok v w/\rX g w e.slot v/\e.upd=[]:=by
  generalize M:qS H k=ob at hr;unfold RK at hr;split at hr
  · rename_i e' t' l m
    split at hr
    · rename_i O
      generalize F:rH ti.ty t' (qV t' l i) o'=oy at hr;cases oy with
      |none=>cases hr
      | some y=>
        cases hr;have E:=hs _ (aF7.2 rfl);obtain⟨b,cap,xs,c1,c2,c3,K,G,D,U,hl,hi,h0,e1,e2,e3,e4⟩:=Mg hT hH I M E O;obtain⟨d1,d2,d3,f1,f2,f3⟩:=CO e4 F;have z:=a4S hT hH D;rw[e1] at z;have j:=MU hT hH z;rw[f1] at j;have h:=MU hT hH j;rw[aGk,e2,f2] at h;obtain⟨v,R,Q,_⟩:=P7 hT hH (tB hT hst) h f3;exact⟨v,by rw[K];exact R,⟨Q,trivial⟩,rfl⟩
    cases hr
  cases hr
theorem ik: ∀{toks:pY}{q k:Nat},xV toks q=some k->(q,k)∈toks
  |[],_,_,h=>by simp [xV] at h
  | (q',k')::r,q,k,h=>by
    simp only[xV] at h;split at h
    · rename_i e
      subst e;simp only[aFO] at h;subst h;simp
    exact aF2 _ (ik h)
theorem Mh {u v:Ty}: ∀{t:Ty}{x:t.den}{q:Nat}{l:List u.den}{y:v.den},rH (.list u) t x q=some l->rH v t x q=some y->v.isRow=false->∃h:v= .list u,uM h y=l:=by
  intro t
  induction t with
  | pair s t ihs iht=>
    intro x q l y j z D
    have key: ∀q,(if q<s.cells then rH (.list u) s x.1 q else rH (.list u) t x.2 (q-s.cells))=some l->(if q<s.cells then rH v s x.1 q else rH v t x.2 (q-s.cells))=some y->∃h:v= .list u,uM h y=l:=by
      intro q j z;by_cases hq:q<s.cells
      .rw[aFP hq] at j z;exact ihs j z D
      rw[aFQ hq] at j z;exact iht j z D
    cases q with
    | zero=>
      have e1:Ty.pair s t≠.list u:=by intro h;cases h
      have e2:Ty.pair s t≠v:=by intro h;subst h;simp [Ty.isRow] at D
      unfold rH at j z;rw[aHi e1] at j;rw[aHi e2] at z;exact key 0 (by simpa using j) (by simpa using z)
    |succ q=>exact key (q+1) (by simpa[rH] using j) (by simpa[rH] using z)
  | _=>
    intro x q l y j z D;cases q with
    | zero=>
      unfold rH at j z;split at j
      · rename_i e1
        split at z
        · rename_i e2
          first
          |(cases e1;done)
          | (subst e2
             injection e1 with e1'
             subst e1';simp only[uM,aFO] at j z;subst j;subst z;exact⟨rfl,rfl⟩)
        simp at z
      .simp at j
    |succ q=>simp [rH] at j
theorem a4U {t:TypeId}{ti:TI}(z:tU P t ti) (hr:ti.ty.isRow=false) {b off:Nat}{v:qE}(E:w.cell? ⟨b,off,none⟩=some v):
    (Instr.loadAt t (.pointer (some ⟨b,off,none⟩))).run P w= .ok v w:=by
  obtain⟨d,D,h⟩:=X3 z
  have j:(isAgg t).run P w= .ok false w:=by
    unfold isAgg;rw[aF4,aGe D w];rw[hr] at h;cases d<;>simp_all [TypeDesc.isRow]
  simp [Instr.loadAt,Instr.sureAddr,loadVar,aF4,j,E]
omit hT hH in
theorem Mi {a b:Option r6}{e:r6}(h:Jh a b=some e):a=some e\/b=some e:=by
  cases a with
  |some r=>exact .inl h
  |none=>exact .inr h
omit hT hH in
theorem Mj {H:List (Nat×qP)}{t:Ty}{i off:Nat}{b:Option qP}{x:Option r6}{e:r6}(h:Ki H t i off b x=some e):x=some e\/(x=none/\JS H t i off b=some e):=by
  cases x with
  |some r=>exact .inl h
  |none=>exact .inr ⟨rfl,h⟩
theorem a4V {t:TypeId}{ti:TI}{x:Operand}(ho:o.op= .load t x) (hs:s5 T t=some ti) {i off:Nat}(I:tJ g w .ref (some (i,off)) (a.eval x)) {e:r6}(hr:VP i off ti (qS H i)=some e):rR P o a g w H e:=by
  have z:=tB hT hs;generalize hb:qS H i=ob at hr;unfold VP at hr;split at hr
  · rename_i u el _ _ _ v x' toks
    generalize F:rH (.rl el u) v x' off=oy at hr;unfold dz at hr;split at hr
    · rename_i k n
      cases hr;obtain⟨p,hp,K⟩:=y6 I;obtain⟨p',cs,h,O,E,_⟩:=hH.blk i _ hb;rw[hp] at h;obtain rfl:=aFU h;obtain⟨c1,c2,c3,rfl,rfl,G⟩:=CO O F;obtain⟨v0,j,rfl,D⟩:=G;have M:w.cell? ⟨p.1,p.2+c1.length,none⟩=some v0:=by simpa using MU hT hH E 0 _ rfl
      have Q:=a4U (P:=P) hT hH z rfl M;exact rR.value (v:=v0) (g':=g) (w':=w) (by simp only[execOp,ho,K,aF4,Q,aFX,aGg]) (.pure hH ⟨⟨j,D⟩,trivial⟩)
    cases hr
  cases hr
theorem a4W {t:TypeId}{ti:TI}{x:Operand}(ho:o.op= .load t x) (hs:s5 T t=some ti) {i off:Nat}(Q:tJ g w .ref (some (i,off)) (a.eval x)) {e:r6}(hr:JS H ti.ty i off (qS H i)=some e) (j: ∀p∈e.side,p):rR P o a g w H e:=by
  have F:=tB hT hs;generalize hb:qS H i=ob at hr;unfold JS at hr;split at hr
  case h_2=>cases hr
  rename_i v z toks;generalize hf:CK v z=of at hr;cases of with
  |none=>cases hr
  | some kn=>
    obtain⟨k,n0⟩:=kn;simp only[VR] at hr;generalize U:qS H k=ok at hr;unfold VQ at hr;split at hr
    case h_2=>cases hr
    rename_i el u0 l m;generalize O:AF u0 l v z=oq at hr;cases oq with
    |none=>cases hr
    |some q=>
    obtain⟨v',x'⟩:=q;simp only[eh] at hr;generalize K:rH ti.ty v' x' off=oy at hr;cases oy with
    |none=>cases hr
    | some y=>
      simp only[ef,aFO] at hr;subst hr;have I:n0=m:=j _ (aF7.2 rfl);subst I;obtain⟨g',h,X,E⟩:=a4P hH U hb hf O;obtain⟨p,hp,R⟩:=y6 Q;obtain⟨p',cs,D,V,G,_,_,_⟩:=h.blk i (.cells v' x' []) (by simp [rD,qS]);rw[X,hp] at D;obtain rfl:=aFU D;obtain⟨c1,c2,c3,rfl,rfl,M⟩:=CO V K;obtain⟨v0,Z,Y,_⟩:=P7 hT h F (MU hT h G) M;exact rR.valueW (v:=v0) (g':=g') (w':=w) (by simp only[execOp,ho,R,aF4,Z,aFX,aGg]) (E _ _ _ _ rfl ⟨Y,trivial⟩)
theorem a4X {t:TypeId}{ti:TI}{x:Operand}(ho:o.op= .load t x) (hs:s5 T t=some ti) {i off:Nat}(M:tJ g w .ref (some (i,off)) (a.eval x)) {e:r6}(hr:M7 H ti.ty i off (qS H i)=some e) (h: ∀p∈e.side,p):rR P o a g w H e:=by
  have D:=tB hT hs;generalize hb:qS H i=ob at hr;unfold M7 at hr;split at hr
  case h_2=>cases hr
  rename_i v z toks;generalize Q:BK H v z=ou at hr;cases ou with
  |none=>cases hr
  | some z2=>
    simp only[VU] at hr;generalize E:CL H (BL v z)=osa at hr;generalize G:rH ti.ty (I1 v) z2 off=oy at hr;cases osa with
    |none=>cases hr
    | some q=>
      obtain⟨ps,bs⟩:=q;cases oy with
      |none=>cases hr
      | some y=>
        simp only[VT,aFO] at hr;subst hr;obtain⟨g',k1,k2,k3,_,k5⟩:=Mf hH E h;obtain⟨p,hp,O⟩:=y6 M;obtain⟨p',cs,j,R,F,_,_,_⟩:=hH.blk i _ hb;rw[hp] at j;obtain rfl:=aFU j;have I:=a4R Q (wW k3.le R) k5;obtain⟨c1,c2,c3,rfl,rfl,K⟩:=CO I G;obtain⟨v0,V,U,_⟩:=P7 hT k3.heap D (MU hT hH F) K;exact rR.value (v:=v0) (g':=g') (w':=w) (by simp only[execOp,ho,O,aF4,V,aFX,aGg]) (k3.slot' ⟨U,trivial⟩)
theorem a4Y {t:TypeId}{x:Operand}(ho:o.op= .load t x) {sx:qQ}(j:rX g w sx (a.eval x)) {e:r6}(hr:VV H (s5 T t) sx=some e) (h: ∀p∈e.side,p):rR P o a g w H e:=by
  generalize hs:s5 T t=ot at hr;replace j:=j.1;unfold VV at hr;split at hr
  · rename_i ti k n c i o' _
    obtain⟨v,G,D,h3⟩:=a4T hT hH hs j hr h;obtain⟨side,slot,upd,rds⟩:=e;simp only at D h3;subst h3;exact rR.value (v:=v) (g':=g) (w':=w) (by simp only[execOp,ho,aF4,G,aFX,aGg]) (.pure hH D)
  · rename_i ti u y k
    split at hr
    · rename_i Z
      subst Z;cases hr;have E:=tB hT hs;obtain⟨b,off,cs,U,F,hS,V⟩:=j;obtain⟨v,G,D,_⟩:=P7 hT hH E F V;exact rR.pure hH (v:=v) (by simp only[execOp,ho,U,aF4,G,aFX,aGg]) D
    cases hr
  · rename_i ti i off k
    split at hr
    .exact a4X hT hH ho hs j hr h
    rcases Mj hr with hr|⟨_,hr⟩
    case inr=>exact a4W hT hH ho hs j hr h
    rcases Mi hr with hr|hr
    case inr=>exact a4V hT hH ho hs j hr
    have E:=tB hT hs;generalize hb:qS H i=ob at hr;unfold RJ at hr;split at hr
    · rename_i u z toks
      generalize K:rH ti.ty u z off=oy at hr;cases oy with
      |none=>cases hr
      | some y=>
        cases hr;obtain⟨p,hp,U⟩:=y6 j;obtain⟨p',cs,I,V,F,_,_,Y⟩:=hH.blk i _ hb;rw[hp] at I;obtain rfl:=aFU I;obtain⟨c1,c2,c3,rfl,rfl,M⟩:=CO V K;obtain⟨v,G,D,h3⟩:=P7 hT hH E (MU hT hH F) M;refine rR.value (v:=v) (g':=g) (w':=w) (by simp only[execOp,ho,U,aF4,G,aFX,aGg]) (.pure hH ⟨D,?_⟩);obtain⟨ty,el,by',ar,ls⟩:=ti;cases ty with
        | list u'=>
          simp only[G8];generalize X:xV toks c1.length=ok;cases ok with
          |none=>trivial
          | some k=>
            obtain⟨u2,l,v',g1,g2,g3⟩:=Y _ _ (ik hT hH X);obtain⟨heq,hl⟩:=Mh hT hH g1 K rfl;injection heq with R
            subst R;have Q:=t8 M;obtain⟨v2,rfl⟩:=aHc.1 Q
            have e2:v'=v2:=by
              have e:(c1++[v2]++c3)[c1.length]? =some v2:=by simp
              rw[e] at g2;exact(aFU g2).symm
            have e3:v=v2:=by
              have h4:=y5 rfl D;have O:=AW h4 v pV;have:v.cells= #[v]:=by cases v<;>first|rfl|(simp [Value.oneCell'] at O)
              rw[this] at h3;simpa using h3
            subst e2;subst e3;have e4:(y:List u'.den)=l:=hl;subst e4;exact g3
        |_=>trivial
    cases hr
  cases hr
theorem X8 {ρ:Operand->qQ}{x:Option Operand}{n m:Int}(hρ: ∀y∈x.toList,rX g w (ρ y) (a.eval y)) (h:EY (AG ρ x) n=some m):(x=none/\m=n)\/∃y k,x=some y/\a.eval y= .int k m:=by
  cases x with
  |none=>simp only[AG,EY,aFO] at h;exact .inl ⟨rfl,h.symm⟩
  | some y=>
    have h0:=hρ y pV;simp only[AG] at h;unfold EY at h;split at h
    .cases ‹some _=none›
    · rename_i k q kk heq
      simp only[aFO] at heq h;rw[heq] at h0;subst h;exact .inr ⟨y,k,rfl,wH h0.1⟩
    cases h
theorem Mk {isSlice:Bool}{len cap:Nat}{lo hi:Option Operand}{m n:Int}(h:(lo=none/\m=0)\/∃y k,lo=some y/\a.eval y= .int k m) (j:(hi=none/\n=(len:Int))\/∃y k,hi=some y/\a.eval y= .int k n)
    (h0:0<=m) (F:m<=n) (G:n<=(len:Int)) (h3:len<=cap):(Instr.sliceBounds isSlice len cap (lo.map a.eval) (hi.map a.eval) none).run P w= .ok (m.toNat,n.toNat,cap) w:=by
  have e1:(n.toNat:Int)=n:=Int.toNat_of_nonneg pT;rcases h with⟨rfl,rfl⟩ |⟨y,k,rfl,E⟩<;>rcases j with⟨rfl,rfl⟩ |⟨z,k',rfl,D⟩
  .simp [Instr.sliceBounds]
  .simp [Instr.sliceBounds,D,run_sliceBound,(by omega:0<=n),(by omega:n<=(cap:Int))]
  .simp [Instr.sliceBounds,E,run_sliceBound,h0,F]
  simp [Instr.sliceBounds,E,D,run_sliceBound,(by omega:0<=n),(by omega:n<=(cap:Int)),e1,h0,F]
theorem a4Z {t:TypeId}{x:Operand}{lo hi:Option Operand}(ho:o.op= .slice t x lo hi none) {ρ:Operand->qQ}(D:rX g w (ρ x) (a.eval x)) (E: ∀y∈lo.toList,rX g w (ρ y) (a.eval y)) (F: ∀y∈hi.toList,rX g w (ρ y) (a.eval y)) {e:r6}
    (hr:BH (dc (s5 T t) (ρ x) (AG ρ lo) (AG ρ hi))=some e) (hs: ∀p∈e.side,p):rR P o a g w H e:=by
  obtain⟨q,hq,rfl⟩:=K3 hr;replace D:=D.1;generalize hst:s5 T t=ot at hq;generalize X:ρ x=sx at hq D;unfold dc at hq;split at hq
  · rename_i el by' ar ls_ l k
    generalize z:EY (AG ρ lo) 0=o1 at hq;generalize j:EY (AG ρ hi) (List.length l)=o2 at hq;unfold V7 at hq;split at hq
    · rename_i m n
      cases hq;obtain⟨k1,k2,k3⟩:=hs _ (aF7.2 rfl);have I:=(tB hT hst).2;simp only[xY] at I;have K:=x7 D;have h:=Mk (P:=P) (isSlice:=false) (cap:=List.length l) hT hH (X8 hT hH E z) (X8 hT hH F j) k1 k2 k3 (aGc _);refine rR.pure hH (v:= .string ⟨(sG l m n).toArray⟩) ?_ (DC _ _ _);have O:(⟨List.toArray l⟩:ByteArray).size=List.length l:=by simp [ByteArray.size]
      have G:(⟨List.toArray l⟩:ByteArray).extract m.toNat n.toNat=⟨(sG l m n).toArray⟩:=by
        apply ByteArray.ext;apply aG3.1;simp [sG]
      simp only[execOp,ho,K,Option.map_none,Instr.sliceAt,Instr.slice,aF4,aGe I,aFX,Option.isSome_none,aHh,aHW,O,h,G,aGg]
    cases hq
  · rename_i u el by' ar ls_ t1 l k
    split at hq
    · rename_i M
      subst M;generalize z:EY (AG ρ lo) 0=o1 at hq;generalize j:EY (AG ρ hi) (List.length l)=o2 at hq;unfold V7 at hq;split at hq
      · rename_i m n
        cases hq;obtain⟨k1,k2,k3⟩:=hs _ (aF7.2 rfl);obtain⟨I,h3,_⟩:=(tB hT hst).2;obtain⟨ei,Q,R⟩:=aF6.1 h3;simp only[aGi] at R;obtain⟨ad,cap,K,hle,hl⟩:=F4 D;have h:=Mk (P:=P) (isSlice:=true) (cap:=cap) hT hH (X8 hT hH E z) (X8 hT hH F j) k1 k2 k3 hle;refine rR.pure hH (v:= .slice (if cap=m.toNat then ad else ad.map (·.add (m.toNat*t1.cells))) (n.toNat-m.toNat) (cap-m.toNat)) ?_ (.inr ⟨rfl,(if cap=m.toNat then ad else ad.map (·.add (m.toNat*t1.cells))),cap-m.toNat,?_,?_,?_⟩)
        .simp only[execOp,ho,K,Option.map_none,Instr.sliceAt,Instr.slice,aF4,aGe I,aFX,h,sizeOf,typeInfo,aGR,Q,R.1,aGg]
        .rw[ii k1 k2 k3]
        .rw[ii k1 k2 k3];omega
        rcases hl with rfl|⟨b,off,rfl,V⟩
        .exact .inl (by simp [sG])
        by_cases U:cap=m.toNat
        · left
          apply aGl;rw[ii k1 k2 k3];omega
        right
        rw[aFQ U];refine⟨b,off+m.toNat*t1.cells,by simp [aG8],?_⟩;exact Ls _ (Lr _ V pT)
      cases hq
    cases hq
  cases hq
end
theorem il {α:Type}{R:α->q8->Prop}{c:Nat}(j: ∀x cs,R x cs->∀v∈cs,v.oneCell'=true): ∀{l:List α}{cs:q8},uI R c l cs->∀v∈cs,v.oneCell'=true
 |[],_,h=>by rw[h];simp
 |_::_,_,⟨c1,c2,e,_,D,h3⟩=>by
  subst e;intro v z;rcases aGE.1 z with h|h
  .exact j _ _ D v h
  exact il j h3 v h
theorem X9 {α:Type}{R:α->q8->Prop}{c:Nat}: ∀{l:List α}{cs cy:q8}{i:Nat}{y:α},uI R c l cs->R y cy->cy.length=c->i<l.length->
  ∃c1 c2 c3,cs=c1++c2++c3/\c1.length=i*c/\c2.length=c/\uI R c (l.set i y) (c1++cy++c3)
 |[],_,_,_,_,_,_,_,h=>by simp at h
 |_::l,_,cy,0,y,⟨c1,c2,e,j,_,h3⟩,z,D,_=>⟨[],c1,c2,by simpa using e,by simp,j,⟨cy,c2,by simp,D,z,h3⟩⟩
 |x::l,_,cy,i+1,y,⟨c1,c2,e,j,E,h3⟩,z,D,hi=>by
  obtain⟨d1,d2,d3,e1,e2,e3,e4⟩:=X9 h3 z D (by simpa using hi);refine⟨c1++d1,d2,d3,by rw[e,e1];simp,by rw[aFR,j,e2,aG5];omega,e3,⟨c1,d1++cy++d3,by simp,j,E,e4⟩⟩
theorem S5 {α:Type}{R:α->q8->Prop}{w:qD}{S:Nat->Nat->Prop}{c b:Nat}: ∀{l:List α}{o:Nat},zD R w S c b o l->∃cs,uI R c l cs/\w.rangeAt b o cs/\∀j,j<l.length*c->S b (o+j)
 |[],o,_=>⟨[],rfl,fun j v h=>by simp at h,fun j h=>by simp at h⟩
 |x::l,o,⟨⟨c1,F,I,h3,h4⟩,G⟩=>by
  obtain⟨c2,k1,k2,k3⟩:=S5 G;refine⟨c1++c2,⟨c1,c2,rfl,F,h4,k1⟩,fun j v z=>?_,fun j E=>?_⟩
  .by_cases E:j<c
   .exact I j v (by rwa [aF9 pT] at z)
   have:=k2 (j-c) v (by rw[aFZ pT,F] at z;exact z);rwa [show o+c+(j-c)=o+j from by omega] at this
  by_cases D:j<c
  .exact h3 j D
  have:=k3 (j-c) (by rw[aFV,aG5] at E;omega);rwa [show o+c+(j-c)=o+j from by omega] at this
theorem Ml {g:Gh}{w:qD}{t:Ty}: ∀n,uI (Rd g w t) t.cells (E9 t n) (List.flatten (List.replicate n (uO t)))
 |0=>rfl
 |n+1=>⟨uO t,_,rfl,t8 (F3 g w t),F3 g w t,Ml n⟩
theorem Mm (t:Ty): ∀n,(E9 t n).length=n
 |0=>rfl
 |n+1=>by simp [E9,Mm t n]
def Gh.tok (g:Gh) (k n:Nat) (v:qE):Gh:={g with cur:=fun k' n'=>if k'=k/\n'=n then some v else g.cur k' n'}
def Gh.var (g:Gh) (i b:Nat) (k:Option (TypeId×Nat)):Gh:={g with J:=fun i'=>if i'=i then some ⟨b,0,k⟩ else g.J i'}
def Gh.shut (g:Gh) (b m:Nat):Gh:={g with S:=fun b' o=>g.S b' o\/(b'=b/\o<m)}
section
variable {g:Gh}{w:qD}{H:sJ}(hH:sO g w H)
include hH
theorem rU.nilTok {side:List Prop}{d:DV}{rds:qC}{base e c:Nat}{u:Ty}(K:d= .val (.list u) []) (hf: ∀n,g.cur base n=none):
  rU g w H ⟨side,(d,some base),[(base,.grow e c 0)],rds⟩ (g.tok base 0 (.slice none 0 0)) w (.slice none 0 0):=by
 have le:Le g w (g.tok base 0 (.slice none 0 0)) w:=⟨fun _ _ h=>h,fun _ _ _=>rfl,fun _ _ h=>h,fun k n v h=>by
  show (if k=base/\n=0 then _ else _)=_;rw[aFQ (fun⟨e1,_⟩=>by rw[e1,hf] at h;cases h)];exact h⟩
 have fr:Fr (t7 g H (qU [(base,qP.grow e c 0)])) w w g.S (g.tok base 0 (.slice none 0 0)).S:= .refl _ _ _;have gho: ∀i,i∉qU [(base,qP.grow e c 0)]->(g.tok base 0 (.slice none 0 0)).J i=g.J i/\(g.tok base 0 (.slice none 0 0)).cur i=g.cur i:=fun i hi=>⟨rfl,by
  funext n;show (if i=base/\n=0 then _ else _)=_;rw[aFQ (fun⟨e1,_⟩=>hi (by simp [qU,e1]))]⟩
 have cur0:(g.tok base 0 (.slice none 0 0)).cur base 0=some (.slice none 0 0):=by simp [Gh.tok]
 have own: ∀i blk b o,i∈qU [(base,qP.grow e c 0)]->qS (rD [(base,qP.grow e c 0)] H) i=some blk->¬sL (g.tok base 0 (.slice none 0 0)) i blk b o:=by
  intro i blk b o hi z ho;simp only[qU,aF7] at hi;subst hi;simp only[rD,qS,aHp,aFO] at z;subst z;obtain⟨v,I,hb⟩:=ho;rw[cur0] at I;obtain rfl:=aFU I;cases hb
 subst K;refine⟨le,⟨.inr ⟨rfl,none,0,rfl,aGc _,.inl rfl⟩,cur0⟩,hH.upd le fr (fun i blk b o E D h3=>absurd h3 (own i blk b o E D)) gho (fun i blk hi z=>?_) (fun i j bi bj b o hi R O G Q F M=>own i bi b o hi G F) hH.sl,fr,fun i blk b o E D h3=>absurd h3 (own i blk b o E D),gho,fun i u' y us h=>by
  simp only[rD,qS] at h;split at h
  .cases h
  exact .inl ⟨y,us,h⟩⟩
 simp only[qU,aF7] at hi;subst hi;simp only[rD,qS,aHp,aFO] at z;subst z;refine⟨.slice none 0 0,[],cur0,World.ownsRow_nil w 0 e c,fun m hm=>?_,fun b hb=>by cases hb⟩;show (if i=i/\m=0 then _ else _)=_;rw[aFQ pT];exact hf m
theorem rU.row {side:List Prop}{rds:qC}{s:qQ}{val:qE}{k:Nat}{e:TypeId}{t:Ty}{l:List t.den}{n:Nat}{v:qE}{xs:q8}{w':qD}
  (hl:l.length=n) (V:w'.ownsRow 0 e t.cells v n xs) (hF:uI (Rd g w t) t.cells l xs) (Q: ∀m,n<m->g.cur k m=none) (X: ∀u,g.cur k n=some u->u=v)
  (z:w.grownBy w' (v.ownBlock)\/∃q,w.grownBy w' q/\∀b,q=some b->∀o,t7 g H [k] b o)
  (R: ∀b o,g.S b o->w'.cell? ⟨b,o,none⟩=w.cell? ⟨b,o,none⟩)
  (O: ∀b,v.ownBlock=some b->∀o,¬g.S b o)
  (D: ∀b,v.ownBlock=some b->w.heap.size<=b\/∀o,t7 g H [k] b o)
  (M:rX (g.tok k n v) w' s val):rU g w H ⟨side,s,[(k,.row e t l n)],rds⟩ (g.tok k n v) w' val:=by
 have le:Le g w (g.tok k n v) w':=⟨fun _ _ h=>h,fun b o h=>R b o h,fun _ _ h=>h,fun k' n' v' h=>by
  show (if k'=k/\n'=n then _ else _)=_;by_cases hk:k'=k/\n'=n
  .obtain⟨rfl,rfl⟩:=hk;rw[aFP ⟨rfl,rfl⟩,X _ h]
  rw[aFQ hk];exact h⟩
 have cur1:(g.tok k n v).cur k n=some v:=by simp [Gh.tok]
 have Y: ∀b,b<w.heap.size->(∀o,¬t7 g H (qU [(k,qP.row e t l n)]) b o)->w'.heap[b]? =w.heap[b]? :=by
  intro b hb E;rcases z with z|⟨q,z,hq⟩
  .refine z.block b hb (fun e1=>?_);rcases D b e1.symm with h|h
   .omega
   exact E 0 (h 0)
  exact z.block b hb (fun e1=>E 0 (hq b e1.symm 0))
 have F:w'.os=w.os/\w'.tape=w.tape/\w'.output=w.output/\w.heap.size<=w'.heap.size:=by
  rcases z with z|⟨q,z,_⟩
  .exact⟨z.os,z.tape,z.output,z.size⟩
  exact⟨z.os,z.tape,z.output,z.size⟩
 have hd: ∀b o,t7 g H (qU [(k,qP.row e t l n)]) b o->True:=fun _ _ _=>trivial;have I: ∀b o,b<w.heap.size->¬t7 g H (qU [(k,qP.row e t l n)]) b o->(w'.cell? ⟨b,o,none⟩=w.cell? ⟨b,o,none⟩/\w'.frozen? ⟨b,o,none⟩=w.frozen? ⟨b,o,none⟩):=by
  intro b o hb E;have:w'.heap[b]? =w.heap[b]? :=by
   rcases z with z|⟨q,z,hq⟩
   .refine z.block b hb (fun e1=>?_);rcases D b e1.symm with h|h
    .omega
    exact E (h o)
   exact z.block b hb (fun e1=>E (hq b e1.symm o))
  exact⟨aGf (a:=⟨b,o,none⟩) this,aGF (a:=⟨b,o,none⟩) this⟩
 have G: ∀b s,w.shape? b=some s->w'.shape? b=some s\/∀o,t7 g H (qU [(k,qP.row e t l n)]) b o:=by
  intro b s hs;rcases z with z|⟨q,z,hq⟩
  .by_cases e1:v.ownBlock=some b
   .rcases D b e1 with h|h
    .have:=CP hs;omega
    exact .inr h
   exact .inl ((CQ (z.block b (CP hs) (fun h=>e1 h.symm))).trans hs)
  by_cases e1:q=some b
  .exact .inr (hq b e1)
  exact .inl ((CQ (z.block b (CP hs) (fun h=>e1 h.symm))).trans hs)
 have fr:Fr (t7 g H (qU [(k,qP.row e t l n)])) w w' g.S (g.tok k n v).S:=⟨F.1,F.2.1,F.2.2.1,F.2.2.2,Y,I,fun b o h=> .inl h,G⟩;have gho: ∀i,i∉qU [(k,qP.row e t l n)]->(g.tok k n v).J i=g.J i/\(g.tok k n v).cur i=g.cur i:=fun i hi=>⟨rfl,by
  funext n';show (if i=k/\n'=n then _ else _)=_;rw[aFQ (fun⟨e1,_⟩=>hi (by simp [qU,e1]))]⟩
 have get: ∀i blk,i∈qU [(k,qP.row e t l n)]->qS (rD [(k,qP.row e t l n)] H) i=some blk->i=k/\blk= .row e t l n:=by
  intro i blk hi z;simp only[qU,aF7] at hi;subst hi;simp only[rD,qS,aHp,aFO] at z;exact⟨rfl,z.symm⟩
 have perm: ∀i blk b o,i∈qU [(k,qP.row e t l n)]->qS (rD [(k,qP.row e t l n)] H) i=some blk->sL (g.tok k n v) i blk b o->w.heap.size<=b\/t7 g H (qU [(k,qP.row e t l n)]) b o:=by
  intro i blk b o hi K ho;obtain⟨rfl,rfl⟩:=get i blk hi K;obtain⟨v',U,hb⟩:=ho;rw[cur1] at U;obtain rfl:=aFU U;exact(D b hb).imp id (fun h=>h o)
 refine⟨le,M,hH.upd le fr perm gho (fun i blk hi K=>?_) (fun i j bi bj b o hi hj Z hc ha _ _=>Z ((get i bi hi hc).1.trans (get j bj hj ha).1.symm)) (fun b o h=>aGq (hH.sl b o h) F.2.2.2),fr,perm,gho,fun i u' y us h=>by
  simp only[rD,qS] at h;split at h
  .cases h
  exact .inl ⟨y,us,h⟩⟩
 obtain⟨rfl,rfl⟩:=get i blk hi K;refine⟨hl,v,xs,cur1,V,DA (fun _ _ h=>wW le h) hF,fun m hm=>?_,O⟩;show (if i=i/\m=n then _ else _)=_;rw[aFQ pT];exact Q m hm
theorem rU.newVarJ {side:List Prop}{rds:qC}{base:Nat}{t:Ty}{x:t.den}{toks:pY}{cs:q8}{e:TypeId}(M:Rd (g.var base w.heap.size (some (e,cs.length))) w t x cs) (E:I7 g t x cs toks) (hf:g.J base=none) (Q:g.cur base=fun _=>none):
  rU g w H ⟨side,(.val .ref (some (base,0)),none),[(base,.cells t x toks)],rds⟩ (g.var base w.heap.size (some (e,cs.length))) (w.alloc (.cells cs.toArray e)) (.pointer (some ⟨w.heap.size,0,none⟩)):=by
 have D:(g.var base w.heap.size (some (e,cs.length))).J base=some ⟨w.heap.size,0,some (e,cs.length)⟩:=by simp [Gh.var]
 have le:Le g w (g.var base w.heap.size (some (e,cs.length))) (w.alloc (.cells cs.toArray e)):=⟨fun _ _ h=>h,fun b o h=>aGf (a:=⟨b,o,none⟩) (aGm _ _ _ (hH.sl b o h)),fun i p h=>by
  show (if i=base then _ else _)=_;rw[aFQ (fun e1=>by rw[e1,hf] at h;cases h)];exact h,fun _ _ _ h=>h⟩
 have le2:Le (g.var base w.heap.size (some (e,cs.length))) w (g.var base w.heap.size (some (e,cs.length))) (w.alloc (.cells cs.toArray e)):=⟨fun _ _ h=>h,fun b o h=>aGf (a:=⟨b,o,none⟩) (aGm _ _ _ (hH.sl b o h)),fun _ _ h=>h,fun _ _ _ h=>h⟩;have fr:Fr (t7 g H (qU [(base,qP.cells t x toks)])) w (w.alloc (.cells cs.toArray e)) g.S (g.var base w.heap.size (some (e,cs.length))).S:=
  ⟨rfl,rfl,rfl,by simp,fun b hb _=>aGm _ _ _ hb,fun b o hb _=>⟨aGf (a:=⟨b,o,none⟩) (aGm _ _ _ hb),aGF (a:=⟨b,o,none⟩) (aGm _ _ _ hb)⟩,fun b o h=> .inl h,fun b s h=> .inl ((CQ (aGm _ _ _ (CP h))).trans h)⟩
 have gho: ∀i,i∉qU [(base,qP.cells t x toks)]->(g.var base w.heap.size (some (e,cs.length))).J i=g.J i/\(g.var base w.heap.size (some (e,cs.length))).cur i=g.cur i:=fun i hi=>⟨by
  show (if i=base then _ else _)=_;rw[aFQ (fun e1=>hi (by simp [qU,e1]))],rfl⟩
 have get: ∀i blk,i∈qU [(base,qP.cells t x toks)]->qS (rD [(base,qP.cells t x toks)] H) i=some blk->i=base/\blk= .cells t x toks:=by
  intro i blk hi z;simp only[qU,aF7] at hi;subst hi;simp only[rD,qS,aHp,aFO] at z;exact⟨rfl,z.symm⟩
 have perm: ∀i blk b o,i∈qU [(base,qP.cells t x toks)]->qS (rD [(base,qP.cells t x toks)] H) i=some blk->sL (g.var base w.heap.size (some (e,cs.length))) i blk b o->w.heap.size<=b\/t7 g H (qU [(base,qP.cells t x toks)]) b o:=by
  intro i blk b o hi z ho;obtain⟨rfl,rfl⟩:=get i blk hi z;obtain⟨p,hp,R,_⟩:=ho;rw[D] at hp;obtain rfl:=aFU hp;exact .inl (aHn R.symm)
 have hl:=t8 M;refine⟨le,⟨.inr ⟨rfl,_,D,rfl⟩,trivial⟩,hH.upd le fr perm gho (fun i blk hi z=>?_) (fun i j bi bj b o hi K F I G _ _=>F ((get i bi hi I).1.trans (get j bj K G).1.symm)) (fun b o h=>aGq (hH.sl b o h) pV),fr,perm,gho,fun i u' y us h=>by
  simp only[rD,qS] at h;split at h
  .rename_i e1;subst e1;exact .inr ⟨hf,fun n=>by rw[Q]⟩
  exact .inl ⟨y,us,h⟩⟩
 obtain⟨rfl,rfl⟩:=get i blk hi z;refine⟨_,cs,D,wW le2 M,fun j v O=>?_,⟨fun j K=>?_,fun _ s hs=>?_⟩,fun j _ hs=>aHz _ (hH.sl _ _ hs),Lp le.cur E⟩
 .simp only[aGk];rw[aHg];simpa using O
 .simp only[aGk];rw[aHg,World.frozen?_alloc_new];exact⟨by simp;omega,rfl⟩
 cases hs;show (match (w.heap.push (.cells cs.toArray e))[w.heap.size]? with|some (.cells c elem _)=>some (elem,c.size) |_=>none)=_
 rw[aHP];simp only[aGT]
theorem rU.newVar {side:List Prop}{rds:qC}{base:Nat}{t:Ty}{x:t.den}{toks:pY}{cs:q8}{e:TypeId}(D:Rd g w t x cs) (j:I7 g t x cs toks) (hf:g.J base=none) (z:g.cur base=fun _=>none):
  rU g w H ⟨side,(.val .ref (some (base,0)),none),[(base,.cells t x toks)],rds⟩ (g.var base w.heap.size (some (e,cs.length))) (w.alloc (.cells cs.toArray e)) (.pointer (some ⟨w.heap.size,0,none⟩)):=
 rU.newVarJ hH (wW (g:=g) (g':=g.var base w.heap.size (some (e,cs.length))) (w:=w) (w':=w) ⟨fun _ _ h=>h,fun _ _ _=>rfl,fun i p h=>by
  show (if i=base then _ else _)=_;rw[aFQ (fun e1=>by rw[e1,hf] at h;cases h)];exact h,fun _ _ _ h=>h⟩ D) j hf z
end
theorem Mn {P:Program}(w:qD) (t ty e:TypeId) (i:TypeInfo) (z:qE) (size bytes:Nat) (Z:P.underlying t=some (.slice e)) (hi:P.info? e=some i) (hz:i.zero=some z)
  (O:i.size=size) (hh:i.bytes=bytes) (ha:z.cells.size=size)
  (v:qE) (n:Nat) (xs:q8) (D:w.ownsRow 0 e size v n xs)
  (a:Addr) (m c:Nat) (news:q8) (hl:news.length=m*size) (F: ∀j u,news[j]? =some u->w.cell? (a.add j)=some u) (h1: ∀u∈news,u.oneCell'=true) (hm:0<m)
  (U:n+m<=maxLen) (I:(n+m)*bytes<=140737488355328):
  ∃q cap w',(Builtin.append_ #[t,t] ty #[v,.slice (some a) m c]).run P w= .ok (.slice (some ⟨q,0,none⟩) (n+m) cap) w'/\w'.ownsRow 0 e size (.slice (some ⟨q,0,none⟩) (n+m) cap) (n+m) (xs++news)/\
   (q=w.heap.size\/v.ownBlock=some q)/\w.grownBy w' v.ownBlock/\n+m<=cap/\
   ∀b o,b<w.heap.size->(v.ownBlock=some b->o<n*size)->w'.cell? ⟨b,o,none⟩=w.cell? ⟨b,o,none⟩:=by
 subst O;subst hh;have Y:n+m<=9223372036854775807:=by simp only[maxLen] at U;omega
 have G:(xs++news).length=(n+m)*i.size:=by rw[aFR,D.1,hl,Nat.add_mul]
 have grown: ∀(old:Nat),old<n+m->∀(row:qB),
   (w.drew.alloc (.cells (xs.toArray++news.toArray++Builtin.zeroCells z.cells (grownCap w (n+m) old e- (n+m))) e)).ownsRow 0 e i.size
    (.slice (some ⟨w.heap.size,0,none⟩) (n+m) (grownCap w (n+m) old e)) (n+m) (xs++news)/\
   w.grownBy (w.drew.alloc (.cells (xs.toArray++news.toArray++Builtin.zeroCells z.cells (grownCap w (n+m) old e- (n+m))) e)) row/\n+m<=grownCap w (n+m) old e/\
   ∀b o,b<w.heap.size->(w.drew.alloc (.cells (xs.toArray++news.toArray++Builtin.zeroCells z.cells (grownCap w (n+m) old e- (n+m))) e)).cell? ⟨b,o,none⟩=w.cell? ⟨b,o,none⟩:=by
  intro old ho row;have R:=grownCap_ge w (n+m) old e;have hcm:grownCap w (n+m) old e<=maxLen:=grownCap_le_maxLen w (n+m) old e U;refine⟨⟨G,.inr ⟨w.heap.size,_,_,rfl,aGS _,aHX w.drew _,R,hcm,?_,?_⟩⟩,⟨rfl,rfl,rfl,by simp,fun k hk _=>aGm w.drew _ k hk⟩,R,fun b o hb=>aGf (w:=w) (a:=⟨b,o,none⟩) (aGm w.drew _ b hb)⟩
  .simp only[aH0,aGT,size_zeroCells,ha,D.1,hl,<-Nat.add_mul];congr 1;omega
  simp only[Array.toList_append,aF3];rw[<-aF3,<-G];exact aHe
 rcases D.2 with⟨rfl,rfl⟩ |⟨g,cap,cur,rfl,hj,X,hn,hcm,he,M⟩
 .have hx:xs=[]:=aGl (by simpa using D.1);subst hx;have hr:=run_append_nil (P:=P) w t ty e i z Z hi hz a m c news hl F pT pT (by have hb:=I;simp only[aGk] at hb;omega);have h:=grown 0 pT (Value.ownBlock (.slice none 0 0));simp only[aGk,List.nil_append,Array.empty_append] at h|-;exact⟨_,_,_,hr,h.1,.inl rfl,h.2.1,h.2.2.1,fun b o hb _=>h.2.2.2 b o hb⟩
 by_cases E:n+m<=cap
 .have V:n*i.size+news.length<=cur.size:=by rw[hl,he,<-Nat.add_mul];exact aHa _ E
  have hr:=run_append_room (P:=P) w t ty e i Z hi g n cap cur X a m c news hl F h1 E V;refine⟨_,_,_,hr,⟨G,.inr ⟨g,cap,_,rfl,hj,aH1 w g cur _ e _ X,E,hcm,?_,?_⟩⟩,.inr rfl,⟨rfl,rfl,rfl,by simp,fun k _ hk=>aHG w g k _ (fun e=>hk (by simp [Value.ownBlock,e]))⟩,E,fun b o hb hc=>?_⟩
  .simp only[aGT,aFR,aGy,aGp,aGP];omega
  .rw[M,<-G];exact aHe
  by_cases K:b=g
  .subst K;have ho:=hc rfl;rw[cell_setRow_same w b o cur _ e _ X,cell_of_row w b o cur e (0,0) X];have hd:o<(cur.toList.take (n*i.size)).length:=by rw[aGy,aGP];omega
   rw[aF3,List.getElem?_toArray,aF9 hd,List.getElem?_take,aFP ho,aGX]
  exact aGf (w:=w) (a:=⟨b,o,none⟩) (aHG w g b _ K)
 have Q: ∀j u,xs[j]? =some u->w.cell? ((⟨g,0,none⟩:Addr).add j)=some u:=D.cells (g:=g) rfl;have hr:=run_append_grow (P:=P) w t ty e i z Z hi hz ⟨g,0,none⟩ n cap xs D.1 Q a m c news hl F pT pT (growslice_fits pT I);have h:=grown cap pT (Value.ownBlock (.slice (some ⟨g,0,none⟩) n cap));exact⟨_,_,_,hr,h.1,.inl rfl,h.2.1,h.2.2.1,fun b o hb _=>h.2.2.2 b o hb⟩
theorem im {w:qD}{e:TypeId}{c n:Nat}{q cap:Nat}{xs:q8}(h:w.ownsRow 0 e c (.slice (some ⟨q,0,none⟩) n cap) n xs):w.rangeAt q 0 xs:=fun j u z=>by
 have:=h.cells (g:=q) rfl j u z;rwa [aG8] at this
theorem a40 (w:qD) (a:Addr) (v:qE) (b:Nat):(w.setCell a v).shape? b=w.shape? b:=by
 unfold World.shape? World.setCell;simp only[aGY];by_cases h:a.block=b
 .rw[aFP h];cases hb:w.heap[b]? with
  |none=>rfl
  |some x=>
   cases x with
   |cells c e f=>
    simp only[Option.map_some];split<;>simp
   |_=>rfl
 rw[aFQ h]
theorem S6 (b:Nat): ∀(l:q8) (o:Nat) (w:qD) (b':Nat),(w.setCells b o l).shape? b'=w.shape? b'
 |[],_,_,_=>rfl
 |v::l,o,w,b'=>by rw[World.setCells,S6 b l,a40]
section
variable {g:Gh}{w:qD}{H:sJ}(hH:sO g w H)
include hH
theorem rU.append {side:List Prop}{rds:qC}{k e c n:Nat}{u:Ty}{l r:List u.den}{w':qD}{q cap:Nat}{v:qE}{xs news:q8}(hk:qS H k=some (.grow e c n)) (hc:c=u.cells)
  (Z:l.length=n) (hv:g.cur k n=some v) (hh:w.ownsRow 0 e c v n xs) (F: ∀m,n<m->g.cur k m=none) (E: ∀b,v.ownBlock=some b->∀o,g.S b o->o<n*c) (hl:uI (Rd g w u) c l xs) (hr:uI (Rd g w u) c r news) (hm:0<r.length)
  (ho:w'.ownsRow 0 e c (.slice (some ⟨q,0,none⟩) (n+r.length) cap) (n+r.length) (xs++news)) (hq:q=w.heap.size\/v.ownBlock=some q) (G:w.grownBy w' v.ownBlock) (U:n+r.length<=cap)
  (O: ∀b o,b<w.heap.size->(v.ownBlock=some b->o<n*c)->w'.cell? ⟨b,o,none⟩=w.cell? ⟨b,o,none⟩):
  rU g w H ⟨side,(.val (.list u) (l++r),some k),[(k,.grow e c (n+r.length))],rds⟩ ((g.tok k (n+r.length) (.slice (some ⟨q,0,none⟩) (n+r.length) cap)).shut q ((n+r.length)*c)) w' (.slice (some ⟨q,0,none⟩) (n+r.length) cap):=by
 have Y:=F (n+r.length) pT;have z: ∀o b,v.ownBlock=some b->t7 g H (qU [(k,qP.grow e c (n+r.length))]) b o:=fun o b hb=>⟨k,_,by simp [qU],hk,v,hv,hb⟩;have R:q<w'.heap.size:=(ho.lt q rfl).2;have le:Le g w ((g.tok k (n+r.length) (.slice (some ⟨q,0,none⟩) (n+r.length) cap)).shut q ((n+r.length)*c)) w':=⟨fun _ _ h=> .inl h,fun b o h=>O b o (hH.sl b o h) (fun hb=>E b hb o h),fun _ _ h=>h,fun k' n' v' h=>by
  show (if k'=k/\n'=n+r.length then _ else _)=_;rw[aFQ (fun⟨e1,e2⟩=>by rw[e1,e2,Y] at h;cases h)];exact h⟩
 have fr:Fr (t7 g H (qU [(k,qP.grow e c (n+r.length))])) w w' g.S ((g.tok k (n+r.length) (.slice (some ⟨q,0,none⟩) (n+r.length) cap)).shut q ((n+r.length)*c)).S:=by
  have M: ∀b,b<w.heap.size->∀o,¬t7 g H (qU [(k,qP.grow e c (n+r.length))]) b o->w'.heap[b]? =w.heap[b]? :=fun b hb o D=>G.block b hb (fun e1=>D (z o b e1.symm));refine⟨G.os,G.tape,G.output,G.size,fun b hb D=>M b hb 0 (D 0),fun b o hb D=>⟨aGf (a:=⟨b,o,none⟩) (M b hb o D),aGF (a:=⟨b,o,none⟩) (M b hb o D)⟩,fun b o h=>?_,fun b s hs=>?_⟩
  rotate_left
  .by_cases e1:v.ownBlock=some b
   .exact .inr fun o=>z o b e1
   exact .inl ((CQ (G.block b (CP hs) (fun h=>e1 h.symm))).trans hs)
  rcases h with h|⟨rfl,_⟩
  .exact .inl h
  rcases hq with h|h
  .exact .inr (.inl (aHn h.symm))
  exact .inr (.inr (z o b h))
 have gho: ∀i,i∉qU [(k,qP.grow e c (n+r.length))]->((g.tok k (n+r.length) (.slice (some ⟨q,0,none⟩) (n+r.length) cap)).shut q ((n+r.length)*c)).J i=g.J i/\((g.tok k (n+r.length) (.slice (some ⟨q,0,none⟩) (n+r.length) cap)).shut q ((n+r.length)*c)).cur i=g.cur i:=fun i hi=>⟨rfl,by
  funext n';show (if i=k/\n'=n+r.length then _ else _)=_;rw[aFQ (fun⟨e1,_⟩=>hi (by simp [qU,e1]))]⟩
 have cur1:((g.tok k (n+r.length) (.slice (some ⟨q,0,none⟩) (n+r.length) cap)).shut q ((n+r.length)*c)).cur k (n+r.length)=some (.slice (some ⟨q,0,none⟩) (n+r.length) cap):=by
  show (if k=k/\n+r.length=n+r.length then _ else _)=_;simp
 have get: ∀i blk,i∈qU [(k,qP.grow e c (n+r.length))]->qS (rD [(k,qP.grow e c (n+r.length))] H) i=some blk->i=k/\blk= .grow e c (n+r.length):=by
  intro i blk hi G;simp only[qU,aF7] at hi;subst hi;simp only[rD,qS,aHp,aFO] at G;exact⟨rfl,G.symm⟩
 have perm: ∀i blk b o,i∈qU [(k,qP.grow e c (n+r.length))]->qS (rD [(k,qP.grow e c (n+r.length))] H) i=some blk->sL ((g.tok k (n+r.length) (.slice (some ⟨q,0,none⟩) (n+r.length) cap)).shut q ((n+r.length)*c)) i blk b o->w.heap.size<=b\/t7 g H (qU [(k,qP.grow e c (n+r.length))]) b o:=by
  intro i blk b o hi K X;obtain⟨rfl,rfl⟩:=get i blk hi K;obtain⟨v',Q,hb⟩:=X;rw[cur1] at Q;obtain rfl:=aFU Q;cases hb;rcases hq with h|h
  .exact .inl (aHn h.symm)
  exact .inr (z o _ h)
 have hF:uI (Rd ((g.tok k (n+r.length) (.slice (some ⟨q,0,none⟩) (n+r.length) cap)).shut q ((n+r.length)*c)) w' u) u.cells (l++r) (xs++news):=hc▸DA (fun _ _ h=>wW le h) (gu hl hr);have I:(l++r).length=n+r.length:=by rw[aFR,Z]
 refine⟨le,⟨.inr ⟨rfl,some ⟨q,0,none⟩,cap,by rw[I],by rw[I];exact U,.inr ⟨q,0,rfl,K4 hF (im ho) (fun j V=>?_)⟩⟩,?_⟩,hH.upd le fr perm gho (fun i blk hi K=>?_) (fun i j bi bj b o hi V ha he hd _ _=>ha ((get i bi hi he).1.trans (get j bj V hd).1.symm)) (fun b o h=>?_),fr,perm,gho,fun i u' y us h=>by
  simp only[rD,qS] at h;split at h
  .cases h
  exact .inl ⟨y,us,h⟩⟩
 .right;rw[I] at V;exact⟨rfl,by rw[hc];omega⟩
 .show _=_;rw[I];exact cur1
 .obtain⟨rfl,rfl⟩:=get i blk hi K;refine⟨_,_,cur1,ho,fun m hn=>?_,fun b hb o h=>?_⟩
  .show (if i=i/\m=n+r.length then _ else _)=_;rw[aFQ pT];exact F m pT
  cases hb;rcases h with h|⟨_,h⟩
  .rcases hq with h2|h2
   .have:q<w.heap.size:=hH.sl _ _ h;omega
   have:=E _ h2 o h;rw[Nat.add_mul];omega
  exact h
 rcases h with h|⟨rfl,_⟩
 .exact aGq (hH.sl b o h) G.size
 exact R
theorem rU.lit {side:List Prop}{rds:qC}{base e c n:Nat}{u:Ty}{l:List u.den}{cs:q8}(U:c=u.cells) (z:l.length=n) (hl:uI (Rd g w u) c l cs) (X:n<=maxLen) (hf: ∀m,g.cur base m=none):
  rU g w H ⟨side,(.val (.list u) l,some base),[(base,.grow e c n)],rds⟩ ((g.tok base n (.slice (some ⟨w.heap.size,0,none⟩) n n)).shut w.heap.size (n*c)) (w.alloc (.cells cs.toArray e)) (.slice (some ⟨w.heap.size,0,none⟩) n n):=by
 have D:=MN hl;have le:Le g w ((g.tok base n (.slice (some ⟨w.heap.size,0,none⟩) n n)).shut w.heap.size (n*c)) (w.alloc (.cells cs.toArray e)):=⟨fun _ _ h=> .inl h,fun b o h=>aGf (a:=⟨b,o,none⟩) (aGm _ _ _ (hH.sl b o h)),fun _ _ h=>h,fun k' n' v' h=>by
  show (if k'=base/\n'=n then _ else _)=_;rw[aFQ (fun⟨e1,e2⟩=>by rw[e1,hf] at h;cases h)];exact h⟩
 have fr:Fr (t7 g H (qU [(base,qP.grow e c n)])) w (w.alloc (.cells cs.toArray e)) g.S ((g.tok base n (.slice (some ⟨w.heap.size,0,none⟩) n n)).shut w.heap.size (n*c)).S:=
  ⟨rfl,rfl,rfl,by simp,fun b hb _=>aGm _ _ _ hb,fun b o hb _=>⟨aGf (a:=⟨b,o,none⟩) (aGm _ _ _ hb),aGF (a:=⟨b,o,none⟩) (aGm _ _ _ hb)⟩,fun b o h=>h.imp id fun h=> .inl (aHn h.1.symm),fun b s h=> .inl ((CQ (aGm _ _ _ (CP h))).trans h)⟩
 have gho: ∀i,i∉qU [(base,qP.grow e c n)]->((g.tok base n (.slice (some ⟨w.heap.size,0,none⟩) n n)).shut w.heap.size (n*c)).J i=g.J i/\((g.tok base n (.slice (some ⟨w.heap.size,0,none⟩) n n)).shut w.heap.size (n*c)).cur i=g.cur i:=fun i hi=>⟨rfl,by
  funext n';show (if i=base/\n'=n then _ else _)=_;rw[aFQ (fun⟨e1,_⟩=>hi (by simp [qU,e1]))]⟩
 have cur1:((g.tok base n (.slice (some ⟨w.heap.size,0,none⟩) n n)).shut w.heap.size (n*c)).cur base n=some (.slice (some ⟨w.heap.size,0,none⟩) n n):=by
  show (if base=base/\n=n then _ else _)=_;simp
 have get: ∀i blk,i∈qU [(base,qP.grow e c n)]->qS (rD [(base,qP.grow e c n)] H) i=some blk->i=base/\blk= .grow e c n:=by
  intro i blk hi R;simp only[qU,aF7] at hi;subst hi;simp only[rD,qS,aHp,aFO] at R;exact⟨rfl,R.symm⟩
 have perm: ∀i blk b o,i∈qU [(base,qP.grow e c n)]->qS (rD [(base,qP.grow e c n)] H) i=some blk->sL ((g.tok base n (.slice (some ⟨w.heap.size,0,none⟩) n n)).shut w.heap.size (n*c)) i blk b o->w.heap.size<=b\/t7 g H (qU [(base,qP.grow e c n)]) b o:=by
  intro i blk b o hi E K;obtain⟨rfl,rfl⟩:=get i blk hi E;obtain⟨v',F,hb⟩:=K;rw[cur1] at F;obtain rfl:=aFU F;cases hb;exact .inl (aGc _)
 have Y:uI (Rd ((g.tok base n (.slice (some ⟨w.heap.size,0,none⟩) n n)).shut w.heap.size (n*c)) (w.alloc (.cells cs.toArray e)) u) u.cells l cs:=U▸DA (fun _ _ h=>wW le h) hl;have I:(w.alloc (.cells cs.toArray e)).rangeAt w.heap.size 0 cs:=fun j v V=>by
  rw[aGk,aHg];simpa using V
 refine⟨le,⟨.inr ⟨rfl,some ⟨w.heap.size,0,none⟩,n,by rw[z],by rw[z];exact aGc _,.inr ⟨w.heap.size,0,rfl,K4 Y I (fun j G=>?_)⟩⟩,?_⟩,hH.upd le fr perm gho (fun i blk hi E=>?_) (fun i j bi bj b o hi G M Q O _ _=>M ((get i bi hi Q).1.trans (get j bj G O).1.symm)) (fun b o h=>?_),fr,perm,gho,fun i u' y us h=>by
  simp only[rD,qS] at h;split at h
  .cases h
  exact .inl ⟨y,us,h⟩⟩
 .right;rw[z] at G;exact⟨rfl,by rw[U];omega⟩
 .show _=_;rw[z];exact cur1
 .obtain⟨rfl,rfl⟩:=get i blk hi E;refine⟨_,cs,cur1,⟨by rw[D,z],.inr ⟨w.heap.size,n,cs.toArray,rfl,aGS _,aHX w _,aGc _,X,by simp [D,z],by simp [<-z,<-D]⟩⟩,fun m Z=>?_,fun b hb o h=>?_⟩
  .show (if i=i/\m=n then _ else _)=_;rw[aFQ pT];exact hf m
  cases hb;rcases h with h|⟨_,h⟩
  .exact absurd (hH.sl _ _ h) (aHz _)
  exact h
 rcases h with h|⟨rfl,_⟩
 .exact aGq (hH.sl b o h) pV
 simp
theorem io: ∀{toks:pY}{off n q k:Nat},(q,k)∈tT toks off n->(q,k)∈toks/\¬(off<=q/\q<off+n)
 |[],_,_,_,_,h=>by simp [tT] at h
 |(q',k')::r,off,n,q,k,h=>by
  simp only[tT] at h;split at h
  .obtain⟨z,j⟩:=io h;exact⟨aF2 _ z,j⟩
  rename_i D;rcases aF1.1 h with h|h
  .cases h;exact⟨by simp,D⟩
  obtain⟨z,j⟩:=io h;exact⟨aF2 _ z,j⟩
theorem a41 {u:Ty}{y:u.den}: ∀{t:Ty}{x z:t.den}{o:Nat},u.isRow=false->sT u y t x o=some z->rH u t z o=some y:=by
 intro t
 induction t with
 |pair a b iha ihb=>
  intro x z o j h;have hne:u≠.pair a b:=by intro e;rw[e] at j;cases j
  have key: ∀o,(if o<a.cells then(sT u y a x.1 o).map (fun q=>(q,x.2)) else(sT u y b x.2 (o-a.cells)).map (fun q=>(x.1,q)))=some z->
    (if o<a.cells then rH u a z.1 o else rH u b z.2 (o-a.cells))=some y:=by
   intro o h;by_cases ho:o<a.cells
   .rw[aFP ho] at h|-;obtain⟨q,hq,rfl⟩:=aF6.1 h;exact iha j hq
   rw[aFQ ho] at h|-;obtain⟨q,hq,rfl⟩:=aF6.1 h;exact ihb j hq
  cases o with
  |zero=>
   unfold sT at h;unfold rH;rw[aHi hne] at h;rw[aHi (Ne.symm hne)];have:=key 0 (by simpa using h);simpa using this
  |succ o=>
   have:=key (o+1) (by simpa[sT] using h);simpa[rH] using this
 |_=>
  intro x z o j h;cases o with
  |zero=>
   unfold sT at h;split at h
   .rename_i e;subst e;simp only[uM,aFO] at h
    try subst h
    unfold rH;simp [uM]
   .simp at h
  |succ o=>simp [sT] at h
theorem XA {u v:Ty}{y:u.den}: ∀{t:Ty}{x z:t.den}{o q:Nat}{l:(Ty.list v).den},sT u y t x o=some z->rH (.list v) t x q=some l->¬(o<=q/\q<o+u.cells)->rH (.list v) t z q=some l:=by
 intro t
 induction t with
 |pair a b iha ihb=>
  intro x z o q l h g hq;by_cases E:o=0/\u= .pair a b
  .obtain⟨rfl,rfl⟩:=E;exfalso;apply hq;have: ∀(t:Ty) (x:t.den) (q:Nat) (l:(Ty.list v).den),rH (.list v) t x q=some l->q<t.cells:=by
    intro t
    induction t with
    |pair s t ihs iht=>
     intro x q l g;have key: ∀q,(if q<s.cells then rH (.list v) s x.1 q else rH (.list v) t x.2 (q-s.cells))=some l->q<s.cells+t.cells:=by
      intro q g;by_cases h:q<s.cells
      .omega
      rw[aFQ h] at g;have:=iht _ _ _ g;omega
     cases q with
     |zero=>
      unfold rH at g;rw[aHi (by intro e;cases e)] at g;exact key 0 (by simpa using g)
     |succ q=>exact key (q+1) (by simpa[rH] using g)
    |_=>
     intro x q l g;cases q with
     |zero=>first|(simp [Ty.cells];done) |(unfold rH at g;simp at g)
     |succ q=>simp [rH] at g
   exact⟨aGS _,by simpa using this _ _ _ _ g⟩
  .have keyh:(if o<a.cells then(sT u y a x.1 o).map (fun q=>(q,x.2)) else(sT u y b x.2 (o-a.cells)).map (fun q=>(x.1,q)))=some z:=by
    cases o with
    |zero=>
     unfold sT at h;rw[aHi (fun e=>E ⟨rfl,e⟩)] at h;simpa using h
    |succ o=>simpa[sT] using h
   have keyg: ∀x:(Ty.pair a b).den,rH (.list v) (.pair a b) x q=(if q<a.cells then rH (.list v) a x.1 q else rH (.list v) b x.2 (q-a.cells)):=by
    intro x;cases q with
    |zero=>
     conv=>lhs;unfold rH
     rw[aHi (by intro e;cases e),Nat.zero_sub]
    |succ q=>simp [rH]
   rw[keyg] at g|-;by_cases ho:o<a.cells
   .rw[aFP ho] at keyh;obtain⟨z',D,rfl⟩:=aF6.1 keyh;by_cases j:q<a.cells
    .rw[aFP j] at g|-;exact iha D g hq
    rw[aFQ j] at g|-;exact g
   .rw[aFQ ho] at keyh;obtain⟨z',D,rfl⟩:=aF6.1 keyh;by_cases j:q<a.cells
    .rw[aFP j] at g|-;exact g
    .rw[aFQ j] at g|-;exact ihb D g pT
 |unit=>
  intro x z o q l h g hq;cases q with
  |zero=>
   unfold rH at g;rw[aHi (by intro e;cases e)] at g;cases g
  |succ q=>simp [rH] at g
 |_=>
  intro x z o q l h g hq;cases o with
  |zero=>
   unfold sT at h;split at h
   .rename_i e;subst e;cases q with
    |zero=>exact absurd ⟨aGc _,Nat.zero_lt_one⟩ hq
    |succ q=>simp [rH] at g
   .simp at h
  |succ o=>simp [sT] at h
theorem rU.store {side:List Prop}{rds:qC}{i:Nat}{u t:Ty}{x z:u.den}{y:t.den}{off:Nat}{toks:pY}{k:qB}{p:Pl}{cy:q8}{v:qE}(hb:qS H i=some (.cells u x toks)) (hp:g.J i=some p)
  (I:sT t y u x off=some z) (hy:Rd g w t y cy) (hk:EB g t y v k) (hu: ∀a b,t= .pair a b->k=none) (hv:t.isRow=false->cy=[v]):
  rU g w H ⟨side,(.any,none),[(i,.cells u z (rD (yI k off) (tT toks off t.cells)))],rds⟩ g (w.setCells p.1 (p.2+off) cy) undef/\w.there p.1 (p.2+off) cy.length:=by
 obtain⟨p',cs,ha,hR,Z,O,hc,hn⟩:=hH.blk i _ hb;rw[hp] at ha;obtain rfl:=aFU ha;obtain⟨c1,c2,c3,hE,ht,hd,hz⟩:=S0 hy hR I;subst hE;subst ht;have hF:=t8 hR;have X:=t8 hy;simp only[aFR] at hF;have D:w.there p.1 (p.2+c1.length) cy.length:=fun j U=>by
  have:=O.1 (c1.length+j) pT;rwa [<-aGv] at this
 have E: ∀b o,(b=p.1->o<p.2+c1.length\/p.2+c1.length+cy.length<=o)->(w.setCells p.1 (p.2+c1.length) cy).cell? ⟨b,o,none⟩=w.cell? ⟨b,o,none⟩:=fun b o h=>World.cell?_setCells_out p.1 cy _ w ⟨b,o,none⟩ (fun e _=>h e);have he: ∀b o,b=p.1->p.2+c1.length<=o->o<p.2+c1.length+cy.length->sL g i (.cells u x toks) b o:=fun b o e F G=>⟨p,hp,e,pT,pT⟩;have Y:(w.setCells p.1 (p.2+c1.length) cy).heap.size=w.heap.size:=by
  have: ∀(l:q8) (o:Nat) (w:qD),(w.setCells p.1 o l).heap.size=w.heap.size:=by
   intro l
   induction l with
   |nil=>intro o w;rfl
   |cons v l ih=>intro o w;rw[World.setCells,ih];simp [World.setCell]
  exact this _ _ _
 have hG: ∀b,b≠p.1->(w.setCells p.1 (p.2+c1.length) cy).heap[b]? =w.heap[b]? :=by
  intro b hb;have: ∀(l:q8) (o:Nat) (w:qD),(w.setCells p.1 o l).heap[b]? =w.heap[b]? :=by
   intro l
   induction l with
   |nil=>intro o w;rfl
   |cons v l ih=>intro o w;rw[World.setCells,ih];exact Below.heap_setCell _ _ _ _ hb
  exact this _ _ _
 have Q:(w.setCells p.1 (p.2+c1.length) cy).os=w.os/\(w.setCells p.1 (p.2+c1.length) cy).tape=w.tape/\(w.setCells p.1 (p.2+c1.length) cy).output=w.output:=by
  have: ∀(l:q8) (o:Nat) (w:qD),(w.setCells p.1 o l).os=w.os/\(w.setCells p.1 o l).tape=w.tape/\(w.setCells p.1 o l).output=w.output:=by
   intro l
   induction l with
   |nil=>intro o w;exact⟨rfl,rfl,rfl⟩
   |cons v l ih=>intro o w;rw[World.setCells];exact ih _ _
  exact this _ _ _
 have hA: ∀b o,g.S b o->¬(b=p.1/\p.2<=o/\o<p.2+u.cells):=fun b o hs ⟨e,F,G⟩=>hc (o-p.2) pT (by rw[show p.2+(o-p.2)=o from by omega,<-e];exact hs);have le:Le g w g (w.setCells p.1 (p.2+c1.length) cy):=⟨fun _ _ h=>h,fun b o h=>E b o (fun e=>by
  have:=hA b o h;rcases aG6 o (p.2+c1.length) with F|F
  .exact .inl F
  rcases aG6 o (p.2+c1.length+cy.length) with G|G
  .exact absurd ⟨e,pT,pT⟩ this
  exact .inr G),fun _ _ h=>h,fun _ _ _ h=>h⟩
 have K: ∀b o,sL g i (.cells u x toks) b o->t7 g H (qU [(i,qP.cells u z (rD (yI k c1.length) (tT toks c1.length t.cells)))]) b o:=fun b o h=>⟨i,_,by simp [qU],hb,h⟩;have fr:Fr (t7 g H (qU [(i,qP.cells u z (rD (yI k c1.length) (tT toks c1.length t.cells)))])) w (w.setCells p.1 (p.2+c1.length) cy) g.S g.S:=by
  refine⟨Q.1,Q.2.1,Q.2.2,aHn Y.symm,fun b hI R=>?_,fun b o hI R=>⟨E b o (fun e=>?_),World.frozen?_setCells _ _ _ _ _⟩,fun b o h=> .inl h,fun b s hs=> .inl ((S6 _ _ _ _ _).trans hs)⟩
  .by_cases e:b=p.1
   .cases hD:cy with
    |nil=>rfl
    |cons q l=>exact absurd (K b (p.2+c1.length) (he b _ e (aGc _) (by rw[hD];simp))) (R _)
   exact hG b e
  rcases aG6 o (p.2+c1.length) with F|F
  .exact .inl F
  rcases aG6 o (p.2+c1.length+cy.length) with G|G
  .exact absurd (K b o (he b o e F G)) R
  exact .inr G
 have gho: ∀j,j∉qU [(i,qP.cells u z (rD (yI k c1.length) (tT toks c1.length t.cells)))]->g.J j=g.J j/\g.cur j=g.cur j:=fun _ _=>⟨rfl,rfl⟩;have get: ∀j blk,j∈qU [(i,qP.cells u z (rD (yI k c1.length) (tT toks c1.length t.cells)))]->qS (rD [(i,qP.cells u z (rD (yI k c1.length) (tT toks c1.length t.cells)))] H) j=some blk->j=i/\blk= .cells u z (rD (yI k c1.length) (tT toks c1.length t.cells)):=by
  intro j blk hi V;simp only[qU,aF7] at hi;subst hi;simp only[rD,qS,aHp,aFO] at V;exact⟨rfl,V.symm⟩
 have perm: ∀j blk b o,j∈qU [(i,qP.cells u z (rD (yI k c1.length) (tT toks c1.length t.cells)))]->qS (rD [(i,qP.cells u z (rD (yI k c1.length) (tT toks c1.length t.cells)))] H) j=some blk->sL g j blk b o->w.heap.size<=b\/t7 g H (qU [(i,qP.cells u z (rD (yI k c1.length) (tT toks c1.length t.cells)))]) b o:=by
  intro j blk b o hi V ho;obtain⟨rfl,rfl⟩:=get j blk hi V;exact .inr (K b o ho)
 refine⟨⟨le,⟨trivial,trivial⟩,hH.upd le fr perm gho (fun j blk hi V=>?_) (fun i j bi bj b o hi U hx hC hB _ _=>hx ((get i bi hi hC).1.trans (get j bj U hB).1.symm)) (fun b o h=>by rw[Y];exact hH.sl b o h),fr,perm,gho,fun j u' y' us h=>by
  simp only[rD,qS] at h;split at h
  .rename_i e1;subst e1;simp only[aFO,qP.cells.injEq] at h;obtain⟨rfl,_⟩:=h;exact .inl ⟨x,toks,hb⟩
  exact .inl ⟨y',us,h⟩⟩,D⟩
 obtain⟨rfl,rfl⟩:=get j blk hi V;refine⟨p,_,hp,wW le hz,fun q v hq=>?_,⟨fun q hq=>?_,fun h0 s hs=>(S6 _ _ _ _ _).trans (O.2 h0 s hs)⟩,hc,?_⟩
 .by_cases F:q<c1.length
  .rw[E _ _ (fun _=> .inl pT)];refine Z q v ?_;rw[aF3,aF9 F] at hq|-;exact hq
  by_cases G:q<c1.length+cy.length
  .have:=aHl p.1 cy (p.2+c1.length) w (fun j U=>(D j U).1) (q-c1.length) pT;rw[show p.2+c1.length+(q-c1.length)=p.2+q from by omega] at this;rw[this];rw[aF3,aFZ pT,aF9 pT] at hq;rw[<-hq,aFW pT]
  rw[E _ _ (fun _=> .inr pT)];refine Z q v ?_;rw[aF3,aFZ pT,aFZ pT] at hq|-;rw[hd];rw[X] at hq;exact hq
 .have hh:=O.1 q hq;refine⟨?_,by rw[World.frozen?_setCells];exact hh.2⟩;by_cases F:q<c1.length\/c1.length+cy.length<=q
  .rw[E _ _ (fun _=>by omega)];exact hh.1
  have:=aHl p.1 cy (p.2+c1.length) w (fun j U=>(D j U).1) (q-c1.length) pT;rw[show p.2+c1.length+(q-c1.length)=p.2+q from by omega] at this;rw[this];rfl
 intro q kk hm;have M:(q,kk)∈yI k c1.length\/(q,kk)∈tT toks c1.length t.cells:=by
  cases k with
  |none=>exact .inr (by simpa[yI,rD] using hm)
  |some k=>
   simp only[yI,rD,aF1] at hm;rcases hm with hm|hm
   .exact .inl (by simp [yI,hm])
   exact .inr hm
 rcases M with hm|hm
 .cases k with
  |none=>simp [yI] at hm
  |some k=>
   simp only[yI,aF7,aGi] at hm;obtain⟨rfl,rfl⟩:=hm;cases t with
   |list t=>
    obtain rfl:=hv rfl;exact⟨t,y,v,a41 hH rfl I,by simp,hk⟩
   |pair a b=>cases hu a b rfl
   |_=>exact hk.elim
 obtain⟨F,G⟩:=io hH hm;obtain⟨v',l,v1,g1,g2,g3⟩:=hn q kk F;refine⟨v',l,v1,XA hH I g1 G,?_,g3⟩;rcases aG6 q c1.length with h3|h3
 .rw[aF3,aF9 h3] at g2|-;exact g2
 have h4:c1.length+t.cells<=q:=by omega
 rw[aF3,aFZ pT,aFZ pT] at g2|-;rw[X];rw[hd] at g2;exact g2
theorem AI.openS {side:List Prop}{rds:qC}{i:Nat}{u u0:Ty}{el:Nat}{kn:q9}{x:u.den}{z: Σ t:Ty,t.den}{off:Nat}{toks:pY}{p:Pl}{cy:q8}(hb:qS H i=some (.cells u x toks)) (hp:g.J i=some p)
  (M:zC el u0 kn u x off=some z) (hy:CN g kn cy) (hd:cy.length=1) (he:JO rds=true):
  AI g w H ⟨side,(.any,none),[(i,.cells z.1 z.2 [])],rds⟩ g (w.setCells p.1 (p.2+off) cy) undef/\w.there p.1 (p.2+off) cy.length:=by
 obtain⟨p',cs,Z,hR,Y,O,ha,hF⟩:=hH.blk i _ hb;rw[hp] at Z;obtain rfl:=aFU Z;obtain⟨c1,c2,c3,hB,hn,hk,hz⟩:=a4p hy hR M;subst hB;subst hn;have hC:=t8 hR;have K:=a4o M;simp only[aFR] at hC;have D:w.there p.1 (p.2+c1.length) cy.length:=fun j U=>by
  have:=O.1 (c1.length+j) pT;rwa [<-aGv] at this
 have E: ∀b o,(b=p.1->o<p.2+c1.length\/p.2+c1.length+cy.length<=o)->(w.setCells p.1 (p.2+c1.length) cy).cell? ⟨b,o,none⟩=w.cell? ⟨b,o,none⟩:=fun b o h=>World.cell?_setCells_out p.1 cy _ w ⟨b,o,none⟩ (fun e _=>h e);have hc: ∀b o,b=p.1->p.2+c1.length<=o->o<p.2+c1.length+cy.length->sL g i (.cells u x toks) b o:=fun b o e F I=>⟨p,hp,e,pT,pT⟩;have X:(w.setCells p.1 (p.2+c1.length) cy).heap.size=w.heap.size:=by
  have: ∀(l:q8) (o:Nat) (w:qD),(w.setCells p.1 o l).heap.size=w.heap.size:=by
   intro l
   induction l with
   |nil=>intro o w;rfl
   |cons v l ih=>intro o w;rw[World.setCells,ih];simp [World.setCell]
  exact this _ _ _
 have hD: ∀b,b≠p.1->(w.setCells p.1 (p.2+c1.length) cy).heap[b]? =w.heap[b]? :=by
  intro b hb;have: ∀(l:q8) (o:Nat) (w:qD),(w.setCells p.1 o l).heap[b]? =w.heap[b]? :=by
   intro l
   induction l with
   |nil=>intro o w;rfl
   |cons v l ih=>intro o w;rw[World.setCells,ih];exact Below.heap_setCell _ _ _ _ hb
  exact this _ _ _
 have Q:(w.setCells p.1 (p.2+c1.length) cy).os=w.os/\(w.setCells p.1 (p.2+c1.length) cy).tape=w.tape/\(w.setCells p.1 (p.2+c1.length) cy).output=w.output:=by
  have: ∀(l:q8) (o:Nat) (w:qD),(w.setCells p.1 o l).os=w.os/\(w.setCells p.1 o l).tape=w.tape/\(w.setCells p.1 o l).output=w.output:=by
   intro l
   induction l with
   |nil=>intro o w;exact⟨rfl,rfl,rfl⟩
   |cons v l ih=>intro o w;rw[World.setCells];exact ih _ _
  exact this _ _ _
 have hu: ∀b o,g.S b o->¬(b=p.1/\p.2<=o/\o<p.2+u.cells):=fun b o hs ⟨e,F,I⟩=>ha (o-p.2) pT (by rw[show p.2+(o-p.2)=o from by omega,<-e];exact hs);have le:Le g w g (w.setCells p.1 (p.2+c1.length) cy):=⟨fun _ _ h=>h,fun b o h=>E b o (fun e=>by
  have:=hu b o h;rcases aG6 o (p.2+c1.length) with F|F
  .exact .inl F
  rcases aG6 o (p.2+c1.length+cy.length) with I|I
  .exact absurd ⟨e,pT,pT⟩ this
  exact .inr I),fun _ _ h=>h,fun _ _ _ h=>h⟩
 have G: ∀b o,sL g i (.cells u x toks) b o->t7 g H (qU [(i,qP.cells z.1 z.2 [])]) b o:=fun b o h=>⟨i,_,by simp [qU],hb,h⟩;have fr:Fr (t7 g H (qU [(i,qP.cells z.1 z.2 [])])) w (w.setCells p.1 (p.2+c1.length) cy) g.S g.S:=by
  refine⟨Q.1,Q.2.1,Q.2.2,aHn X.symm,fun b hE R=>?_,fun b o hE R=>⟨E b o (fun e=>?_),World.frozen?_setCells _ _ _ _ _⟩,fun b o h=> .inl h,fun b s hs=> .inl ((S6 _ _ _ _ _).trans hs)⟩
  .by_cases e:b=p.1
   .cases hA:cy with
    |nil=>rfl
    |cons q l=>exact absurd (G b (p.2+c1.length) (hc b _ e (aGc _) (by rw[hA];simp))) (R _)
   exact hD b e
  rcases aG6 o (p.2+c1.length) with F|F
  .exact .inl F
  rcases aG6 o (p.2+c1.length+cy.length) with I|I
  .exact absurd (G b o (hc b o e F I)) R
  exact .inr I
 have gho: ∀j,j∉qU [(i,qP.cells z.1 z.2 [])]->g.J j=g.J j/\g.cur j=g.cur j:=fun _ _=>⟨rfl,rfl⟩;have get: ∀j blk,j∈qU [(i,qP.cells z.1 z.2 [])]->qS (rD [(i,qP.cells z.1 z.2 [])] H) j=some blk->j=i/\blk= .cells z.1 z.2 []:=by
  intro j blk hi V;simp only[qU,aF7] at hi;subst hi;simp only[rD,qS,aHp,aFO] at V;exact⟨rfl,V.symm⟩
 have perm: ∀j blk b o,j∈qU [(i,qP.cells z.1 z.2 [])]->qS (rD [(i,qP.cells z.1 z.2 [])] H) j=some blk->sL g j blk b o->w.heap.size<=b\/t7 g H (qU [(i,qP.cells z.1 z.2 [])]) b o:=by
  intro j blk b o hi V ho;obtain⟨rfl,rfl⟩:=get j blk hi V;obtain⟨q,hq,e1,e2,e3⟩:=ho;rw[K] at e3;exact .inr (G b o ⟨q,hq,e1,e2,e3⟩)
 refine⟨⟨le,⟨trivial,trivial⟩,hH.upd le fr perm gho (fun j blk hi V=>?_) (fun i j bi bj b o hi U ht hx hv _ _=>ht ((get i bi hi hx).1.trans (get j bj U hv).1.symm)) (fun b o h=>by rw[X];exact hH.sl b o h),fr,perm,gho,fun h=>by rw[he] at h;cases h⟩,D⟩;obtain⟨rfl,rfl⟩:=get j blk hi V;refine⟨p,_,hp,wW le hz,fun q v hq=>?_,⟨fun q hq=>?_,fun h0 s hs=>(S6 _ _ _ _ _).trans (O.2 (by rw[<-K];exact h0) s hs)⟩,fun q hq=>ha q (by rw[<-K];exact hq),fun _ _ hm=>by cases hm⟩
 .by_cases F:q<c1.length
  .rw[E _ _ (fun _=> .inl pT)];refine Y q v ?_;rw[aF3,aF9 F] at hq|-;exact hq
  by_cases I:q<c1.length+cy.length
  .have:=aHl p.1 cy (p.2+c1.length) w (fun j U=>(D j U).1) (q-c1.length) pT;rw[show p.2+c1.length+(q-c1.length)=p.2+q from by omega] at this;rw[this];rw[aF3,aFZ pT,aF9 pT] at hq;rw[<-hq,aFW pT]
  rw[E _ _ (fun _=> .inr pT)];refine Y q v ?_;rw[aF3,aFZ pT,aFZ pT] at hq|-;rw[hk];rw[hd] at hq;exact hq
 have hh:=O.1 q (by rw[<-K];exact hq);refine⟨?_,by rw[World.frozen?_setCells];exact hh.2⟩;by_cases F:q<c1.length\/c1.length+cy.length<=q
 .rw[E _ _ (fun _=>by omega)];exact hh.1
 have:=aHl p.1 cy (p.2+c1.length) w (fun j U=>(D j U).1) (q-c1.length) pT;rw[show p.2+c1.length+(q-c1.length)=p.2+q from by omega] at this;rw[this];rfl
end
end Go.Proofs.YtcpbaddnmpeipaaGreatDoor.Vc
