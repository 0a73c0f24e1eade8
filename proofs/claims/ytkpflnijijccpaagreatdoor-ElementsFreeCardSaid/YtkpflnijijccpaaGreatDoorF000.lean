/- Packed by a program of mine (wip/tools/pack.py): the same texts with short names and few blanks. -/
import Derived.Below
import Derived.Calls
import Derived.Deep.MidRow
import Derived.Deep.Upon
import Derived.Laws.AppendOwn
import Derived.Laws.BitsLemmas
import Derived.Laws.OwnMore
import Derived.Shelf.Strconv.Itoa3
import Derived.Shelf.Strings.Fields
import Derived.Shelf.Unicode.DecodeSlow
import Derived.Still
import Derived.WalkKit
set_option linter.defProp false
set_option linter.unusedVariables false
set_option linter.unusedSimpArgs false
set_option linter.unusedSectionVars false
set_option maxRecDepth 100000
set_option maxHeartbeats 4000000
namespace Go.Proofs
abbrev pD:=List UInt8
abbrev pE:=List pD
def aLO:=@_root_.Option.some.injEq
def aLP:=@_root_.Option.bind_some
def aLQ:=@_root_.if_pos
def aLR:=@_root_.Option.isSome_iff_exists
def aLS:=@_root_.Option.some.inj
def aLT:=@_root_.List.length_append
def aLU:=@_root_.if_neg
def aLV:=@_root_.List.append_assoc
def aLW:=@_root_.Option.map_eq_some_iff
def aLX:=@_root_.Go.Result.andThen_ok
def aLY:=@_root_.List.length_cons
def aLZ:=@_root_.List.getElem?_eq_getElem
def aL0:=@_root_.List.getElem?_append_right
def aL1:=@_root_.List.getElem?_eq_some_iff
def aL2:=@_root_.Go.Sem.run_bind
def aL3:=@_root_.List.mem_cons
def aL4:=@_root_.List.getElem?_append_left
def aL5:=@_root_.List.mem_cons_of_mem
def aL6:=@_root_.List.mem_singleton
def aL7:=@_root_.List.mem_cons_self
def aL8:=@_root_.List.length_drop
def aL9:=@_root_.congrArg
def aMa:=@_root_.Go.run_underlying
def aMb:=@_root_.Bool.and_eq_true
def aMc:=@_root_.Nat.le_refl
def aMd:=@_root_.List.length_take
def aMe:=@_root_.Go.World.cell?_of_block
def aMf:=@_root_.Go.Sem.run_pure
def aMg:=@_root_.decide_eq_true
def aMh:=@_root_.List.length_nil
def aMi:=@_root_.Array.getElem?_eq_some_iff
def aMj:=@_root_.decide_eq_true_eq
def aMk:=@_root_.Array.getD_eq_getD_getElem?
def aMl:=@_root_.Prod.mk.injEq
def aMm:=@_root_.List.getElem?_cons_zero
def aMn:=@_root_.List.length_pos_iff
def aMo:=@_root_.List.eq_nil_of_length_eq_zero
def aMp:=@_root_.Go.RowKit.Below.heap_alloc
def aMq:=@_root_.Bool.not_eq_true'
def aMr:=@_root_.List.getD_eq_getElem?_getD
def aMs:=@_root_.Nat.zero_add
def aMt:=@_root_.Array.length_toList
def aMu:=@_root_.Nat.lt_of_lt_of_le
def aMv:=@_root_.of_decide_eq_true
def aMw:=@_root_.List.drop_eq_getElem_cons
def aMx:=@_root_.List.getElem?_cons_succ
def aMy:=@_root_.Nat.add_assoc
def aMz:=@_root_.Bool.or_eq_false_iff
def aMA:=@_root_.List.reverse_cons
def aMB:=@_root_.List.all_eq_true
def aMC:=@_root_.Nat.add_sub_cancel_left
def aMD:=@_root_.List.flatten_cons
def aME:=@_root_.Go.World.frozen?_of_block
def aMF:=@_root_.List.size_toArray
def aMG:=@_root_.List.any_eq_false
def aMH:=@_root_.decide_eq_false_iff_not
def aMI:=@_root_.List.cons.injEq
def aMJ:=@_root_.List.take_append_of_le_length
def aMK:=@_root_.Int.toNat_natCast
def aML:=@_root_.List.mem_append
def aMM:=@_root_.List.length_map
def aMN:=@_root_.Nat.le_trans
def aMO:=@_root_.List.findIdx?_eq_some_iff_getElem
def aMP:=@_root_.Go.run_program
def aMQ:=@_root_.List.map_cons
def aMR:=@_root_.Nat.zero_le
def aMS:=@_root_.Nat.le_of_ble_eq_true
def aMT:=@_root_.Array.getElem?_toList
def aMU:=@_root_.List.drop_length
def aMV:=@_root_.Array.toList_inj
def aMW:=@_root_.List.getElem?_take_of_lt
def aMX:=@_root_.Nat.succ_mul
def aMY:=@_root_.Nat.lt_or_ge
def aMZ:=@_root_.Bool.or_eq_true
def aM0:=@_root_.Array.getElem?_modify
def aM1:=@_root_.Bool.not_eq_false'
def aM2:=@_root_.List.take_left
def aM3:=@_root_.List.pairwise_iff_getElem
def aM4:=@_root_.List.getElem_mem
def aM5:=@_root_.Int.le_refl
def aM6:=@_root_.Go.Addr.add_mid
def aM7:=@_root_.Nat.add_zero
def aM8:=@_root_.Bool.not_eq_true
def aM9:=@_root_.List.length_eq_one_iff
def aNa:=@_root_.Array.getElem?_setIfInBounds_ne
def aNb:=@_root_.List.drop_zero
def aNc:=@_root_.List.getElem?_eq_none
def aNd:=@_root_.List.getElem?_take
def aNe:=@_root_.Array.toArray_toList
def aNf:=@_root_.Go.World.cell?_setCells_in
def aNg:=@_root_.List.length_eq_zero_iff
def aNh:=@_root_.Go.setRow_other
def aNi:=@_root_.List.not_mem_nil
def aNj:=@_root_.Nat.le_of_eq
def aNk:=@_root_.List.take_append_drop
def aNl:=@_root_.List.length_singleton
def aNm:=@_root_.Classical.choose_spec
def aNn:=@_root_.List.mem_range
def aNo:=@_root_.if_true
def aNp:=@_root_.Nat.lt_irrefl
def aNq:=@_root_.List.drop_left
def aNr:=@_root_.dif_neg
def aNs:=@_root_.List.findIdx?_cons
def aNt:=@_root_.Bool.false_eq_true
def aNu:=@_root_.Array.getElem?_setIfInBounds
def aNv:=@_root_.Go.wpIn_mono
def aNw:=@_root_.Bool.and_eq_false_iff
def aNx:=@_root_.Go.Addr.add_lit
def aNy:=@_root_.Array.getElem?_eq_getElem
def aNz:=@_root_.List.mem_toArray
def aNA:=@_root_.Go.IntKind.wrap_i64
def aNB:=@_root_.Go.setRow_heap
def aNC:=@_root_.Nat.mul_one
def aND:=@_root_.List.getElem_of_mem
def aNE:=@_root_.Nat.sub_self
def aNF:=@_root_.Array.getElem?_push_size
def aNG:=@_root_.List.pairwise_cons
def aNH:=@_root_.List.append_inj
def aNI:=@_root_.Bool.eq_iff_iff
def aNJ:=@_root_.Array.foldl_toList
def aNK:=@_root_.Go.Value.slice.injEq
def aNL:=@_root_.Array.size_append
def aNM:=@_root_.Go.heap_alloc_new
def aNN:=@_root_.List.drop_drop
def aNO:=@_root_.Go.World.cell?_alloc_new
def aNP:=@_root_.dif_pos
def aNQ:=@_root_.decide_eq_decide
def aNR:=@_root_.Option.getD_some
def aNS:=@_root_.List.drop_succ_cons
def aNT:=@_root_.if_false
theorem pG{p:Prop}(h:p:=by omega):p:=h
theorem pH{p:Prop}(h:p:=by decide):p:=h
theorem pI{p:Prop}(h:p:=by simp):p:=h
theorem pJ{p:Prop}(h:p:=by simp;omega):p:=h
theorem pT{p:Prop}(h:p:=by first|rfl|trivial):p:=h
theorem pU{p:Prop}(h:p:=by kernel_rfl):p:=h
theorem pV{p:Prop}(h:p:=by rfl):p:=h
theorem pF{a:Type}{p q r:a->Prop}(k:a)(h1:p k:=by rfl)(h2:q k:=by rfl)(h3:r k:=by rfl): ∃k,p k/\q k/\r k:=⟨k,h1,h2,h3⟩
abbrev pK:=List (pD×Bool)
abbrev pL:=List (Nat×Nat)
abbrev pM:=List Int
abbrev pN:=List Value
abbrev pO:=Option (Nat×Nat)
abbrev pP:=Option Nat
abbrev pQ:=List Nat
abbrev pR:=World
abbrev pS:=Value
end Go.Proofs
namespace Go.Proofs.YtkpflnijijccpaaGreatDoor.Vc
def NG:Nat:=5
def a5I:Nat:=73
def a5J:List (Nat×Array pS):=[(0,(Lib.asciiSpaceTab.map fun z=>Value.int .u8 z).toArray)]
def aDW (w:pR):Prop:= ∀x∈a5J,x.1<NG/\∃e fz,w.heap[x.1]? =some (.cells x.2 e fz)
def CP (w:pR):Prop:=NG<=w.heap.size/\Lib.Utf8Tabs 3 4 w/\(∃m,w.cell? ⟨1,0,none⟩=some (.int .i64 m))/\aDW w
theorem HW {w w':pR}(h:CP w) (hs:w.heap.size<=w'.heap.size) (hb: ∀b,b<NG->w'.heap[b]? =w.heap[b]?):CP w':=by
 obtain⟨h0,⟨h1,h2⟩,⟨m,h3⟩,h4⟩:=h;have hc: ∀b o,b<NG->w'.cell? ⟨b,o,none⟩=w.cell? ⟨b,o,none⟩:=fun b o h=>aMe (a:=⟨b,o,none⟩) (hb b h);refine⟨aMN h0 hs,⟨fun c hc'=> ?_,fun i hi=>⟨?_,?_⟩⟩,⟨m,?_⟩,fun x hx=>⟨(h4 x hx).1,by obtain⟨h5,e,fz,h6⟩:=h4 x hx;exact⟨e,fz,(hb _ h5).trans h6⟩⟩⟩
 .rw[hc _ _ pH];exact h1 c hc'
 .rw[hc _ _ pH];exact(h2 i hi).1
 .rw[hc _ _ pH];exact(h2 i hi).2
 .rw[hc _ _ pH];exact h3
attribute [go_sem] a5I
inductive Ty where
 |bool|int (k:IntKind) |str|list (t:Ty) |unit|pair (a b:Ty) |ref|clo|mp|rl (e:Nat) (t:Ty) |mref|fn
 deriving DecidableEq
abbrev Ty.den:Ty->Type
 | .bool=>Bool
 | .int _=>Int
 | .str=>pD
 | .list t=>List t.den
 | .unit=>Unit
 | .pair a b=>a.den×b.den
 | .ref=>pO
 | .clo=>Option (Nat×pL)
 | .mp=>pP
 | .rl _ _=>pO
 | .fn=>pP
 | .mref=>pO
@[go_sem] def Ty.cells:Ty->Nat
 | .unit=>0
 | .pair a b=>a.cells+b.cells
 | .bool| .int _| .str| .list _| .ref| .clo| .mp| .rl _ _| .mref| .fn=>1
@[go_sem] def Ty.zero:(t:Ty)->t.den
 | .bool=>false
 | .int _=>(0:Int)
 | .str=>[]
 | .list _=>[]
 | .unit=>()
 | .pair a b=>(a.zero,b.zero)
 | .ref=>none
 | .clo=>none
 | .mp=>none
 | .rl _ _=>none
 | .fn=>none
 | .mref=>none
@[go_sem] def Ty.isRow:Ty->Bool
 | .unit| .pair _ _=>true
 | .bool| .int _| .str| .list _| .ref| .clo| .mp| .rl _ _| .mref| .fn=>false
@[go_sem] def Ty.pure:Ty->Bool
 | .ref| .clo| .mp| .rl _ _| .mref=>false
 | .list t=>t.pure
 | .pair a b=>a.pure&&b.pure
 | .bool| .int _| .str| .unit| .fn=>true
def qW (t:Ty) (l:List t.den) (i:Int):t.den:=l.getD i.toNat t.zero
def tU (l:pD) (i:Int):Int:=((l.getD i.toNat 0).toNat:Int)
def uF {t u:Ty}(h:t=u) (x:t.den):u.den:=h▸x
@[go_sem] theorem K2 {t:Ty}(x:t.den):uF (rfl:t=t) x=x:=rfl
@[go_sem] def rC (u:Ty):(t:Ty)->t.den->Nat->Option u.den
 |t,x,0=>if h:t=u then some (uF h x) else match t,x with
  | .pair a b,x=>if 0<a.cells then rC u a x.1 0 else rC u b x.2 0
  |_,_=>none
 | .pair a b,x,o+1=>if o+1<a.cells then rC u a x.1 (o+1) else rC u b x.2 (o+1-a.cells)
 |_,_,_=>none
@[go_sem] def sU (u:Ty) (y:u.den):(t:Ty)->t.den->Nat->Option t.den
 |t,x,0=>if h:u=t then some (uF h y) else match t,x with
  | .pair a b,x=>if 0<a.cells then(sU u y a x.1 0).map (fun z=>(z,x.2)) else(sU u y b x.2 0).map (fun z=>(x.1,z))
  |_,_=>none
 | .pair a b,x,o+1=>if o+1<a.cells then(sU u y a x.1 (o+1)).map (fun z=>(z,x.2)) else(sU u y b x.2 (o+1-a.cells)).map (fun z=>(x.1,z))
 |_,_,_=>none
@[go_sem] def Ty.proj:(t:Ty)->t.den->Nat->Option (Σ u:Ty,u.den)
 | .pair a _,x,0=>some ⟨a,x.1⟩
 | .pair _ b,x,i+1=>b.proj x.2 i
 |_,_,_=>none
@[go_sem] def Ty.offs:Ty->Nat->pP
 | .pair _ _,0=>some 0
 | .pair a b,i+1=>(b.offs i).map fun o=>a.cells+o
 |_,_=>none
@[go_sem] def Ty.fld:Ty->Nat->Option Ty
 | .pair a _,0=>some a
 | .pair _ b,i+1=>b.fld i
 |_,_=>none
@[go_sem] def Ty.setPart (u:Ty) (y:u.den):(t:Ty)->t.den->Nat->Option t.den
 | .pair a b,x,0=>if h:u=a then some (uF h y,x.2) else none
 | .pair a b,x,i+1=>(Ty.setPart u y b x.2 i).map fun z=>(x.1,z)
 |_,_,_=>none
inductive DV where
 |any
 |nilS
 |val (t:Ty) (x:t.den)
 |at (t:Ty) (x:t.den)
 |tup (l:List ((Σ t:Ty,t.den)×pP))
 |cond (p:Bool) (d:DV)
 |flag (p q:Prop)
 |own (k n:Nat)
 |elt (k n c:Nat) (i:Int) (o:Nat)
 |nxt (b:Bool) (p c:Int)
abbrev qC:=DV×pP
inductive q9 where
 |cells (t:Ty) (x:t.den) (toks:pL)
 |grow (e:TypeId) (c:Nat) (n:Nat)
 |row (e:TypeId) (t:Ty) (l:List t.den) (n:Nat)
 |map (k v:Ty) (l:List (k.den×v.den))
 |iter (s:pD) (p:Nat)
 |dead
structure St where
 env:List (Nat×qC)
 H:List (Nat×q9)
 nb:Nat
 N:Nat
 np:Nat:=0
@[go_sem] def lk:List (Nat×qC)->Nat->qC
 |[],_=>(.any,none)
 |(k,s)::r,t=>if k=t then s else lk r t
@[go_sem] def qD:List (Nat×q9)->Nat->Option q9
 |[],_=>none
 |(k,s)::r,t=>if k=t then some s else qD r t
structure TI where
 ty:Ty
 elem:TypeId:=0
 bytes:Nat:=0
 arr:Bool:=false
 ls:List (Nat×TypeId×Nat):=[]
abbrev sM:=List (Nat×TI)
@[go_sem] def rK:sM->TypeId->Option TI
 |[],_=>none
 |(k,s)::r,t=>if k=t then some s else rK r t
inductive PK where
 |v|own|p (t:Ty) (os:pQ) |m|r|f (ks:List (Ty×pQ))
structure qI where
 side:List Prop
 ret:List qC
 H:List q9
structure r6 where
 ps:List PK
 C:List qC->List q9->Option qI
 gs:List (Nat×Nat×PK):=[]
 same:pQ:=[]
 row:Option ((t:Ty)->List t.den->Option (List t.den)):=none
abbrev tX:=Nat->Option r6
structure qH where
 side:List Prop
 slot:qC
 upd:List (Nat×q9)
 rds:pQ
@[go_sem] def GB:pQ->Bool
 |[]=>false
 |i::_=>if i=1000000000 then true else false
@[go_sem] def orE:Option qH->Option qH->Option qH
 |some r,_=>some r
 |none,r=>r
@[go_sem] def zX:Option (List Prop×DV)->Option qH
 |some (p,d)=>some ⟨p,(d,none),[],[]⟩
 |none=>none
@[go_sem] def UQ:pS->DV
 | .bool b=> .val .bool b
 | .int k n=> .val (.int k) n
 | .string s=> .val .str s.data.toList
 | .slice none 0 0=> .nilS
 | .pointer none=> .val .ref none
 | .nilFunc=> .val .clo none
 | .map none=> .val .mp none
 |_=> .any
@[go_sem] def u6 (env:List (Nat×qC)):Operand->qC
 | .tmp t=>lk env t
 | .const v=>(UQ v,none)
 | .func f=>(.val .clo (some (f,[])),none)
 | .global _=>(.any,none)
@[go_sem] def K3:Option TI->qC->qC
 |some ⟨.list t,_,_,_,_⟩,(.nilS,_)=>(.val (.list t) [],none)
 |_,s=>s
@[go_sem] def HX:IntKind->Int->List Prop×DV
 | .i64,n=>([-9223372036854775808<=n/\n<=9223372036854775807],.val (.int .i64) n)
 |k,n=>([],.val (.int k) (k.wrap n))
@[go_sem] def qP {α:Type}:List α->List α->List α
 |[],m=>m
 |x::l,m=>x::qP l m
@[go_sem] def B9:(t:Ty)->t.den->t.den->Option Bool
 | .bool,a,b=>some (a==b)
 | .int _,a,b=>some (decide ((a:Int)=b))
 | .str,a,b=>some (decide ((a:pD)=b))
 | .unit,_,_=>some true
 | .pair s t,a,b=>eqAnd (B9 s a.1 b.1) (B9 t a.2 b.2)
 |_,_,_=>none
where
 eqAnd:Option Bool->Option Bool->Option Bool
  |some x,some y=>some (x&&y)
  |_,_=>none
attribute [go_sem] B9.eqAnd
@[go_sem] def UR (k:IntKind) (a b:Int):BinOp->Option (List Prop×DV)
 | .add=>some (HX k (a+b))
 | .sub=>some (HX k (a-b))
 | .mul=>some (HX k (a*b))
 | .eql=>some ([],.val .bool (decide (a=b)))
 | .neq=>some ([],.val .bool (!decide (a=b)))
 | .lss=>some ([],.val .bool (decide (a<b)))
 | .leq=>some ([],.val .bool (decide (a<=b)))
 | .gtr=>some ([],.val .bool (decide (b<a)))
 | .geq=>some ([],.val .bool (decide (b<=a)))
 | .quo=>some ([b≠0],.val (.int k) (k.wrap (Int.tdiv a b)))
 | .rem=>some ([b≠0],.val (.int k) (Int.tmod a b))
 | .and=>some ([],.val (.int k) (bits .and k a b))
 | .or=>some ([],.val (.int k) (bits .or k a b))
 | .xor=>some ([],.val (.int k) (bits .xor k a b))
 | .andNot=>some ([],.val (.int k) (bits .andNot k a b))
 |_=>none
def US (k:IntKind) (a b:Int):Int:=k.wrap (a*2^min b.toNat k.bits)
def xL (k:IntKind) (a b:Int):Int:=a.fdiv (2^min b.toNat k.bits)
@[go_sem] def a5L (k:IntKind) (a:Int) (k':IntKind) (b:Int):BinOp->Option (List Prop×DV)
 | .shl=>some ([0<=b],.val (.int k) (US k a b))
 | .shr=>some ([0<=b],.val (.int k) (xL k a b))
 |op=>if k=k' then UR k a b op else none
@[go_sem] def UT (a b:pD):BinOp->Option (List Prop×DV)
 | .add=>some ([((a++b).length:Int)<=9223372036854775807],.val .str (a++b))
 | .eql=>some ([],.val .bool (decide (a=b)))
 | .neq=>some ([],.val .bool (!decide (a=b)))
 | .lss=>some ([],.val .bool (Op.bytesLess a b))
 | .leq=>some ([],.val .bool (Op.bytesLess a b||decide (a=b)))
 | .gtr=>some ([],.val .bool (!(Op.bytesLess a b||decide (a=b))))
 | .geq=>some ([],.val .bool (!Op.bytesLess a b))
 |_=>none
@[go_sem] def a5M:BinOp->Option Bool->Option (List Prop×DV)
 | .eql,some r=>some ([],.val .bool r)
 | .neq,some r=>some ([],.val .bool (!r))
 |_,_=>none
@[go_sem] def QA (op:BinOp):qC->qC->Option (List Prop×DV)
 |(.val (.int k) a,_),(.val (.int k') b,_)=>a5L k a k' b op
 |(.val .str a,_),(.val .str b,_)=>UT a b op
 |_,_=>none
@[go_sem] def a5N (k:IntKind) (a b:Int):BinOp->Option (List Prop×DV)
 | .add=>some ([],.val (.int k) (k.wrap (a+b)))
 | .sub=>some ([],.val (.int k) (k.wrap (a-b)))
 | .mul=>some ([],.val (.int k) (k.wrap (a*b)))
 |_=>none
@[go_sem] def QB (op:BinOp):Option TI->qC->qC->Option (List Prop×DV)
 |some ⟨.int _,_,_,true,_⟩,(.val (.int k) a,_),(.val (.int k') b,_)=>if k=k' then a5N k a b op else none
 |_,_,_=>none
@[go_sem] def a5O (u:Ty) (b:Nat) (op:BinOp) (t t':Ty) (x:t.den) (y:t'.den):Option (List Prop×DV):=
 if h:t'=t then(if t=u/\(t= .bool\/(t.isRow=true/\b=1)) then a5M op (B9 t x (uF h y)) else none) else none
@[go_sem] def QC {α:Type}(l:List α):BinOp->Option (List Prop×DV)
 | .eql=>some ([],.flag (l=[]) True)
 | .neq=>some ([],.flag True (l=[]))
 |_=>none
@[go_sem] def UU:Option TI->BinOp->qC->qC->Option (List Prop×DV)
 |some ⟨.list _,_,_,_,_⟩,op,(.val (.list _) l,_),(.nilS,_)=>QC l op
 |some ⟨.list _,_,_,_,_⟩,op,(.nilS,_),(.val (.list _) l,_)=>QC l op
 |some ⟨u,_,b,_,_⟩,op,(.val t x,_),(.val t' y,_)=>a5O u b op t t' x y
 |_,_,_,_=>none
@[go_sem] def UV:Option (List Prop×DV)->Option (List Prop×DV)->Option (List Prop×DV)
 |some r,_=>some r
 |none,r=>r
@[go_sem] def UW:UnOp->qC->Option (List Prop×DV)
 | .not,(.val .bool b,_)=>some ([],.val .bool (!b))
 | .neg,(.val (.int k) n,_)=>some (HX k (-(n:Int)))
 |_,_=>none
def x7 (l:pM):pD:=l.map fun n=>UInt8.ofNat n.toNat
def uW (s:pD):pM:=s.map fun b=>(b.toNat:Int)
@[go_sem] def QD:Option TI->Option TI->qC->Option (List Prop×DV)
 |some _,some ⟨.int k,_,_,_,_⟩,(.val (.int _) n,_)=>some ([],.val (.int k) (k.wrap n))
 |some _,some ⟨.str,_,_,_,_⟩,(.val .str s,_)=>some ([],.val .str s)
 |_,_,_=>none
@[go_sem] def a5P (l:pM):Option TI->Option (List Prop×DV)
 |some ⟨.int .u8,_,_,_,_⟩=>some ([],.val .str (x7 l))
 |_=>none
@[go_sem] def UX (T:sM):Option TI->Option TI->qC->Option (List Prop×DV)
 |some ⟨.list (.int .u8),e,_,_,_⟩,some ⟨.str,_,_,_,_⟩,(.val (.list (.int .u8)) l,_)=>a5P l (rK T e)
 |_,_,_=>none
def sD {α:Type}(l:List α) (lo hi:Int):List α:=(l.drop lo.toNat).take (hi.toNat-lo.toNat)
@[go_sem] def CQ:Option qC->Int->Option Int
 |none,d=>some d
 |some (.val (.int _) n,_),_=>some n
 |_,_=>none
@[go_sem] def QE (t:Ty) (n:Nat) (f:Int->Int->t.den):Option Int->Option Int->Option (List Prop×DV)
 |some a,some b=>some ([0<=a/\a<=b/\b<=(n:Int)],.val t (f a b))
 |_,_=>none
@[go_sem] def UY:Option TI->qC->Option qC->Option qC->Option (List Prop×DV)
 |some ⟨.str,_,_,_,_⟩,(.val .str l,_),lo,hi=>QE .str (List.length l) (sD l) (CQ lo 0) (CQ hi (List.length l))
 |some ⟨.list u,_,_,_,_⟩,(.val (.list t) l,_),lo,hi=>if t=u then QE (.list t) (List.length l) (sD l) (CQ lo 0) (CQ hi (List.length l)) else none
 |_,_,_,_=>none
@[go_sem] def QF (t:Ty) (x:t.den) (i:Nat):Option Ty->Option t.den
 |some (.list u)=>Ty.setPart (.list u) [] t x i
 |_=>none
@[go_sem] def zY (t:Ty):Option t.den->List (Nat×qC)->Option t.den
 |some x,[]=>some x
 |some x,(i,(.val u y,_))::r=>zY t (Ty.setPart u y t x i) r
 |some x,(i,(.nilS,_))::r=>zY t (QF t x i (t.fld i)) r
 |_,_=>none
@[go_sem] def C2 (t:Ty):Nat->List t.den
 |0=>[]
 |n+1=>t.zero::C2 t n
@[go_sem] def a5Q (t:Ty) (n:Nat) (l:List t.den) (i:Nat) (u:Ty) (y:u.den):Option (List t.den):=if h:u=t/\i<n then some (l.set i (uF h.1 y)) else none
@[go_sem] def AI (t:Ty) (n:Nat):Option (List t.den)->List (Nat×qC)->Option (List t.den)
 |some l,[]=>some l
 |some l,(i,(.val u y,_))::r=>AI t n (a5Q t n l i u y) r
 |_,_=>none
attribute [go_sem] List.set_cons_zero List.set_cons_succ
@[go_sem] def HY:List qC->Option pL
 |[]=>some []
 |(.val .ref (some p),_)::r=>(HY r).map (p:: ·)
 |_=>none
@[go_sem] def wS:pL->Nat->pP
 |[],_=>none
 |(o,k)::r,a=>if o=a then some k else wS r a
@[go_sem] def x8:pP->Nat->pL
 |some k,o=>[(o,k)]
 |none,_=>[]
@[go_sem] def vJ:pL->Nat->Nat->pL
 |[],_,_=>[]
 |(q,k)::r,o,n=>if o<=q/\q<o+n then vJ r o n else(q,k)::vJ r o n
@[go_sem] def DQ:Ty->pP->pP
 | .list _,k=>k
 |_,_=>none
@[go_sem] def yQ {α:Type}:List α->List α->List α
 |[],acc=>acc
 |x::l,acc=>yQ l (x::acc)
inductive rH where
 |box (id:Nat) (u:Ty) (x:u.den) (toks:pL) (o:Nat)
 |tok (id:Nat)
@[go_sem] def rH.id:rH->Nat
 | .box i _ _ _ _=>i
 | .tok k=>k
@[go_sem] def BA:Nat->pQ->Bool
 |_,[]=>false
 |i,j::r=>if i=j then true else BA i r
@[go_sem] def sF:List rH->pQ
 |[]=>[]
 |w::r=>w.id::sF r
structure t7 where
 args:List qC
 H:List q9
 ws:List rH
 n:Nat
@[go_sem] def HZ:pQ->Nat->pL
 |[],_=>[]
 |q::qs,n=>(q,n)::HZ qs (n+1)
@[go_sem] def BB (k:Nat):Option q9->Option t7->Option t7
 |some (.grow e c m),some a=>if BA k (sF a.ws)=true then none else some ⟨a.args,.grow e c m::a.H,.tok k::a.ws,a.n+1⟩
 |_,_=>none
@[go_sem] def yR (H:List (Nat×q9)):pP->Option t7->Option t7
 |some k,a=>BB k (qD H k) a
 |none,_=>none
@[go_sem] def xZ (H:List (Nat×q9)) (toks:pL) (o:Nat):pQ->Option t7->Option t7
 |[],a=>a
 |q::qs,a=>xZ H toks o qs (yR H (wS toks (o+q)) a)
@[go_sem] def K4 (n:Nat):pQ->Bool
 |[]=>true
 |q::qs=>decide (q<n)&&K4 n qs
@[go_sem] def DR (H:List (Nat×q9)) (t:Ty) (os:pQ) (i o:Nat) (u:Ty) (x:u.den) (toks:pL) (a:t7):Option t.den->Option t7
 |some y=>if (K4 t.cells os&& !BA i (sF a.ws))=true then xZ H toks o os (some ⟨(.val .ref (some (a.n,0)),none)::a.args,.cells t y (HZ os (a.n+1))::a.H,.box i u x toks o::a.ws,a.n+1⟩) else none
 |none=>none
@[go_sem] def vR (H:List (Nat×q9)) (t:Ty) (os:pQ) (i o:Nat) (a:t7):Option q9->Option t7
 |some (.cells u x toks)=>DR H t os i o u x toks a (rC t u x o)
 |_=>none
@[go_sem] def BC (t:Ty) (x:t.den) (k:Nat) (a:t7):Option q9->Option t7
 |some (.grow e c m)=>if (t.pure&& !BA k (sF a.ws))=true then some ⟨(.val t x,some a.n)::a.args,.grow e c m::a.H,.tok k::a.ws,a.n+1⟩ else none
 |_=>none
@[go_sem] def QG (t:Ty) (x:t.den) (a:t7):Option t7:=
 if t.pure=true then some ⟨(.val t x,none)::a.args,a.H,a.ws,a.n⟩ else none
@[go_sem] def QH (f:FuncId) (a:t7):Option t7:=some ⟨(.val .clo (some (f,[])),none)::a.args,a.H,a.ws,a.n⟩
@[go_sem] def QI (a:t7):Option t7:=some ⟨(.nilS,none)::a.args,a.H,a.ws,a.n⟩
@[go_sem] def BD (i:Nat) (a:t7):Option q9->Option t7
 |some (.map k v l)=>if (k.pure&&v.pure&& !BA i (sF a.ws))=true then some ⟨(.val .mp (some a.n),none)::a.args,.map k v l::a.H,.tok i::a.ws,a.n+1⟩ else none
 |_=>none
@[go_sem] def BE (k n:Nat) (a:t7):Option q9->Option t7
 |some (.row e t l m)=>if (t.pure&& !BA k (sF a.ws))=true then some ⟨(.own a.n n,none)::a.args,.row e t l m::a.H,.tok k::a.ws,a.n+1⟩ else none
 |_=>none
@[go_sem] def x9 (H:List (Nat×q9)) (f:FuncId) (args:List qC):List (Ty×pQ)->pL->pL->Option t7->Option t7
 |[],[],ids,some a=>some ⟨(.val .clo (some (f,yQ ids [])),none)::args,a.H,a.ws,a.n⟩
 |(t,os)::ks,(i,o)::cs,ids,some a=>x9 H f args ks cs ((a.n,0)::ids) (vR H t os i o a (qD H i))
 |_,_,_,_=>none
@[go_sem] def xM (H:List (Nat×q9)) (a:t7):PK->qC->Option t7
 | .v,(.val .clo (some (f,[])),_)=>QH f a
 | .v,(.val t x,_)=>QG t x a
 | .v,(.nilS,_)=>QI a
 | .own,(.val (.list t) x,some k)=>BC (.list t) x k a (qD H k)
 | .p t os,(.val .ref (some (i,o)),_)=>vR H t os i o a (qD H i)
 | .m,(.val .mp (some i),_)=>BD i a (qD H i)
 | .r,(.own k n,_)=>BE k n a (qD H k)
 | .f ks,(.val .clo (some (f,cs)),_)=>x9 H f a.args ks cs [] (some a)
 |_,_=>none
@[go_sem] def xA (H:List (Nat×q9)):List PK->List qC->Option t7->Option t7
 |_,_,none=>none
 |[],[],some a=>some a
 |p::ps,s::ss,some a=>xA H ps ss (xM H a p s)
 |_,_,some _=>none
@[go_sem] def aDX:Option pO->qC
 |some (some p)=>(.val .ref (some p),none)
 |_=>(.any,none)
@[go_sem] def aDY:Option pP->qC
 |some (some i)=>(.val .mp (some i),none)
 |_=>(.any,none)
@[go_sem] def aDZ:Option pO->qC
 |some (some (k,n))=>(.own k n,none)
 |_=>(.any,none)
@[go_sem] def ES:(t:Ty)->t.den->Nat->Option pO
 | .rl _ _,x,0=>some x
 | .pair a b,x,o=>if o<a.cells then ES a x.1 o else ES b x.2 (o-a.cells)
 |_,_,_=>none
@[go_sem] def I0 (q:Nat):PK->Option q9->qC
 | .r,some (.cells t y _)=>aDZ (ES t y q)
 | .p _ _,some (.cells t y _)=>aDX (rC .ref t y q)
 | .m,some (.cells t y _)=>aDY (rC .mp t y q)
 |_,_=>(.any,none)
@[go_sem] def GC:List q9->Nat->Option q9
 |[],_=>none
 |b::_,0=>some b
 |_::r,n+1=>GC r n
@[go_sem] def K5 (l:List qC):Option t7->Option t7
 |some a=>some ⟨l,a.H,a.ws,a.n⟩
 |none=>none
@[go_sem] def AJ (H:List (Nat×q9)):List (Nat×Nat×PK)->Option t7->Option t7
 |_,none=>none
 |[],some a=>some a
 |(c,q,pk)::r,some a=>AJ H r (K5 a.args (xM H a pk (I0 q pk (GC a.H (a.n-1-c)))))
@[go_sem] def ET (i o:Nat):List rH->Nat->pO
 |[],_=>none
 | .box j _ _ _ oc::r,c=>if j=i/\oc<=o then some (c,o-oc) else ET i o r (c+1)
 | .tok _::r,c=>ET i o r (c+1)
@[go_sem] def w5 (i:Nat):List rH->Nat->pP
 |[],_=>none
 | .tok j::r,c=>if j=i then some c else w5 i r (c+1)
 | .box _ _ _ _ _::r,c=>w5 i r (c+1)
@[go_sem] def I1 {α β:Type}:Option α->Option β->Option (α×β)
 |some a,some b=>some (a,b)
 |_,_=>none
@[go_sem] def QJ (W:List rH):pO->Option pO
 |none=>some none
 |some (i,o)=>(ET i o W 0).map some
@[go_sem] def a5R (W:List rH):pP->Option pP
 |none=>some none
 |some i=>(w5 i W 0).map some
@[go_sem] def a5S (W:List rH):pO->Option pO
 |none=>some none
 |some (k,n)=>(w5 k W 0).map fun c=>some (c,n)
@[go_sem] def MP:Option (Nat×pL)->Option (Option (Nat×pL))
 |none=>some none
 |some (f,[])=>some (some (f,[]))
 |_=>none
@[go_sem] def C3 (W:List rH):(t:Ty)->t.den->Option t.den
 | .ref,x=>QJ W x
 | .clo,x=>MP x
 | .mp,x=>a5R W x
 | .pair a b,x=>I1 (if a.pure=true then some x.1 else C3 W a x.1) (if b.pure=true then some x.2 else C3 W b x.2)
 | .list t,x=>if t.pure=true then some x else none
 | .bool,x=>some x
 | .int _,x=>some x
 | .str,x=>some x
 | .unit,x=>some x
 | .rl _ _,x=>a5S W x
 | .fn,x=>some x
 | .mref,x=>QJ W x
@[go_sem] def UZ:Option q9->Option (List q9)->Option (List q9)
 |some b,some l=>some (b::l)
 |_,_=>none
@[go_sem] def aD0 (t:Ty) (ts:pL):Option t.den->Option q9
 |some y=>some (.cells t y ts)
 |none=>none
@[go_sem] def QK (W:List rH):q9->Option q9
 | .cells t y ts=>if t.pure=true then some (.cells t y ts) else aD0 t ts (C3 W t y)
 |b=>some b
@[go_sem] def GD (W:List rH):List q9->Option (List q9)
 |[]=>some []
 |b::r=>UZ (QK W b) (GD W r)
@[go_sem] def zZ:List rH->Nat->Option rH
 |[],_=>none
 |w::_,0=>some w
 |_::r,n+1=>zZ r n
@[go_sem] def K6 (n:Nat) (c:Nat):Option rH->Bool
 |some _=>false
 |none=>decide (c<n)
@[go_sem] def A0 (base n c:Nat):Option rH->pP
 |some (.box _ _ _ _ _)=>none
 |some (.tok k)=>some k
 |none=>if c<n then some (base+c) else none
@[go_sem] def a5T (base n c o:Nat):Option rH->qC
 |some (.box i _ _ _ o')=>(.val .ref (some (i,o'+o)),none)
 |wh=>if K6 n c wh=true then(.val .ref (some (base+c,o)),none) else(.any,none)
@[go_sem] def I2 (base n:Nat) (W:List rH):pP->pP
 |some c=>A0 base n c (zZ W c)
 |none=>none
@[go_sem] def aD1 (m:Nat):pP->qC
 |some k=>(.own k m,none)
 |none=>(.any,none)
@[go_sem] def aD2:pP->qC
 |some k=>(.val .mp (some k),none)
 |none=>(.any,none)
@[go_sem] def V0 (base n c o:Nat):Option rH->pO
 |some (.box i _ _ _ o')=>some (i,o'+o)
 |wh=>if K6 n c wh=true then some (base+c,o) else none
@[go_sem] def aD3:pO->Option pL->Option pL
 |some p,some l=>some (p::l)
 |_,_=>none
@[go_sem] def K7 (base n:Nat) (W:List rH):pL->Option pL
 |[]=>some []
 |(c,o)::r=>aD3 (V0 base n c o (zZ W c)) (K7 base n W r)
@[go_sem] def aD4 (f:Nat):Option pL->qC
 |some l=>(.val .clo (some (f,l)),none)
 |none=>(.any,none)
@[go_sem] def QL (base n:Nat) (W:List rH):qC->qC
 |(.own c m,_)=>aD1 m (I2 base n W (some c))
 |(.val .ref (some (c,o)),_)=>a5T base n c o (zZ W c)
 |(.val .ref none,_)=>(.val .ref none,none)
 |(.val .mp (some c),_)=>aD2 (I2 base n W (some c))
 |(.val .mp none,_)=>(.val .mp none,none)
 |(.val .clo (some (f,cs)),_)=>aD4 f (K7 base n W cs)
 |(.val t x,k)=>if t.pure=true then(.val t x,I2 base n W (DQ t k)) else(.any,none)
 |_=>(.any,none)
@[go_sem] def aD5 (q:Nat):pP->pL->pL
 |some k,r=>(q,k)::r
 |none,r=>r
@[go_sem] def CR (base n:Nat) (W:List rH) (o:Nat):pL->pL
 |[]=>[]
 |(q,c)::r=>aD5 (o+q) (A0 base n c (zZ W c)) (CR base n W o r)
@[go_sem] def I3 (base n:Nat) (W:List rH):pO->Option pO
 |none=>some none
 |some (c,o)=>back2 c o (zZ W c)
where
 back2 (c o:Nat):Option rH->Option pO
  |some (.box i _ _ _ o')=>some (some (i,o'+o))
  |wh=>if K6 n c wh=true then some (some (base+c,o)) else none
attribute [go_sem] I3.back2
@[go_sem] def a5U (base n:Nat) (W:List rH):pP->Option pP
 |none=>some none
 |some c=>(A0 base n c (zZ W c)).map some
@[go_sem] def a5V (base n:Nat) (W:List rH):pO->Option pO
 |none=>some none
 |some (c,q)=>(A0 base n c (zZ W c)).map fun k=>some (k,q)
@[go_sem] def BF (base n:Nat) (W:List rH):(t:Ty)->t.den->Option t.den
 | .ref,x=>I3 base n W x
 | .clo,x=>MP x
 | .mp,x=>a5U base n W x
 | .pair a b,x=>I1 (if a.pure=true then some x.1 else BF base n W a x.1) (if b.pure=true then some x.2 else BF base n W b x.2)
 | .list t,x=>if t.pure=true then some x else none
 | .bool,x=>some x
 | .int _,x=>some x
 | .str,x=>some x
 | .unit,x=>some x
 | .rl _ _,x=>a5V base n W x
 | .fn,x=>some x
 | .mref,x=>I3 base n W x
@[go_sem] def QM (i o:Nat) (u t:Ty) (toks ts:pL):Option u.den->Option (Nat×q9)
 |some z=>some (i,.cells u z (qP ts (vJ toks o t.cells)))
 |none=>none
@[go_sem] def a5W (i:Nat) (t:Ty) (ts:pL):Option t.den->Option (Nat×q9)
 |some y=>some (i,.cells t y ts)
 |none=>none
@[go_sem] def CS (base n c:Nat) (W:List rH):q9->Option (Nat×q9)
 | .cells t y ts=>if t.pure=true then some (base+c,.cells t y (CR base n W 0 ts)) else a5W (base+c) t (CR base n W 0 ts) (BF base n W t y)
 | .grow e m k=>some (base+c,.grow e m k)
 | .row e t l n=>if t.pure=true then some (base+c,.row e t l n) else none
 | .map k v l=>if (k.pure&&v.pure)=true then some (base+c,.map k v l) else none
 | .iter _ _=>none
 | .dead=>some (base+c,.dead)
@[go_sem] def zE (k:Nat):q9->Option (Nat×q9)
 | .cells _ _ _=>none
 | .grow e m n=>some (k,.grow e m n)
 | .row e t l n=>if t.pure=true then some (k,.row e t l n) else none
 | .map s v l=>if (s.pure&&v.pure)=true then some (k,.map s v l) else none
 | .iter _ _=>none
 | .dead=>some (k,.dead)
@[go_sem] def a5X (i o:Nat) (u t:Ty) (toks ts:pL) (x:u.den):Option t.den->Option (Nat×q9)
 |some y=>QM i o u t toks ts (sU t y u x o)
 |none=>none
@[go_sem] def xB (base n i o:Nat) (W:List rH) (u:Ty) (x:u.den) (toks:pL):q9->Option (Nat×q9)
 | .cells t y ts=>if t.pure=true then QM i o u t toks (CR base n W o ts) (sU t y u x o) else a5X i o u t toks (CR base n W o ts) x (BF base n W t y)
 | .dead=>some (i,.dead)
 | .grow _ _ _=>none
 | .row _ _ _ _=>none
 | .map _ _ _=>none
 | .iter _ _=>none
@[go_sem] def MQ:Option (Nat×q9)->Option (List (Nat×q9))->Option (List (Nat×q9))
 |some q,some r=>some (q::r)
 |_,_=>none
@[go_sem] def AK (base n:Nat) (W:List rH):Nat->List rH->List q9->Option (List (Nat×q9))
 |_,[],[]=>some []
 |c,[],b::L=>MQ (CS base n c W b) (AK base n W (c+1) [] L)
 |c,.box i u x toks o::ws,b::L=>MQ (xB base n i o W u x toks b) (AK base n W (c+1) ws L)
 |c,.tok k::ws,b::L=>MQ (zE k b) (AK base n W (c+1) ws L)
 |_,_::_,[]=>none
@[go_sem] def EU:List qC->Option (List ((Σ t:Ty,t.den)×pP))
 |[]=>some []
 |(.val t x,k)::r=>(EU r).map ((⟨t,x⟩,k):: ·)
 |(.own k n,_)::r=>(EU r).map ((⟨.rl 0 .unit,some (k,n)⟩,none):: ·)
 |_=>none
@[go_sem] def aD6:Option (List ((Σ t:Ty,t.den)×pP))->qC
 |some q=>(.tup q,none)
 |none=>(.any,none)
@[go_sem] def K8:List qC->Option qC
 |[]=>some (.tup [],none)
 |[s]=>some s
 |s::s'::l=>some (aD6 (EU (s::s'::l)))
@[go_sem] def V1 (W:List rH):pQ->pQ
 |[]=>[]
 |c::r=>sameId (zZ W c) (V1 W r)
where
 sameId:Option rH->pQ->pQ
  |some w,r=>w.id::r
  |none,r=>r
attribute [go_sem] V1.sameId
@[go_sem] def MR (side:List Prop) (rds:pQ):Option (List (Nat×q9))->Option qC->Option qH
 |some H,some s=>some ⟨side,s,H,rds⟩
 |_,_=>none
@[go_sem] def MS (base n:Nat) (W:List rH):List qC->List qC
 |[]=>[]
 |s::r=>QL base n W s::MS base n W r
@[go_sem] def r5:List q9->Nat
 |[]=>0
 |_::r=>r5 r+1
@[go_sem] def QN (base:Nat) (W:List rH) (sm:pQ):Option qI->Option qH
 |some r=>MR r.side (qP (sF W) (V1 W sm)) (AK base (r5 r.H) W 0 W r.H) (K8 (MS base (r5 r.H) W r.ret))
 |none=>none
@[go_sem] def QO (C:List qC->List q9->Option qI) (sm:pQ) (base:Nat) (W:List rH) (args:List qC):Option (List q9)->Option qH
 |some L=>QN base W sm (C args L)
 |none=>none
@[go_sem] def MT (C:List qC->List q9->Option qI) (sm:pQ) (base:Nat):Option t7->Option qH
 |some a=>QO C sm base (yQ a.ws []) (yQ a.args []) (GD (yQ a.ws []) (yQ a.H []))
 |none=>none
@[go_sem] def EV (H:List (Nat×q9)) (base:Nat) (args:List qC):Option r6->Option qH
 |some g=>MT g.C g.same base (AJ H g.gs (xA H g.ps args (some ⟨[],[],[],0⟩)))
 |none=>none
@[go_sem] def MU:List PK->List qC->pP
 | .r::ps,_::ss=>MU ps ss
 |_::_,(.own k _,_)::_=>some k
 |_::ps,_::ss=>MU ps ss
 |_,_=>none
@[go_sem] def a5Y (k:Nat) (t:Ty) (l:List t.den):qC->qC
 |(.own j m,x)=>if j=k then(.val (.list t) l,none) else(.own j m,x)
 |s=>s
@[go_sem] def MV (k:Nat) (t:Ty) (l:List t.den):List qC->List qC
 |[]=>[]
 |s::r=>a5Y k t l s::MV k t l r
@[go_sem] def I4 (k n:Nat):List qC->List Prop
 |[]=>[]
 |(.own j m,_)::r=>(j=k->m=n)::I4 k n r
 |_::r=>I4 k n r
@[go_sem] def GE:Ty->Bool
 | .list _=>false
 | .pair a b=>GE a&&GE b
 | .bool| .int _| .str| .unit| .fn=>true
 | .ref| .clo| .mp| .rl _ _| .mref=>false
@[go_sem] def qG:List (Nat×q9)->pQ
 |[]=>[]
 |(i,_)::r=>i::qG r
@[go_sem] def K9:List (Nat×q9)->Bool
 |[]=>true
 |(_,.cells t _ [])::r=>GE t&&K9 r
 |_=>false
@[go_sem] def V2 (sd:List Prop) (k:Nat):Option qH->Option qH
 |some ⟨side,(.val t x,_),U,rds⟩=>if (GE t&&K9 U&& !BA k (qG U))=true then some ⟨qP sd side,(.val t x,none),U,k::rds⟩ else none
 |_=>none
@[go_sem] def MW (H:List (Nat×q9)) (base:Nat) (args:List qC) (g:r6) (k:Nat):Option q9->Option qH
 |some (.row _ t l m)=>V2 (I4 k m args) k (EV ((k,.dead)::H) base (MV k t l args) (some g))
 |_=>none
@[go_sem] def a5Z (H:List (Nat×q9)) (base:Nat) (args:List qC) (g:r6):pP->Option qH
 |some k=>MW H base args g k (qD H k)
 |none=>EV H base args (some g)
@[go_sem] def a50 (k n m e:Nat) (t:Ty):Option (List t.den)->Option qH
 |some l=>some ⟨[n=m,m<4611686018427387904],(.tup [],none),[(k,.row e t l m)],[k]⟩
 |none=>none
@[go_sem] def V3 (F:(t:Ty)->List t.den->Option (List t.den)) (k n:Nat):Option q9->Option qH
 |some (.row e t l m)=>a50 k n m e t (F t l)
 |_=>none
@[go_sem] def QP (H:List (Nat×q9)) (F:(t:Ty)->List t.den->Option (List t.den)):List qC->Option qH
 |[(.own k n,_)]=>V3 F k n (qD H k)
 |_=>none
@[go_sem] def V4 (base:Nat):Option TI->qC->Option qH
 |some ⟨.list u,e,_,true,_⟩,(.nilS,_)=>some ⟨[],(.own base 0,none),[(base,.row e u [] 0)],[]⟩
 |some ⟨.list u,e,_,false,_⟩,(.nilS,_)=>some ⟨[],(.val (.list u) [],some base),[(base,.grow e u.cells 0)],[]⟩
 |_,(.nilS,_)=>none
 |_,s=>some ⟨[],s,[],[]⟩
@[go_sem] def DS:Ty->Nat->Bool
 | .list _,0=>true
 | .pair a b,o=>if o<a.cells then DS a o else DS b (o-a.cells)
 |_,_=>false
@[go_sem] def DT (t:Ty):List (Nat×TypeId×Nat)->Bool
 |[]=>true
 |(o,_,_)::r=>DS t o&&DT t r
@[go_sem] def BG:List (Nat×TypeId×Nat)->Nat->pL
 |[],_=>[]
 |(o,_,_)::r,i=>(o,i)::BG r (i+1)
@[go_sem] def CT:List (Nat×TypeId×Nat)->Nat->List (Nat×q9)
 |[],_=>[]
 |(_,e,c)::r,i=>qP (CT r (i+1)) [(i,.grow e c 0)]
@[go_sem] def V5 (e:Nat):Bool:=if e=73 then true else if e=a5I then true else false
@[go_sem] def V6 (e:Nat) (u:Ty) (o:Nat):pO->List (Nat×Nat×Ty)
 |none=>[(o,e,u)]
 |some _=>[]
@[go_sem] def DU:(t:Ty)->t.den->Nat->List (Nat×Nat×Ty)
 | .rl e u,x,o=>V6 e u o x
 | .pair a b,x,o=>qP (DU a x.1 o) (DU b x.2 (o+a.cells))
 |_,_,_=>[]
@[go_sem] def V7 (o:Nat):pO->pQ
 |none=>[o]
 |some _=>[]
@[go_sem] def EW:(t:Ty)->t.den->Nat->pQ
 | .mref,x,o=>V7 o x
 | .pair a b,x,o=>qP (EW a x.1 o) (EW b x.2 (o+a.cells))
 |_,_,_=>[]
@[go_sem] def a52:Nat->pQ->pQ
 |2,[0]=>[0]
 |_,_=>[]
@[go_sem] def QQ (el:Nat) (t:Ty) (y:t.den):pQ:=if V5 el=true then a52 t.cells (EW t y 0) else[]
@[go_sem] def I5 (t:Ty):Nat->List (Nat×Nat×Ty)->Option t.den->Option t.den
 |_,[],x=>x
 |i,(o,e,u)::r,some x=>I5 t (i+1) r (sU (.rl e u) (some (i,0)) t x o)
 |_,_::_,none=>none
@[go_sem] def GF (t:Ty) (i:Nat):pQ->Option t.den->Option t.den
 |[],x=>x
 |q::r,some x=>GF t i r (sU .mref (some (i,q)) t x q)
 |_::_,none=>none
@[go_sem] def I7:List (Nat×Nat×Ty)->Nat->List (Nat×q9)
 |[],_=>[]
 |(_,e,u)::r,i=>qP (I7 r (i+1)) [(i,.row e u [] 0)]
@[go_sem] def MX {α:Type}:List α->Nat
 |[]=>0
 |_::r=>MX r+1
@[go_sem] def a54 (base:Nat) (t:Ty) (ls:List (Nat×TypeId×Nat)) (R:List (Nat×Nat×Ty)):Option t.den->Option qH
 |some z=>some ⟨[],(.val .ref (some (base,0)),none),(base,.cells t z (BG ls (base+1)))::qP (I7 R (base+1+MX ls)) (CT ls (base+1)),[]⟩
 |none=>none
@[go_sem] def QR (base el:Nat) (t:Ty) (y:t.den) (ls:List (Nat×TypeId×Nat)):Bool->Option qH
 |true=>a54 base t ls (DU t y 0) (GF t base (QQ el t y) (I5 t (base+1+MX ls) (DU t y 0) (some y)))
 |false=>none
@[go_sem] def BH (k:Nat):List (Nat×TypeId×Nat)->List (Nat×TypeId×Nat)
 |[]=>[]
 |(o,e,c)::r=>if o+1=k then BH k r else(o,e,c)::BH k r
@[go_sem] def a55 (base el:Nat) (ls:List (Nat×TypeId×Nat)):(t:Ty)->t.den->pP->Option qH
 | .pair a b,y,some k=>QR base el (.pair a b) y (BH k ls) (DT (.pair a b) (BH k ls))
 | .list u,y,k=>some ⟨[],(.val .ref (some (base,0)),none),[(base,.cells (.list u) y (x8 k 0))],[]⟩
 |t,y,_=>some ⟨[],(.val .ref (some (base,0)),none),[(base,.cells t y [])],[]⟩
@[go_sem] def MY (base el:Nat):Option TI->Option qH
 |some ⟨.list u,e,_,_,_⟩=>some ⟨[],(.val .ref (some (base,0)),none),[(base,.cells (.list u) [] [(0,base+1)]),(base+1,.grow e u.cells 0)],[]⟩
 |some ti=>QR base el ti.ty ti.ty.zero ti.ls (DT ti.ty ti.ls)
 |none=>none
@[go_sem] def V8 (base el:Nat):Option TI->qC->Option qH
 |some ti,(.val t y,k)=>if t=ti.ty then a55 base el ti.ls t y k else none
 |_,_=>none
@[go_sem] def V9 (base el:Nat):Option TI->qC->Option qH
 |some ⟨.list u,e,b,a,ls⟩,(.nilS,_)=>MY base el (some ⟨.list u,e,b,a,ls⟩)
 |ti,s=>V8 base el ti (K3 ti s)
@[go_sem] def I8:Ty->Bool
 | .list _=>true
 | .pair a b=>I8 a||I8 b
 | .bool| .int _| .str| .unit| .ref| .clo| .mp| .rl _ _| .mref| .fn=>false
@[go_sem] def QS:pP->pP->pP
 |some o,some m=>if m=0 then some (o+1) else none
 |_,_=>none
@[go_sem] def VA:Ty->Bool
 | .list _=>true
 | .pair _ _| .bool| .int _| .str| .unit| .ref| .clo| .mp| .rl _ _| .mref| .fn=>false
@[go_sem] def QT (u:Ty) (o m:pP):Bool->Bool->pP
 |false,_=>m
 |true,true=>QS o m
 |true,false=>none
@[go_sem] def A1 (t:Ty):List (Nat×qC)->pP
 |[]=>some 0
 |(_,(.nilS,_))::r=>A1 t r
 |(i,(.val u _,_))::r=>QT u (t.offs i) (A1 t r) (I8 u) (VA u)
 |_=>none
@[go_sem] def VB:Ty->pP->pP
 | .pair _ _,m=>m
 |_,_=>none
@[go_sem] def aD7 (t:Ty) (k:pP):Option t.den->Option qH
 |some x=>some ⟨[],(.val t x,k),[],[]⟩
 |none=>none
@[go_sem] def VC (sl:List (Nat×qC)):Option TI->Option qH
 |some ti=>if ti.ty.isRow=true then aD7 ti.ty (VB ti.ty (A1 ti.ty sl)) (zY ti.ty (some ti.ty.zero) sl) else none
 |none=>none
@[go_sem] def QU (base e c n:Nat) (t:Ty):Option (List t.den)->Option qH
 |some l=>if n<=16777216/\n*c<=16777216 then some ⟨[],(.val (.list t) l,some base),[(base,.grow e c n)],[]⟩ else none
 |none=>none
@[go_sem] def a56 (base e n:Nat) (t:Ty):Option (List t.den)->Option qH
 |some l=>if t.pure=true/\n<=16777216/\n*t.cells<=16777216 then some ⟨[],(.own base n,none),[(base,.row e t l n)],[]⟩ else none
 |none=>none
@[go_sem] def VD (base n:Nat) (sl:List (Nat×qC)):Option TI->Option qH
 |some ⟨.list u,e,_,true,_⟩=>if n=0 then a56 base e n u (AI u n (some (C2 u n)) sl) else QU base e u.cells n u (AI u n (some (C2 u n)) sl)
 |some ⟨.list u,e,_,false,_⟩=>QU base e u.cells n u (AI u n (some (C2 u n)) sl)
 |_=>none
@[go_sem] def a57 (t:Ty) (k:pP) (i:Nat):Option t.den->Option qH
 |some y=>some ⟨[],(.val t y,k),[],[i]⟩
 |none=>none
@[go_sem] def MZ (t:Ty) (i off:Nat):Option q9->Option qH
 |some (.cells u x toks)=>a57 t (DQ t (wS toks off)) i (rC t u x off)
 |_=>none
@[go_sem] def a58 (u:Ty) (k n m:Nat):Option u.den->Option qH
 |some y=>some ⟨[n=m],(.val u y,none),[],[k]⟩
 |none=>none
@[go_sem] def N0 (u:Ty) (k n c:Nat) (i:Int) (o:Nat):Option q9->Option qH
 |some (.row _ t l m)=>if c=t.cells then a58 u k n m (rC u t (qW t l i) o) else none
 |_=>none
@[go_sem] def VE (i:Nat):Option pO->Option qH
 |some (some (k,n))=>some ⟨[],(.own k n,none),[],[i]⟩
 |_=>none
@[go_sem] def QV (i off:Nat):TI->Option q9->Option qH
 |⟨.list u,e,_,_,_⟩,some (.cells v x _)=>VE i (rC (.rl e u) v x off)
 |_,_=>none
@[go_sem] def VF:pO->pO->pO
 |some p,_=>some p
 |none,q=>q
@[go_sem] def AL:(t:Ty)->t.den->pO
 | .rl _ _,x=>x
 | .pair a b,x=>VF (AL a x.1) (AL b x.2)
 |_,_=>none
@[go_sem] def VG (u0:Ty) (l:List u0.den) (u:Ty):pO->Option (Σ t:Ty,t.den)
 |some _=>if u=u0 then some ⟨.list u0,l⟩ else none
 |none=>none
@[go_sem] def I9 (a b:Ty) (x:a.den) (y:b.den):pO->Option (Σ t:Ty,t.den)->Option (Σ t:Ty,t.den)->Option (Σ t:Ty,t.den)
 |some _,some ⟨a',x'⟩,_=>some ⟨.pair a' b,(x',y)⟩
 |some _,none,_=>none
 |none,_,some ⟨b',y'⟩=>some ⟨.pair a b',(x,y')⟩
 |none,_,none=>none
@[go_sem] def yS (u0:Ty) (l:List u0.den):(t:Ty)->t.den->Option (Σ t:Ty,t.den)
 | .rl _ u,x=>VG u0 l u x
 | .pair a b,x=>I9 a b x.1 x.2 (AL a x.1) (yS u0 l a x.1) (yS u0 l b x.2)
 |_,_=>none
@[go_sem] def VH (t:Ty) (i k:Nat) (sd:Prop) (e:TypeId) (c n:Nat) (v:Ty) (x:v.den):Option t.den->Option qH
 |some y=>some ⟨[sd],(.val t y,none),[(i,.cells v x []),(k,.grow e c n)],[1000000000,i,k]⟩
 |none=>none
@[go_sem] def VI (t:Ty) (i off k:Nat) (sd:Prop) (e:TypeId) (c n:Nat):Option (Σ t:Ty,t.den)->Option qH
 |some ⟨v,x⟩=>VH t i k sd e c n v x (rC t v x off)
 |none=>none
@[go_sem] def QW (t:Ty) (i off k n0:Nat) (v:Ty) (x:v.den):Option q9->Option qH
 |some (.row e u0 l m)=>VI t i off k (n0=m) e u0.cells (List.length l) (yS u0 l v x)
 |_=>none
@[go_sem] def QX (H:List (Nat×q9)) (t:Ty) (i off:Nat) (v:Ty) (x:v.den):pO->Option qH
 |some (k,n0)=>QW t i off k n0 v x (qD H k)
 |none=>none
@[go_sem] def GG (H:List (Nat×q9)) (t:Ty) (i off:Nat):Option q9->Option qH
 |some (.cells v x _)=>QX H t i off v x (AL v x)
 |_=>none
@[go_sem] def orS (H:List (Nat×q9)) (t:Ty) (i off:Nat) (b:Option q9):Option qH->Option qH
 |some r=>some r
 |none=>GG H t i off b
@[go_sem] def QY (H:List (Nat×q9)):Option TI->qC->Option qH
 |some ti,(.elt k n c i o,_)=>N0 ti.ty k n c i o (qD H k)
 |some ti,(.at u x,_)=>if u=ti.ty then some ⟨[],(.val u x,none),[],[]⟩ else none
 |some ti,(.val .ref (some (i,off)),_)=>orS H ti.ty i off (qD H i) (orE (MZ ti.ty i off (qD H i)) (QV i off ti (qD H i)))
 |_,_=>none
@[go_sem] def QZ (u:Ty) (i:Nat) (toks:pL):Option u.den->Option qH
 |some z=>some ⟨[],(.any,none),[(i,.cells u z toks)],[i]⟩
 |none=>none
@[go_sem] def R0 (t:Ty) (y:t.den) (k:pP) (i off:Nat):Option q9->Option qH
 |some (.cells u x toks)=>QZ u i (qP (x8 (DQ t k) off) (vJ toks off t.cells)) (sU t y u x off)
 |_=>none
@[go_sem] def KA (off:Nat):pL->pL
 |[]=>[]
 |(o,k)::r=>(off+o,k)::KA off r
@[go_sem] def a6a (u:Ty) (i:Nat) (nt toks:pL) (bs:List (Nat×q9)):Option u.den->Option qH
 |some z=>some ⟨[],(.any,none),(i,.cells u z (qP nt toks))::qP bs [(i,.cells u z toks)],[i]⟩
 |none=>none
@[go_sem] def R1 (t:Ty) (y:t.den) (ls:List (Nat×TypeId×Nat)) (base i off:Nat):Option q9->Bool->Option qH
 |some (.cells u x toks),true=>a6a u i (KA off (BG ls base)) (vJ toks off t.cells) (CT ls base) (sU t y u x off)
 |_,_=>none
@[go_sem] def R2 (base i off:Nat) (b:Option q9):List (Nat×TypeId×Nat)->(t:Ty)->t.den->pP->Option qH
 |q::r,.pair a c,y,some k=>R1 (.pair a c) y (BH k (q::r)) base i off b (DT (.pair a c) (BH k (q::r)))
 |_,t,y,k=>R0 t y k i off b
@[go_sem] def a6b (k n m:Nat) (e:TypeId) (t:Ty) (l:List t.den) (i:Int):Option t.den->Option qH
 |some z=>some ⟨[n=m],(.any,none),[(k,.row e t (l.set i.toNat z) m)],[k]⟩
 |none=>none
@[go_sem] def R3 (u:Ty) (y:u.den) (k n c:Nat) (i:Int) (o:Nat):Option q9->Option qH
 |some (.row e t l m)=>if c=t.cells then a6b k n m e t l i (sU u y t (qW t l i) o) else none
 |_=>none
@[go_sem] def VJ (b:Ty) (y:b.den):Option (Σ t:Ty,t.den)->Option (Σ t:Ty,t.den)
 |some ⟨a,x⟩=>some ⟨.pair a b,(x,y)⟩
 |none=>none
@[go_sem] def VK (a:Ty) (x:a.den):Option (Σ t:Ty,t.den)->Option (Σ t:Ty,t.den)
 |some ⟨b,y⟩=>some ⟨.pair a b,(x,y)⟩
 |none=>none
@[go_sem] def xN (e:Nat) (u:Ty) (kn:pO):(t:Ty)->t.den->Nat->Option (Σ t:Ty,t.den)
 | .list v,_,0=>if v=u then some ⟨.rl e u,kn⟩ else none
 | .pair a b,x,o=>if o<a.cells then VJ b x.2 (xN e u kn a x.1 o) else VK a x.1 (xN e u kn b x.2 (o-a.cells))
 |_,_,_=>none
@[go_sem] def VL (i:Nat):Option (Σ t:Ty,t.den)->Option qH
 |some ⟨v,z⟩=>some ⟨[],(.any,none),[(i,.cells v z [])],[1000000000,i]⟩
 |none=>none
@[go_sem] def orO (i off k n e:Nat) (u v:Ty) (x:v.den):Option qH->Option qH
 |some r=>some r
 |none=>VL i (xN e u (some (k,n)) v x off)
@[go_sem] def VM (i off k n:Nat):TI->Option q9->Option qH
 |⟨.list u,e,_,_,_⟩,some (.cells v x toks)=>orO i off k n e u v x (QZ v i (vJ toks off 1) (sU (.rl e u) (some (k,n)) v x off))
 |_,_=>none
@[go_sem] def R4 (base:Nat) (H:List (Nat×q9)):Option TI->qC->qC->Option qH
 |some ti,(.val .ref (some (i,off)),_),(.own k n,_)=>VM i off k n ti (qD H i)
 |some ti,(.elt k n c i o,_),(.val t y,_)=>if t=ti.ty then R3 t y k n c i o (qD H k) else none
 |some ti,(.val .ref (some (i,off)),_),(.val t y,k)=>if t=ti.ty then R2 base i off (qD H i) ti.ls t y k else none
 |_,_,_=>none
@[go_sem] def VN:qC->Option qH
 |(.val .ref (some p),_)=>some ⟨[],(.val .ref (some p),none),[],[]⟩
 |(.at t x,_)=>some ⟨[],(.at t x,none),[],[]⟩
 |(.elt k n c i o,_)=>some ⟨[],(.elt k n c i o,none),[],[]⟩
 |_=>none
@[go_sem] def a6d (f:FuncId):Option pL->Option qH
 |some l=>some ⟨[],(.val .clo (some (f,l)),none),[],[]⟩
 |none=>none
@[go_sem] def aD8 (f:FuncId) (l:Option pL):List Operand->Option qH
 |[]=>a6d f l
 |_=>none
@[go_sem] def R5 (side:List Prop):Option (Σ t:Ty,t.den)->Option qH
 |some ⟨t,x⟩=>if 0<t.cells then some ⟨side,(.at t x,none),[],[]⟩ else none
 |none=>none
@[go_sem] def R6 (side:List Prop) (i off:Nat):pP->Option Ty->Option qH
 |some o,some u=>if 0<u.cells then some ⟨side,(.val .ref (some (i,off+o)),none),[],[]⟩ else none
 |_,_=>none
@[go_sem] def a6e (k n c:Nat) (i:Int) (o:Nat):pP->Option Ty->Option qH
 |some q,some u=>if 0<u.cells then some ⟨[],(.elt k n c i (o+q),none),[],[]⟩ else none
 |_,_=>none
@[go_sem] def VO (f:Nat):Option TI->qC->Option qH
 |some ⟨t,_,_,false,_⟩,(.elt k n c i o,_)=>a6e k n c i o (t.offs f) (t.fld f)
 |some ⟨t,_,_,false,_⟩,(.at u y,_)=>if u=t then R5 [] (u.proj y f) else none
 |some ⟨t,_,_,false,_⟩,(.val .ref (some (i,off)),_)=>R6 [] i off (t.offs f) (t.fld f)
 |_,_=>none
@[go_sem] def aD9:Option (Σ t:Ty,t.den)->Option qH
 |some ⟨t,x⟩=>some ⟨[],(.val t x,none),[],[]⟩
 |none=>none
@[go_sem] def VP (f:Nat):Option TI->qC->Option qH
 |some ⟨t,_,_,false,_⟩,(.val u y,_)=>if u=t then aD9 (u.proj y f) else none
 |_,_=>none
@[go_sem] def VQ:Option TI->qC->qC->Option qH
 |some ⟨.list t',_,_,_,_⟩,(.own k n,_),(.val (.int _) i,_)=>if 0<t'.cells then some ⟨[0<=i/\i<(n:Int)],(.elt k n t'.cells i 0,none),[],[]⟩ else none
 |some ⟨.list t',_,_,_,_⟩,(.val (.list t) l,_),(.val (.int _) i,_)=>if t=t' then some ⟨[0<=i/\i<(List.length l:Int)],(.at t (qW t l i),none),[],[]⟩ else none
 |some ⟨.pair a b,_,_,true,_⟩,(.val .ref (some (i,off)),_),(.val (.int _) n,_)=>R6 [(0:Int)<=n] i off ((Ty.pair a b).offs (Int.toNat n)) ((Ty.pair a b).fld (Int.toNat n))
 |some ⟨.pair a b,_,_,true,_⟩,(.at u x,_),(.val (.int _) n,_)=>if u= .pair a b then R5 [(0:Int)<=n] (u.proj x (Int.toNat n)) else none
 |_,_,_=>none
@[go_sem] def VR:Option TI->qC->qC->Option qH
 |some ⟨.str,_,_,_,_⟩,(.val .str l,_),(.val (.int _) i,_)=>some ⟨[0<=i/\i<(List.length l:Int)],(.val (.int .u8) (tU l i),none),[],[]⟩
 |_,_,_=>none
@[go_sem] def aEa (e:Nat) (u:Ty):pO->qC
 |some (k,n)=>(.own k n,none)
 |none=>(.val (.rl e u) none,none)
@[go_sem] def aEb:(t:Ty)->t.den->pP->qC
 | .rl e u,x,_=>aEa e u x
 | .bool,x,k=>(.val .bool x,k)
 | .int i,x,k=>(.val (.int i) x,k)
 | .str,x,k=>(.val .str x,k)
 | .list u,x,k=>(.val (.list u) x,k)
 | .unit,x,k=>(.val .unit x,k)
 | .pair a b,x,k=>(.val (.pair a b) x,k)
 | .ref,x,k=>(.val .ref x,k)
 | .clo,x,k=>(.val .clo x,k)
 | .mp,x,k=>(.val .mp x,k)
 | .mref,x,k=>(.val .mref x,k)
 | .fn,x,k=>(.val .fn x,k)
@[go_sem] def R7:List ((Σ t:Ty,t.den)×pP)->Nat->Option qH
 |[],_=>none
 |(⟨t,x⟩,k)::_,0=>some ⟨[],aEb t x k,[],[]⟩
 |_::r,n+1=>R7 r n
@[go_sem] def a6f (b:Bool) (p c:Int):Nat->Option qH
 |0=>some ⟨[],(.val .bool b,none),[],[]⟩
 |1=>some ⟨[b=true],(.val (.int .i64) p,none),[],[]⟩
 |2=>some ⟨[b=true],(.val (.int .i32) c,none),[],[]⟩
 |_=>none
@[go_sem] def VS (i:Nat):qC->Option qH
 |(.tup l,_)=>R7 l i
 |(.nxt b p c,_)=>a6f b p c i
 |_=>none
@[go_sem] def R9 (i:Nat):Option q9->Option qH
 |some (.map _ _ l)=>some ⟨[],(.val (.int .i64) (List.length l:Int),none),[],[i]⟩
 |_=>none
@[go_sem] def VT (H:List (Nat×q9)):Option TI->List qC->Option qH
 |some ⟨.mp,_,_,_,_⟩,[(.val .mp (some i),_)]=>R9 i (qD H i)
 |some ⟨.str,_,_,_,_⟩,[(.val .str l,_)]=>some ⟨[],(.val (.int .i64) (List.length l:Int),none),[],[]⟩
 |some ⟨.list _,_,_,_,_⟩,[(.val (.list _) l,_)]=>some ⟨[],(.val (.int .i64) (List.length l:Int),none),[],[]⟩
 |some ⟨.list _,_,_,_,_⟩,[(.own _ n,_)]=>some ⟨[],(.val (.int .i64) (n:Int),none),[],[]⟩
 |_,_=>none
@[go_sem] def RA (a:Ty) (l r:List a.den) (k e' by':Nat):Option q9->Option qH
 |some (.grow e c n)=>if e=e'/\c=a.cells/\0<c/\0<by' then some ⟨[List.length l=n,(List.length l+List.length r)*by'<=140737488355328],(.val (.list a) (l++r),some k),[(k,.grow e c (List.length (l++r)))],[k]⟩ else none
 |_=>none
@[go_sem] def RB (b:Ty) (r:List b.den) (k n e' by':Nat):Option q9->Option qH
 |some (.row e t l m)=>if h:b=t then(if e=e'/\0<t.cells/\0<by' then some ⟨[n=m,(n+List.length r)*by'<=140737488355328],(.own k (List.length (l++uF (t:= .list b) (u:= .list t) (by rw[h]) r)),none),[(k,.row e t (l++uF (t:= .list b) (u:= .list t) (by rw[h]) r) (List.length (l++uF (t:= .list b) (u:= .list t) (by rw[h]) r)))],[k]⟩ else none) else none
 |_=>none
@[go_sem] def RC (H:List (Nat×q9)):Option TI->List qC->Option qH
 |some ⟨.list u,e,by',_,_⟩,[(.own k n,_),(.val (.list b) r,_)]=>if b=u then RB b r k n e by' (qD H k) else none
 |some ⟨.list u,e,by',_,_⟩,[(.val (.list a) l,some k),(.val (.list b) r,_)]=>if h:b=a/\a=u then RA a l (uF (t:= .list b) (u:= .list a) (by rw[h.1]) r) k e by' (qD H k) else none
 |_,_=>none
@[go_sem] def RD (mx:Bool):List qC->Option (List Prop×DV)
 |[(.val (.int k) a,_),(.val (.int k') b,_)]=>if k=k' then some ([],.val (.int k) (if mx then max (a:Int) b else min (a:Int) b)) else none
 |_=>none
@[go_sem] def VU:pL->List qC
 |[]=>[]
 |c::r=>(.val .ref (some c),none)::VU r
@[go_sem] def RE (H:List (Nat×q9)) (base:Nat) (args:List qC) (g:r6):Option ((t:Ty)->List t.den->Option (List t.den))->Option qH
 |some F=>QP H F args
 |none=>a5Z H base args g (MU g.ps args)
@[go_sem] def IA (H:List (Nat×q9)) (base:Nat) (args:List qC):Option r6->Option qH
 |some g=>RE H base args g g.row
 |none=>none
@[go_sem] def N1 (Γ:tX) (f:Nat):Option r6:=if f<1000000000 then Γ f else none
@[go_sem] def KB (Γ:tX) (H:List (Nat×q9)) (base:Nat) (args:List qC):qC->Option qH
 |(.val .clo (some (f,caps)),_)=>IA H base (args++VU caps) (N1 Γ f)
 |(.val .fn (some f),_)=>IA H base args (N1 Γ f)
 |_=>none
@[go_sem] def EX (T:sM) (ρ:Operand->qC):List Operand->List TypeId->List qC
 |x::xs,t::ts=>K3 (rK T t) (ρ x)::EX T ρ xs ts
 |_,_=>[]
@[go_sem] def vK (ρ:Operand->qC):List Operand->List qC
 |[]=>[]
 |x::xs=>ρ x::vK ρ xs
@[go_sem] def uG (ρ:Operand->qC):List (Nat×Operand)->List (Nat×qC)
 |[]=>[]
 |(i,x)::xs=>(i,ρ x)::uG ρ xs
@[go_sem] def yT (ρ:Operand->qC):Option Operand->Option qC
 |some x=>some (ρ x)
 |none=>none
@[go_sem] def RF (T:sM) (H:List (Nat×q9)) (ss:List qC):List TypeId->Option qH
 |t::_=>VT H (rK T t) ss
 |[]=>none
@[go_sem] def RG (l:pM) (s:pD) (k e':Nat):Option q9->Option qH
 |some (.grow e c n)=>if e=e'/\c=1 then some ⟨[List.length l=n,List.length l+List.length s<=140737488355328],(.val (.list (.int .u8)) (l++uW s),some k),[(k,.grow e c (List.length (l++uW s)))],[k]⟩ else none
 |_=>none
@[go_sem] def VV (H:List (Nat×q9)):Option TI->Option TI->List qC->Option qH
 |some ⟨.list (.int .u8),e,1,_,_⟩,some ⟨.str,_,_,_,_⟩,[(.val (.list (.int .u8)) l,some k),(.val .str s,_)]=>RG l s k e (qD H k)
 |_,_,_=>none
@[go_sem] def RH (T:sM) (H:List (Nat×q9)) (ss:List qC):List TypeId->Option qH
 |[t,u]=>if t=u then RC H (rK T t) ss else VV H (rK T t) (rK T u) ss
 |_=>none
@[go_sem] def IB:List Operand->List TypeId->Bool
 |[],[]=>true
 |_::xs,_::ts=>IB xs ts
 |_,_=>false
@[go_sem] def VW (T:sM) (Γ:tX) (ρ:Operand->qC) (base:Nat) (H:List (Nat×q9)) (args:List Operand) (tys:List TypeId) (f:qC):Bool->Option qH
 |true=>KB Γ H base (EX T ρ args tys) f
 |false=>none
@[go_sem] def IC (T:sM) (Γ:tX) (ρ:Operand->qC) (base:Nat) (H:List (Nat×q9)) (args:Array Operand) (tys:Array TypeId):Callee->Option qH
 | .builtin .len=>RF T H (vK ρ args.toList) tys.toList
 | .builtin .append=>RH T H (vK ρ args.toList) tys.toList
 | .builtin .max=>zX (RD true (vK ρ args.toList))
 | .builtin .min=>zX (RD false (vK ρ args.toList))
 | .value f=>VW T Γ ρ base H args.toList tys.toList (ρ f) (IB args.toList tys.toList)
 |_=>none
@[go_sem] def CU:Ty->Bool
 | .int _| .str| .bool=>true
 |_=>false
def EY:(k:Ty)->k.den->k.den->Bool
 | .int _,a,b=>decide ((a:Int)=b)
 | .str,a,b=>decide ((a:pD)=b)
 | .bool,a,b=>a==b
 |_,_,_=>false
def rS (k v:Ty):List (k.den×v.den)->k.den->v.den
 |[],_=>v.zero
 |(x,y)::r,a=>if EY k a x=true then y else rS k v r a
def vB (k v:Ty):List (k.den×v.den)->k.den->Bool
 |[],_=>false
 |(x,_)::r,a=>if EY k a x=true then true else vB k v r a
def tO (k v:Ty) (a:k.den) (b:v.den):List (k.den×v.den)->List (k.den×v.den)
 |[]=>[(a,b)]
 |(x,y)::r=>if EY k a x=true then(a,b)::r else(x,y)::tO k v a b r
@[go_sem] def a6g (base:Nat):Option TI->Option TI->Option qH
 |some k,some v=>if CU k.ty=true then some ⟨[],(.val .mp (some base),none),[(base,.map k.ty v.ty [])],[]⟩ else none
 |_,_=>none
@[go_sem] def VX (T:sM) (base:Nat):Option TI->Option Operand->Option qH
 |some ⟨.mp,e,f,_,_⟩,none=>a6g base (rK T e) (rK T f)
 |_,_=>none
@[go_sem] def RI (k:Ty) (a:k.den) (u:Ty) (i:Nat) (ok:Bool):Option q9->Option qH
 |some (.map k' v l)=>if h:k=k'/\v=u then(if CU k=true then(match ok with
   |true=>some ⟨[],(.tup [(⟨v,rS k' v l (uF h.1 a)⟩,none),(⟨.bool,vB k' v l (uF h.1 a)⟩,none)],none),[],[i]⟩
   |false=>some ⟨[],(.val v (rS k' v l (uF h.1 a)),none),[],[i]⟩) else none) else none
 |_=>none
@[go_sem] def VY (H:List (Nat×q9)) (ok:Bool) (i:Nat):Option TI->Option TI->qC->Option qH
 |some kt,some vt,(.val k a,_)=>if k=kt.ty then RI k a vt.ty i ok (qD H i) else none
 |_,_,_=>none
@[go_sem] def a6h (ok:Bool):Option TI->Option TI->qC->Option qH
 |some kt,some vt,(.val k _,_)=>if k=kt.ty then(if CU k=true then(match ok with
   |true=>some ⟨[],(.tup [(⟨vt.ty,vt.ty.zero⟩,none),(⟨.bool,false⟩,none)],none),[],[]⟩
   |false=>some ⟨[],(.val vt.ty vt.ty.zero,none),[],[]⟩) else none) else none
 |_,_,_=>none
@[go_sem] def RJ (T:sM) (H:List (Nat×q9)) (ok:Bool):Option TI->qC->qC->Option qH
 |some ⟨.mp,e,f,_,_⟩,(.val .mp (some i),_),s=>VY H ok i (rK T e) (rK T f) s
 |some ⟨.mp,e,f,_,_⟩,(.val .mp none,_),s=>a6h ok (rK T e) (rK T f) s
 |_,_,_=>none
@[go_sem] def KC (k:Ty) (a:k.den) (u:Ty) (b:u.den) (i:Nat):Option q9->Option qH
 |some (.map k' v l)=>if h:k=k'/\u=v then(if CU k=true then some ⟨[],(.any,none),[(i,.map k' v (tO k' v (uF h.1 a) (uF h.2 b) l))],[i]⟩ else none) else none
 |_=>none
@[go_sem] def RK (H:List (Nat×q9)) (i:Nat):Option TI->qC->qC->Option qH
 |some kt,(.val k a,_),(.val u b,_)=>if k=kt.ty then KC k a u b i (qD H i) else none
 |_,_,_=>none
@[go_sem] def a6i:Option TI->qC->qC
 |some ⟨.fn,_,_,_,_⟩,(.val .clo (some (f,[])),_)=>(.val .fn (some f),none)
 |_,s=>s
@[go_sem] def RL (T:sM):Option TI->qC->qC
 |some ⟨.mp,_,f,_,_⟩,s=>a6i (rK T f) s
 |_,s=>s
@[go_sem] def KD (T:sM) (H:List (Nat×q9)):Option TI->qC->qC->qC->Option qH
 |some ⟨.mp,e,_,_,_⟩,(.val .mp (some i),_),s,x=>RK H i (rK T e) s x
 |_,_,_,_=>none
def wT (s:pD) (p:Nat):Int:=((Utf8.decode ⟨s.toArray⟩ p).1:Int)
def VZ (s:pD) (p:Nat):Nat:=(Utf8.decode ⟨s.toArray⟩ p).2
def A2 (s:pD) (p:Nat):Nat:=if p<s.length then p+VZ s p else p
@[go_sem] def W3 (base:Nat):Option TI->qC->Option qH
 |some ⟨.str,_,_,_,_⟩,(.val .str s,_)=>some ⟨[],(.val .ref (some (base,0)),none),[(base,.iter s 0)],[]⟩
 |_,_=>none
@[go_sem] def W4 (i:Nat):Option q9->Option qH
 |some (.iter s p)=>some ⟨[],(.nxt (decide (p<List.length s)) ((p:Nat):Int) (wT s p),none),[(i,.iter s (A2 s p))],[i]⟩
 |_=>none
@[go_sem] def RM (H:List (Nat×q9)):Bool->qC->Option qH
 |true,(.val .ref (some (i,0)),_)=>W4 i (qD H i)
 |_,_=>none
@[go_sem] def uH (T:sM) (Γ:tX) (ty:TypeId) (ρ:Operand->qC) (base:Nat) (H:List (Nat×q9)):Op->Option qH
 | .move x| .assign x=>V4 base (rK T ty) (ρ x)
 | .alloc e=>MY base e (rK T e)
 | .box e x=>V9 base e (rK T e) (ρ x)
 | .build t ps=>VC (uG ρ ps.toList) (rK T t)
 | .buildSlice t n ps=>VD base n (uG ρ ps.toList) (rK T t)
 | .load t a=>QY H (rK T t) (ρ a)
 | .store t a x=>R4 base H (rK T t) (ρ a) (K3 (rK T t) (ρ x))
 | .nilCheck x=>VN (ρ x)
 | .binOp op t x y _=>zX (UV (QB op (rK T t) (ρ x) (ρ y)) (UV (QA op (ρ x) (ρ y)) (UU (rK T t) op (ρ x) (ρ y))))
 | .unOp op _ x=>zX (UW op (ρ x))
 | .convert src dst x=>zX (UV (QD (rK T src) (rK T dst) (ρ x)) (UX T (rK T src) (rK T dst) (ρ x)))
 | .makeFunc (.func f) first caps=>aD8 f (HY (vK ρ caps.toList)) first.toList
 | .slice t x lo hi none=>zX (UY (rK T t) (ρ x) (yT ρ lo) (yT ρ hi))
 | .fieldAddr t x f=>VO f (rK T t) (ρ x)
 | .field t x f=>VP f (rK T t) (ρ x)
 | .indexAddr t x ix=>VQ (rK T t) (ρ x) (ρ ix)
 | .index t x ix=>VR (rK T t) (ρ x) (ρ ix)
 | .extract x i=>VS i (ρ x)
 | .makeMap t r=>VX T base (rK T t) r
 | .range t x=>W3 base (rK T t) (ρ x)
 | .next x b=>RM H b (ρ x)
 | .lookup t x i ok=>RJ T H ok (rK T t) (ρ x) (ρ i)
 | .mapUpdate t m k x=>KD T H (rK T t) (ρ m) (ρ k) (RL T (rK T t) (ρ x))
 | .insert t m k x=>KD T H (rK T t) (ρ m) (ρ k) (RL T (rK T t) (ρ x))
 | .call c=>IC T Γ ρ base H c.args c.argTypes c.callee
 |_=>none
@[go_sem] def xC:qC->qC
 |(.cond _ d,_)=>(d,none)
 |s=>s
@[go_sem] def yF (G:Bool):List qC->List Prop
 |[]=>[]
 |(.cond p _,_)::r=>(G=true->p=true)::yF G r
 |_::r=>yF G r
@[go_sem] def a6j (b:Bool):qC->Option Bool
 |(.val .bool c,_)=>some (c==b)
 |(.cond p (.val .bool c),_)=>some (p&&(c==b))
 |_=>none
@[go_sem] def zF:List Oper->Nat->Option Tmp
 |[],_=>none
 |o::_,0=>o.dst
 |_::r,n+1=>zF r n
@[go_sem] def EZ (env:List (Nat×qC)) (b:Bool):Option Tmp->Option Bool
 |some t=>a6j b (lk env t)
 |none=>none
@[go_sem] def a6k (b:Bool):qC->Bool
 |(.val .bool c,_)=>c==b
 |(.cond p (.val .bool c),_)=>p&&(c==b)
 |(.cond p .any,_)=>p
 |_=>true
@[go_sem] def ID (env:List (Nat×qC)) (b:Bool):Option Tmp->Bool
 |some t=>a6k b (lk env t)
 |none=>true
@[go_sem] def RN (j:Nat) (b:Bool):Nat:=1000000000+(2*j+if b=true then 1 else 0)
@[go_sem] theorem aKm (x y:Bool):cond x y false=(x&&y):=by cases x<;>rfl
@[go_sem] theorem aKn (x y:Bool):cond x true y=(x||y):=by cases x<;>rfl
@[go_sem] def a6l (x:Bool):qC->qC->Option qH
 |(.val .bool y,_),(.val .bool z,_)=>some ⟨[],(.val .bool (cond x y z),none),[],[]⟩
 |(.cond p (.val .bool y),_),(.val .bool z,_)=>some ⟨[x=true->p=true],(.val .bool (cond x y z),none),[],[]⟩
 |(.val .bool y,_),(.cond p (.val .bool z),_)=>some ⟨[x=false->p=true],(.val .bool (cond x y z),none),[],[]⟩
 |(.cond q (.val .bool y),_),(.cond p (.val .bool z),_)=>some ⟨[x=true->q=true,x=false->p=true],(.val .bool (cond x y z),none),[],[]⟩
 |(.val .bool y,_),(.cond _ .any,_)=>some ⟨[x=true],(.val .bool y,none),[],[]⟩
 |(.cond q (.val .bool y),_),(.cond _ .any,_)=>some ⟨[x=true,q=true],(.val .bool y,none),[],[]⟩
 |(.cond _ .any,_),(.val .bool z,_)=>some ⟨[x=false],(.val .bool z,none),[],[]⟩
 |(.cond _ .any,_),(.cond p (.val .bool z),_)=>some ⟨[x=false,p=true],(.val .bool z,none),[],[]⟩
 |_,_=>none
@[go_sem] def N2:qC->qC->qC->Option qH
 |(.val .bool x,_),a,b=>a6l x a b
 |_,_,_=>none
@[go_sem] def sJ:Op->List Operand
 | .move x| .assign x| .box _ x| .load _ x| .nilCheck x| .unOp _ _ x| .convert _ _ x| .fieldAddr _ x _| .field _ x _| .extract x _=>[x]
 | .build _ ps| .buildSlice _ _ ps=>parts ps.toList
 | .store _ a v| .binOp _ _ a v _| .indexAddr _ a v| .index _ a v=>[a,v]
 | .lookup _ a v _=>[a,v]
 | .range _ x| .next x _=>[x]
 | .mapUpdate _ m k x=>[m,k,x]
 | .insert _ m k x=>[m,k,x]
 | .makeFunc _ _ caps=>caps.toList
 | .slice _ x l h _=>x::qP (opt l) (opt h)
 | .call ⟨.value f,args,_⟩=>f::args.toList
 | .call ⟨_,args,_⟩=>args.toList
 |_=>[]
where
 parts:List (Nat×Operand)->List Operand
  |[]=>[]
  |(_,x)::r=>x::parts r
 opt:Option Operand->List Operand
  |some x=>[x]
  |none=>[]
attribute [go_sem] sJ.parts sJ.opt
@[go_sem] def KE (l:List Prop):Option qH->Option qH
 |some e=>some ⟨qP l e.side,e.slot,e.upd,e.rds⟩
 |none=>none
@[go_sem] def N3 (G:Bool):List Prop->List Prop
 |[]=>[]
 |p::r=>(G=true->p)::N3 G r
@[go_sem] def GH (G:Bool) (l:List Prop):Option qH->Option qH
 |some ⟨side,(d,_),[],rds⟩=>some ⟨qP l (N3 G side),(.cond G d,none),[],rds⟩
 |some ⟨side,s,u::us,rds⟩=>some ⟨(G=true)::qP l (N3 G side),s,u::us,rds⟩
 |none=>none
@[go_sem] def BI (env:List (Nat×qC)):List Operand->List qC
 |[]=>[]
 |x::r=>u6 env x::BI env r
@[go_sem] def KF (T:sM) (Γ:tX) (o:Oper) (s:St):Option Bool->Op->Option qH
 |some G,.pick c a b=>GH G (yF G [u6 s.env c]) (N2 (xC (u6 s.env c)) (u6 s.env a) (u6 s.env b))
 |some G,op=>GH G (yF G (BI s.env (sJ op))) (uH T Γ o.type (fun x=>xC (u6 s.env x)) s.nb s.H op)
 |none,_=>none
@[go_sem] def a6m:Op->Bool
 | .defer _=>true
 |_=>false
@[go_sem] def a6n (up:Bool):Bool->Option qH
 |true=>none
 |false=>some ⟨[up=false],(.cond false .any,none),[],[]⟩
@[go_sem] def N4 (T:sM) (Γ:tX) (o:Oper) (s:St) (up:Bool) (g:Option Bool) (op:Op):Option r6->Option qH
 |some _=>a6n up (a6m op)
 |none=>KF T Γ o s g op
@[go_sem] def KG (T:sM) (Γ:tX) (o:Oper) (s:St):Op->Option qH
 | .pick c a b=>N2 (u6 s.env c) (u6 s.env a) (u6 s.env b)
 |op=>KE (yF true (BI s.env (sJ op))) (uH T Γ o.type (fun x=>xC (u6 s.env x)) s.nb s.H op)
@[go_sem] def GI (np:Nat):List (Nat×q9)->Bool
 |[]=>true
 |(i,.cells _ _ _)::r=>if np<=i then GI np r else false
 |_::r=>GI np r
@[go_sem] def a6o (np:Nat) (e:qH):Bool->Option qH
 |true=>if GI np e.upd=true then some e else none
 |false=>some e
@[go_sem] def W5 (np:Nat):Option qH->Option qH
 |some e=>a6o np e (GB e.rds)
 |none=>none
@[go_sem] def KH (T:sM) (Γ:tX) (ops:List Oper) (o:Oper) (s:St):Option qH:=
 match o.guard with
 |none=>KG T Γ o s o.op
 |some (j,b)=>N4 T Γ o s (ID s.env b (zF ops j)) (EZ s.env b (zF ops j)) o.op (Γ (RN j b))
@[go_sem] def y3 (T:sM) (Γ:tX) (ops:List Oper) (o:Oper) (s:St):Option qH:=W5 s.np (KH T Γ ops o s)
@[go_sem] def u7:Option Tmp->qC->List (Nat×qC)->List (Nat×qC)
 |some d,s,env=>(d,s)::env
 |none,_,env=>env
structure vG where
 s:St
 side:List Prop
 es:List qH
@[go_sem] def GJ (N:Nat):Option Tmp->Bool
 |some d=>decide (d<N)
 |none=>true
@[go_sem] def GK (n:Nat):List (Nat×q9)->Bool
 |[]=>true
 |(i,_)::r=>decide (i<n)&&GK n r
@[go_sem] def BJ (i:Nat):pQ->Bool
 |[]=>false
 |j::r=>if j=i then BA i r else BJ i r
@[go_sem] def IE (H U:List (Nat×q9)) (rds:pQ):List (Nat×q9)->List Prop
 |[]=>[]
 |(i,_)::r=>if BJ i rds=true then(qD U i=qD H i)::IE H U rds r else IE H U rds r
@[go_sem] def GL (rds:pQ):List (Nat×q9)->List (Nat×q9)
 |[]=>[]
 |(i,b)::r=>if BJ i rds=true then GL rds r else(i,b)::GL rds r
@[go_sem] def wK (e:qH):List (Nat×q9):=GL e.rds e.upd
@[go_sem] def RO (o:Oper) (a:vG):Option qH->Option vG
 |some e=>if (GJ a.s.N o.dst&&GK (a.s.nb+32) e.upd)=true then some ⟨⟨u7 o.dst e.slot a.s.env,qP e.upd a.s.H,a.s.nb+32,a.s.N,a.s.np⟩,qP a.side (qP (IE a.s.H e.upd e.rds e.upd) e.side),e::a.es⟩ else none
 |none=>none
@[go_sem] def uI (T:sM) (Γ:tX) (ops:List Oper):List Oper->Option vG->Option vG
 |[],a=>a
 |o::r,some a=>uI T Γ ops r (RO o a (y3 T Γ ops o a.s))
 |_::_,none=>none
@[go_sem] def N5:List (Nat×q9)->pQ->Bool
 |[],_=>false
 |(i,_)::r,l=>l.contains i||N5 r l
@[go_sem] def F0 (a b:qH):Bool:= !N5 (wK a) (qP b.rds (qG b.upd))&& !N5 (wK b) a.rds
def IF (lo:Nat):List (Nat×q9)->Bool
 |[]=>true
 |(i,_)::r=>(decide (i<lo)||decide (lo+32<=i))&&IF lo r
def RP (i0 j0:Nat) (ops:Array Oper) (bs:pQ) (nb i:Nat) (o:Oper) (e:qH):List Oper->List qH->Nat->Bool
 |p::ps,f::fs,j=>((bs.getD j 0).testBit i||(o.apart ops p&&(F0 e f||(decide (i=i0)&&decide (j=j0)))&&IF (nb+32*i) f.upd))&&RP i0 j0 ops bs nb i o e ps fs (j+1)
 |_,_,_=>true
def RQ (i0 j0:Nat) (ops:Array Oper) (bs:pQ) (nb:Nat):List Oper->List qH->Nat->Bool
 |o::os,e::es,i=>RP i0 j0 ops bs nb i o e os es (i+1)&&RQ i0 j0 ops bs nb os es (i+1)
 |_,_,_=>true
def RR:List Oper->Nat->Bool
 |[],_=>true
 |o::r,i=>o.after.toList.all (fun e=> !Region.binds .any e||decide (e.on<i))&&RR r (i+1)
def KI (i0 j0:Nat) (ops:Array Oper) (nb:Nat) (es:List qH):Bool:=RR ops.toList 0&&RQ i0 j0 ops (Region.before ops).toList nb ops.toList es 0
def IG (ops:Array Oper) (nb:Nat) (es:List qH):Bool:=KI ops.size 0 ops nb es
@[go_sem] def a6p (ops:Array Oper) (nb:Nat):Option vG->Option vG
 |some a=>if IG ops nb a.es.reverse then some a else none
 |none=>none
@[go_sem] def N6 (T:sM) (Γ:tX) (ops:Array Oper) (s:St):Bool->Option vG
 |true=>a6p ops s.nb (uI T Γ ops.toList ops.toList (some ⟨s,[],[]⟩))
 |false=>uI T Γ ops.toList ops.toList (some ⟨s,[],[]⟩)
inductive Ex where
 |normal|exit (id:Nat) |ret
structure vS where
 slots:pQ
 ids:pL:=[]
@[go_sem] def wL:pL->Nat->pP
 |[],_=>none
 |(n,o)::r,k=>if o=k then some n else wL r k
@[go_sem] def a6q (m:pL):pO->pO
 |some (i,o)=>(wL m i).map fun j=>(j,o)
 |none=>none
@[go_sem] def BK (m:pL):pL->Option pL
 |[]=>some []
 |(i,o)::r=>renCons (wL m i) o (BK m r)
where
 renCons:pP->Nat->Option pL->Option pL
  |some j,o,some r=>some ((j,o)::r)
  |_,_,_=>none
attribute [go_sem] BK.renCons
@[go_sem] def a6r (m:pL):pP->pP
 |some k=>wL m k
 |none=>none
@[go_sem] def aEc (n:Nat):pP->qC
 |some k=>(.own k n,none)
 |none=>(.any,none)
@[go_sem] def a6s (m:pL):Option (Nat×pL)->Option (Option (Nat×pL))
 |none=>some none
 |some (f,l)=>(BK m l).map fun l'=>some (f,l')
@[go_sem] def RS (m:pL):pO->Option pO
 |none=>some none
 |some (i,o)=>(wL m i).map fun j=>some (j,o)
@[go_sem] def a6t (m:pL):pP->Option pP
 |none=>some none
 |some i=>(wL m i).map some
@[go_sem] def a6u (m:pL):pO->Option pO
 |none=>some none
 |some (k,n)=>(wL m k).map fun j=>some (j,n)
@[go_sem] def yU (m:pL):(t:Ty)->t.den->Option t.den
 | .ref,x=>RS m x
 | .clo,x=>a6s m x
 | .mp,x=>a6t m x
 | .pair a b,x=>I1 (if a.pure=true then some x.1 else yU m a x.1) (if b.pure=true then some x.2 else yU m b x.2)
 | .list t,x=>if t.pure=true then some x else none
 | .bool,x=>some x
 | .int _,x=>some x
 | .str,x=>some x
 | .unit,x=>some x
 | .rl _ _,x=>a6u m x
 | .fn,x=>some x
 | .mref,x=>RS m x
@[go_sem] def zG (m:pL):qC->qC
 |(.own k n,_)=>aEc n (wL m k)
 |(.val .ref none,_)=>(.val .ref none,none)
 |(.val .ref (some p),_)=>refSlot (a6q m (some p))
 |(.val .clo (some (f,l)),_)=>cloSlot f (BK m l)
 |(.val .mp (some i),_)=>mpSlot (wL m i)
 |(.val t x,k)=>if t.pure then(.val t x,a6r m (DQ t k)) else valSlot t (yU m t x)
 |(.at t x,_)=>if t.pure then(.at t x,none) else(.any,none)
 |(.nilS,_)=>(.nilS,none)
 |_=>(.any,none)
where
 refSlot:pO->qC
  |some p=>(.val .ref (some p),none)
  |none=>(.any,none)
 cloSlot (f:Nat):Option pL->qC
  |some l=>(.val .clo (some (f,l)),none)
  |none=>(.any,none)
 valSlot (t:Ty):Option t.den->qC
  |some y=>(.val t y,none)
  |none=>(.any,none)
 mpSlot:pP->qC
  |some j=>(.val .mp (some j),none)
  |none=>(.any,none)
attribute [go_sem] zG.refSlot zG.cloSlot zG.mpSlot zG.valSlot
@[go_sem] def RT (q j:Nat):pL->pL
 |[]=>[(q,j)]
 |(a,b)::r=>if q<=a then(q,j)::(a,b)::r else(a,b)::RT q j r
@[go_sem] def IH (m:pL):pL->pL
 |[]=>[]
 |(q,k)::r=>renTok1 q (wL m k) (IH m r)
where
 renTok1 (q:Nat):pP->pL->pL
  |some j,r=>RT q j r
  |none,r=>r
attribute [go_sem] IH.renTok1
@[go_sem] def W6 (t:Ty) (toks:pL):Option t.den->q9
 |some y=> .cells t y toks
 |none=> .dead
@[go_sem] def GM (m:pL):Option q9->q9
 |some (.cells t x toks)=>if t.pure then .cells t x (IH m toks) else W6 t (IH m toks) (yU m t x)
 |some (.grow e c n)=> .grow e c n
 |some (.row e t l n)=>if t.pure then .row e t l n else .dead
 |some (.map k v l)=>if k.pure&&v.pure then .map k v l else .dead
 |some (.iter s p)=> .iter s p
 |_=> .dead
@[go_sem] def N7 (m:pL) (env:List (Nat×qC)):pQ->List (Nat×qC)
 |[]=>[]
 |t::r=>(t,zG m (lk env t))::N7 m env r
@[go_sem] def RU (m:pL) (H:List (Nat×q9)):pL->List (Nat×q9)
 |[]=>[]
 |(n,o)::r=>(n,GM m (qD H o))::RU m H r
@[go_sem] def RV:pL->Nat
 |[]=>0
 |(n,_)::r=>max (n+1) (RV r)
@[go_sem] def KJ (n o:Nat):pL->Bool
 |[]=>false
 |(n',o')::r=>decide (n'=n)||decide (o'=o)||KJ n o r
@[go_sem] def wM (np:Nat):pL->Bool
 |[]=>true
 |(n,o)::r=>(decide (np<=n)||decide (n=o))&& !KJ n o r&&wM np r
@[go_sem] def N8 (s:St) (k:vS):Bool->St
 |true=>⟨N7 k.ids s.env k.slots,RU k.ids s.H k.ids,max s.np (RV k.ids),s.N,s.np⟩
 |false=>⟨[],[],s.nb,s.N,s.np⟩
@[go_sem] def St.keep (s:St) (k:vS):St:=N8 s k (wM s.np k.ids)
@[go_sem] def rF:List Prop->Prop
 |[]=>True
 |[p]=>p
 |p::q::r=>p/\rF (q::r)
@[go_sem] def a6v (Q:Ex->St->Prop):Option vG->Prop
 |some a=>rF a.side/\Q .normal a.s
 |none=>False
@[go_sem] def a6w (A B:Prop):qC->Prop
 |(.val .bool x,_)=>(x=true->A)/\(x=false->B)
 |(.flag p q,_)=>(p->A)/\(q->B)
 |_=>False
@[go_sem] def N9 (f:St->Prop) (Q:Ex->St->Prop):Ex->St->Prop
 | .normal,s=>f s
 | .exit j,s=>Q (.exit j) s
 | .ret,s=>Q .ret s
@[go_sem] def GN (id:Nat) (Q:Ex->St->Prop):Ex->St->Prop
 | .normal,s=>Q .normal s
 | .exit j,s=>if j=id then Q .normal s else Q (.exit j) s
 | .ret,s=>Q .ret s
@[go_sem] def aEd (I:St->Prop) (μ:St->Nat) (m:Nat) (Q:Ex->St->Prop):Ex->St->Prop
 | .normal,s=> ∃k:vS,I (s.keep k)/\μ (s.keep k)<m
 | .exit j,s=>Q (.exit j) s
 | .ret,s=>Q .ret s
def w6 (T:sM) (Γ:tX):Code->St->(Ex->St->Prop)->Prop
 | .skip,s,Q=>Q .normal s
 | .label _,s,Q=>Q .normal s
 | .region _ ops draw,s,Q=>a6v Q (N6 T Γ ops s draw)
 | .seq a b,s,Q=>w6 T Γ a s (N9 (fun s'=>w6 T Γ b s' Q) Q)
 | .cond c a b,s,Q=>a6w (w6 T Γ a s Q) (w6 T Γ b s Q) (u6 s.env c)
 | .block id c,s,Q=>w6 T Γ c s (GN id Q)
 | .loop c,s,Q=> ∃(k:vS) (I:St->Prop) (μ:St->Nat),I (s.keep k)/\∀s,I s->w6 T Γ c s (aEd I μ (μ s) Q)
 | .exit id,s,Q=>Q (.exit id) s
 | .ret,s,Q=>Q .ret s
 |_,_,_=>False
attribute [go_sem] Ty.list.injEq Ty.pair.injEq Ty.int.injEq
section
variable {T:sM}{Γ:tX}{s:St}{Q:Ex->St->Prop}
theorem aEe {id:Nat}{ops:Array Oper}{a:vG}(h:uI T Γ ops.toList ops.toList (some ⟨s,[],[]⟩)=some a) (hp:rF a.side) (hq:Q .normal a.s):w6 T Γ (.region id ops false) s Q:=by
 unfold w6 N6;rw[h];exact⟨hp,hq⟩
theorem aEf {id:Nat}{ops:Array Oper}{a:vG}(h:uI T Γ ops.toList ops.toList (some ⟨s,[],[]⟩)=some a) (hf:IG ops s.nb a.es.reverse=true) (hp:rF a.side) (hq:Q .normal a.s):w6 T Γ (.region id ops true) s Q:=by
 unfold w6 N6;rw[h];show a6v Q (if IG ops s.nb a.es.reverse=true then some a else none);rw[aLQ hf];exact⟨hp,hq⟩
end
end Go.Proofs.YtkpflnijijccpaaGreatDoor.Vc
namespace Go.Proofs.YtkpflnijijccpaaGreatDoor.Vc
open Go.RowKit
abbrev s0:=List (Nat×q9)
structure Pl where
 b:Nat
 o:Nat
 k:Option (TypeId×Nat):=none
structure Gh where
 S:Nat->Nat->Prop
 J:Nat->Option Pl
 cur:Nat->Nat->Option pS
def y4 {α:Type}(R:α->pN->Prop) (w:pR) (S:Nat->Nat->Prop) (c b:Nat):Nat->List α->Prop
 |_,[]=>True
 |o,x::xs=>(∃cs,cs.length=c/\w.rangeAt b o cs/\(∀j,j<c->S b (o+j))/\R x cs)/\y4 R w S c b (o+c) xs
def xO (g:Gh):pL->pN->Prop
 |[],vs=>vs=[]
 |(i,o)::l,vs=> ∃p vs',g.J i=some p/\vs= .pointer (some ⟨p.1,p.2+o,none⟩)::vs'/\xO g l vs'
def NA (g:Gh):pO->pN->Prop
 |none,cs=>cs=[.pointer none]
 |some (i,o),cs=> ∃p,g.J i=some p/\cs=[.pointer (some ⟨p.1,p.2+o,none⟩)]
def NB (g:Gh):Option (Nat×pL)->pN->Prop
 |none,cs=>cs=[.nilFunc]
 |some (f,l),cs=> ∃vs,xO g l vs/\cs=[.func (.func f) #[] vs.toArray]
def II (g:Gh):pP->pN->Prop
 |none,cs=>cs=[.map none]
 |some i,cs=> ∃p,g.J i=some p/\cs=[.map (some p.1)]
def W7 (k:Option (TypeId×Nat)) (o:Nat):Prop:=o=0/\∃e,V5 e=true/\k=some (e,2)
def DW (g:Gh):pO->pN->Prop
 |none,cs=>cs=[.slice none 0 0]
 |some (k,n),cs=> ∃v,g.cur k n=some v/\cs=[v]/\((v= .slice none 0 0/\n=0)\/∃b cap,v= .slice (some ⟨b,0,none⟩) n cap/\n<=cap)
def NC (g:Gh):pO->pN->Prop
 |none,cs=>cs=[.pointer none]
 |some (i,o),cs=> ∃p,g.J i=some p/\W7 p.3 (p.2+o)/\(cs=[.pointer none]\/cs=[.pointer (some ⟨p.1,p.2+o,none⟩)])
def a6x:pP->pN->Prop
 |none,cs=>cs=[.nilFunc]
 |some f,cs=>cs=[.func (.func f) #[] #[]]
def Rd (g:Gh) (w:pR):(t:Ty)->t.den->pN->Prop
 | .bool,x,cs=>cs=[.bool x]
 | .int k,n,cs=>cs=[.int k n]
 | .str,l,cs=>cs=[.string ⟨List.toArray l⟩]
 | .list t,l,cs=> ∃a cap,cs=[.slice a (List.length l) cap]/\List.length l<=cap/\(l=[]\/∃b o,a=some ⟨b,o,none⟩/\y4 (Rd g w t) w g.S t.cells b o l)
 | .unit,_,cs=>cs=[]
 | .pair s t,x,cs=> ∃c1 c2,cs=c1++c2/\Rd g w s x.1 c1/\Rd g w t x.2 c2
 | .ref,x,cs=>NA g x cs
 | .clo,x,cs=>NB g x cs
 | .mp,x,cs=>II g x cs
 | .rl _ _,x,cs=>DW g x cs
 | .fn,x,cs=>a6x x cs
 | .mref,x,cs=>NC g x cs
def tJ (g:Gh) (w:pR) (t:Ty) (x:t.den) (v:pS):Prop:=
 (t.isRow=true/\∃cs:pN,v= .agg cs.toArray/\Rd g w t x cs)\/(t.isRow=false/\Rd g w t x [v])
def xD (k:Nat):Ty->Nat->pN->Prop
 | .list _,o,cs=>o+1=k\/cs=[.slice none 0 0]
 | .pair a b,o,cs=> ∃c1 c2,cs=c1++c2/\c1.length=a.cells/\xD k a o c1/\xD k b (o+a.cells) c2
 |_,_,_=>True
def C5 (g:Gh) (t:Ty) (x:t.den) (v:pS):pP->Prop
 |none=>True
 |some k=>match t,x with
  | .list _,l=>g.cur k (List.length l)=some v
  | .pair a b,_=>xD k (.pair a b) 0 v.cells.toList
  |_,_=>False
def KK (g:Gh) (w:pR):List ((Σ t:Ty,t.den)×pP)->pN->Prop
 |[],vs=>vs=[]
 |(⟨t,x⟩,k)::l,vs=> ∃v vs',vs=v::vs'/\tJ g w t x v/\C5 g t x v k/\KK g w l vs'
def zH (g:Gh) (w:pR):DV->pS->Prop
 | .any,_=>True
 | .nilS,v=>v= .slice none 0 0
 | .val t x,v=>tJ g w t x v
 | .at t x,v=> ∃b o cs,v= .pointer (some ⟨b,o,none⟩)/\w.rangeAt b o cs/\(∀j,j<t.cells->g.S b (o+j))/\Rd g w t x cs
 | .tup l,v=> ∃vs:pN,v= .tuple vs.toArray/\KK g w l vs
 | .cond p d,v=>(p=true->zH g w d v)/\(p=false->v=undef)
 | .flag p q,v=> ∃b,v= .bool b/\(b=true->p)/\(b=false->q)
 | .own k n,v=>g.cur k n=some v/\((v= .slice none 0 0/\n=0)\/∃b cap,v= .slice (some ⟨b,0,none⟩) n cap/\n<=cap)
 | .nxt b p c,v=>(b=true->v= .tuple #[.bool true,.int .i64 p,.int .i32 c])/\(b=false->v= .tuple #[.bool false])
 | .elt k n c i o,v=> ∃b cap,g.cur k n=some (.slice (some ⟨b,0,none⟩) n cap)/\0<=i/\i<(n:Int)/\v= .pointer (some ⟨b,i.toNat*c+o,none⟩)
def rJ (g:Gh) (w:pR) (s:qC) (v:pS):Prop:=
 zH g w s.1 v/\match s with
  |(_,none)=>True
  |(.val t x,some k)=>C5 g t x v (some k)
  |(_,some _)=>False
structure Le (g:Gh) (w:pR) (g':Gh) (w':pR):Prop where
 S: ∀b o,g.S b o->g'.S b o
 cell: ∀b o,g.S b o->w'.cell? ⟨b,o,none⟩=w.cell? ⟨b,o,none⟩
 J: ∀i p,g.J i=some p->g'.J i=some p
 cur: ∀k n v,g.cur k n=some v->g'.cur k n=some v
theorem Le.refl (g:Gh) (w:pR):Le g w g w:=⟨fun _ _ h=>h,fun _ _ _=>rfl,fun _ _ h=>h,fun _ _ _ h=>h⟩
theorem Le.trans {g g' g'':Gh}{w w' w'':pR}(h:Le g w g' w') (k:Le g' w' g'' w''):Le g w g'' w'':=
 ⟨fun b o x=>k.S b o (h.S b o x),fun b o x=>(k.cell b o (h.S b o x)).trans (h.cell b o x),fun i p x=>k.J i p (h.J i p x),fun i n v x=>k.cur i n v (h.cur i n v x)⟩
theorem W8 {g g':Gh}(hJ: ∀i p,g.J i=some p->g'.J i=some p): ∀{l:pL}{vs:pN},xO g l vs->xO g' l vs
 |[],_,h=>h
 |(_,_)::_,_,⟨p,vs',h1,h2,h3⟩=>⟨p,vs',hJ _ _ h1,h2,W8 hJ h3⟩
theorem aEg {g g':Gh}(hJ: ∀i p,g.J i=some p->g'.J i=some p): ∀{x:pO}{cs:pN},NA g x cs->NA g' x cs
 |none,_,h=>h
 |some (_,_),_,⟨p,h1,h2⟩=>⟨p,hJ _ _ h1,h2⟩
theorem aEh {g g':Gh}(hJ: ∀i p,g.J i=some p->g'.J i=some p): ∀{x:Option (Nat×pL)}{cs:pN},NB g x cs->NB g' x cs
 |none,_,h=>h
 |some (_,_),_,⟨vs,h1,h2⟩=>⟨vs,W8 hJ h1,h2⟩
theorem aEi {g g':Gh}(hJ: ∀i p,g.J i=some p->g'.J i=some p): ∀{x:pP}{cs:pN},II g x cs->II g' x cs
 |none,_,h=>h
 |some _,_,⟨p,h1,h2⟩=>⟨p,hJ _ _ h1,h2⟩
theorem aEj {g g':Gh}(hc: ∀k n v,g.cur k n=some v->g'.cur k n=some v): ∀{x:pO}{cs:pN},DW g x cs->DW g' x cs
 |none,_,h=>h
 |some (_,_),_,⟨v,h1,h2⟩=>⟨v,hc _ _ _ h1,h2⟩
theorem aEk {g g':Gh}(hJ: ∀i p,g.J i=some p->g'.J i=some p): ∀{x:pO}{cs:pN},NC g x cs->NC g' x cs
 |none,_,h=>h
 |some (_,_),_,⟨p,h1,h2⟩=>⟨p,hJ _ _ h1,h2⟩
theorem W9 {α:Type}{R R':α->pN->Prop}{w w':pR}{S S':Nat->Nat->Prop}{c b:Nat}(hR: ∀x cs,R x cs->R' x cs) (hS: ∀o,S b o->S' b o)
  (hc: ∀o,S b o->w'.cell? ⟨b,o,none⟩=w.cell? ⟨b,o,none⟩): ∀{l:List α}{o:Nat},y4 R w S c b o l->y4 R' w' S' c b o l
 |[],_,_=>trivial
 |_::_,o,⟨⟨cs,h1,h2,h3,h4⟩,h5⟩=>⟨⟨cs,h1,fun j v hv=>by
   have hj:j<c:=h1▸(aL1.1 hv).1;rw[hc _ (h3 j hj)];exact h2 j v hv,fun j hj=>hS _ (h3 j hj),hR _ _ h4⟩,W9 hR hS hc h5⟩
theorem wU {g g':Gh}{w w':pR}(h:Le g w g' w'): ∀{t:Ty}{x:t.den}{cs:pN},Rd g w t x cs->Rd g' w' t x cs
 | .bool,_,_,r=>r
 | .int _,_,_,r=>r
 | .str,_,_,r=>r
 | .unit,_,_,r=>r
 | .ref,_,_,r=>aEg h.J r
 | .clo,_,_,r=>aEh h.J r
 | .mp,_,_,r=>aEi h.J r
 | .rl _ _,_,_,r=>aEj h.cur r
 | .fn,_,_,r=>r
 | .mref,_,_,r=>aEk h.J r
 | .pair _ _,_,_,⟨c1,c2,e,r1,r2⟩=>⟨c1,c2,e,wU h r1,wU h r2⟩
 | .list _,_,_,⟨a,cap,e,hle,hl⟩=>⟨a,cap,e,hle,hl.imp id fun⟨b,o,ea,hr⟩=>⟨b,o,ea,W9 (fun _ _=>wU h) (fun _=>h.S _ _) (fun _=>h.cell _ _) hr⟩⟩
theorem sV {g:Gh}{w:pR}: ∀{t:Ty}{x:t.den}{cs:pN},Rd g w t x cs->cs.length=t.cells
 | .bool,_,_,r=>by cases r;rfl
 | .int _,_,_,r=>by cases r;rfl
 | .str,_,_,r=>by cases r;rfl
 | .unit,_,_,r=>by cases r;rfl
 | .ref,none,_,r=>by cases r;rfl
 | .ref,some (_,_),_,⟨_,_,e⟩=>by cases e;rfl
 | .clo,none,_,r=>by cases r;rfl
 | .clo,some (_,_),_,⟨_,_,e⟩=>by cases e;rfl
 | .mp,none,_,r=>by cases r;rfl
 | .mp,some _,_,⟨_,_,e⟩=>by cases e;rfl
 | .fn,none,_,r=>by cases r;rfl
 | .fn,some _,_,r=>by cases r;rfl
 | .rl _ _,none,_,r=>by cases r;rfl
 | .rl _ _,some (_,_),_,⟨_,_,e,_⟩=>by cases e;rfl
 | .mref,none,_,r=>by cases r;rfl
 | .mref,some (_,_),_,⟨_,_,_,e⟩=>by rcases e with e|e<;>(cases e;rfl)
 | .pair _ _,_,_,⟨c1,c2,e,r1,r2⟩=>by rw[e,aLT,sV r1,sV r2];rfl
 | .list _,_,_,⟨_,_,e,_,_⟩=>by cases e;rfl
theorem RW {g g':Gh}{w w':pR}(h:Le g w g' w') {t:Ty}{x:t.den}{v:pS}(r:tJ g w t x v):tJ g' w' t x v:=
 r.imp (fun⟨a,cs,e,q⟩=>⟨a,cs,e,wU h q⟩) (fun⟨a,q⟩=>⟨a,wU h q⟩)
theorem a6y {g g':Gh}{w w':pR}(h:Le g w g' w') {t:Ty}{x:t.den}{v:pS}{k:pP}(r:C5 g t x v k):C5 g' t x v k:=by
 cases k with
 |none=>trivial
 |some k=>
  cases t with
  |list u=>exact h.cur _ _ _ r
  |pair a b=>exact r
  |_=>exact r.elim
theorem a6z {g g':Gh}{w w':pR}(h:Le g w g' w'): ∀{l:List ((Σ t:Ty,t.den)×pP)}{vs:pN},KK g w l vs->KK g' w' l vs
 |[],_,r=>r
 |(⟨_,_⟩,_)::_,_,⟨v,vs',e,r1,r2,r3⟩=>⟨v,vs',e,RW h r1,a6y h r2,a6z h r3⟩
theorem a6A {g g':Gh}{w w':pR}(h:Le g w g' w'): ∀{d:DV}{v:pS},zH g w d v->zH g' w' d v
 | .any,_,r=>r
 | .nilS,_,r=>r
 | .val _ _,_,r=>RW h r
 | .at t _,_,⟨b,o,cs,e,h1,h2,h3⟩=>⟨b,o,cs,e,fun j v hv=>by
   by_cases hj:j<t.cells
   .rw[h.cell _ _ (h2 j hj)];exact h1 j v hv
   .exact absurd (aL1.1 hv).1 (by rw[sV h3];exact hj),fun j hj=>h.S _ _ (h2 j hj),wU h h3⟩
 | .tup _,_,⟨vs,e,r⟩=>⟨vs,e,a6z h r⟩
 | .cond _ _,_,⟨r1,r2⟩=>⟨fun p=>a6A h (r1 p),r2⟩
 | .flag _ _,_,r=>r
 | .own _ _,_,⟨h1,h2⟩=>⟨h.cur _ _ _ h1,h2⟩
 | .nxt _ _ _,_,r=>r
 | .elt _ _ _ _ _,_,⟨b,cap,h1,h2⟩=>⟨b,cap,h.cur _ _ _ h1,h2⟩
theorem C6 {g g':Gh}{w w':pR}(h:Le g w g' w') {s:qC}{v:pS}(r:rJ g w s v):rJ g' w' s v:=by
 obtain⟨d,k⟩:=s;refine⟨a6A h r.1,?_⟩;have r2:=r.2;cases k with
 |none=>trivial
 |some k=>
  cases d with
  |val t x=>exact a6y h r2
  |_=>exact r2.elim
theorem A3 {g:Gh}{w:pR}: ∀{t:Ty}{x:t.den}{cs:pN},Rd g w t x cs->∀v∈cs,v.oneCell'=true
 | .bool,_,_,r=>by cases r;intro v hv;simp at hv;subst hv;rfl
 | .int _,_,_,r=>by cases r;intro v hv;simp at hv;subst hv;rfl
 | .str,_,_,r=>by cases r;intro v hv;simp at hv;subst hv;rfl
 | .unit,_,_,r=>by cases r;intro v hv;simp at hv
 | .ref,none,_,r=>by cases r;intro v hv;simp at hv;subst hv;rfl
 | .ref,some (_,_),_,⟨_,_,e⟩=>by cases e;intro v hv;simp at hv;subst hv;rfl
 | .clo,none,_,r=>by cases r;intro v hv;simp at hv;subst hv;rfl
 | .clo,some (_,_),_,⟨_,_,e⟩=>by cases e;intro v hv;simp at hv;subst hv;rfl
 | .mp,none,_,r=>by cases r;intro v hv;simp at hv;subst hv;rfl
 | .mp,some _,_,⟨_,_,e⟩=>by cases e;intro v hv;simp at hv;subst hv;rfl
 | .fn,none,_,r=>by cases r;intro v hv;simp at hv;subst hv;rfl
 | .fn,some _,_,r=>by cases r;intro v hv;simp at hv;subst hv;rfl
 | .rl _ _,none,_,r=>by cases r;intro v hv;simp at hv;subst hv;rfl
 | .rl _ _,some (_,_),_,⟨_,_,e,hs⟩=>by
  cases e;intro v hv;simp at hv;subst hv;rcases hs with⟨rfl,_⟩ |⟨_,_,rfl,_⟩<;>rfl
 | .mref,none,_,r=>by cases r;intro v hv;simp at hv;subst hv;rfl
 | .mref,some (_,_),_,⟨_,_,_,e⟩=>by rcases e with e|e<;>(cases e;intro v hv;simp at hv;subst hv;rfl)
 | .pair _ _,_,_,⟨c1,c2,e,r1,r2⟩=>by
  subst e;intro v hv;rcases aML.1 hv with h|h
  .exact A3 r1 v h
  .exact A3 r2 v h
 | .list _,_,_,⟨_,_,e,_,_⟩=>by cases e;intro v hv;simp at hv;subst hv;rfl
theorem vT {g g':Gh}{w:pR}(hS:g'.S=g.S): ∀{t:Ty}{x:t.den}{cs:pN},t.pure=true->Rd g w t x cs->Rd g' w t x cs
 | .bool,_,_,_,r=>r
 | .int _,_,_,_,r=>r
 | .str,_,_,_,r=>r
 | .unit,_,_,_,r=>r
 | .ref,_,_,h,_=>by simp [Ty.pure] at h
 | .clo,_,_,h,_=>by simp [Ty.pure] at h
 | .mp,_,_,h,_=>by simp [Ty.pure] at h
 | .rl _ _,_,_,h,_=>by simp [Ty.pure] at h
 | .fn,_,_,_,r=>r
 | .mref,_,_,h,_=>by simp [Ty.pure] at h
 | .pair _ _,_,_,h,⟨c1,c2,e,r1,r2⟩=>by
  simp only[Ty.pure,aMb] at h;exact⟨c1,c2,e,vT hS h.1 r1,vT hS h.2 r2⟩
 | .list _,_,_,h,⟨a,cap,e,hle,hl⟩=>by
  simp only[Ty.pure] at h;exact⟨a,cap,e,hle,hl.imp id fun⟨b,o,ea,hr⟩=>⟨b,o,ea,W9 (fun _ _ r=>vT hS h r) (fun _ q=>by rw[hS];exact q) (fun _ _=>rfl) hr⟩⟩
def CV (g:Gh) (w:pR) (k v:Ty):List (k.den×v.den)->List MapEntry->Prop
 |[],es=>es=[]
 |(a,b)::l,es=> ∃e es',es=e::es'/\tJ g w k a e.key/\tJ g w v b e.val/\CV g w k v l es'
theorem WA {g g':Gh}{w w':pR}(h:Le g w g' w') {k v:Ty}: ∀{l:List (k.den×v.den)}{es:List MapEntry},CV g w k v l es->CV g' w' k v l es
 |[],_,r=>r
 |_::_,_,⟨e,es',h1,h2,h3,h4⟩=>⟨e,es',h1,RW h h2,RW h h3,WA h h4⟩
theorem a6B {g g':Gh}{w:pR}(hS:g'.S=g.S) {t:Ty}{x:t.den}{v:pS}(hp:t.pure=true) (r:tJ g w t x v):tJ g' w t x v:=
 r.imp (fun⟨a,cs,e,q⟩=>⟨a,cs,e,vT hS hp q⟩) (fun⟨a,q⟩=>⟨a,vT hS hp q⟩)
theorem ND {g g':Gh}{w:pR}(hS:g'.S=g.S) {k v:Ty}(hk:k.pure=true) (hv:v.pure=true): ∀{l:List (k.den×v.den)}{es:List MapEntry},CV g w k v l es->CV g' w k v l es
 |[],_,r=>r
 |_::_,_,⟨e,es',h1,h2,h3,h4⟩=>⟨e,es',h1,a6B hS hk h2,a6B hS hv h3,ND hS hk hv h4⟩
def tV {α:Type}(R:α->pN->Prop) (c:Nat):List α->pN->Prop
 |[],cs=>cs=[]
 |x::xs,cs=> ∃c1 c2,cs=c1++c2/\c1.length=c/\R x c1/\tV R c xs c2
theorem GO {α:Type}{R:α->pN->Prop}{c:Nat}: ∀{l:List α}{cs:pN},tV R c l cs->cs.length=l.length*c
 |[],_,h=>by rw[h];simp
 |_::l,_,⟨c1,c2,e,h1,_,h3⟩=>by rw[e,aLT,h1,GO h3,aLY,aMX];omega
theorem NE {α:Type}{R:α->pN->Prop}{c:Nat}: ∀{l m:List α}{cs ds:pN},tV R c l cs->tV R c m ds->tV R c (l++m) (cs++ds)
 |[],_,_,_,h,k=>by rw[h];exact k
 |_::_,_,_,_,⟨c1,c2,e,h1,h2,h3⟩,k=>⟨c1,c2++_,by rw[e,aLV],h1,h2,NE h3 k⟩
theorem C7 {α:Type}{R R':α->pN->Prop}{c:Nat}(hR: ∀x cs,R x cs->R' x cs): ∀{l:List α}{cs:pN},tV R c l cs->tV R' c l cs
 |[],_,h=>h
 |_::_,_,⟨c1,c2,e,h1,h2,h3⟩=>⟨c1,c2,e,h1,hR _ _ h2,C7 hR h3⟩
theorem CW {g:Gh}{w:pR}{u:Ty}: ∀{t:Ty}{x:t.den}{cs:pN}{o:Nat}{y:u.den},Rd g w t x cs->rC u t x o=some y->
  ∃c1 c2 c3,cs=c1++c2++c3/\c1.length=o/\Rd g w u y c2:=by
 intro t
 induction t with
 |pair a b iha ihb=>
  intro x cs o y r h;obtain⟨c1,c2,e,r1,r2⟩:=r;have key: ∀o,(if o<a.cells then rC u a x.1 o else rC u b x.2 (o-a.cells))=some y->∃d1 d2 d3,cs=d1++d2++d3/\d1.length=o/\Rd g w u y d2:=by
   intro o h;by_cases ho:o<a.cells
   .rw[aLQ ho] at h;obtain⟨d1,d2,d3,e',hl,hr⟩:=iha r1 h;exact⟨d1,d2,d3++c2,by rw[e,e'];simp,hl,hr⟩
   .rw[aLU ho] at h;obtain⟨d1,d2,d3,e',hl,hr⟩:=ihb r2 h;refine⟨c1++d1,d2,d3,by rw[e,e'];simp,?_,hr⟩;rw[aLT,hl,sV r1];omega
  cases o with
  |zero=>
   unfold rC at h;by_cases hu:Ty.pair a b=u
   .rw[aNP hu] at h;subst hu;simp only[uF,aLO] at h;subst h;exact⟨[],cs,[],by simp,rfl,⟨c1,c2,e,r1,r2⟩⟩
   .rw[aNr hu] at h;refine key 0 ?_;simpa using h
  |succ o=>exact key (o+1) (by simpa[rC] using h)
 |_=>
  intro x cs o y r h;cases o with
  |zero=>
   unfold rC at h;split at h
   .rename_i hu;subst hu;simp only[uF,aLO] at h
    try subst h
    exact⟨[],cs,[],by simp,rfl,r⟩
   .simp at h
  |succ o=>simp [rC] at h
theorem RX {g:Gh}{w:pR}{u:Ty}{y:u.den}{cy:pN}(hy:Rd g w u y cy): ∀{t:Ty}{x z:t.den}{cs:pN}{o:Nat},Rd g w t x cs->sU u y t x o=some z->
  ∃c1 c2 c3,cs=c1++c2++c3/\c1.length=o/\c2.length=u.cells/\Rd g w t z (c1++cy++c3):=by
 intro t
 induction t with
 |pair a b iha ihb=>
  intro x z cs o r h;obtain⟨c1,c2,e,r1,r2⟩:=r;have key: ∀o,(if o<a.cells then(sU u y a x.1 o).map (fun q=>(q,x.2)) else(sU u y b x.2 (o-a.cells)).map (fun q=>(x.1,q)))=some z->
    ∃d1 d2 d3,cs=d1++d2++d3/\d1.length=o/\d2.length=u.cells/\Rd g w (.pair a b) z (d1++cy++d3):=by
   intro o h;by_cases ho:o<a.cells
   .rw[aLQ ho] at h;obtain⟨q,hq,rfl⟩:=aLW.1 h;obtain⟨d1,d2,d3,e',hl,hl2,hr⟩:=iha r1 hq;exact⟨d1,d2,d3++c2,by rw[e,e'];simp,hl,hl2,⟨d1++cy++d3,c2,by simp,hr,r2⟩⟩
   .rw[aLU ho] at h;obtain⟨q,hq,rfl⟩:=aLW.1 h;obtain⟨d1,d2,d3,e',hl,hl2,hr⟩:=ihb r2 hq;refine⟨c1++d1,d2,d3,by rw[e,e'];simp,?_,hl2,⟨c1,d1++cy++d3,by simp,r1,hr⟩⟩;rw[aLT,hl,sV r1];omega
  cases o with
  |zero=>
   unfold sU at h;by_cases hu:u=Ty.pair a b
   .rw[aNP hu] at h;subst hu;simp only[uF,aLO] at h;subst h;exact⟨[],cs,[],by simp,rfl,sV (t:= .pair a b) (x:=x) ⟨c1,c2,e,r1,r2⟩,by simpa using hy⟩
   .rw[aNr hu] at h;refine key 0 ?_;simpa using h
  |succ o=>exact key (o+1) (by simpa[sU] using h)
 |_=>
  intro x z cs o r h;cases o with
  |zero=>
   unfold sU at h;split at h
   .rename_i hu;subst hu;simp only[uF,aLO] at h
    try subst h
    exact⟨[],cs,[],by simp,rfl,sV r,by simpa using hy⟩
   .simp at h
  |succ o=>simp [sU] at h
theorem aEl {e:Nat}{u:Ty}{kn:pO}: ∀{t:Ty}{x:t.den}{o:Nat}{q: Σ t:Ty,t.den},xN e u kn t x o=some q->q.1.cells=t.cells:=by
 intro t
 induction t with
 |pair a b iha ihb=>
  intro x o q h;unfold xN at h;split at h
  .cases hq:xN e u kn a x.1 o with
   |none=>rw[hq] at h;cases h
   |some r=>
    obtain⟨a',x'⟩:=r;rw[hq] at h;simp only[VJ,aLO] at h;subst h;have:=iha hq;simp only[Ty.cells] at this|-;omega
  .cases hq:xN e u kn b x.2 (o-a.cells) with
   |none=>rw[hq] at h;cases h
   |some r=>
    obtain⟨b',y'⟩:=r;rw[hq] at h;simp only[VK,aLO] at h;subst h;have:=ihb hq;simp only[Ty.cells] at this|-;omega
 |list v=>
  intro x o q h;cases o with
  |zero=>
   simp only[xN] at h;split at h
   .simp only[aLO] at h;subst h;rfl
   .cases h
  |succ o=>simp [xN] at h
 |_=>intro x o q h;cases o<;>simp [xN] at h
theorem aEm {g:Gh}{w:pR}{e:Nat}{u:Ty}{kn:pO}{cy:pN}(hy:DW g kn cy): ∀{t:Ty}{x:t.den}{cs:pN}{o:Nat}{q: Σ t:Ty,t.den},Rd g w t x cs->xN e u kn t x o=some q->
  ∃c1 c2 c3,cs=c1++c2++c3/\c1.length=o/\c2.length=1/\Rd g w q.1 q.2 (c1++cy++c3):=by
 intro t
 induction t with
 |pair a b iha ihb=>
  intro x cs o q r h;obtain⟨c1,c2,e1,r1,r2⟩:=r;unfold xN at h;split at h
  .cases hq:xN e u kn a x.1 o with
   |none=>rw[hq] at h;cases h
   |some z=>
    obtain⟨a',x'⟩:=z;rw[hq] at h;simp only[VJ,aLO] at h;subst h;obtain⟨d1,d2,d3,e',hl,hl2,hr⟩:=iha r1 hq;exact⟨d1,d2,d3++c2,by rw[e1,e'];simp,hl,hl2,⟨d1++cy++d3,c2,by simp,hr,r2⟩⟩
  .cases hq:xN e u kn b x.2 (o-a.cells) with
   |none=>rw[hq] at h;cases h
   |some z=>
    obtain⟨b',y'⟩:=z;rw[hq] at h;simp only[VK,aLO] at h;subst h;obtain⟨d1,d2,d3,e',hl,hl2,hr⟩:=ihb r2 hq;refine⟨c1++d1,d2,d3,by rw[e1,e'];simp,?_,hl2,⟨c1,d1++cy++d3,by simp,r1,hr⟩⟩;rw[aLT,hl,sV r1];omega
 |list v=>
  intro x cs o q r h;cases o with
  |zero=>
   simp only[xN] at h;split at h
   .simp only[aLO] at h;subst h;exact⟨[],cs,[],by simp,rfl,sV r,by rw[List.nil_append,List.append_nil];exact hy⟩
   .cases h
  |succ o=>simp [xN] at h
 |_=>intro x cs o q r h;cases o<;>simp [xN] at h
def F1 (g:Gh) (t:Ty) (x:t.den) (cs:pN) (toks:pL):Prop:=
 ∀o k,(o,k)∈toks->∃(u:Ty) (l:List u.den) (v:pS),rC (.list u) t x o=some l/\cs[o]? =some v/\g.cur k l.length=some v
def aEn (w:pR) (p:Pl) (n:Nat):Prop:=w.there p.1 p.2 n/\(0<n->∀s,p.3=some s->w.shape? p.1=some s)
theorem BL {w:pR}{b:Nat}{s:TypeId×Nat}(h:w.shape? b=some s):b<w.heap.size:=by
 unfold World.shape? at h;cases hb:w.heap[b]? with
 |none=>rw[hb] at h;cases h
 |some x=>exact(aMi.1 hb).1
theorem BM {w w':pR}{b:Nat}(h:w'.heap[b]? =w.heap[b]?):w'.shape? b=w.shape? b:=by
 unfold World.shape?;rw[h]
def zI (g:Gh) (w:pR) (i:Nat):q9->Prop
 | .cells t x toks=> ∃p cs,g.J i=some p/\Rd g w t x cs/\w.rangeAt p.1 p.2 cs/\aEn w p t.cells/\(∀j,j<t.cells->¬g.S p.1 (p.2+j))/\F1 g t x cs toks
 | .grow e c n=> ∃v xs,g.cur i n=some v/\w.ownsRow 0 e c v n xs/\(∀m,n<m->g.cur i m=none)/\∀b,v.ownBlock=some b->∀o,g.S b o->o<n*c
 | .row e t l n=>l.length=n/\∃v xs,g.cur i n=some v/\w.ownsRow 0 e t.cells v n xs/\tV (Rd g w t) t.cells l xs/\(∀m,n<m->g.cur i m=none)/\∀b,v.ownBlock=some b->∀o,¬g.S b o
 | .map k v l=> ∃p es clock,g.J i=some p/\p.2=0/\w.heap[p.1]? =some (.map es clock)/\CV g w k v l es.toList/\∀o,¬g.S p.1 o
 | .iter s n=> ∃p,g.J i=some p/\p.2=0/\w.heap[p.1]? =some (.stringIter ⟨s.toArray⟩ n)/\∀o,¬g.S p.1 o
 | .dead=>True
def sA (g:Gh) (i:Nat):q9->Nat->Nat->Prop
 | .cells t _ _,b,o=> ∃p,g.J i=some p/\b=p.1/\p.2<=o/\o<p.2+t.cells
 | .grow _ _ n,b,_=> ∃v,g.cur i n=some v/\v.ownBlock=some b
 | .row _ _ _ n,b,_=> ∃v,g.cur i n=some v/\v.ownBlock=some b
 | .map _ _ _,b,_=> ∃p,g.J i=some p/\b=p.1
 | .iter _ _,b,_=> ∃p,g.J i=some p/\b=p.1
 | .dead,_,_=>False
structure sG (g:Gh) (w:pR) (H:s0):Prop where
 blk: ∀i b,qD H i=some b->zI g w i b
 dis: ∀i j bi bj b o,i≠j->qD H i=some bi->qD H j=some bj->sA g i bi b o->sA g j bj b o->False
 sl: ∀b o,g.S b o->b<w.heap.size
 tab:CP w/\∀i blk b o,qD H i=some blk->sA g i blk b o->NG<=b
def sW (g:Gh) (H:s0) (ids:pQ) (b o:Nat):Prop:= ∃i blk,i∈ids/\qD H i=some blk/\sA g i blk b o
structure Fr (A:Nat->Nat->Prop) (w w':pR) (S S':Nat->Nat->Prop):Prop where
 os:w'.os=w.os
 tape:w'.tape=w.tape
 output:w'.output=w.output
 size:w.heap.size<=w'.heap.size
 blk: ∀b,b<w.heap.size->(∀o,¬A b o)->w'.heap[b]? =w.heap[b]?
 cell: ∀b o,b<w.heap.size->¬A b o->w'.cell? ⟨b,o,none⟩=w.cell? ⟨b,o,none⟩/\w'.frozen? ⟨b,o,none⟩=w.frozen? ⟨b,o,none⟩
 new: ∀b o,S' b o->S b o\/w.heap.size<=b\/A b o
 shape: ∀b s,w.shape? b=some s->w'.shape? b=some s\/∀o,A b o
theorem Fr.refl (A:Nat->Nat->Prop) (w:pR) (S:Nat->Nat->Prop):Fr A w w S S:=
 ⟨rfl,rfl,rfl,aMc _,fun _ _ _=>rfl,fun _ _ _ _=>⟨rfl,rfl⟩,fun _ _ h=> .inl h,fun _ _ h=> .inl h⟩
theorem Fr.trans {A B:Nat->Nat->Prop}{w w' w'':pR}{S S' S'':Nat->Nat->Prop}(h:Fr A w w' S S') (k:Fr B w' w'' S' S'') (hB: ∀b o,B b o->w.heap.size<=b\/A b o):Fr A w w'' S S'':=by
 refine⟨k.os.trans h.os,k.tape.trans h.tape,k.output.trans h.output,aMN h.size k.size,fun b hb hA=> ?_,fun b o hb hA=> ?_,fun b o hs=> ?_,fun b s hs=> ?_⟩
 .refine(k.blk b (aMu hb h.size) fun o ho=> ?_).trans (h.blk b hb hA);rcases hB b o ho with h1|h1
  .omega
  .exact hA o h1
 .have h1:=h.cell b o hb hA;have h2:=k.cell b o (aMu hb h.size) (fun ho=>by
   rcases hB b o ho with h1|h1
   .omega
   .exact hA h1)
  exact⟨h2.1.trans h1.1,h2.2.trans h1.2⟩
 .rcases k.new b o hs with h1|h1|h1
  .exact h.new b o h1
  .exact .inr (.inl (aMN h.size h1))
  .exact .inr (hB b o h1)
 .rcases h.shape b s hs with h1|h1
  .rcases k.shape b s h1 with h2|h2
   .exact .inl h2
   .refine .inr fun o=>(hB b o (h2 o)).resolve_left ?_;have:=BL hs;omega
  .exact .inr h1
structure sB (g:Gh) (w:pR) (H:s0) (e:qH) (g':Gh) (w':pR) (v:pS):Prop where
 le:Le g w g' w'
 slot:rJ g' w' e.slot v
 heap:sG g' w' (qP e.upd H)
 fr:Fr (sW g H (qG e.upd)) w w' g.S g'.S
 perm: ∀i blk b o,i∈qG e.upd->qD (qP e.upd H) i=some blk->sA g' i blk b o->w.heap.size<=b\/sW g H (qG e.upd) b o
 gho: ∀i,i∉qG e.upd->g'.J i=g.J i/\g'.cur i=g.cur i
 ty: ∀i u y us,qD (qP e.upd H) i=some (.cells u y us)->(∃x ts,qD H i=some (.cells u x ts))\/(g.J i=none/\∀n,g.cur i n=none)
structure yV (g:Gh) (w:pR) (H:s0) (e:qH) (g':Gh) (w':pR) (v:pS):Prop where
 le:Le g w g' w'
 slot:rJ g' w' e.slot v
 heap:sG g' w' (qP e.upd H)
 fr:Fr (sW g H (qG e.upd)) w w' g.S g'.S
 perm: ∀i blk b o,i∈qG e.upd->qD (qP e.upd H) i=some blk->sA g' i blk b o->w.heap.size<=b\/sW g H (qG e.upd) b o
 gho: ∀i,i∉qG e.upd->g'.J i=g.J i/\g'.cur i=g.cur i
 ty:GB e.rds=false->∀i u y us,qD (qP e.upd H) i=some (.cells u y us)->(∃x ts,qD H i=some (.cells u x ts))\/(g.J i=none/\∀n,g.cur i n=none)
theorem sB.w {g:Gh}{w:pR}{H:s0}{e:qH}{g':Gh}{w':pR}{v:pS}(h:sB g w H e g' w' v):yV g w H e g' w' v:=⟨h.le,h.slot,h.heap,h.fr,h.perm,h.gho,fun _=>h.ty⟩
theorem NF {w:pR}{B:Nat}{e:TypeId}{c n:Nat}{v:pS}{xs:pN}(h:w.ownsRow B e c v n xs) {b:Nat}(hb:v.ownBlock=some b):b<w.heap.size:=(h.lt b hb).2
theorem RY {w:pR}{b o:Nat}{v:pS}(h:w.cell? ⟨b,o,none⟩=some v):b<w.heap.size:=by
 have:=World.block_lt_of_cell? w ⟨b,o,none⟩ h;exact this
theorem KL {g:Gh}{w:pR}{i:Nat}{blk:q9}(h:zI g w i blk) {b o:Nat}(ho:sA g i blk b o):b<w.heap.size:=by
 cases blk with
 |cells t x toks=>
  obtain⟨p,cs,hp,_,_,ht,_⟩:=h;obtain⟨q,hq,rfl,h1,h2⟩:=ho;rw[hp] at hq;obtain rfl:=aLS hq;have:=(ht.1 (o-p.2) pG).1;obtain⟨v,hv⟩:=aLR.1 this;exact RY hv
 |grow e c n=>
  obtain⟨v,xs,hv,hr,_⟩:=h;obtain⟨v',hv',hb⟩:=ho;rw[hv] at hv';obtain rfl:=aLS hv';exact NF hr hb
 |row e t l n=>
  obtain⟨_,v,xs,hv,hr,_⟩:=h;obtain⟨v',hv',hb⟩:=ho;rw[hv] at hv';obtain rfl:=aLS hv';exact NF hr hb
 |map k v l=>
  obtain⟨p,es,cl,hp,_,hh,_,_⟩:=h;obtain⟨q,hq,rfl⟩:=ho;rw[hp] at hq;obtain rfl:=aLS hq;exact(aMi.1 hh).1
 |iter s n=>
  obtain⟨p,hp,_,hh,_⟩:=h;obtain⟨q,hq,rfl⟩:=ho;rw[hp] at hq;obtain rfl:=aLS hq;exact(aMi.1 hh).1
 |dead=>exact ho.elim
theorem a6C {g g':Gh}(hc: ∀k n v,g.cur k n=some v->g'.cur k n=some v) {t:Ty}{x:t.den}{cs:pN}{toks:pL}(h:F1 g t x cs toks):F1 g' t x cs toks:=
 fun o k hm=>let ⟨u,l,v,h1,h2,h3⟩:=h o k hm;⟨u,l,v,h1,h2,hc _ _ _ h3⟩
theorem KM {g g':Gh}{w w':pR}{i:Nat}{blk:q9}(h:zI g w i blk) (le:Le g w g' w') (hJ:g'.J i=g.J i) (hcur:g'.cur i=g.cur i)
  (hc: ∀b o,sA g i blk b o->w'.cell? ⟨b,o,none⟩=w.cell? ⟨b,o,none⟩/\w'.frozen? ⟨b,o,none⟩=w.frozen? ⟨b,o,none⟩)
  (hb: ∀b,(∀o,sA g i blk b o)->w'.heap[b]? =w.heap[b]?) (hS: ∀b o,sA g i blk b o->g'.S b o->g.S b o) (hsh: ∀b o s,sA g i blk b o->w.shape? b=some s->w'.shape? b=some s):zI g' w' i blk:=by
 cases blk with
 |cells t x toks=>
  obtain⟨p,cs,hp,hr,hra,ht,hs,htk⟩:=h;have ho: ∀j,j<t.cells->sA g i (.cells t x toks) p.1 (p.2+j):=fun j hj=>⟨p,hp,rfl,pG,pG⟩;refine⟨p,cs,hJ.trans hp,wU le hr,fun j v hv=> ?_,⟨fun j hj=> ?_,fun h0 s hs3=>hsh _ _ _ (ho 0 h0) (ht.2 h0 s hs3)⟩,fun j hj hs'=>hs j hj (hS _ _ (ho j hj) hs'),a6C le.cur htk⟩
  .have hj:j<t.cells:=sV hr▸(aL1.1 hv).1;rw[(hc _ _ (ho j hj)).1];exact hra j v hv
  .rw[(hc _ _ (ho j hj)).1,(hc _ _ (ho j hj)).2];exact ht.1 j hj
 |grow e c n=>
  obtain⟨v,xs,hv,hr,hn,hs⟩:=h;have hbl: ∀b,v.ownBlock=some b->∀o,sA g i (.grow e c n) b o:=fun b hb o=>⟨v,hv,hb⟩;refine⟨v,xs,by rw[hcur];exact hv,⟨hr.1,?_⟩,fun m hm=>by rw[hcur];exact hn m hm,fun b hvb o hs'=>hs b hvb o (hS _ _ (hbl b hvb o) hs')⟩;rcases hr.2 with h0|⟨q,cap,cur,e1,e2,e3,e4⟩
  .exact .inl h0
  .subst e1;exact .inr ⟨q,cap,cur,rfl,e2,by rw[hb q (hbl q rfl)];exact e3,e4⟩
 |row e t l n=>
  obtain⟨hl,v,xs,hv,hr,hF,hn,hs⟩:=h;have hbl: ∀b,v.ownBlock=some b->∀o,sA g i (.row e t l n) b o:=fun b hb o=>⟨v,hv,hb⟩;refine⟨hl,v,xs,by rw[hcur];exact hv,⟨hr.1,?_⟩,C7 (fun _ _ h=>wU le h) hF,fun m hm=>by rw[hcur];exact hn m hm,fun b hvb o hs'=>hs b hvb o (hS _ _ (hbl b hvb o) hs')⟩;rcases hr.2 with h0|⟨q,cap,cur,e1,e2,e3,e4⟩
  .exact .inl h0
  .subst e1;exact .inr ⟨q,cap,cur,rfl,e2,by rw[hb q (hbl q rfl)];exact e3,e4⟩
 |map k v l=>
  obtain⟨p,es,cl,hp,h0,hh,hM,hs⟩:=h;have hbl: ∀o,sA g i (.map k v l) p.1 o:=fun o=>⟨p,hp,rfl⟩;exact⟨p,es,cl,hJ.trans hp,h0,(hb _ hbl).trans hh,WA le hM,fun o hs'=>hs o (hS _ _ (hbl o) hs')⟩
 |iter s n=>
  obtain⟨p,hp,h0,hh,hs⟩:=h;have hbl: ∀o,sA g i (.iter s n) p.1 o:=fun o=>⟨p,hp,rfl⟩;exact⟨p,hJ.trans hp,h0,(hb _ hbl).trans hh,fun o hs'=>hs o (hS _ _ (hbl o) hs')⟩
 |dead=>trivial
theorem yW {g g':Gh}{i:Nat}{blk:q9}(hJ:g'.J i=g.J i) (hcur:g'.cur i=g.cur i) {b o:Nat}:sA g' i blk b o↔sA g i blk b o:=by
 cases blk<;>simp [sA,hJ,hcur]
theorem BN {i:Nat}: ∀{u:List (Nat×q9)}{H:s0},i∉qG u->qD (qP u H) i=qD H i
 |[],_,_=>rfl
 |(k,b)::r,H,h=>by
  simp only[qG,aL3,not_or] at h;simp only[qP,qD];rw[aLU (Ne.symm h.1)];exact BN h.2
theorem sG.upd {g g':Gh}{w w':pR}{H:s0}{u:List (Nat×q9)}(h:sG g w H) (le:Le g w g' w') (fr:Fr (sW g H (qG u)) w w' g.S g'.S)
  (perm: ∀i blk b o,i∈qG u->qD (qP u H) i=some blk->sA g' i blk b o->w.heap.size<=b\/sW g H (qG u) b o)
  (gho: ∀i,i∉qG u->g'.J i=g.J i/\g'.cur i=g.cur i)
  (hb: ∀i blk,i∈qG u->qD (qP u H) i=some blk->zI g' w' i blk)
  (hd: ∀i j bi bj b o,i∈qG u->j∈qG u->i≠j->qD (qP u H) i=some bi->qD (qP u H) j=some bj->sA g' i bi b o->sA g' j bj b o->False)
  (sl: ∀b o,g'.S b o->b<w'.heap.size):sG g' w' (qP u H):=by
 have out: ∀i blk,i∉qG u->qD H i=some blk->∀b o,sA g i blk b o->b<w.heap.size/\¬sW g H (qG u) b o:=fun i blk hi hg b o ho=>
  ⟨KL (h.blk i blk hg) ho,fun⟨j,bj,hj,hgj,hoj⟩=>h.dis i j blk bj b o (fun e=>hi (e▸hj)) hg hgj ho hoj⟩
 refine⟨fun i blk hg=> ?_,fun i j bi bj b o hij hgi hgj hoi hoj=> ?_,sl,HW h.tab.1 fr.size (fun b hb=>fr.blk b (aMu hb h.tab.1.1) (fun o ⟨j,bj,_,k1,k2⟩=>Nat.not_lt.2 (h.tab.2 j bj b o k1 k2) hb)),fun i blk b o hg ho=> ?_⟩
 rotate_right
 .by_cases hi:i∈qG u
  .rcases perm i blk b o hi hg ho with h1|⟨j,bj,_,k1,k2⟩
   .exact aMN h.tab.1.1 h1
   .exact h.tab.2 j bj b o k1 k2
  .exact h.tab.2 i blk b o ((BN hi).symm.trans hg) ((yW (gho i hi).1 (gho i hi).2).1 ho)
 .by_cases hi:i∈qG u
  .exact hb i blk hi hg
  .have hg0:=(BN hi).symm.trans hg;have hk:=gho i hi;refine KM (h.blk i blk hg0) le hk.1 hk.2 (fun b o ho=> ?_) (fun b ho=> ?_) (fun b o ho hs=> ?_) (fun b o s ho hs=>(fr.shape b s hs).resolve_right fun h1=>(out i blk hi hg0 b o ho).2 (h1 o))
   .exact fr.cell b o (out i blk hi hg0 b o ho).1 (out i blk hi hg0 b o ho).2
   .exact fr.blk b (out i blk hi hg0 b 0 (ho 0)).1 (fun o=>(out i blk hi hg0 b o (ho o)).2)
   .rcases fr.new b o hs with h1|h1|h1
    .exact h1
    .have:=(out i blk hi hg0 b o ho).1;omega
    .exact absurd h1 (out i blk hi hg0 b o ho).2
 .by_cases hi:i∈qG u<;>by_cases hj:j∈qG u
  .exact hd i j bi bj b o hi hj hij hgi hgj hoi hoj
  .have hg0:=(BN hj).symm.trans hgj;have ho0:=(yW (gho j hj).1 (gho j hj).2).1 hoj;rcases perm i bi b o hi hgi hoi with h1|h1
   .have:=(out j bj hj hg0 b o ho0).1;omega
   .exact(out j bj hj hg0 b o ho0).2 h1
  .have hg0:=(BN hi).symm.trans hgi;have ho0:=(yW (gho i hi).1 (gho i hi).2).1 hoi;rcases perm j bj b o hj hgj hoj with h1|h1
   .have:=(out i bi hi hg0 b o ho0).1;omega
   .exact(out i bi hi hg0 b o ho0).2 h1
  .exact h.dis i j bi bj b o hij ((BN hi).symm.trans hgi) ((BN hj).symm.trans hgj) ((yW (gho i hi).1 (gho i hi).2).1 hoi) ((yW (gho j hj).1 (gho j hj).2).1 hoj)
theorem sB.pure {g:Gh}{w:pR}{H:s0}{side:List Prop}{s:qC}{rds:pQ}{v:pS}(h:sG g w H) (hs:rJ g w s v):sB g w H ⟨side,s,[],rds⟩ g w v:=
 ⟨.refl _ _,hs,h,.refl _ _ _,fun _ _ _ _ hi=>(by cases hi),fun _ _=>⟨rfl,rfl⟩,fun _ _ y us h=> .inl ⟨y,us,h⟩⟩
theorem yV.pure {g:Gh}{w:pR}{H:s0}{side:List Prop}{s:qC}{rds:pQ}{v:pS}(h:sG g w H) (hs:rJ g w s v):yV g w H ⟨side,s,[],rds⟩ g w v:=(sB.pure h hs).w
def uA:Ty->pN
 | .bool=>[.bool false]
 | .int k=>[.int k 0]
 | .str=>[.string ⟨#[]⟩]
 | .list _=>[.slice none 0 0]
 | .unit=>[]
 | .pair a b=>uA a++uA b
 | .ref=>[.pointer none]
 | .clo=>[.nilFunc]
 | .mp=>[.map none]
 | .rl _ _=>[.slice none 0 0]
 | .fn=>[.nilFunc]
 | .mref=>[.pointer none]
def vW (t:Ty):pS:=if t.isRow then .agg (uA t).toArray else(uA t).headD undef
def KN (P:Program):Ty->Nat->List Field->Prop
 | .unit,_,[]=>True
 | .pair a b,o,f::r=>f.offset=o/\(P.info? f.type).map (·.size)=some a.cells/\(P.underlying f.type).map (·.isRow)=some a.isRow/\KN P b (o+a.cells) r
 |_,_,_=>False
def NH (P:Program) (e:TypeId):Ty->Nat->Prop
 | .unit,0=>True
 | .pair a b,n+1=>(P.info? e).map (·.size)=some a.cells/\(P.underlying e).map (·.isRow)=some a.isRow/\NH P e b n
 |_,_=>False
inductive WB where
 |ty (t:TypeId) |fs (o:Nat) (l:List Field) |el (e:TypeId) (i m:Nat)
inductive y5 (P:Program):Nat->WB->Ty->Prop
 |bool {h t}:P.underlying t=some .bool->y5 P h (.ty t) .bool
 |int {h t k}:P.underlying t=some (.int k)->y5 P h (.ty t) (.int k)
 |str {h t}:P.underlying t=some .string->y5 P h (.ty t) .str
 |struct {h t fs ty}:ty.isRow=true->P.underlying t=some (.struct fs)->P.stoodInHeld t=false->y5 P h (.fs 0 fs.toList) ty->y5 P (h+1) (.ty t) ty
 |arr {h t e n ty}:ty.isRow=true->P.underlying t=some (.array n e)->(P.info? e).isSome=true->y5 P h (.el e 0 n) ty->y5 P (h+1) (.ty t) ty
 |nil {h o}:y5 P h (.fs o []) .unit
 |cons {h o}{f:Field}{r a b}:f.name≠ "_" ->f.offset=o->(P.info? f.type).map (·.size)=some a.cells->(P.underlying f.type).map (·.isRow)=some a.isRow->y5 P h (.ty f.type) a->y5 P h (.fs (o+a.cells) r) b->y5 P h (.fs o (f::r)) (.pair a b)
 |anil {h e i}:y5 P h (.el e i 0) .unit
 |acons {h e i m a b}:(P.info? e).map (·.size)=some a.cells->(P.underlying e).map (·.isRow)=some a.isRow->y5 P h (.ty e) a->y5 P h (.el e (i+1) m) b->y5 P h (.el e i (m+1)) (.pair a b)
def xP (P:Program) (t:TypeId) (ti:TI):Prop:=
 match ti.ty with
 | .bool=>P.underlying t=some .bool
 | .int k=>P.underlying t=some (.int k)
 | .str=>P.underlying t=some .string
 | .ref=> ∃e,P.underlying t=some (.pointer e)
 | .clo=> ∃a b c,P.underlying t=some (.func a b c)
 | .mp=>P.underlying t=some (.map ti.elem ti.bytes)
 | .rl _ _=> ∃e,P.underlying t=some (.slice e)
 | .fn=> ∃a b c,P.underlying t=some (.func a b c)
 | .mref=> ∃e,P.underlying t=some (.pointer e)
 | .list u=>P.underlying t=some (.slice ti.elem)/\(P.info? ti.elem).map (fun i=>(i.size,i.bytes,i.zero))=some (u.cells,ti.bytes,some (vW u))/\(P.underlying ti.elem).map (·.isRow)=some u.isRow
 |ty=>((ti.arr=false/\∃fs,P.underlying t=some (.struct fs)/\KN P ty 0 fs.toList)\/(ti.arr=true/\∃n e,P.underlying t=some (.array n e)/\NH P e ty n/\(P.info? e).isSome=true))/\(ti.bytes=1->P.eqGuardType P.depth t=false/\∃h,h<9000/\y5 P h (.ty t) ty)
def tW (P:Program) (t:TypeId) (ti:TI):Prop:=(P.info? t).map (fun i=>(i.size,i.zero))=some (ti.ty.cells,some (vW ti.ty))/\xP P t ti
def wV (P:Program):sM->Prop
 |[]=>True
 |(t,ti)::r=>tW P t ti/\wV P r
theorem tD {P:Program}: ∀{T:sM},wV P T->∀{t:TypeId}{ti:TI},rK T t=some ti->tW P t ti
 |[],_,_,_,h=>by simp [rK] at h
 |(k,ti)::r,hT,t,ti',h=>by
  simp only[rK] at h;by_cases hk:k=t
  .rw[aLQ hk] at h;subst hk;rw[<-aLS h];exact hT.1
  .rw[aLU hk] at h;exact tD hT.2 h
theorem CX (g:Gh) (w:pR): ∀t:Ty,Rd g w t t.zero (uA t)
 | .bool=>rfl
 | .int _=>rfl
 | .str=>rfl
 | .list _=>⟨none,0,rfl,aMc _,.inl rfl⟩
 | .unit=>rfl
 | .pair a b=>⟨_,_,rfl,CX g w a,CX g w b⟩
 | .ref=>rfl
 | .clo=>rfl
 | .mp=>rfl
 | .rl _ _=>rfl
 | .fn=>rfl
 | .mref=>rfl
theorem IJ (g:Gh) (w:pR) (t:Ty):tJ g w t t.zero (vW t):=by
 unfold tJ vW;by_cases h:t.isRow=true
 .left;rw[aLQ h];exact⟨h,_,rfl,CX g w t⟩
 .right;rw[aLU h];refine⟨by simpa using h,?_⟩;cases t<;>first|exact CX g w _|(simp [Ty.isRow] at h)
theorem DX {g:Gh}{w:pR}{t:Ty}{x:t.den}{v:pS}(h:tJ g w t x v):Rd g w t x v.cells.toList:=by
 rcases h with⟨_,cs,rfl,r⟩ |⟨hr,r⟩
 .simpa[Value.cells] using r
 .have h1:=A3 r v pI;have:v.cells= #[v]:=by cases v<;>first|rfl|(simp [Value.oneCell'] at h1)
  rw[this];exact r
theorem A4 {g:Gh}{w:pR}{t:Ty}{x:t.den}{v:pS}(hr:t.isRow=false) (h:tJ g w t x v):Rd g w t x [v]:=by
 rcases h with⟨h1,_⟩ |⟨_,r⟩
 .rw[hr] at h1;cases h1
 .exact r
theorem w7 {g:Gh}{w:pR}{k:IntKind}{n:Int}{v:pS}(h:tJ g w (.int k) n v):v= .int k n:=by
 have:=A4 rfl h;simp only[Rd,aMI,and_true] at this;exact this
theorem vL {g:Gh}{w:pR}{n:Bool}{v:pS}(h:tJ g w .bool n v):v= .bool n:=by
 have:=A4 rfl h;simp only[Rd,aMI,and_true] at this;exact this
theorem wG {g:Gh}{w:pR}{l:pD}{v:pS}(h:tJ g w .str l v):v= .string ⟨l.toArray⟩:=by
 have:=A4 rfl h;simp only[Rd,aMI,and_true] at this;exact this
theorem CY {g:Gh}{w:pR}{t:Ty}{l:List t.den}{v:pS}(h:tJ g w (.list t) l v): ∃a cap,v= .slice a l.length cap/\l.length<=cap/\(l=[]\/∃b o,a=some ⟨b,o,none⟩/\y4 (Rd g w t) w g.S t.cells b o l):=by
 have:=A4 rfl h;obtain⟨a,cap,e,h1,h2⟩:=this;simp only[aMI,and_true] at e;exact⟨a,cap,e,h1,h2⟩
theorem yX {g:Gh}{w:pR}{i o:Nat}{v:pS}(h:tJ g w .ref (some (i,o)) v): ∃p,g.J i=some p/\v= .pointer (some ⟨p.1,p.2+o,none⟩):=by
 have:=A4 rfl h;obtain⟨p,h1,e⟩:=this;simp only[aMI,and_true] at e;exact⟨p,h1,e⟩
theorem IK {g:Gh}{w:pR}{t:Ty}{x:t.den}{v:pS}(hr:t.isRow=true) (h:tJ g w t x v): ∃cs:pN,v= .agg cs.toArray/\Rd g w t x cs:=by
 rcases h with⟨_,r⟩ |⟨h1,_⟩
 .exact r
 .rw[hr] at h1;cases h1
theorem vX (g:Gh) (w:pR) (k:IntKind) (n:Int):tJ g w (.int k) n (.int k n):= .inr ⟨rfl,rfl⟩
theorem w9 (g:Gh) (w:pR) (b:Bool):tJ g w .bool b (.bool b):= .inr ⟨rfl,rfl⟩
theorem DY (g:Gh) (w:pR) (l:pD):tJ g w .str l (.string ⟨l.toArray⟩):= .inr ⟨rfl,rfl⟩
def rD (P:Program) (o:Oper) (a:Act) (g:Gh) (w:pR) (H:s0) (e:qH):Prop:=
 ∀(K:Act->pR->Prop) (Q:Exit->Act->pR->Prop),(∀g' w' v,yV g w H e g' w' v->K (a.put o.dst v) w')->o.wp P a w K Q
theorem rD.valueW {P:Program}{o:Oper}{a:Act}{g g':Gh}{w w':pR}{H:s0}{e:qH}{v:pS}(hr:(execOp a.eval o).run P w= .ok (.value v) w') (h:yV g w H e g' w' v):rD P o a g w H e:=by
 intro K Q hK;unfold Oper.wp;rw[hr];exact hK g' w' v h
theorem rD.skipW {P:Program}{o:Oper}{a:Act}{g g':Gh}{w w':pR}{H:s0}{e:qH}(hr:(execOp a.eval o).run P w= .ok .skip w') (h:yV g w H e g' w' undef):rD P o a g w H e:=by
 intro K Q hK;unfold Oper.wp;rw[hr];exact hK g' w' undef h
theorem rD.value {P:Program}{o:Oper}{a:Act}{g g':Gh}{w w':pR}{H:s0}{e:qH}{v:pS}(hr:(execOp a.eval o).run P w= .ok (.value v) w') (h:sB g w H e g' w' v):rD P o a g w H e:= .valueW hr h.w
theorem rD.skip {P:Program}{o:Oper}{a:Act}{g g':Gh}{w w':pR}{H:s0}{e:qH}(hr:(execOp a.eval o).run P w= .ok .skip w') (h:sB g w H e g' w' undef):rD P o a g w H e:= .skipW hr h.w
theorem rD.pure {P:Program}{o:Oper}{a:Act}{g:Gh}{w:pR}{H:s0}{side:List Prop}{d:DV}{rds:pQ}{v:pS}(hH:sG g w H) (hr:(execOp a.eval o).run P w= .ok (.value v) w) (h:zH g w d v):
  rD P o a g w H ⟨side,(d,none),[],rds⟩:= .value hr (.pure hH ⟨h,trivial⟩)
section
variable {P:Program}{o:Oper}{a:Act}{g:Gh}{w:pR}{H:s0}
theorem RZ {g:Gh}{w:pR}{k:IntKind}(q:Int) (hq: ∀p∈(HX k q).1,p):zH g w (HX k q).2 (.int k (k.wrap q)):=by
 cases k<;>simp only[HX] at hq|- <;>first|exact vX _ _ _ _|skip
 have h0:=hq _ (aL6.2 rfl);rw[show IntKind.i64.wrap q=q from IntWalk.i64_in q pG];exact vX _ _ _ _
theorem aEo (g:Gh) {op:BinOp}{xt:TypeId}{x y:Operand}{k:IntKind}{m n:Int}{r:List Prop×DV}(hr:UR k m n op=some r) (hs: ∀p∈r.1,p):
  ∃v,(do eqGuard op xt x y (.int k m) (.int k n);Go.binOp op xt (.int k m) (.int k n):Sem pS).run P w= .ok v w/\zH g w r.2 v:=by
 cases op<;>simp only[UR,aLO,reduceCtorEq] at hr
 all_goals subst hr
 case add=>exact⟨.int k (k.wrap _),by simp [eqGuard,Go.binOp,Op.intArith],RZ _ hs⟩
 case sub=>exact⟨.int k (k.wrap _),by simp [eqGuard,Go.binOp,Op.intArith],RZ _ hs⟩
 case mul=>exact⟨.int k (k.wrap _),by simp [eqGuard,Go.binOp,Op.intArith],RZ _ hs⟩
 case eql=>exact⟨.bool (decide (m=n)),by simp [eqGuard,Go.binOp,Op.intCmp];rfl,w9 _ _ _⟩
 case neq=>exact⟨.bool (!decide (m=n)),by simp [eqGuard,Go.binOp,Op.intCmp,bne];rfl,w9 _ _ _⟩
 case lss=>exact⟨.bool (decide _),by simp [eqGuard,Go.binOp,Op.intCmp],w9 _ _ _⟩
 case leq=>exact⟨.bool (decide _),by simp [eqGuard,Go.binOp,Op.intCmp],w9 _ _ _⟩
 case gtr=>exact⟨.bool (decide (n<m)),by simp [eqGuard,Go.binOp,Op.intCmp],w9 _ _ _⟩
 case geq=>exact⟨.bool (decide (n<=m)),by simp [eqGuard,Go.binOp,Op.intCmp],w9 _ _ _⟩
 case quo=>
  have h0:=hs _ (aL6.2 rfl);exact⟨.int k (k.wrap (Int.tdiv m n)),by simp [eqGuard,Go.binOp,Op.intDiv,h0],vX _ _ _ _⟩
 case rem=>
  have h0:=hs _ (aL6.2 rfl);exact⟨.int k (Int.tmod m n),by simp [eqGuard,Go.binOp,Op.intDiv,h0],vX _ _ _ _⟩
 case and=>exact⟨.int k (bits .and k m n),by simp [eqGuard,Go.binOp,intBits_and],vX _ _ _ _⟩
 case or=>exact⟨.int k (bits .or k m n),by simp [eqGuard,Go.binOp,intBits_or],vX _ _ _ _⟩
 case xor=>exact⟨.int k (bits .xor k m n),by simp [eqGuard,Go.binOp,intBits_xor],vX _ _ _ _⟩
 case andNot=>exact⟨.int k (bits .andNot k m n),by simp [eqGuard,Go.binOp,intBits_andNot],vX _ _ _ _⟩
theorem NI (m n:pD):(m==n)=decide (m=n):=by rw[aNI];simp
theorem aEp (g:Gh) {op:BinOp}{xt:TypeId}{x y:Operand}{m n:pD}{r:List Prop×DV}(hr:UT m n op=some r) (hs: ∀p∈r.1,p):
  ∃v,(do eqGuard op xt x y (.string ⟨m.toArray⟩) (.string ⟨n.toArray⟩);Go.binOp op xt (.string ⟨m.toArray⟩) (.string ⟨n.toArray⟩):Sem pS).run P w= .ok v w/\zH g w r.2 v:=by
 have hl: ∀l:pD,(⟨l.toArray⟩:ByteArray).size=l.length:=fun l=>by simp [ByteArray.size]
 cases op<;>simp only[UT,aLO,reduceCtorEq] at hr
 all_goals subst hr
 case add=>
  have h0:=hs _ (aL6.2 rfl);refine⟨.string ⟨(m++n).toArray⟩,?_,DY _ _ _⟩;rw[aLT] at h0;have h1: ¬(((⟨m.toArray⟩:ByteArray).size+(⟨n.toArray⟩:ByteArray).size:Nat):Int) >IntKind.i64.max:=by rw[hl,hl,show IntKind.i64.max=9223372036854775807 from by decide];omega
  simp only[eqGuard,Go.binOp,Op.stringOp,aL2,aLU h1];simp;rfl
 case eql=>exact⟨.bool (decide (m=n)),by simp [eqGuard,Go.binOp,Op.stringOp,NI],w9 _ _ _⟩
 case neq=>exact⟨.bool (!decide (m=n)),by simp [eqGuard,Go.binOp,Op.stringOp,NI],w9 _ _ _⟩
 case lss=>exact⟨.bool (Op.bytesLess m n),by simp [eqGuard,Go.binOp,Op.stringOp],w9 _ _ _⟩
 case leq=>exact⟨.bool (Op.bytesLess m n||decide (m=n)),by simp [eqGuard,Go.binOp,Op.stringOp,NI],w9 _ _ _⟩
 case gtr=>exact⟨.bool (!(Op.bytesLess m n||decide (m=n))),by simp [eqGuard,Go.binOp,Op.stringOp,NI],w9 _ _ _⟩
 case geq=>exact⟨.bool (!Op.bytesLess m n),by simp [eqGuard,Go.binOp,Op.stringOp],w9 _ _ _⟩
theorem GP {r:Option (List Prop×DV)}{e:qH}(h:zX r=some e): ∃q,r=some q/\e=⟨q.1,(q.2,none),[],[]⟩:=by
 cases r with
 |none=>cases h
 |some q=>obtain⟨p,d⟩:=q;exact⟨(p,d),rfl,(aLS h).symm⟩
theorem aEq (hH:sG g w H) {op:BinOp}{xt yt:TypeId}{x y:Operand}(ho:o.op= .binOp op xt x y yt) {sx sy:qC}(hx:rJ g w sx (a.eval x)) (hy:rJ g w sy (a.eval y)) {e:qH}
  (hr:zX (QA op sx sy)=some e) (hs: ∀p∈e.side,p):rD P o a g w H e:=by
 obtain⟨q,hq,rfl⟩:=GP hr;have go: ∀{u v:pS},a.eval x=u->a.eval y=v->(∃z,(do eqGuard op xt x y u v;Go.binOp op xt u v:Sem pS).run P w= .ok z w/\zH g w q.2 z)->rD P o a g w H ⟨q.1,(q.2,none),[],[]⟩:=by
  rintro u v rfl rfl ⟨z,hz,hd⟩;refine rD.pure hH (v:=z) ?_ hd;unfold execOp;rw[ho];simp only[aL2,aMf] at hz|-;rw[hz];rfl
 obtain⟨dx,kx⟩:=sx;obtain⟨dy,ky⟩:=sy;replace hx:=hx.1;replace hy:=hy.1;unfold QA at hq;split at hq
 .rename_i k m k1 k' n k2 e1 e2;simp only[aMl] at e1 e2;obtain⟨rfl,-⟩:=e1;obtain⟨rfl,-⟩:=e2;unfold a5L at hq;split at hq
  .cases hq;have h0:=hs _ (aL6.2 rfl);exact go (w7 hx) (w7 hy) ⟨.int k (US k m n),by simp [eqGuard,Go.binOp,Op.shift,US,Int.not_lt.2 h0],vX _ _ _ _⟩
  .cases hq;have h0:=hs _ (aL6.2 rfl);exact go (w7 hx) (w7 hy) ⟨.int k (xL k m n),by simp [eqGuard,Go.binOp,Op.shift,xL,Int.not_lt.2 h0],vX _ _ _ _⟩
  .by_cases hk:k=k'
   .subst hk;rw[aLQ rfl] at hq;exact go (w7 hx) (w7 hy) (aEo g hq hs)
   .rw[aLU hk] at hq;cases hq
 .rename_i m k1 n k2 e1 e2;simp only[aMl] at e1 e2;obtain⟨rfl,-⟩:=e1;obtain⟨rfl,-⟩:=e2;exact go (wG hx) (wG hy) (aEp g hq hs)
 .cases hq
theorem aEr (hH:sG g w H) {op:BinOp}{xt yt:TypeId}{x y:Operand}(ho:o.op= .binOp op xt x y yt) {ti:Option TI}{sx sy:qC}(hx:rJ g w sx (a.eval x)) (hy:rJ g w sy (a.eval y)) {e:qH}
  (hr:zX (QB op ti sx sy)=some e):rD P o a g w H e:=by
 obtain⟨q,hq,rfl⟩:=GP hr;unfold QB at hq;split at hq
 .rename_i k m _ k' n _;by_cases hk:k=k'
  .subst hk;rw[aLQ rfl] at hq;have hx1:=w7 hx.1;have hy1:=w7 hy.1;cases op<;>simp only[a5N,aLO,reduceCtorEq] at hq
   all_goals subst hq
   all_goals refine rD.pure hH (v:= .int k (k.wrap _)) ?_ (vX _ _ _ _)
   all_goals
    unfold execOp;rw[ho];simp [hx1,hy1,eqGuard,Go.binOp,Op.intArith]
  .rw[aLU hk] at hq;cases hq
 .cases hq
theorem aEs (hH:sG g w H) {op:UnOp}{xt:TypeId}{x:Operand}(ho:o.op= .unOp op xt x) {sx:qC}(hx:rJ g w sx (a.eval x)) {e:qH}
  (hr:zX (UW op sx)=some e) (hs: ∀p∈e.side,p):rD P o a g w H e:=by
 obtain⟨q,hq,rfl⟩:=GP hr;replace hx:=hx.1;unfold UW at hq;split at hq
 .have:=vL hx;cases hq;refine rD.pure hH (v:= .bool _) ?_ (w9 _ _ _);simp [execOp,ho,this,Op.unary]
 .rename_i k n _;have:=w7 hx;cases hq;refine rD.pure hH (v:= .int k (k.wrap (-n))) ?_ (RZ _ hs);simp [execOp,ho,this,Op.unary,Op.intArith]
 .cases hq
theorem S0 {t:TypeId}{ti:TI}(h:tW P t ti): ∃d,P.underlying t=some d/\d.isRow=ti.ty.isRow:=by
 have h2:=h.2;unfold xP at h2;obtain⟨ty,el,by',ar,ls⟩:=ti;cases ty<;>simp only at h2
 case bool=>exact⟨_,h2,rfl⟩
 case int=>exact⟨_,h2,rfl⟩
 case str=>exact⟨_,h2,rfl⟩
 case list=>exact⟨_,h2.1,rfl⟩
 case ref=>obtain⟨e,h⟩:=h2;exact⟨_,h,rfl⟩
 case clo=>obtain⟨a,b,c,h⟩:=h2;exact⟨_,h,rfl⟩
 case mp=>exact⟨_,h2,rfl⟩
 case rl=>obtain⟨e,h⟩:=h2;exact⟨_,h,rfl⟩
 case fn=>obtain⟨a,b,c,h⟩:=h2;exact⟨_,h,rfl⟩
 case mref=>obtain⟨e,h⟩:=h2;exact⟨_,h,rfl⟩
 all_goals
  rcases h2.1 with⟨_,fs,h,_⟩ |⟨_,n,e,h,_⟩
  .exact⟨_,h,rfl⟩
  .exact⟨_,h,rfl⟩
theorem CZ {t:TypeId}{ti:TI}(h:tW P t ti): ∃i,P.info? t=some i/\i.size=ti.ty.cells/\i.zero=some (vW ti.ty):=by
 obtain⟨i,hi,he⟩:=aLW.1 h.1;simp only[aMl] at he;exact⟨i,hi,he.1,he.2⟩
theorem aEt {T:sM}(hT:wV P T) (hH:sG g w H) {st dt:TypeId}{x:Operand}(ho:o.op= .convert st dt x) {sx:qC}(hx:rJ g w sx (a.eval x)) {e:qH}
  (hr:zX (QD (rK T st) (rK T dt) sx)=some e):rD P o a g w H e:=by
 obtain⟨q,hq,rfl⟩:=GP hr;replace hx:=hx.1;generalize hs:rK T st=os at hq;generalize hd:rK T dt=od at hq;unfold QD at hq;split at hq
 .rename_i k' k _ _ _ _ k0 n _;obtain⟨d,hd1,_⟩:=S0 (tD hT hs);have hd2:=(tD hT hd).2;simp only[xP] at hd2;have:=w7 hx;cases hq;refine rD.pure hH (v:= .int k (k.wrap n)) ?_ (vX _ _ _ _);simp [execOp,ho,this,Go.convert,aMa hd1,aMa hd2,Conv.intToInt]
 .rename_i k' _ _ _ _ s _;obtain⟨d,hd1,_⟩:=S0 (tD hT hs);have hd2:=(tD hT hd).2;simp only[xP] at hd2;have:=wG hx;cases hq;refine rD.pure hH (v:= .string ⟨List.toArray s⟩) ?_ (DY _ _ _);simp [execOp,ho,this,Go.convert,aMa hd1,aMa hd2]
 .cases hq
theorem S1 {α:Type}{R:α->pN->Prop}{w:pR}{S:Nat->Nat->Prop}{c b:Nat}: ∀{l:List α}{o i:Nat}{x:α},y4 R w S c b o l->l[i]? =some x->
  ∃cs,cs.length=c/\w.rangeAt b (o+i*c) cs/\(∀j,j<c->S b (o+i*c+j))/\R x cs
 |y::l,o,0,x,⟨⟨cs,h1,h2,h3,h4⟩,_⟩,h=>by
  simp only[aMm,aLO] at h;subst h;exact⟨cs,h1,by simpa using h2,by simpa using h3,h4⟩
 |y::l,o,i+1,x,⟨_,h5⟩,h=>by
  simp only[aMx] at h;obtain⟨cs,h1,h2,h3,h4⟩:=S1 h5 h;have e:o+c+i*c=o+(i+1)*c:=by rw[aMX];omega
  exact⟨cs,h1,by rw[<-e];exact h2,by rw[<-e];exact h3,h4⟩
theorem a6D {α:Type}{R:α->pN->Prop}{w:pR}{S:Nat->Nat->Prop}{c b:Nat}: ∀{l:List α}{o:Nat}(i:Nat),y4 R w S c b o l->i<=l.length->y4 R w S c b (o+i*c) (l.drop i)
 |_,o,0,h,_=>by simpa using h
 |[],o,i+1,_,h=>by simp at h
 |y::l,o,i+1,⟨_,h5⟩,h=>by
  have:=a6D i h5 (by simpa using h);have e:o+c+i*c=o+(i+1)*c:=by rw[aMX];omega
  rw[<-e];simpa using this
theorem a6E {α:Type}{R:α->pN->Prop}{w:pR}{S:Nat->Nat->Prop}{c b:Nat}: ∀{l:List α}{o:Nat}(i:Nat),y4 R w S c b o l->y4 R w S c b o (l.take i)
 |_,_,0,_=>by simp [y4]
 |[],_,_+1,_=>by simp [y4]
 |_::_,_,i+1,⟨h,h5⟩=>by simpa[y4] using⟨h,a6E i h5⟩
theorem WC {g:Gh}{w:pR}: ∀{t:Ty}{x:t.den}{cs:pN}{f:Nat}{u:Ty}{y:u.den},Rd g w t x cs->t.proj x f=some ⟨u,y⟩->
  ∃o c1 c2 c3,t.offs f=some o/\t.fld f=some u/\cs=c1++c2++c3/\c1.length=o/\Rd g w u y c2:=by
 intro t
 induction t with
 |pair a b _ ihb=>
  intro x cs f u y r h;obtain⟨c1,c2,e,r1,r2⟩:=r;cases f with
  |zero=>
   simp only[Ty.proj,aLO,Sigma.mk.injEq] at h;obtain⟨rfl,h2⟩:=h;obtain rfl:=eq_of_heq h2;exact⟨0,[],c1,c2,rfl,rfl,by simpa using e,rfl,r1⟩
  |succ f=>
   simp only[Ty.proj] at h;obtain⟨o,d1,d2,d3,h1,h2,h3,h4,h5⟩:=ihb r2 h;refine⟨a.cells+o,c1++d1,d2,d3,by simp [Ty.offs,h1],by simpa[Ty.fld] using h2,by rw[e,h3];simp,?_,h5⟩;rw[aLT,h4,sV r1]
 |_=>intro x cs f u y r h;cases f<;>simp [Ty.proj] at h
theorem WD {P:Program}: ∀{ty:Ty}{off:Nat}{fs:List Field}{f o:Nat}{u:Ty},KN P ty off fs->ty.offs f=some o->ty.fld f=some u->
  ∃fd,fs[f]? =some fd/\fd.offset=off+o/\(P.info? fd.type).map (·.size)=some u.cells/\(P.underlying fd.type).map (·.isRow)=some u.isRow:=by
 intro ty
 induction ty with
 |pair a b _ ihb=>
  intro off fs f o u h ho hu;cases fs with
  |nil=>exact h.elim
  |cons fd fs=>
   obtain⟨h1,h2,h3,h4⟩:=h;cases f with
   |zero=>
    simp only[Ty.offs,aLO] at ho;simp only[Ty.fld,aLO] at hu;subst ho;subst hu;exact⟨fd,rfl,pG,h2,h3⟩
   |succ f=>
    simp only[Ty.offs,aLW] at ho;obtain⟨o',ho',rfl⟩:=ho;obtain⟨fd',k1,k2,k3,k4⟩:=ihb h4 ho' hu;exact⟨fd',by simpa using k1,pG,k3,k4⟩
 |_=>intro off fs f o u h ho hu;cases f<;>simp [Ty.offs] at ho
theorem WE {P:Program}{e:TypeId}: ∀{ty:Ty}{n f o:Nat}{u:Ty},NH P e ty n->ty.offs f=some o->ty.fld f=some u->
  f<n/\(P.info? e).map (·.size)=some u.cells/\(P.underlying e).map (·.isRow)=some u.isRow/\o=f*u.cells:=by
 intro ty
 induction ty with
 |pair a b _ ihb=>
  intro n f o u h ho hu;cases n with
  |zero=>exact h.elim
  |succ n=>
   obtain⟨h2,h3,h4⟩:=h;cases f with
   |zero=>
    simp only[Ty.offs,aLO] at ho;simp only[Ty.fld,aLO] at hu;subst ho;subst hu;exact⟨pG,h2,h3,by simp⟩
   |succ f=>
    simp only[Ty.offs,aLW] at ho;obtain⟨o',ho',rfl⟩:=ho;obtain⟨k1,k2,k3,k4⟩:=ihb h4 ho' hu;rw[h2] at k2;have hc:a.cells=u.cells:=aLS k2;exact⟨pG,by rw[h2,hc],k3,by rw[k4,hc,aMX];omega⟩
 |_=>intro n f o u h ho hu;cases f<;>simp [Ty.offs] at ho
theorem NJ {t:TypeId}{u:Ty}(hi:(P.info? t).map (·.size)=some u.cells) (hr:(P.underlying t).map (·.isRow)=some u.isRow) {y:u.den}{c1 c2 c3:pN}(h:Rd g w u y c2):
  ∃v,(part t (c1++c2++c3).toArray c1.length).run P w= .ok v w/\tJ g w u y v:=by
 obtain⟨i,hi,hsz⟩:=aLW.1 hi;obtain⟨d,hd,hrow⟩:=aLW.1 hr;have hl:=sV h;by_cases hu:u.isRow=true
 .refine⟨.agg c2.toArray,?_,.inl ⟨hu,c2,rfl,h⟩⟩;have hagg:(isAgg t).run P w= .ok true w:=by
   unfold isAgg;rw[aL2,aMa hd w];rw[hu] at hrow;cases d<;>simp_all [TypeDesc.isRow]
  simp only[part,aL2,hagg,aLX,aNo,sizeOf,typeInfo,aMP,hi,hsz,aMf];congr 2;apply aMV.1;simp [<-hl]
 .have hu':u.isRow=false:=by simpa using hu
  have h1:u.cells=1:=by cases u<;>first|rfl|(simp [Ty.isRow] at hu')
  obtain⟨v,rfl⟩: ∃v,c2=[v]:=by
   rw[h1] at hl;exact aM9.1 hl
  refine⟨v,?_,.inr ⟨hu',h⟩⟩;have hagg:(isAgg t).run P w= .ok false w:=by
   unfold isAgg;rw[aL2,aMa hd w];rw[hu'] at hrow;cases d<;>simp_all [TypeDesc.isRow]
  simp only[part,aL2,hagg,aLX];simp
theorem WF {t:TypeId}{ti:TI}(h:tW P t ti) (hr:ti.ty.isRow=true):
  (ti.arr=false/\∃fs,P.underlying t=some (.struct fs)/\KN P ti.ty 0 fs.toList)\/(ti.arr=true/\∃n e,P.underlying t=some (.array n e)/\NH P e ti.ty n/\(P.info? e).isSome=true):=by
 have h2:=h.2;unfold xP at h2;obtain⟨ty,el,by',ar,ls⟩:=ti;cases ty<;>simp only[Ty.isRow,aNt] at hr<;>exact h2.1
theorem a6F {t:TypeId}{ti:TI}(h:tW P t ti) (hr:ti.ty.isRow=true) (ha:ti.arr=false): ∃fs,P.underlying t=some (.struct fs)/\KN P ti.ty 0 fs.toList:=by
 rcases WF h hr with⟨_,h⟩ |⟨h,_⟩
 .exact h
 .rw[ha] at h;cases h
theorem a6G {t:TypeId}{ti:TI}(h:tW P t ti) (hr:ti.ty.isRow=true) (ha:ti.arr=true): ∃n e,P.underlying t=some (.array n e)/\NH P e ti.ty n/\(P.info? e).isSome=true:=by
 rcases WF h hr with⟨h,_⟩ |⟨_,h⟩
 .rw[ha] at h;cases h
 .exact h
theorem aEu {t:Ty}{x:t.den}{f:Nat}{q: Σ u:Ty,u.den}(h:t.proj x f=some q):t.isRow=true:=by
 cases t<;>first|rfl|(cases f<;>simp [Ty.proj] at h)
theorem aEv {t:Ty}{f o:Nat}(h:t.offs f=some o):t.isRow=true:=by
 cases t<;>first|rfl|(cases f<;>simp [Ty.offs] at h)
end
theorem aEw (l:pD) (n:Nat) (h:n<l.length):(⟨l.toArray⟩:ByteArray)[n]? =some l[n]:=by
 have:n<(⟨l.toArray⟩:ByteArray).size:=by simpa[ByteArray.size] using h
 rw[getElem?_pos (⟨l.toArray⟩:ByteArray) n this];rfl
theorem a6H {i:Int}{n:Nat}(h0:0<=i) (h1:i<n):i.toNat<n:=by omega
theorem a6I {i:Int}{n:Nat}(h0:0<=i) (h1:i.toNat<n):i<n:=by omega
section
variable {P:Program}{o:Oper}{a:Act}{g:Gh}{w:pR}{H:s0}{T:sM}(hT:wV P T) (hH:sG g w H)
include hT hH
theorem aEx {t:TypeId}{x:Operand}{f:Nat}(ho:o.op= .field t x f) {sx:qC}(hx:rJ g w sx (a.eval x)) {e:qH}(hr:VP f (rK T t) sx=some e):rD P o a g w H e:=by
 generalize hs:rK T t=ot at hr;replace hx:=hx.1;unfold VP at hr;split at hr
 .rename_i ty el by' ls_ u y _;split at hr
  .rename_i hu;subst hu;have hty:=tD hT hs;generalize hp:u.proj y f=q at hr;cases q with
   |none=>cases hr
   |some q=>
    obtain⟨u,z⟩:=q;cases hr;have hrow:=aEu hp;obtain⟨cs,hv,hR⟩:=IK hrow hx;obtain⟨oo,c1,c2,c3,h1,h2,rfl,rfl,h5⟩:=WC hR hp;obtain⟨fs,hfs,hfe⟩:=a6F hty hrow rfl;obtain⟨fd,k1,k2,k3,k4⟩:=WD hfe h1 h2;obtain⟨v,hv1,hv2⟩:=NJ k3 k4 (P:=P) (c1:=c1) (c3:=c3) h5;refine rD.pure hH (v:=v) ?_ hv2;have k1':fs[f]? =some fd:=by simpa using k1
    simp only[execOp,ho,hv,Instr.field,aL2,aMa hfs,aLX,k1',asAgg,aMf,k2,aMs,hv1]
  .cases hr
 .cases hr
theorem WG {t:TypeId}{ti:TI}(hty:tW P t ti) (har:ti.arr=false) {f oo:Nat}{u:Ty}(h1:ti.ty.offs f=some oo) (h2:ti.ty.fld f=some u) (hpos:0<u.cells) (b off:Nat):
  (Instr.fieldAt t (.pointer (some ⟨b,off,none⟩)) f).run P w= .ok (.pointer (some ⟨b,off+oo,none⟩)) w:=by
 obtain⟨fs,hfs,hfe⟩:=a6F hty (aEv h1) har;obtain⟨fd,k1,k2,k3,k4⟩:=WD hfe h1 h2;obtain⟨i,hi,hsz⟩:=aLW.1 k3;have k1':fs[f]? =some fd:=by simpa using k1
 have hne: ¬(u.cells=0):=by omega
 simp only[Instr.fieldAt,aL2,aMa hfs,aLX,k1',Instr.sureAddr,aMf,fieldPlace,sizeOf,typeInfo,aMP,hi,hsz,aLU hne,k2,aMs,aM6]
theorem aEy {t:TypeId}{x:Operand}{f:Nat}(ho:o.op= .fieldAddr t x f) {sx:qC}(hx:rJ g w sx (a.eval x)) {e:qH}(hr:VO f (rK T t) sx=some e):rD P o a g w H e:=by
 generalize hs:rK T t=ot at hr;replace hx:=hx.1;unfold VO at hr;split at hr
 .rename_i ty el by' ls_ k n c i o' _;have hty:=tD hT hs;generalize h1:ty.offs f=o1 at hr;generalize h2:ty.fld f=o2 at hr;unfold a6e at hr;split at hr
  .split at hr
   .rename_i oo u hpos;cases hr;obtain⟨b,cap,hc,hi0,hi1,hv⟩:=hx;refine rD.pure hH (v:= .pointer (some ⟨b,i.toNat*c+o'+oo,none⟩)) ?_ ⟨b,cap,hc,hi0,hi1,by rw[aMy]⟩;simp only[execOp,ho,hv,aL2,WG hT hH hty rfl h1 h2 hpos,aLX,aMf]
   .cases hr
  .cases hr
 .rename_i ty el by' ls_ u y _;split at hr
  .rename_i hu;subst hu;have hty:=tD hT hs;generalize hp:u.proj y f=q at hr;cases q with
   |none=>cases hr
   |some q=>
    obtain⟨u,z⟩:=q;simp only[R5] at hr;split at hr
    .rename_i hpos;cases hr;obtain⟨b,off,cs,hv,hra,hS,hR⟩:=hx;obtain⟨oo,c1,c2,c3,h1,h2,rfl,rfl,h5⟩:=WC hR hp;refine rD.pure hH (v:= .pointer (some ⟨b,off+c1.length,none⟩)) ?_ ⟨b,off+c1.length,c2,rfl,fun j v hj=> ?_,fun j hj=> ?_,h5⟩
     .simp only[execOp,ho,hv,aL2,WG hT hH hty rfl h1 h2 hpos,aLX,aMf]
     .have:=hra (c1.length+j) v (by
       have hj':=(aL1.1 hj).1;rw[aLV,aL0 pG,aMC,aL4 hj'];exact hj)
      rw[aMy];exact this
     .have:=hS (c1.length+j) (by
       have:=sV hR;have h6:=sV h5;simp only[aLT] at this;omega)
      rw[aMy];exact this
    .cases hr
  .cases hr
 .rename_i ty el by' ls_ i off _;have hty:=tD hT hs;generalize h1:ty.offs f=o1 at hr;generalize h2:ty.fld f=o2 at hr;unfold R6 at hr;split at hr
  .split at hr
   .rename_i oo u hpos;cases hr;obtain⟨p,hp,hv⟩:=yX hx;refine rD.pure hH (v:= .pointer (some ⟨p.1,p.2+off+oo,none⟩)) ?_ (.inr ⟨rfl,p,hp,by rw[aMy]⟩);simp only[execOp,ho,hv,aL2,WG hT hH hty rfl h1 h2 hpos,aLX,aMf]
   .cases hr
  .cases hr
 .cases hr
theorem aEz {x:Operand}{i:Nat}(ho:o.op= .extract x i) {sx:qC}(hx:rJ g w sx (a.eval x)) {e:qH}(hr:VS i sx=some e) (hs: ∀p∈e.side,p):rD P o a g w H e:=by
 replace hx:=hx.1;unfold VS at hr;split at hr
 rotate_left
 .rename_i b p c _;have run: ∀(v:pS) (vs:Array pS),a.eval x= .tuple vs->vs[i]? =some v->(execOp a.eval o).run P w= .ok (.value v) w:=by
   intro v vs h1 h2;simp [execOp,ho,h1,Instr.extract,h2]
  obtain⟨h1,h2⟩:=hx;unfold a6f at hr;split at hr
  .cases hr;cases b with
   |true=>exact rD.pure hH (run (.bool true) _ (h1 rfl) rfl) (w9 _ _ _)
   |false=>exact rD.pure hH (run (.bool false) _ (h2 rfl) rfl) (w9 _ _ _)
  .cases hr;have hb:=hs (b=true) pI;exact rD.pure hH (run (.int .i64 p) _ (h1 hb) rfl) (vX _ _ _ _)
  .cases hr;have hb:=hs (b=true) pI;exact rD.pure hH (run (.int .i32 c) _ (h1 hb) rfl) (vX _ _ _ _)
  .cases hr
 rotate_left
 .rename_i l _;obtain⟨vs,hv,hl⟩:=hx;have key: ∀(l:List ((Σ t:Ty,t.den)×pP)) (vs:pN) (i:Nat),KK g w l vs->R7 l i=some e->∃v,vs[i]? =some v/\rJ g w e.slot v/\e.upd=[]/\e.rds=[]:=by
   intro l
   induction l with
   |nil=>intro vs i _ h;cases i<;>cases h
   |cons q l ih=>
    obtain⟨⟨t,x⟩,k⟩:=q;rintro vs i ⟨v,vs',rfl,r1,r2,r3⟩ h;cases i with
    |zero=>
     simp only[R7,aLO] at h;subst h;refine⟨v,rfl,?_,rfl,rfl⟩;have gen:rJ g w (.val t x,k) v:=⟨r1,by
      cases k with
      |none=>trivial
      |some k=>exact r2⟩
     cases t with
     |rl e u=>
      cases x with
      |none=>exact⟨r1,trivial⟩
      |some q=>
       obtain⟨k',n⟩:=q;obtain⟨v',h1,h2,h3⟩:=A4 rfl r1;simp only[aMI,and_true] at h2;subst h2;exact⟨⟨h1,h3⟩,trivial⟩
     |_=>exact gen
    |succ i=>
     obtain⟨v',h1,h2,h3,h4⟩:=ih vs' i r3 h;exact⟨v',by simpa using h1,h2,h3,h4⟩
  obtain⟨v,h1,h2,h3,h4⟩:=key l vs i hl hr;obtain⟨side,slot,upd,rds⟩:=e;simp only at h2 h3 h4;subst h3;refine rD.value (v:=v) (g':=g) (w':=w) ?_ (.pure hH h2);have:vs.toArray[i]? =some v:=by simpa using h1
  simp [execOp,ho,hv,Instr.extract,this]
 .cases hr
theorem aEA {x:Operand}(ho:o.op= .nilCheck x) {sx:qC}(hx:rJ g w sx (a.eval x)) {e:qH}(hr:VN sx=some e):rD P o a g w H e:=by
 replace hx:=hx.1;unfold VN at hr;split at hr
 .rename_i p _;obtain⟨i,off⟩:=p;cases hr;obtain⟨p,hp,hv⟩:=yX hx;refine rD.pure hH (v:=a.eval x) ?_ hx;simp [execOp,ho,hv]
 .cases hr;obtain⟨b,off,cs,hv,h⟩:=hx;refine rD.pure hH (v:=a.eval x) ?_ ⟨b,off,cs,hv,h⟩;simp [execOp,ho,hv]
 .cases hr;obtain⟨b,cap,h1,h2,h3,hv⟩:=hx;refine rD.pure hH (v:=a.eval x) ?_ ⟨b,cap,h1,h2,h3,hv⟩;simp [execOp,ho,hv]
 .cases hr
theorem aEB {t:TypeId}{x ix:Operand}(ho:o.op= .index t x ix) {sx si:qC}(hx:rJ g w sx (a.eval x)) (hi:rJ g w si (a.eval ix)) {e:qH}(hr:VR (rK T t) sx si=some e) (hs: ∀p∈e.side,p):rD P o a g w H e:=by
 generalize hst:rK T t=ot at hr;replace hx:=hx.1;replace hi:=hi.1;unfold VR at hr;split at hr
 .rename_i _ _ _ _ l _ k i _;cases hr;have hb:=hs _ (aL6.2 rfl);have h2:=(tD hT hst).2;simp only[xP] at h2;have hv:=wG hx;have hvi:=w7 hi;have hlt:(Int.toNat i)<List.length l:=a6H hb.1 hb.2;refine rD.pure hH (v:= .int .u8 (tU l i)) ?_ (vX _ _ _ _);have hget:(if (0:Int)<=i then(⟨List.toArray l⟩:ByteArray)[Int.toNat i]? else none)=some (l[Int.toNat i]):=by
   rw[aLQ hb.1];exact aEw l _ hlt
  have hbyte:tU l i=((l[Int.toNat i]).toNat:Int):=by
   unfold tU;rw[aMr,aLZ hlt];rfl
  simp only[execOp,ho,hv,hvi,Instr.index,asIntOf,aL2,aMf,aLX,aMa h2,hget,hbyte]
 .cases hr
theorem aEC {t:TypeId}{x ix:Operand}(ho:o.op= .indexAddr t x ix) {sx si:qC}(hx:rJ g w sx (a.eval x)) (hi:rJ g w si (a.eval ix)) {e:qH}(hr:VQ (rK T t) sx si=some e) (hs: ∀p∈e.side,p):rD P o a g w H e:=by
 generalize hst:rK T t=ot at hr;replace hx:=hx.1;replace hi:=hi.1;unfold VQ at hr;split at hr
 .rename_i t' el by' ar ls_ k n _ k' i _;split at hr
  .rename_i hpos;cases hr;have hb:=hs _ (aL6.2 rfl);obtain⟨h2,h3,_⟩:=(tD hT hst).2;obtain⟨ei,hei,hz⟩:=aLW.1 h3;simp only[aMl] at hz;have hvi:=w7 hi;obtain⟨hc,hv⟩:=hx;rcases hv with⟨_,rfl⟩ |⟨b,cap,hv,hcap⟩
   .exact absurd (Int.lt_of_le_of_lt hb.1 hb.2) (Int.lt_irrefl 0)
   refine rD.pure hH (v:= .pointer (some ⟨b,0+Int.toNat i*t'.cells,none⟩)) ?_ ⟨b,cap,by rw[<-hv];exact hc,hb.1,hb.2,by rw[aMs,aM7]⟩;simp only[execOp,ho,hv,hvi,Instr.indexAt,asIntOf,aL2,aMf,aLX,aMa h2,sizeOf,typeInfo,aMP,hei,hz.1,aLQ hb,aM6]
  .cases hr
 .rename_i t' el by' ar ls_ t1 l _ k i _;split at hr
  .rename_i htt;subst htt;cases hr;have hb:=hs _ (aL6.2 rfl);obtain⟨h2,h3,_⟩:=(tD hT hst).2;obtain⟨ei,hei,hz⟩:=aLW.1 h3;simp only[aMl] at hz;have hvi:=w7 hi;obtain⟨ad,cap,hv,hle,hl⟩:=CY hx;have hlt:(Int.toNat i)<List.length l:=a6H hb.1 hb.2;rcases hl with rfl|⟨b,off,rfl,hL⟩
   .simp at hlt
   have hnth:l[Int.toNat i]? =some (qW t1 l i):=by
    unfold qW;rw[aMr,aLZ hlt];rfl
   obtain⟨cs,hc1,hc2,hc3,hc4⟩:=S1 hL hnth;refine rD.pure hH (v:= .pointer (some ⟨b,off+Int.toNat i*t1.cells,none⟩)) ?_ ⟨b,_,cs,rfl,hc2,hc3,hc4⟩;simp only[execOp,ho,hv,hvi,Instr.indexAt,asIntOf,aL2,aMf,aLX,aMa h2,sizeOf,typeInfo,aMP,hei,hz.1,aLQ hb,aM6]
  .cases hr
 .rename_i s u el by' ls_ i off _ k n _;have hty:=tD hT hst;generalize h1:(Ty.pair s u).offs (Int.toNat n)=o1 at hr;generalize h2:(Ty.pair s u).fld (Int.toNat n)=o2 at hr;unfold R6 at hr;split at hr
  .split at hr
   .rename_i oo v hpos;cases hr;have hn0:=hs _ (aL6.2 rfl);obtain⟨p,hp,hv⟩:=yX hx;have hvi:=w7 hi;obtain⟨len,el',hu,hel,_⟩:=a6G hty rfl rfl;obtain⟨k1,k2,k3,k4⟩:=WE hel h1 h2;obtain⟨ei,hei,hz⟩:=aLW.1 k2;have hb:(0:Int)<=n/\(n:Int)<(len:Int):=⟨hn0,a6I hn0 k1⟩;refine rD.pure hH (v:= .pointer (some ⟨p.1,p.2+off+oo,none⟩)) ?_ (.inr ⟨rfl,p,hp,by rw[aMy]⟩);simp only[execOp,ho,hv,hvi,Instr.indexAt,Instr.sureAddr,asIntOf,aL2,aMf,aLX,aMa hu,sizeOf,typeInfo,aMP,hei,hz,aLQ hb,aM6,k4]
   .cases hr
  .cases hr
 .rename_i s u el by' ls_ u' y _ k n _;split at hr
  .rename_i hu';subst hu';have hty:=tD hT hst;generalize hp:(Ty.pair s u).proj y (Int.toNat n)=q at hr;cases q with
   |none=>cases hr
   |some q=>
    obtain⟨v,z⟩:=q;simp only[R5] at hr;split at hr
    .rename_i hpos;cases hr;have hn0:=hs _ (aL6.2 rfl);obtain⟨b,off,cs,hv,hra,hS,hR⟩:=hx;have hvi:=w7 hi;obtain⟨oo,c1,c2,c3,h1,h2,rfl,rfl,h5⟩:=WC hR hp;obtain⟨len,el',hu,hel,_⟩:=a6G hty rfl rfl;obtain⟨k1,k2,k3,k4⟩:=WE hel h1 h2;obtain⟨ei,hei,hz⟩:=aLW.1 k2;have hb:(0:Int)<=n/\(n:Int)<(len:Int):=⟨hn0,a6I hn0 k1⟩;refine rD.pure hH (v:= .pointer (some ⟨b,off+c1.length,none⟩)) ?_ ⟨b,off+c1.length,c2,rfl,fun j v hj=> ?_,fun j hj=> ?_,h5⟩
     .simp only[execOp,ho,hv,hvi,Instr.indexAt,Instr.sureAddr,asIntOf,aL2,aMf,aLX,aMa hu,sizeOf,typeInfo,aMP,hei,hz,aLQ hb,aM6,<-k4]
     .have:=hra (c1.length+j) v (by
       have hj':=(aL1.1 hj).1;rw[aLV,aL0 pG,aMC,aL4 hj'];exact hj)
      rw[aMy];exact this
     .have:=hS (c1.length+j) (by
       have:=sV hR;have h6:=sV h5;simp only[aLT] at this;omega)
      rw[aMy];exact this
    .cases hr
  .cases hr
 .cases hr
end
theorem a6J (off:Nat): ∀(vl:pN) (k:Nat) (cs:Array pS) (c1 c2 c3:pN),cs.toList=c1++c2++c3->c1.length=off+k->c2.length=vl.length->
  ((vl.zipIdx k).foldl (fun(cs:Array pS) (p:pS×Nat)=>cs.setIfInBounds (off+p.2) p.1) cs).toList=c1++vl++c3
 |[],_,cs,c1,c2,c3,h,_,h2=>by
  have:c2=[]:=aMo (by simpa using h2);subst this;simpa using h
 |v::vl,k,cs,c1,c2,c3,h,h1,h2=>by
  cases c2 with
  |nil=>simp at h2
  |cons u c2=>
   simp only[List.zipIdx_cons,List.foldl_cons];have:=a6J off vl (k+1) (cs.setIfInBounds (off+k) v) (c1++[v]) c2 c3 (by
    rw[Array.toList_setIfInBounds,h,<-h1];simp) pJ (by simpa using h2)
   rw[this];simp
theorem aED (off:Nat) (vs cs:Array pS) (c1 c2 c3:pN) (h:cs.toList=c1++c2++c3) (h1:c1.length=off) (h2:c2.length=vs.size):
  (vs.zipIdx.foldl (fun(cs:Array pS) (x:pS×Nat)=>match x with|(c,j)=>cs.setIfInBounds (off+j) c) cs).toList=c1++vs.toList++c3:=by
 rw[<-aNJ,Array.toList_zipIdx];exact a6J off vs.toList 0 cs c1 c2 c3 h pG (by simpa using h2)
theorem a6K {place:Nat->pO}{cells:Array pS}{i:Nat}{v:pS}{rest:List (Nat×pS)}{off size:Nat}{c1 c2 c3:pN}(hp:place i=some (off,size)) (hs:v.cells.size=size)
  (h:cells.toList=c1++c2++c3) (h1:c1.length=off) (h2:c2.length=size):
  Instr.fill place cells ((i,v)::rest)=Instr.fill place (c1++v.cells.toList++c3).toArray rest:=by
 have hsz:cells.size=c1.length+c2.length+c3.length:=by rw[<-aMt,h];simp;omega
 simp only[Instr.fill,hp];rw[aLU (by simp [hs];omega)];congr 1;apply aMV.1;rw[aED off v.cells cells c1 c2 c3 h h1 pG]
theorem WH {k:Nat}: ∀{t:Ty}{o:Nat}{cs:pN},I8 t=false->cs.length=t.cells->xD k t o cs
 | .bool,_,_,_,_=>trivial
 | .int _,_,_,_,_=>trivial
 | .str,_,_,_,_=>trivial
 | .unit,_,_,_,_=>trivial
 | .ref,_,_,_,_=>trivial
 | .clo,_,_,_,_=>trivial
 | .mp,_,_,_,_=>trivial
 | .rl _ _,_,_,_,_=>trivial
 | .fn,_,_,_,_=>trivial
 | .mref,_,_,_,_=>trivial
 | .list _,_,_,h,_=>by simp [I8] at h
 | .pair a b,_,cs,h,hl=>by
  simp only[I8,aMz] at h;simp only[Ty.cells] at hl;exact⟨cs.take a.cells,cs.drop a.cells,by simp,by rw[aMd];omega,WH h.1 (by rw[aMd];omega),WH h.2 (by rw[aL8];omega)⟩
theorem WI: ∀t:Ty,(uA t).length=t.cells
 | .bool=>rfl
 | .int _=>rfl
 | .str=>rfl
 | .unit=>rfl
 | .ref=>rfl
 | .clo=>rfl
 | .mp=>rfl
 | .rl _ _=>rfl
 | .fn=>rfl
 | .mref=>rfl
 | .list _=>rfl
 | .pair a b=>by simp only[uA,aLT,WI a,WI b,Ty.cells]
theorem S2 {k:Nat}: ∀(t:Ty) (o:Nat),xD k t o (uA t)
 | .bool,_=>trivial
 | .int _,_=>trivial
 | .str,_=>trivial
 | .unit,_=>trivial
 | .ref,_=>trivial
 | .clo,_=>trivial
 | .mp,_=>trivial
 | .rl _ _,_=>trivial
 | .fn,_=>trivial
 | .mref,_=>trivial
 | .list _,_=> .inr rfl
 | .pair a b,_=>⟨uA a,uA b,rfl,WI a,S2 a _,S2 b _⟩
theorem a6L {g:Gh}{w:pR}{k:Nat}: ∀{t:Ty}{x:t.den}{cs:pN}{off o:Nat},xD k t off cs->Rd g w t x cs->DS t o=true->off+o+1≠k->∃(u:Ty),rC (.list u) t x o=some []/\cs[o]? =some (.slice none 0 0):=by
 intro t
 induction t with
 |pair a b iha ihb=>
  intro x cs off o hn hr hl hk;obtain⟨c1,c2,e,h1,h2,h3⟩:=hn;obtain⟨d1,d2,e',r1,r2⟩:=hr;have hd:c1=d1/\c2=d2:=aNH (e.symm.trans e') (by rw[h1,sV r1]);obtain⟨rfl,rfl⟩:=hd;have key: ∀(u:Ty) q,rC (.list u) (.pair a b) x q=if q<a.cells then rC (.list u) a x.1 q else rC (.list u) b x.2 (q-a.cells):=by
   intro u q;cases q with
   |zero=>
    conv=>lhs;unfold rC
    rw[aNr (by intro e;cases e),Nat.zero_sub]
   |succ q=>simp [rC]
  have hl':(if o<a.cells then DS a o else DS b (o-a.cells))=true:=by
   cases o<;>simpa[DS] using hl
  by_cases ho:o<a.cells
  .rw[aLQ ho] at hl';obtain⟨u,k1,k2⟩:=iha h2 r1 hl' hk;exact⟨u,by rw[key,aLQ ho];exact k1,by rw[e,aL4 pG];exact k2⟩
  .rw[aLU ho] at hl';obtain⟨u,k1,k2⟩:=ihb h3 r2 hl' pG;exact⟨u,by rw[key,aLU ho];exact k1,by rw[e,aL0 pG,h1];exact k2⟩
 |list u=>
  intro x cs off o hn hr hl hk;cases o with
  |succ o=>simp [DS] at hl
  |zero=>
   obtain⟨a,cap,e,_,_⟩:=hr;have hn':cs=[.slice none 0 0]:=hn.resolve_left (by simpa using hk);rw[hn'] at e;simp only[aMI,aNK,and_true] at e;have:(x:List u.den)=[]:=aMo e.2.1.symm;subst this;exact⟨u,by unfold rC;simp [uF],by rw[hn'];rfl⟩
 |_=>intro x cs off o hn hr hl;cases o<;>simp [DS] at hl
theorem aEE {g:Gh}{w:pR}{u:Ty}{y:u.den}{cy:pN}(hy:Rd g w u y cy): ∀{t:Ty}{x z:t.den}{cs:pN}{f:Nat},Rd g w t x cs->Ty.setPart u y t x f=some z->
  ∃o c1 c2 c3,t.offs f=some o/\t.fld f=some u/\cs=c1++c2++c3/\c1.length=o/\c2.length=u.cells/\Rd g w t z (c1++cy++c3)/\(∀k off,xD k t off cs->xD k u (off+o) cy->xD k t off (c1++cy++c3)):=by
 intro t
 induction t with
 |pair a b _ ihb=>
  intro x z cs f r h;obtain⟨c1,c2,e,r1,r2⟩:=r;cases f with
  |zero=>
   simp only[Ty.setPart] at h;split at h
   .rename_i hu;subst hu;simp only[uF,aLO] at h;subst h;refine⟨0,[],c1,c2,rfl,rfl,by simpa using e,rfl,sV r1,⟨cy,c2,by simp,hy,r2⟩,fun k off ⟨d1,d2,e',k1,_,k3⟩ hcy=> ?_⟩;obtain⟨rfl,rfl⟩:=aNH (e'.symm.trans e) (by rw[k1,sV r1]);exact⟨cy,d2,by simp,sV hy,hcy,k3⟩
   .cases h
  |succ f=>
   simp only[Ty.setPart,aLW] at h;obtain⟨q,hq,rfl⟩:=h;obtain⟨o,d1,d2,d3,h1,h2,h3,h4,h5,h6,h7⟩:=ihb r2 hq;refine⟨a.cells+o,c1++d1,d2,d3,by simp [Ty.offs,h1],by simpa[Ty.fld] using h2,by rw[e,h3];simp,?_,h5,⟨c1,d1++cy++d3,by simp,r1,h6⟩,fun k off ⟨k1,k2,e',k3,k4,k5⟩ hcy=>by
    obtain⟨rfl,rfl⟩:=aNH (e'.symm.trans e) (by rw[k3,sV r1]);exact⟨k1,d1++cy++d3,by simp,k3,k4,h7 k _ k5 (by rw[aMy];exact hcy)⟩⟩
   rw[aLT,h4,sV r1]
 |_=>intro x z cs f r h;cases f<;>simp [Ty.setPart] at h
theorem WJ {g:Gh}{w:pR}{t:Ty}{ev:Operand->pS}{ρ:Operand->qC}{place:Nat->pO}(hp: ∀f o u,t.offs f=some o->t.fld f=some u->place f=some (o,u.cells)):
  ∀(ps:List (Nat×Operand)) (x z:t.den) (cs:pN),Rd g w t x cs->(∀q∈ps,rJ g w (ρ q.2) (ev q.2))->zY t (some x) (uG ρ ps)=some z->
  ∃cs',Instr.fill place cs.toArray (ps.map fun q=>(q.1,ev q.2))=some cs'.toArray/\Rd g w t z cs'/\(∀m k,A1 t (uG ρ ps)=some m->m=0\/m=k->xD k t 0 cs->xD k t 0 cs')
 |[],x,z,cs,r,_,h=>by
  simp only[uG,zY,aLO] at h;subst h;exact⟨cs,rfl,r,fun _ _ _ _ h=>h⟩
 |(i,q)::ps,x,z,cs,r,hq,h=>by
  have h0:=hq (i,q) pI;have step: ∀{u:Ty}{y:u.den}{z1:t.den},tJ g w u y (ev q)->Ty.setPart u y t x i=some z1->zY t (some z1) (uG ρ ps)=some z->(∀m k,A1 t (uG ρ ((i,q)::ps))=some m->m=0\/m=k->(∀o,t.offs i=some o->xD k u o (ev q).cells.toList)/\∃m',A1 t (uG ρ ps)=some m'/\(m'=0\/m'=k))->
    ∃cs',Instr.fill place cs.toArray (((i,q)::ps).map fun q=>(q.1,ev q.2))=some cs'.toArray/\Rd g w t z cs'/\(∀m k,A1 t (uG ρ ((i,q)::ps))=some m->m=0\/m=k->xD k t 0 cs->xD k t 0 cs'):=by
   intro u y z1 hv hset h hpl;obtain⟨o,c1,c2,c3,h1,h2,rfl,h4,h5,h6,h7⟩:=aEE (DX hv) r hset;obtain⟨cs',hf,hr,hn⟩:=WJ hp ps z1 z _ h6 (fun q hq'=>hq q (by simp [hq'])) h;refine⟨cs',?_,hr,fun m k hpp hm hcs=> ?_⟩
   rotate_left
   .obtain⟨q1,m',q2,q3⟩:=hpl m k hpp hm;exact hn m' k q2 q3 (h7 k 0 hcs (by rw[aMs];exact q1 o h1))
   simp only[aMQ];rw[a6K (hp i o u h1 h2) (by have:=sV (DX hv);simpa using this) (c1:=c1) (c2:=c2) (c3:=c3) pI h4 h5];exact hf
  generalize hs:ρ q=s at h0;simp only[uG,hs] at h;obtain⟨d,k⟩:=s;cases d with
  |val u y=>
   simp only[zY] at h;generalize hset:Ty.setPart u y t x i=o1 at h;cases o1 with
   |none=>cases ps with
    |nil=>simp [uG,zY] at h
    |cons p ps=>simp [uG,zY] at h
   |some z1=>
    have hpl: ∀m k,A1 t (uG ρ ((i,q)::ps))=some m->m=0\/m=k->(∀o,t.offs i=some o->xD k u o (ev q).cells.toList)/\∃m',A1 t (uG ρ ps)=some m'/\(m'=0\/m'=k):=by
     intro m k hpp hm;simp only[uG,hs,A1] at hpp;cases hu:I8 u with
     |false=>
      rw[hu] at hpp;simp only[QT] at hpp;exact⟨fun o _=>WH hu (sV (DX h0.1)),m,hpp,hm⟩
     |true=>
      rw[hu] at hpp;cases hu2:VA u with
      |false=>rw[hu2] at hpp;simp [QT] at hpp
      |true=>
       rw[hu2] at hpp;simp only[QT] at hpp;cases ho:t.offs i with
       |none=>rw[ho] at hpp;simp [QS] at hpp
       |some o=>
        rw[ho] at hpp;cases hm2:A1 t (uG ρ ps) with
        |none=>rw[hm2] at hpp;simp [QS] at hpp
        |some m'=>
         rw[hm2] at hpp;simp only[QS] at hpp;split at hpp
         .rename_i hm0;subst hm0;simp only[aLO] at hpp;refine⟨fun o' ho'=> ?_,0,rfl,.inl rfl⟩;obtain rfl:=aLS ho';cases u with
          |list u=>exact .inl pG
          |_=>simp [VA] at hu2
         .cases hpp
    obtain⟨cs',k1,k2,k3⟩:=step h0.1 hset h hpl;exact⟨cs',k1,k2,k3⟩
  |nilS=>
   simp only[zY] at h;generalize hfl:t.fld i=fl at h;cases fl with
   |none=>cases ps<;>simp [QF,uG,zY] at h
   |some u=>
    cases u with
    |list u=>
     simp only[QF] at h;generalize hset:Ty.setPart (.list u) [] t x i=o1 at h;cases o1 with
     |none=>cases ps<;>simp [uG,zY] at h
     |some z1=>
      have hev:ev q= .slice none 0 0:=h0.1;refine step (u:= .list u) (y:=[]) ?_ hset h (fun m k hpp hm=> ?_)
      .rw[hev];exact .inr ⟨rfl,none,0,rfl,aMc _,.inl rfl⟩
      .simp only[uG,hs,A1] at hpp;exact⟨fun o _=>by rw[hev];exact .inr rfl,m,hpp,hm⟩
    |_=>cases ps<;>simp [QF,uG,zY] at h
  |_=>simp [zY] at h
section
variable {P:Program}{o:Oper}{a:Act}{g:Gh}{w:pR}{H:s0}{T:sM}(hT:wV P T) (hH:sG g w H)
include hT hH
theorem a6M {P:Program}(w:pR): ∀(fs:List Field),(∀f∈fs,∃n,(P.info? f.type).map (·.size)=some n)->
  (fs.mapM (fun f=>do pure (f.offset,<-sizeOf f.type):Field->Sem (Nat×Nat))).run P w= .ok (fs.map fun f=>(f.offset,((P.info? f.type).map (·.size)).getD 0)) w
 |[],_=>rfl
 |f::fs,h=>by
  obtain⟨n,hn⟩:=h f pI;obtain⟨i,hi,hsz⟩:=aLW.1 hn;rw[List.mapM_cons];simp only[aL2,sizeOf,typeInfo,aMP,hi,aLX,aMf];have:=a6M w fs (fun f hf=>h f (by simp [hf]));simp only[sizeOf,typeInfo,aL2,aMP] at this;rw[this];simp [hi]
theorem aEF {P:Program}: ∀{ty:Ty}{off:Nat}{fs:List Field},KN P ty off fs->∀f∈fs,∃n,(P.info? f.type).map (·.size)=some n:=by
 intro ty
 induction ty with
 |pair a b _ ihb=>
  intro off fs h f hf;cases fs with
  |nil=>cases hf
  |cons fd fs=>
   obtain⟨_,h2,_,h4⟩:=h;rcases aL3.1 hf with rfl|hf
   .exact⟨_,h2⟩
   .exact ihb h4 f hf
 |unit=>intro off fs h f hf;cases fs with|nil=>cases hf|cons=>exact h.elim
 |_=>intro off fs h f hf;cases fs<;>exact h.elim
omit hT hH in
theorem a6N {t:Ty}{x:t.den}{cs:pN}{ps:List (Nat×qC)}(h: ∀m k,A1 t ps=some m->m=0\/m=k->xD k t 0 (uA t)->xD k t 0 cs):match ((DV.val t x,VB t (A1 t ps)):qC) with
  |(_,none)=>True
  |(.val t x,some k)=>C5 g t x (.agg cs.toArray) (some k)
  |(_,some _)=>False:=by
 cases hp:A1 t ps with
 |none=>cases t<;>trivial
 |some m=>
  cases t with
  |pair a b=>
   have:=h m m hp (.inr rfl) (S2 _ _);simpa[VB,C5,Value.cells] using this
  |_=>trivial
omit hT in
theorem rD.pureS {s:qC}{v:pS}(hr:(execOp a.eval o).run P w= .ok (.value v) w) (hs:rJ g w s v):rD P o a g w H ⟨[],s,[],[]⟩:=
 rD.value hr (.pure hH hs)
theorem aEG {t:TypeId}{ps:Array (Nat×Operand)}(ho:o.op= .build t ps) {ρ:Operand->qC}(hρ: ∀q∈ps.toList,rJ g w (ρ q.2) (a.eval q.2)) {e:qH}(hr:VC (uG ρ ps.toList) (rK T t)=some e):rD P o a g w H e:=by
 generalize hs:rK T t=ot at hr;cases ot with
 |none=>cases hr
 |some ti=>
  have hty:=tD hT hs;simp only[VC] at hr;by_cases hrow:ti.ty.isRow=true
  case neg=>rw[aLU hrow] at hr;cases hr
  rw[aLQ hrow] at hr;generalize hb:zY ti.ty (some ti.ty.zero) (uG ρ ps.toList)=ox at hr;cases ox with
  |none=>cases hr
  |some x=>
   cases hr;obtain⟨i,hi,hsz,hz⟩:=CZ hty;have hzv:vW ti.ty= .agg (uA ti.ty).toArray:=by unfold vW;rw[aLQ hrow]
   have hzr: ∀w,(zeroValue t).run P w= .ok (.agg (uA ti.ty).toArray) w:=by
    intro w;simp [zeroValue,typeInfo,hi,hz,hzv]
   have hmap:(ps.map fun(q:Nat×Operand)=>(q.1,a.eval q.2)).toList=ps.toList.map fun q=>(q.1,a.eval q.2):=by simp
   rcases WF hty hrow with⟨har,fs,hfs,hfe⟩ |⟨har,n,el,hu,hel,hsome⟩
   .have hpl:=a6M (P:=P) hT hH w fs.toList (aEF hT hH hfe);obtain⟨cs',hf,hR,hN⟩:=WJ (g:=g) (w:=w) (ev:=a.eval) (ρ:=ρ) (t:=ti.ty) (place:=fun j=>((fs.map fun f=>(f.offset,((P.info? f.type).map (·.size)).getD 0))[j]?)) (fun f oo u h1 h2=>by
     obtain⟨fd,k1,k2,k3,_⟩:=WD hfe h1 h2;have k1':fs[f]? =some fd:=by simpa using k1
     simp [k1',k2,k3]) ps.toList ti.ty.zero x (uA ti.ty) (CX g w ti.ty) hρ hb
    refine rD.pureS hH (v:= .agg cs'.toArray) ?_ ⟨.inl ⟨hrow,cs',rfl,hR⟩,a6N hN⟩;have hmp:(fs.mapM (fun f=>do pure (f.offset,<-sizeOf f.type):Field->Sem (Nat×Nat))).run P w= .ok (fs.map fun f=>(f.offset,((P.info? f.type).map (·.size)).getD 0)) w:=by
     rw[Array.mapM_eq_mapM_toList,Sem.run_map,hpl];simp only[aLX];congr 1;apply aMV.1;simp
    simp only[execOp,ho,Instr.build,aL2,hzr,aLX,aMa hfs,hmp,Value.cells];rw[hmap,hf];rfl
   .obtain⟨cs',hf,hR,hN⟩:=WJ (g:=g) (w:=w) (ev:=a.eval) (ρ:=ρ) (t:=ti.ty) (place:=fun j=>some (j*((P.info? el).map (·.size)).getD 0,((P.info? el).map (·.size)).getD 0)) (fun f oo u h1 h2=>by
     obtain⟨k1,k2,k3,k4⟩:=WE hel h1 h2;simp [k2,k4]) ps.toList ti.ty.zero x (uA ti.ty) (CX g w ti.ty) hρ hb
    refine rD.pureS hH (v:= .agg cs'.toArray) ?_ ⟨.inl ⟨hrow,cs',rfl,hR⟩,a6N hN⟩;obtain⟨ei,hei⟩:=aLR.1 hsome;simp only[hei,Option.map_some,aNR] at hf;simp only[execOp,ho,Instr.build,aL2,hzr,aLX,aMa hu,sizeOf,typeInfo,aMP,hei,aMf,Value.cells];rw[hmap,hf];rfl
theorem WK {ρ:Operand->qC}{ev:Operand->pS}: ∀{xs:List Operand}{ss:List qC},(∀x∈xs,rJ g w (ρ x) (ev x))->vK ρ xs=ss->∃vs,xs.map ev=vs/\vs.length=ss.length/\∀(i:Nat) (s:qC) (v:pS),ss[i]? =some s->vs[i]? =some v->rJ g w s v
 |[],_,_,h=>⟨[],rfl,by rw[<-h];rfl,fun i s v _ hv=>by simp at hv⟩
 |x::xs,ss,hx,h=>by
  subst h;obtain⟨vs,h1,h2,h3⟩:=WK (fun y hy=>hx y (by simp [hy])) rfl (xs:=xs);refine⟨ev x::vs,by simp [h1],by simp [vK,h2],fun i s v hs hv=> ?_⟩;cases i with
  |zero=>
   simp only[vK,aMm,aLO] at hs hv;subst hs;subst hv;exact hx x pI
  |succ i=>
   simp only[vK,aMx] at hs hv;exact h3 i s v hs hv
theorem S3 {ρ:Operand->qC}{ev:Operand->pS}{args:Array Operand}{s:qC}(hρ: ∀x∈args.toList,rJ g w (ρ x) (ev x)) (h:vK ρ args.toList=[s]): ∃v,args.map ev= #[v]/\rJ g w s v:=by
 obtain⟨vs,h1,h2,h3⟩:=WK hT hH hρ h;obtain⟨v,rfl⟩:=aM9.1 h2;exact⟨v,by apply aMV.1;simpa using h1,h3 0 s v rfl rfl⟩
theorem S4 {ρ:Operand->qC}{ev:Operand->pS}{args:Array Operand}{s t:qC}(hρ: ∀x∈args.toList,rJ g w (ρ x) (ev x)) (h:vK ρ args.toList=[s,t]): ∃v u,args.map ev= #[v,u]/\rJ g w s v/\rJ g w t u:=by
 obtain⟨vs,h1,h2,h3⟩:=WK hT hH hρ h
 match vs,h2 with
 |[v,u],_=>exact⟨v,u,by apply aMV.1;simpa using h1,h3 0 s v rfl rfl,h3 1 t u rfl rfl⟩
theorem F2 {b:Builtin}{args:Array Operand}{tys:Array TypeId}(ho:o.op= .call ⟨.builtin b,args,tys⟩):
  ∃cs,execOp a.eval o=builtin b tys o.type cs (args.map a.eval):=by
 refine⟨args.map fun| .const _=>true|_=>false,?_⟩
 unfold execOp;rw[ho];rfl
theorem aEH (x y:Int):(if y<x then y else x)=min x y:=by rw[Int.min_def];split<;>split<;>omega
theorem aEI (x y:Int):(if y>x then y else x)=max x y:=by rw[Int.max_def];split<;>split<;>omega
theorem aEJ {args:Array Operand}{tys:Array TypeId}(ho:o.op= .call ⟨.builtin .len,args,tys⟩) {ρ:Operand->qC}(hρ: ∀x∈args.toList,rJ g w (ρ x) (a.eval x)) {e:qH}
  (hr:RF T H (vK ρ args.toList) tys.toList=some e):rD P o a g w H e:=by
 obtain⟨t0,tr,htl⟩: ∃t0 tr,tys.toList=t0::tr:=by cases h:tys.toList with|nil=>(rw[h] at hr;cases hr) |cons t r=>exact⟨t,r,rfl⟩
 have ht0:tys[0]? =some t0:=by rw[<-aMT,htl];rfl
 rw[htl] at hr;simp only[RF] at hr;generalize hst:rK T t0=ot at hr;generalize hss:vK ρ args.toList=ss at hr;unfold VT at hr;split at hr
 .rename_i el fl ar ls_ i k;generalize hb:qD H i=ob at hr;unfold R9 at hr;split at hr
  .rename_i kt vt l;cases hr;obtain⟨v,hv,hs⟩:=S3 hT hH hρ hss;have h2:=(tD hT hst).2;simp only[xP] at h2;obtain⟨p,es,cl,hp,hp0,hh,hM,hS⟩:=hH.blk i _ hb;obtain⟨p',hp',hxv⟩: ∃p,g.J i=some p/\v= .map (some p.1):=by
    rcases hs.1 with⟨h1,_⟩ |⟨_,p,h3,h4⟩
    .cases h1
    .simp only[aMI,and_true] at h4;exact⟨p,h3,h4⟩
   rw[hp] at hp';obtain rfl:=aLS hp';have hlen: ∀{l:List (kt.den×vt.den)}{es:List MapEntry},CV g w kt vt l es->es.length=l.length:=by
    intro l
    induction l with
    |nil=>intro es h;rw[show es=[] from h];rfl
    |cons q l ih=>intro es h;obtain⟨e,es',rfl,_,_,h5⟩:=h;simp [ih h5]
   refine rD.pure hH (v:= .int .i64 (List.length l:Int)) ?_ (vX _ _ _ _);obtain⟨cs,hx⟩:=F2 (a:=a) hT hH ho;rw[hx,hv,hxv];have harg:(#[Value.map (some p.1)]:Array pS)[0]? =some (.map (some p.1)):=rfl;have hobj:(getObj p.1).run P w= .ok (.map es cl) w:=by simp [getObj,Sem.run,hh]
   simp only[builtin,Builtin.len_,ht0,harg,aL2,aMa h2,aLX,aMf,goInt,hobj];rw[<-hlen hM,aMt]
  .cases hr
 .rename_i el by' ar ls_ l k;cases hr;obtain⟨v,hv,hs⟩:=S3 hT hH hρ hss;have h2:=(tD hT hst).2;simp only[xP] at h2;have hv':=wG hs.1;refine rD.pure hH (v:= .int .i64 (List.length l:Int)) ?_ (vX _ _ _ _);subst hv';obtain⟨cs,hx⟩:=F2 (a:=a) hT hH ho;rw[hx,hv];have harg:(#[Value.string ⟨List.toArray l⟩]:Array pS)[0]? =some (.string ⟨List.toArray l⟩):=rfl;simp only[builtin,Builtin.len_,ht0,harg,aL2,aMa h2,aLX,aMf,goInt];rfl
 .rename_i u el by' ar ls_ t l k;cases hr;obtain⟨v,hv,hs⟩:=S3 hT hH hρ hss;have h2:=(tD hT hst).2.1;obtain⟨ad,cap,rfl,_⟩:=CY hs.1;refine rD.pure hH (v:= .int .i64 (List.length l:Int)) ?_ (vX _ _ _ _);obtain⟨cs,hx⟩:=F2 (a:=a) hT hH ho;rw[hx,hv];have harg:(#[Value.slice ad (List.length l) cap]:Array pS)[0]? =some (.slice ad (List.length l) cap):=rfl;simp only[builtin,Builtin.len_,ht0,harg,aL2,aMa h2,aLX,aMf,goInt]
 .rename_i u el by' ar ls_ ko n k;cases hr;obtain⟨v,hv,hs⟩:=S3 hT hH hρ hss;have h2:=(tD hT hst).2.1;obtain⟨ad,cap,rfl⟩: ∃ad cap,v= .slice ad n cap:=by
   rcases hs.1.2 with⟨h,rfl⟩ |⟨b,cap,h,_⟩
   .exact⟨_,_,h⟩
   .exact⟨_,_,h⟩
  refine rD.pure hH (v:= .int .i64 (n:Int)) ?_ (vX _ _ _ _);obtain⟨cs,hx⟩:=F2 (a:=a) hT hH ho;rw[hx,hv];have harg:(#[Value.slice ad n cap]:Array pS)[0]? =some (.slice ad n cap):=rfl;simp only[builtin,Builtin.len_,ht0,harg,aL2,aMa h2,aLX,aMf,goInt]
 .cases hr
theorem a6O {args:Array Operand}{tys:Array TypeId}{mx:Bool}(ho:o.op= .call ⟨.builtin (if mx then .max else .min),args,tys⟩) {ρ:Operand->qC}(hρ: ∀x∈args.toList,rJ g w (ρ x) (a.eval x)) {e:qH}
  (hr:zX (RD mx (vK ρ args.toList))=some e):rD P o a g w H e:=by
 obtain⟨q,hq,rfl⟩:=GP hr;generalize hss:vK ρ args.toList=ss at hq;unfold RD at hq;split at hq
 .rename_i k x k1 k' y k2;split at hq
  .rename_i hk;subst hk;cases hq;obtain⟨v,u,hv,hs1,hs2⟩:=S4 hT hH hρ hss;have e1:=w7 hs1.1;have e2:=w7 hs2.1;subst e1;subst e2;cases mx
   .refine rD.pure hH (v:= .int k (min (x:Int) y)) ?_ (vX _ _ _ _);obtain⟨cs,hx⟩:=F2 (a:=a) hT hH ho;rw[hx,hv];have:=aEH hT hH x y;simp [builtin,Builtin.min_,Builtin.min2,this]
   .refine rD.pure hH (v:= .int k (max (x:Int) y)) ?_ (vX _ _ _ _);obtain⟨cs,hx⟩:=F2 (a:=a) hT hH ho;rw[hx,hv];have:=aEI hT hH x y;simp [builtin,Builtin.max_,Builtin.max2,this]
  .cases hq
 .cases hq
theorem aEK {f:FuncId}{caps:Array Operand}(ho:o.op= .makeFunc (.func f) #[] caps) {ρ:Operand->qC}(hρ: ∀x∈caps.toList,rJ g w (ρ x) (a.eval x)) {e:qH}
  (hr:a6d f (HY (vK ρ caps.toList))=some e):rD P o a g w H e:=by
 generalize hc:HY (vK ρ caps.toList)=oc at hr;cases oc with
 |none=>cases hr
 |some l=>
  cases hr;have key: ∀(xs:List Operand) (l:pL),(∀x∈xs,rJ g w (ρ x) (a.eval x))->HY (vK ρ xs)=some l->xO g l (xs.map a.eval):=by
   intro xs
   induction xs with
   |nil=>intro l _ h;simp only[vK,HY,aLO] at h;subst h;rfl
   |cons x xs ih=>
    intro l hx h;have h0:=hx x pI;generalize hs:ρ x=s at h0;simp only[vK,hs] at h;obtain⟨d,k⟩:=s;unfold HY at h;split at h
    .cases ‹_=[]›
    .rename_i p k r heq;simp only[aMI,aMl] at heq;obtain⟨⟨rfl,rfl⟩,rfl⟩:=heq;obtain⟨l',hl',rfl⟩:=aLW.1 h;obtain⟨i,off⟩:=p;obtain⟨p,hp,hv⟩:=yX h0.1;exact⟨p,_,hp,by rw[aMQ,hv],ih l' (fun y hy=>hx y (by simp [hy])) hl'⟩
    .cases h
  refine rD.pure hH (v:= .func (.func f) #[] (caps.map a.eval)) ?_ (.inr ⟨rfl,caps.toList.map a.eval,key _ _ hρ hc,by congr 2;apply aMV.1;simp⟩);simp [execOp,ho,Instr.makeFunc]
end
theorem WL {α:Type}{l:List α}{m n:Int}(h0:0≤m) (h1:m≤n) (h2:n≤(l.length:Int)):(sD l m n).length=n.toNat-m.toNat:=by
  unfold sD;rw[aMd,aL8];omega
theorem a6P {α:Type}{R:α→pN→Prop}{c:Nat}: ∀{l:List α}{cs:pN}{i:Nat}{x:α},tV R c l cs→l[i]? =some x→∃c1 c2 c3,cs=c1++c2++c3∧c1.length=i*c∧c2.length=c∧R x c2
  | y::l,_,0,x,⟨c1,c2,e,h1,h2,h3⟩,h=>by
    simp only[aMm,aLO] at h;subst h;exact⟨[],c1,c2,by simpa using e,by simp,h1,h2⟩
  | y::l,_,i+1,x,⟨c1,c2,e,h1,h2,h3⟩,h=>by
    simp only[aMx] at h;obtain⟨d1,d2,d3,e1,e2,e3,e4⟩:=a6P h3 h;exact⟨c1++d1,d2,d3,by rw[e,e1];simp,by rw[aLT,h1,e2,aMX];omega,e3,e4⟩
theorem aEL {t:Ty}{l:List t.den}{i:Int}(h0:0≤i) (h:i.toNat<l.length):l[i.toNat]? =some (qW t l i):=by
  unfold qW;rw[aMr,aLZ h];rfl
theorem KO {α:Type}{R:α→pN→Prop}{w:pR}{S:Nat→Nat→Prop}{c b:Nat}: ∀{l:List α}{o:Nat}{cs:pN},tV R c l cs→w.rangeAt b o cs→(∀j,j<l.length*c→S b (o+j))→y4 R w S c b o l
  |[],_,_,_,_,_=>trivial
  | x::l,o,cs,⟨c1,c2,e,h1,h2,h3⟩,hr,hS=>by
    subst e;refine⟨⟨c1,h1,fun j v hv=>hr j v (by rw[aL4 (aL1.1 hv).1];exact hv),fun j hj=>hS j (by rw[aLY,aMX];omega),h2⟩,KO h3 (fun j v hv=> ?_) (fun j hj=> ?_)⟩
    · have:=hr (c+j) v (by rw[aL0 pG,h1,aMC];exact hv)
      rwa [←aMy] at this
    · have:=hS (c+j) (by rw[aLY,aMX];omega)
      rwa [←aMy] at this
theorem WM {u0:Ty}{l:List u0.den}: ∀{t:Ty}{x:t.den}{q: Σ t:Ty,t.den},yS u0 l t x=some q→q.1.cells=t.cells:=by
  intro t
  induction t with
  | rl e u=>
    intro x q h;cases x with
    |none=>cases h
    | some p=>
      simp only[yS,VG] at h;split at h
      .cases h;rfl
      .cases h
  | pair a b iha ihb=>
    intro x q h;simp only[yS] at h;cases hf:AL a x.1 with
    | some p=>
      rw[hf] at h;cases hq:yS u0 l a x.1 with
      |none=>rw[hq] at h;cases h
      | some r=>
        obtain⟨a',x'⟩:=r;rw[hq] at h;simp only[I9,aLO] at h;subst h;have:=iha hq;simp only[Ty.cells] at this|-;omega
    | none=>
      rw[hf] at h;cases hq:yS u0 l b x.2 with
      |none=>rw[hq] at h;simp [I9] at h
      | some r=>
        obtain⟨b',y'⟩:=r;rw[hq] at h;simp only[I9,aLO] at h;subst h;have:=ihb hq;simp only[Ty.cells] at this|-;omega
  |_=>intro x q h;simp [yS] at h
theorem aEM {g:Gh}{w:pR}{k n:Nat}{u0:Ty}{l:List u0.den}(hk: ∀cs,DW g (some (k,n)) cs→Rd g w (.list u0) l cs): ∀{t:Ty}{x:t.den}{cs:pN}{q: Σ t:Ty,t.den},AL t x=some (k,n)→yS u0 l t x=some q→Rd g w t x cs→Rd g w q.1 q.2 cs:=by
  intro t
  induction t with
  | rl e u=>
    intro x cs q hf h r;simp only[AL] at hf;subst hf;simp only[yS,VG] at h;split at h
    · cases h
      exact hk _ r
    .cases h
  | pair a b iha ihb=>
    intro x cs q hf h r;obtain⟨c1,c2,e,r1,r2⟩:=r;simp only[AL] at hf;simp only[yS] at h;cases hfa:AL a x.1 with
    | some p=>
      rw[hfa] at h hf;simp only[VF,aLO] at hf;subst hf;cases hq:yS u0 l a x.1 with
      |none=>rw[hq] at h;cases h
      | some z=>
        obtain⟨a',x'⟩:=z;rw[hq] at h;simp only[I9,aLO] at h;subst h;exact⟨c1,c2,e,iha hfa hq r1,r2⟩
    | none=>
      rw[hfa] at h hf;simp only[VF] at hf;cases hq:yS u0 l b x.2 with
      |none=>rw[hq] at h;simp [I9] at h
      | some z=>
        obtain⟨b',y'⟩:=z;rw[hq] at h;simp only[I9,aLO] at h;subst h;exact⟨c1,c2,e,r1,ihb hf hq r2⟩
  |_=>intro x cs q hf;simp [AL] at hf
theorem aEN {g:Gh}{w:pR}{H:s0}(hH:sG g w H) {k i:Nat}{e:TypeId}{t:Ty}{l:List t.den}{n:Nat}(hk:qD H k=some (.row e t l n)) {u:Ty}{x:u.den}{toks:pL}(hi:qD H i=some (.cells u x toks)) (hfr:AL u x=some (k,n)) {q: Σ t:Ty,t.den}(hq:yS t l u x=some q):
    ∃ g',sG g' w (qP [(i,q9.cells q.1 q.2 []),(k,q9.grow e t.cells (List.length l))] H)∧g'.J=g.J∧
      ∀side s rds v,GB rds=true→rJ g' w s v→yV g w H ⟨side,s,[(i,q9.cells q.1 q.2 []),(k,q9.grow e t.cells (List.length l))],rds⟩ g' w v:=by
  obtain⟨hl,v,xs,hv,hown,hF,hnone,hseal⟩:=hH.blk k _ hk
  let g':Gh:={g with S:=fun b o=>g.S b o∨(v.ownBlock=some b∧o<n*t.cells)}
  have le:Le g w g' w:=⟨fun _ _ h=> .inl h,fun _ _ _=>rfl,fun _ _ h=>h,fun _ _ _ h=>h⟩;have hown2: ∀b,v.ownBlock=some b→∀o,sA g k (.row e t l n) b o:=fun b hb o=>⟨v,hv,hb⟩
  have hlist: ∀u,g.cur k n=some u→((u= .slice none 0 0∧n=0)∨∃b cap,u= .slice (some ⟨b,0,none⟩) n cap∧n≤cap)→tJ g' w (.list t) l u:=by
    intro u hu hshape;rw[hv] at hu;obtain rfl:=aLS hu;rcases hshape with⟨rfl,h0⟩ |⟨b,cap,rfl,hcap⟩
    · have:l=[]:=aMo (by rw[hl,h0])
      subst this;exact .inr ⟨rfl,none,0,rfl,aMc _,.inl rfl⟩
    · refine .inr ⟨rfl,some ⟨b,0,none⟩,cap,by rw[hl],by rw[hl];exact hcap,.inr ⟨b,0,rfl,KO (C7 (fun _ _ h=>wU le h) hF) (fun j u hu=> ?_) (fun j hj=> ?_)⟩⟩
      · have:=hown.cells (g:=b) rfl j u hu
        rwa [aM6] at this
      · right
        exact⟨rfl,by rw[hl] at hj;omega⟩
  have hik:i≠k:=fun e1=>by rw[e1,hk] at hi;cases hi
  obtain⟨p0,cs0,hp0,hR0,hra0,hth0,hns0,_⟩:=hH.blk i _ hi
  let b':q9:= .cells q.1 q.2 []
  let H':s0:=(i,b')::(k,q9.grow e t.cells (List.length l))::H
  have hget: ∀i' b,qD H' i'=some b→(i'=i∧b=b')∨(i'=k∧b= .grow e t.cells (List.length l))∨(i'≠k∧i'≠i∧qD H i'=some b):=by
    intro i' b hb;simp only[H',qD] at hb;split at hb
    .rename_i e1;exact .inl ⟨e1.symm,(aLS hb).symm⟩
    · rename_i e1
      split at hb
      .rename_i e2;exact .inr (.inl ⟨e2.symm,(aLS hb).symm⟩)
      .rename_i e2;exact .inr (.inr ⟨Ne.symm e2,Ne.symm e1,hb⟩)
  have howns: ∀i' b bb o,qD H' i'=some b→sA g' i' b bb o→∃b0,qD H i'=some b0∧sA g i' b0 bb o:=by
    intro i' b bb o hb ho;rcases hget i' b hb with⟨rfl,rfl⟩ |⟨rfl,rfl⟩ |⟨_,_,h1⟩
    · obtain⟨p,hp,e1,e2,e3⟩:=ho
      rw[WM hq] at e3;exact⟨_,hi,p,hp,e1,e2,e3⟩
    · obtain⟨u,hu,hub⟩:=ho
      have hu':g.cur i' (List.length l)=some u:=hu;rw[hl] at hu';exact⟨_,hk,u,hu',hub⟩
    .exact⟨b,h1,(yW (g':=g') (g:=g) rfl rfl).1 ho⟩
  have hheap:sG g' w H':=by
    refine⟨fun i' b hb=> ?_,fun i' j bi bj b o hij h1 h2 o1 o2=> ?_,fun b o hS=> ?_,hH.tab.1,fun i' b bb oo hb ho=>by
      obtain⟨c1,k1,k2⟩:=howns i' b bb oo hb ho;exact hH.tab.2 i' c1 bb oo k1 k2⟩
    · rcases hget i' b hb with⟨rfl,rfl⟩ |⟨rfl,rfl⟩ |⟨hne,_,h1⟩
      · have hk2: ∀cs,DW g' (some (k,n)) cs→Rd g' w (.list t) l cs:=by
          rintro cs ⟨v1,z1,z2,z3⟩;rw[z2];exact A4 rfl (hlist v1 z1 z3)
        refine⟨p0,cs0,hp0,aEM (n:=n) hk2 hfr hq (wU le hR0),hra0,?_,?_,fun _ _ hm=>by cases hm⟩
        .rw[WM hq];exact⟨hth0.1,hth0.2⟩
        · rw[WM hq]
          intro j hj hS;rcases hS with hS|hS
          .exact hns0 j hj hS
          .exact hH.dis i' k _ _ p0.1 (p0.2+j) hik hi hk ⟨p0,hp0,rfl,pG,pG⟩ (hown2 _ hS.1 _)
      · refine⟨v,xs,by rw[hl];exact hv,by rw[hl];exact hown,fun m hm=>hnone m (by rw[hl] at hm;exact hm),fun b hb o hS=> ?_⟩
        rw[hl];rcases hS with hS|hS
        .exact absurd hS (hseal b hb o)
        .exact hS.2
      .exact KM (hH.blk i' b h1) le rfl rfl (fun _ _ _=>⟨rfl,rfl⟩) (fun _ _=>rfl) (fun bb o ho hS=>by
          rcases hS with hS|hS
          .exact hS
          .exact absurd (hown2 bb hS.1 o) (fun h5=>hH.dis i' k b _ bb o hne h1 hk ho h5)) (fun _ _ _ _ h=>h)
    · obtain⟨c1,k1,k2⟩:=howns i' bi b o h1 o1
      obtain⟨c2,k3,k4⟩:=howns j bj b o h2 o2;exact hH.dis i' j c1 c2 b o hij k1 k3 k2 k4
    · rcases hS with hS|hS
      .exact hH.sl b o hS
      .exact NF hown hS.1
  refine⟨g',hheap,rfl,fun side s rds vv hre hs=>⟨le,hs,hheap,⟨rfl,rfl,rfl,aMc _,fun _ _ _=>rfl,fun _ _ _ _=>⟨rfl,rfl⟩,fun b o hS=> ?_,fun _ _ h=> .inl h⟩,fun i' blk b o hm hg ho=> ?_,fun _ _=>⟨rfl,rfl⟩,fun h=>by rw[hre] at h;cases h⟩⟩
  · rcases hS with hS|hS
    .exact .inl hS
    .exact .inr (.inr ⟨k,_,by simp [qG],hk,hown2 b hS.1 o⟩)
  · obtain⟨b0,k1,k2⟩:=howns i' blk b o hg ho
    exact .inr ⟨i',b0,hm,k1,k2⟩
section
variable {P:Program}{o:Oper}{a:Act}{g:Gh}{w:pR}{H:s0}{T:sM}(hT:wV P T) (hH:sG g w H)
include hT hH
theorem NK {t:TypeId}{ti:TI}(hty:tW P t ti) {x:ti.ty.den}{b off:Nat}{cs:pN}(hra:w.rangeAt b off cs) (hR:Rd g w ti.ty x cs):
    ∃v,(Instr.loadAt t (.pointer (some ⟨b,off,none⟩))).run P w= .ok v w∧tJ g w ti.ty x v∧v.cells.toList=cs:=by
  obtain⟨d,hd,hrow⟩:=S0 hty;obtain⟨i,hi,hsz,_⟩:=CZ hty;have hl:=sV hR;by_cases hr:ti.ty.isRow=true
  .refine⟨.agg cs.toArray,run_loadAt_mid w b off t cs d hra hd (by rw[hrow,hr]) (by rw[hi,Option.map_some,hsz,hl]),.inl ⟨hr,cs,rfl,hR⟩,by simp [Value.cells]⟩
  · have hr':ti.ty.isRow=false:=by simpa using hr
    have h1:ti.ty.cells=1:=by
      obtain⟨ty,el,by',ar,ls⟩:=ti;cases ty<;>first|rfl|(simp [Ty.isRow] at hr')
    obtain⟨v,rfl⟩: ∃v,cs=[v]:=by rw[h1] at hl;exact aM9.1 hl
    have hv1:=A3 hR v pI;refine⟨v,?_,.inr ⟨hr',hR⟩,by cases v<;>first|rfl|(simp [Value.oneCell'] at hv1)⟩
    have hc:w.cell? ⟨b,off,none⟩=some v:=by simpa using hra 0 v rfl
    have hagg:(isAgg t).run P w= .ok false w:=by
      unfold isAgg;rw[aL2,aMa hd w];rw[hr'] at hrow;cases d<;>simp_all [TypeDesc.isRow]
    simp [Instr.loadAt,Instr.sureAddr,loadVar,aL2,hagg,hc]
theorem KP {b off:Nat}{c1 c2 c3:pN}(h:w.rangeAt b off (c1++c2++c3)):w.rangeAt b (off+c1.length) c2:=fun j v hj=>by
  have:=h (c1.length+j) v (by
    have hj':=(aL1.1 hj).1;rw[aLV,aL0 pG,aMC,aL4 hj'];exact hj)
  rw[aMy];exact this
theorem a6Q {k n c:Nat}{i:Int}{o':Nat}{v:pS}(hx:zH g w (.elt k n c i o') v) {e:TypeId}{t:Ty}{l:List t.den}{m:Nat}(hk:qD H k=some (.row e t l m)) (hnm:n=m) (hc:c=t.cells):
    ∃ b cap xs c1 c2 c3,v= .pointer (some ⟨b,i.toNat*c+o',none⟩)∧g.cur k m=some (.slice (some ⟨b,0,none⟩) m cap)∧w.ownsRow 0 e t.cells (.slice (some ⟨b,0,none⟩) m cap) m xs∧tV (Rd g w t) t.cells l xs∧l.length=m∧i.toNat<l.length∧0≤i∧
      xs=c1++c2++c3∧c1.length=i.toNat*c∧c2.length=c∧Rd g w t (qW t l i) c2:=by
  subst hnm;subst hc;obtain⟨b,cap,h1,h2,h3,hv⟩:=hx;obtain⟨hl,v0,xs,hv0,hown,hF,hnone,hseal⟩:=hH.blk k _ hk;rw[h1] at hv0;obtain rfl:=aLS hv0;have hi:i.toNat<l.length:=by rw[hl];omega
  obtain⟨c1,c2,c3,e1,e2,e3,e4⟩:=a6P hF (aEL h2 hi);exact⟨b,cap,xs,c1,c2,c3,hv,h1,hown,hF,hl,hi,h2,e1,e2,e3,e4⟩
theorem aEO {e:TypeId}{c n:Nat}{q cap:Nat}{xs:pN}(h:w.ownsRow 0 e c (.slice (some ⟨q,0,none⟩) n cap) n xs):w.rangeAt q 0 xs:=fun j u hu=>by
  have:=h.cells (g:=q) rfl j u hu;rwa [aM6] at this
theorem aEP {t:TypeId}{ti:TI}(hst:rK T t=some ti) {k n c:Nat}{i:Int}{o':Nat}{vx:pS}(hx:zH g w (.elt k n c i o') vx) {e:qH}(hr:N0 ti.ty k n c i o' (qD H k)=some e) (hs: ∀p∈e.side,p):
    ∃v,(Instr.loadAt t vx).run P w= .ok v w∧rJ g w e.slot v∧e.upd=[]:=by
  generalize hk:qD H k=ob at hr;unfold N0 at hr;split at hr
  · rename_i e' t' l m
    split at hr
    · rename_i hc
      generalize hga:rC ti.ty t' (qW t' l i) o'=oy at hr;cases oy with
      |none=>cases hr
      | some y=>
        cases hr;have hnm:=hs _ (aL6.2 rfl);obtain⟨b,cap,xs,c1,c2,c3,hv,hcur,hown,hF,hl,hi,h0,e1,e2,e3,e4⟩:=a6Q hT hH hx hk hnm hc;obtain⟨d1,d2,d3,f1,f2,f3⟩:=CW e4 hga;have hra:=aEO hT hH hown;rw[e1] at hra;have hra2:=KP hT hH hra;rw[f1] at hra2;have hra3:=KP hT hH hra2;rw[aMs,e2,f2] at hra3;obtain⟨v,h1,h2,_⟩:=NK hT hH (tD hT hst) hra3 f3;exact⟨v,by rw[hv];exact h1,⟨h2,trivial⟩,rfl⟩
    .cases hr
  .cases hr
theorem WN: ∀{toks:pL}{q k:Nat},wS toks q=some k→(q,k)∈toks
  |[],_,_,h=>by simp [wS] at h
  | (q',k')::r,q,k,h=>by
    simp only[wS] at h;split at h
    · rename_i e
      subst e;simp only[aLO] at h;subst h;simp
    .exact aL5 _ (WN h)
theorem a6R {u v:Ty}: ∀{t:Ty}{x:t.den}{q:Nat}{l:List u.den}{y:v.den},rC (.list u) t x q=some l→rC v t x q=some y→v.isRow=false→∃h:v= .list u,uF h y=l:=by
  intro t
  induction t with
  | pair s t ihs iht=>
    intro x q l y h1 h2 hv
    have key: ∀q,(if q<s.cells then rC (.list u) s x.1 q else rC (.list u) t x.2 (q-s.cells))=some l→(if q<s.cells then rC v s x.1 q else rC v t x.2 (q-s.cells))=some y→∃h:v= .list u,uF h y=l:=by
      intro q h1 h2;by_cases hq:q<s.cells
      .rw[aLQ hq] at h1 h2;exact ihs h1 h2 hv
      .rw[aLU hq] at h1 h2;exact iht h1 h2 hv
    cases q with
    | zero=>
      have e1:Ty.pair s t≠.list u:=by intro h;cases h
      have e2:Ty.pair s t≠v:=by intro h;subst h;simp [Ty.isRow] at hv
      unfold rC at h1 h2;rw[aNr e1] at h1;rw[aNr e2] at h2;exact key 0 (by simpa using h1) (by simpa using h2)
    |succ q=>exact key (q+1) (by simpa[rC] using h1) (by simpa[rC] using h2)
  | _=>
    intro x q l y h1 h2 hv;cases q with
    | zero=>
      unfold rC at h1 h2;split at h1
      · rename_i e1
        split at h2
        · rename_i e2
          first
          |(cases e1;done)
          | (subst e2
             injection e1 with e1'
             subst e1';simp only[uF,aLO] at h1 h2;subst h1;subst h2;exact⟨rfl,rfl⟩)
        .simp at h2
      .simp at h1
    |succ q=>simp [rC] at h1
theorem aEQ {t:TypeId}{ti:TI}(hty:tW P t ti) (hr:ti.ty.isRow=false) {b off:Nat}{v:pS}(hc:w.cell? ⟨b,off,none⟩=some v):
    (Instr.loadAt t (.pointer (some ⟨b,off,none⟩))).run P w= .ok v w:=by
  obtain⟨d,hd,hrow⟩:=S0 hty
  have hagg:(isAgg t).run P w= .ok false w:=by
    unfold isAgg;rw[aL2,aMa hd w];rw[hr] at hrow;cases d<;>simp_all [TypeDesc.isRow]
  simp [Instr.loadAt,Instr.sureAddr,loadVar,aL2,hagg,hc]
omit hT hH in
theorem a6S {a b:Option qH}{e:qH}(h:orE a b=some e):a=some e∨b=some e:=by
  cases a with
  |some r=>exact .inl h
  |none=>exact .inr h
omit hT hH in
theorem a6T {H:List (Nat×q9)}{t:Ty}{i off:Nat}{b:Option q9}{x:Option qH}{e:qH}(h:orS H t i off b x=some e):x=some e∨(x=none∧GG H t i off b=some e):=by
  cases x with
  |some r=>exact .inl h
  |none=>exact .inr ⟨rfl,h⟩
theorem aER {t:TypeId}{ti:TI}{x:Operand}(ho:o.op= .load t x) (hs:rK T t=some ti) {i off:Nat}(hx:tJ g w .ref (some (i,off)) (a.eval x)) {e:qH}(hr:QV i off ti (qD H i)=some e):rD P o a g w H e:=by
  have hty:=tD hT hs;generalize hb:qD H i=ob at hr;unfold QV at hr;split at hr
  · rename_i u el _ _ _ v x' toks
    generalize hga:rC (.rl el u) v x' off=oy at hr;unfold VE at hr;split at hr
    · rename_i k n
      cases hr;obtain⟨p,hp,hv⟩:=yX hx;obtain⟨p',cs,hp',hR,hra,_⟩:=hH.blk i _ hb;rw[hp] at hp';obtain rfl:=aLS hp';obtain⟨c1,c2,c3,rfl,rfl,hR2⟩:=CW hR hga;obtain⟨v0,hcur,rfl,hsh⟩:=hR2;have hc:w.cell? ⟨p.1,p.2+c1.length,none⟩=some v0:=by simpa using KP hT hH hra 0 _ rfl
      have h1:=aEQ (P:=P) hT hH hty rfl hc;exact rD.value (v:=v0) (g':=g) (w':=w) (by simp only[execOp,ho,hv,aL2,h1,aLX,aMf]) (.pure hH ⟨⟨hcur,hsh⟩,trivial⟩)
    .cases hr
  .cases hr
theorem aES {t:TypeId}{ti:TI}{x:Operand}(ho:o.op= .load t x) (hs:rK T t=some ti) {i off:Nat}(hx:tJ g w .ref (some (i,off)) (a.eval x)) {e:qH}(hr:GG H ti.ty i off (qD H i)=some e) (hside: ∀p∈e.side,p):rD P o a g w H e:=by
  have hty:=tD hT hs;generalize hb:qD H i=ob at hr;unfold GG at hr;split at hr
  case h_2=>cases hr
  rename_i v z toks;generalize hf:AL v z=of at hr;cases of with
  |none=>cases hr
  | some kn=>
    obtain⟨k,n0⟩:=kn;simp only[QX] at hr;generalize hk:qD H k=ok at hr;unfold QW at hr;split at hr
    case h_2=>cases hr
    rename_i el u0 l m;generalize hz:yS u0 l v z=oq at hr;cases oq with
    |none=>cases hr
    |some q=>
    obtain⟨v',x'⟩:=q;simp only[VI] at hr;generalize hga:rC ti.ty v' x' off=oy at hr;cases oy with
    |none=>cases hr
    | some y=>
      simp only[VH,aLO] at hr;subst hr;have hnm:n0=m:=hside _ (aL6.2 rfl);subst hnm;obtain⟨g',hH',hJ,heff⟩:=aEN hH hk hb hf hz;obtain⟨p,hp,hv⟩:=yX hx;obtain⟨p',cs,hp',hR,hra,_,_,_⟩:=hH'.blk i (.cells v' x' []) (by simp [qP,qD]);rw[hJ,hp] at hp';obtain rfl:=aLS hp';obtain⟨c1,c2,c3,rfl,rfl,hR2⟩:=CW hR hga;obtain⟨v0,h1,h2,_⟩:=NK hT hH' hty (KP hT hH' hra) hR2;exact rD.valueW (v:=v0) (g':=g') (w':=w) (by simp only[execOp,ho,hv,aL2,h1,aLX,aMf]) (heff _ _ _ _ rfl ⟨h2,trivial⟩)
theorem aET {t:TypeId}{x:Operand}(ho:o.op= .load t x) {sx:qC}(hx:rJ g w sx (a.eval x)) {e:qH}(hr:QY H (rK T t) sx=some e) (hside: ∀p∈e.side,p):rD P o a g w H e:=by
  generalize hs:rK T t=ot at hr;replace hx:=hx.1;unfold QY at hr;split at hr
  · rename_i ti k n c i o' _
    obtain⟨v,h1,h2,h3⟩:=aEP hT hH hs hx hr hside;obtain⟨side,slot,upd,rds⟩:=e;simp only at h2 h3;subst h3;exact rD.value (v:=v) (g':=g) (w':=w) (by simp only[execOp,ho,aL2,h1,aLX,aMf]) (.pure hH h2)
  · rename_i ti u y k
    split at hr
    · rename_i hu
      subst hu;cases hr;have hty:=tD hT hs;obtain⟨b,off,cs,hv,hra,hS,hR⟩:=hx;obtain⟨v,h1,h2,_⟩:=NK hT hH hty hra hR;exact rD.pure hH (v:=v) (by simp only[execOp,ho,hv,aL2,h1,aLX,aMf]) h2
    .cases hr
  · rename_i ti i off k
    rcases a6T hr with hr|⟨_,hr⟩
    case inr=>exact aES hT hH ho hs hx hr hside
    rcases a6S hr with hr|hr
    case inr=>exact aER hT hH ho hs hx hr
    have hty:=tD hT hs;generalize hb:qD H i=ob at hr;unfold MZ at hr;split at hr
    · rename_i u z toks
      generalize hga:rC ti.ty u z off=oy at hr;cases oy with
      |none=>cases hr
      | some y=>
        cases hr;obtain⟨p,hp,hv⟩:=yX hx;obtain⟨p',cs,hp',hR,hra,_,_,htk⟩:=hH.blk i _ hb;rw[hp] at hp';obtain rfl:=aLS hp';obtain⟨c1,c2,c3,rfl,rfl,hR2⟩:=CW hR hga;obtain⟨v,h1,h2,h3⟩:=NK hT hH hty (KP hT hH hra) hR2;refine rD.value (v:=v) (g':=g) (w':=w) (by simp only[execOp,ho,hv,aL2,h1,aLX,aMf]) (.pure hH ⟨h2,?_⟩);obtain⟨ty,el,by',ar,ls⟩:=ti;cases ty with
        | list u'=>
          simp only[DQ];generalize htt:wS toks c1.length=ok;cases ok with
          |none=>trivial
          | some k=>
            obtain⟨u2,l,v',g1,g2,g3⟩:=htk _ _ (WN hT hH htt);obtain⟨heq,hl⟩:=a6R hT hH g1 hga rfl;injection heq with heq'
            subst heq';have hlen:=sV hR2;obtain⟨v2,rfl⟩:=aM9.1 hlen
            have e2:v'=v2:=by
              have e:(c1++[v2]++c3)[c1.length]? =some v2:=by simp
              rw[e] at g2;exact(aLS g2).symm
            have e3:v=v2:=by
              have h4:=A4 rfl h2;have hone:=A3 h4 v pI;have:v.cells= #[v]:=by cases v<;>first|rfl|(simp [Value.oneCell'] at hone)
              rw[this] at h3;simpa using h3
            subst e2;subst e3;have e4:(y:List u'.den)=l:=hl;subst e4;exact g3
        |_=>trivial
    .cases hr
  .cases hr
theorem S5 {ρ:Operand→qC}{x:Option Operand}{n m:Int}(hρ: ∀y∈x.toList,rJ g w (ρ y) (a.eval y)) (h:CQ (yT ρ x) n=some m):(x=none∧m=n)∨∃y k,x=some y∧a.eval y= .int k m:=by
  cases x with
  |none=>simp only[yT,CQ,aLO] at h;exact .inl ⟨rfl,h.symm⟩
  | some y=>
    have h0:=hρ y pI;simp only[yT] at h;unfold CQ at h;split at h
    .cases ‹some _=none›
    · rename_i k q kk heq
      simp only[aLO] at heq h;rw[heq] at h0;subst h;exact .inr ⟨y,k,rfl,w7 h0.1⟩
    .cases h
theorem a6U {isSlice:Bool}{len cap:Nat}{lo hi:Option Operand}{m n:Int}(hlo:(lo=none∧m=0)∨∃y k,lo=some y∧a.eval y= .int k m) (hhi:(hi=none∧n=(len:Int))∨∃y k,hi=some y∧a.eval y= .int k n)
    (h0:0≤m) (h1:m≤n) (h2:n≤(len:Int)) (h3:len≤cap):(Instr.sliceBounds isSlice len cap (lo.map a.eval) (hi.map a.eval) none).run P w= .ok (m.toNat,n.toNat,cap) w:=by
  have e1:(n.toNat:Int)=n:=Int.toNat_of_nonneg pG;rcases hlo with⟨rfl,rfl⟩ |⟨y,k,rfl,hy⟩<;>rcases hhi with⟨rfl,rfl⟩ |⟨z,k',rfl,hz⟩
  .simp [Instr.sliceBounds]
  .simp [Instr.sliceBounds,hz,run_sliceBound,(by omega:0≤n),(by omega:n≤(cap:Int))]
  .simp [Instr.sliceBounds,hy,run_sliceBound,h0,h1]
  .simp [Instr.sliceBounds,hy,hz,run_sliceBound,(by omega:0≤n),(by omega:n≤(cap:Int)),e1,h0,h1]
theorem aEU {t:TypeId}{x:Operand}{lo hi:Option Operand}(ho:o.op= .slice t x lo hi none) {ρ:Operand→qC}(hx:rJ g w (ρ x) (a.eval x)) (hlo: ∀y∈lo.toList,rJ g w (ρ y) (a.eval y)) (hhi: ∀y∈hi.toList,rJ g w (ρ y) (a.eval y)) {e:qH}
    (hr:zX (UY (rK T t) (ρ x) (yT ρ lo) (yT ρ hi))=some e) (hs: ∀p∈e.side,p):rD P o a g w H e:=by
  obtain⟨q,hq,rfl⟩:=GP hr;replace hx:=hx.1;generalize hst:rK T t=ot at hq;generalize hsx:ρ x=sx at hq hx;unfold UY at hq;split at hq
  · rename_i el by' ar ls_ l k
    generalize hb1:CQ (yT ρ lo) 0=o1 at hq;generalize hb2:CQ (yT ρ hi) (List.length l)=o2 at hq;unfold QE at hq;split at hq
    · rename_i m n
      cases hq;obtain⟨k1,k2,k3⟩:=hs _ (aL6.2 rfl);have h2:=(tD hT hst).2;simp only[xP] at h2;have hv:=wG hx;have hbd:=a6U (P:=P) (isSlice:=false) (cap:=List.length l) hT hH (S5 hT hH hlo hb1) (S5 hT hH hhi hb2) k1 k2 k3 (aMc _);refine rD.pure hH (v:= .string ⟨(sD l m n).toArray⟩) ?_ (DY _ _ _);have hsz:(⟨List.toArray l⟩:ByteArray).size=List.length l:=by simp [ByteArray.size]
      have hext:(⟨List.toArray l⟩:ByteArray).extract m.toNat n.toNat=⟨(sD l m n).toArray⟩:=by
        apply ByteArray.ext;apply aMV.1;simp [sD]
      simp only[execOp,ho,hv,Option.map_none,Instr.sliceAt,Instr.slice,aL2,aMa h2,aLX,Option.isSome_none,aNt,aNT,hsz,hbd,hext,aMf]
    .cases hq
  · rename_i u el by' ar ls_ t1 l k
    split at hq
    · rename_i htu
      subst htu;generalize hb1:CQ (yT ρ lo) 0=o1 at hq;generalize hb2:CQ (yT ρ hi) (List.length l)=o2 at hq;unfold QE at hq;split at hq
      · rename_i m n
        cases hq;obtain⟨k1,k2,k3⟩:=hs _ (aL6.2 rfl);obtain⟨h2,h3,_⟩:=(tD hT hst).2;obtain⟨ei,hei,hz⟩:=aLW.1 h3;simp only[aMl] at hz;obtain⟨ad,cap,hv,hle,hl⟩:=CY hx;have hbd:=a6U (P:=P) (isSlice:=true) (cap:=cap) hT hH (S5 hT hH hlo hb1) (S5 hT hH hhi hb2) k1 k2 k3 hle;refine rD.pure hH (v:= .slice (if cap=m.toNat then ad else ad.map (·.add (m.toNat*t1.cells))) (n.toNat-m.toNat) (cap-m.toNat)) ?_ (.inr ⟨rfl,(if cap=m.toNat then ad else ad.map (·.add (m.toNat*t1.cells))),cap-m.toNat,?_,?_,?_⟩)
        .simp only[execOp,ho,hv,Option.map_none,Instr.sliceAt,Instr.slice,aL2,aMa h2,aLX,hbd,sizeOf,typeInfo,aMP,hei,hz.1,aMf]
        .rw[WL k1 k2 k3]
        .rw[WL k1 k2 k3];omega
        · rcases hl with rfl|⟨b,off,rfl,hL⟩
          .exact .inl (by simp [sD])
          · by_cases hc:cap=m.toNat
            · left
              apply aMo;rw[WL k1 k2 k3];omega
            · right
              rw[aLU hc];refine⟨b,off+m.toNat*t1.cells,by simp [aM6],?_⟩;exact a6E _ (a6D _ hL pG)
      .cases hq
    .cases hq
  .cases hq
end
theorem NL {α:Type}{R:α->pN->Prop}{c:Nat}(hR: ∀x cs,R x cs->∀v∈cs,v.oneCell'=true): ∀{l:List α}{cs:pN},tV R c l cs->∀v∈cs,v.oneCell'=true
 |[],_,h=>by rw[h];simp
 |_::_,_,⟨c1,c2,e,_,h2,h3⟩=>by
  subst e;intro v hv;rcases aML.1 hv with h|h
  .exact hR _ _ h2 v h
  .exact NL hR h3 v h
theorem WO {α:Type}{R:α->pN->Prop}{c:Nat}: ∀{l:List α}{cs cy:pN}{i:Nat}{y:α},tV R c l cs->R y cy->cy.length=c->i<l.length->
  ∃c1 c2 c3,cs=c1++c2++c3/\c1.length=i*c/\c2.length=c/\tV R c (l.set i y) (c1++cy++c3)
 |[],_,_,_,_,_,_,_,h=>by simp at h
 |_::l,_,cy,0,y,⟨c1,c2,e,h1,_,h3⟩,hy,hc,_=>⟨[],c1,c2,by simpa using e,by simp,h1,⟨cy,c2,by simp,hc,hy,h3⟩⟩
 |x::l,_,cy,i+1,y,⟨c1,c2,e,h1,h2,h3⟩,hy,hc,hi=>by
  obtain⟨d1,d2,d3,e1,e2,e3,e4⟩:=WO h3 hy hc (by simpa using hi);refine⟨c1++d1,d2,d3,by rw[e,e1];simp,by rw[aLT,h1,e2,aMX];omega,e3,⟨c1,d1++cy++d3,by simp,h1,h2,e4⟩⟩
theorem KQ {α:Type}{R:α->pN->Prop}{w:pR}{S:Nat->Nat->Prop}{c b:Nat}: ∀{l:List α}{o:Nat},y4 R w S c b o l->∃cs,tV R c l cs/\w.rangeAt b o cs/\∀j,j<l.length*c->S b (o+j)
 |[],o,_=>⟨[],rfl,fun j v h=>by simp at h,fun j h=>by simp at h⟩
 |x::l,o,⟨⟨c1,h1,h2,h3,h4⟩,h5⟩=>by
  obtain⟨c2,k1,k2,k3⟩:=KQ h5;refine⟨c1++c2,⟨c1,c2,rfl,h1,h4,k1⟩,fun j v hv=> ?_,fun j hj=> ?_⟩
  .by_cases hj:j<c
   .exact h2 j v (by rwa [aL4 pG] at hv)
   .have:=k2 (j-c) v (by rw[aL0 pG,h1] at hv;exact hv);rwa [show o+c+(j-c)=o+j from by omega] at this
  .by_cases hj':j<c
   .exact h3 j hj'
   .have:=k3 (j-c) (by rw[aLY,aMX] at hj;omega);rwa [show o+c+(j-c)=o+j from by omega] at this
theorem a6V {g:Gh}{w:pR}{t:Ty}: ∀n,tV (Rd g w t) t.cells (C2 t n) (List.flatten (List.replicate n (uA t)))
 |0=>rfl
 |n+1=>⟨uA t,_,rfl,sV (CX g w t),CX g w t,a6V n⟩
theorem a6W (t:Ty): ∀n,(C2 t n).length=n
 |0=>rfl
 |n+1=>by simp [C2,a6W t n]
def Gh.tok (g:Gh) (k n:Nat) (v:pS):Gh:={g with cur:=fun k' n'=>if k'=k/\n'=n then some v else g.cur k' n'}
def Gh.var (g:Gh) (i b:Nat) (k:Option (TypeId×Nat)):Gh:={g with J:=fun i'=>if i'=i then some ⟨b,0,k⟩ else g.J i'}
def Gh.shut (g:Gh) (b m:Nat):Gh:={g with S:=fun b' o=>g.S b' o\/(b'=b/\o<m)}
section
variable {g:Gh}{w:pR}{H:s0}(hH:sG g w H)
include hH
theorem sB.nilTok {side:List Prop}{d:DV}{rds:pQ}{base e c:Nat}{u:Ty}(hd:d= .val (.list u) []) (hf: ∀n,g.cur base n=none):
  sB g w H ⟨side,(d,some base),[(base,.grow e c 0)],rds⟩ (g.tok base 0 (.slice none 0 0)) w (.slice none 0 0):=by
 have le:Le g w (g.tok base 0 (.slice none 0 0)) w:=⟨fun _ _ h=>h,fun _ _ _=>rfl,fun _ _ h=>h,fun k n v h=>by
  show (if k=base/\n=0 then _ else _)=_;rw[aLU (fun⟨e1,_⟩=>by rw[e1,hf] at h;cases h)];exact h⟩
 have fr:Fr (sW g H (qG [(base,q9.grow e c 0)])) w w g.S (g.tok base 0 (.slice none 0 0)).S:= .refl _ _ _;have gho: ∀i,i∉qG [(base,q9.grow e c 0)]->(g.tok base 0 (.slice none 0 0)).J i=g.J i/\(g.tok base 0 (.slice none 0 0)).cur i=g.cur i:=fun i hi=>⟨rfl,by
  funext n;show (if i=base/\n=0 then _ else _)=_;rw[aLU (fun⟨e1,_⟩=>hi (by simp [qG,e1]))]⟩
 have cur0:(g.tok base 0 (.slice none 0 0)).cur base 0=some (.slice none 0 0):=by simp [Gh.tok]
 have own: ∀i blk b o,i∈qG [(base,q9.grow e c 0)]->qD (qP [(base,q9.grow e c 0)] H) i=some blk->¬sA (g.tok base 0 (.slice none 0 0)) i blk b o:=by
  intro i blk b o hi hg ho;simp only[qG,aL6] at hi;subst hi;simp only[qP,qD,aNo,aLO] at hg;subst hg;obtain⟨v,hv,hb⟩:=ho;rw[cur0] at hv;obtain rfl:=aLS hv;cases hb
 subst hd;refine⟨le,⟨.inr ⟨rfl,none,0,rfl,aMc _,.inl rfl⟩,cur0⟩,hH.upd le fr (fun i blk b o h1 h2 h3=>absurd h3 (own i blk b o h1 h2)) gho (fun i blk hi hg=> ?_) (fun i j bi bj b o hi hj hij hgi hgj hoi hoj=>own i bi b o hi hgi hoi) hH.sl,fr,fun i blk b o h1 h2 h3=>absurd h3 (own i blk b o h1 h2),gho,fun i u' y us h=>by
  simp only[qP,qD] at h;split at h
  .cases h
  .exact .inl ⟨y,us,h⟩⟩
 simp only[qG,aL6] at hi;subst hi;simp only[qP,qD,aNo,aLO] at hg;subst hg;refine⟨.slice none 0 0,[],cur0,World.ownsRow_nil w 0 e c,fun m hm=> ?_,fun b hb=>by cases hb⟩;show (if i=i/\m=0 then _ else _)=_;rw[aLU pG];exact hf m
theorem sB.row {side:List Prop}{rds:pQ}{s:qC}{val:pS}{k:Nat}{e:TypeId}{t:Ty}{l:List t.den}{n:Nat}{v:pS}{xs:pN}{w':pR}
  (hl:l.length=n) (hown:w'.ownsRow 0 e t.cells v n xs) (hF:tV (Rd g w t) t.cells l xs) (hnone: ∀m,n<m->g.cur k m=none) (hcur: ∀u,g.cur k n=some u->u=v)
  (hg:w.grownBy w' (v.ownBlock)\/∃q,w.grownBy w' q/\∀b,q=some b->∀o,sW g H [k] b o)
  (hcell: ∀b o,g.S b o->w'.cell? ⟨b,o,none⟩=w.cell? ⟨b,o,none⟩)
  (hseal: ∀b,v.ownBlock=some b->∀o,¬g.S b o)
  (hperm: ∀b,v.ownBlock=some b->w.heap.size<=b\/∀o,sW g H [k] b o)
  (hslot:rJ (g.tok k n v) w' s val):sB g w H ⟨side,s,[(k,.row e t l n)],rds⟩ (g.tok k n v) w' val:=by
 have le:Le g w (g.tok k n v) w':=⟨fun _ _ h=>h,fun b o h=>hcell b o h,fun _ _ h=>h,fun k' n' v' h=>by
  show (if k'=k/\n'=n then _ else _)=_;by_cases hk:k'=k/\n'=n
  .obtain⟨rfl,rfl⟩:=hk;rw[aLQ ⟨rfl,rfl⟩,hcur _ h]
  .rw[aLU hk];exact h⟩
 have cur1:(g.tok k n v).cur k n=some v:=by simp [Gh.tok]
 have hblk: ∀b,b<w.heap.size->(∀o,¬sW g H (qG [(k,q9.row e t l n)]) b o)->w'.heap[b]? =w.heap[b]? :=by
  intro b hb hno;rcases hg with hg|⟨q,hg,hq⟩
  .refine hg.block b hb (fun e1=> ?_);rcases hperm b e1.symm with h|h
   .omega
   .exact hno 0 (h 0)
  .exact hg.block b hb (fun e1=>hno 0 (hq b e1.symm 0))
 have hgo:w'.os=w.os/\w'.tape=w.tape/\w'.output=w.output/\w.heap.size<=w'.heap.size:=by
  rcases hg with hg|⟨q,hg,_⟩
  .exact⟨hg.os,hg.tape,hg.output,hg.size⟩
  .exact⟨hg.os,hg.tape,hg.output,hg.size⟩
 have hall: ∀b o,sW g H (qG [(k,q9.row e t l n)]) b o->True:=fun _ _ _=>trivial;have hcell2: ∀b o,b<w.heap.size->¬sW g H (qG [(k,q9.row e t l n)]) b o->(w'.cell? ⟨b,o,none⟩=w.cell? ⟨b,o,none⟩/\w'.frozen? ⟨b,o,none⟩=w.frozen? ⟨b,o,none⟩):=by
  intro b o hb hno;have:w'.heap[b]? =w.heap[b]? :=by
   rcases hg with hg|⟨q,hg,hq⟩
   .refine hg.block b hb (fun e1=> ?_);rcases hperm b e1.symm with h|h
    .omega
    .exact hno (h o)
   .exact hg.block b hb (fun e1=>hno (hq b e1.symm o))
  exact⟨aMe (a:=⟨b,o,none⟩) this,aME (a:=⟨b,o,none⟩) this⟩
 have hshape: ∀b s,w.shape? b=some s->w'.shape? b=some s\/∀o,sW g H (qG [(k,q9.row e t l n)]) b o:=by
  intro b s hs;rcases hg with hg|⟨q,hg,hq⟩
  .by_cases e1:v.ownBlock=some b
   .rcases hperm b e1 with h|h
    .have:=BL hs;omega
    .exact .inr h
   .exact .inl ((BM (hg.block b (BL hs) (fun h=>e1 h.symm))).trans hs)
  .by_cases e1:q=some b
   .exact .inr (hq b e1)
   .exact .inl ((BM (hg.block b (BL hs) (fun h=>e1 h.symm))).trans hs)
 have fr:Fr (sW g H (qG [(k,q9.row e t l n)])) w w' g.S (g.tok k n v).S:=⟨hgo.1,hgo.2.1,hgo.2.2.1,hgo.2.2.2,hblk,hcell2,fun b o h=> .inl h,hshape⟩;have gho: ∀i,i∉qG [(k,q9.row e t l n)]->(g.tok k n v).J i=g.J i/\(g.tok k n v).cur i=g.cur i:=fun i hi=>⟨rfl,by
  funext n';show (if i=k/\n'=n then _ else _)=_;rw[aLU (fun⟨e1,_⟩=>hi (by simp [qG,e1]))]⟩
 have get: ∀i blk,i∈qG [(k,q9.row e t l n)]->qD (qP [(k,q9.row e t l n)] H) i=some blk->i=k/\blk= .row e t l n:=by
  intro i blk hi hg;simp only[qG,aL6] at hi;subst hi;simp only[qP,qD,aNo,aLO] at hg;exact⟨rfl,hg.symm⟩
 have perm: ∀i blk b o,i∈qG [(k,q9.row e t l n)]->qD (qP [(k,q9.row e t l n)] H) i=some blk->sA (g.tok k n v) i blk b o->w.heap.size<=b\/sW g H (qG [(k,q9.row e t l n)]) b o:=by
  intro i blk b o hi hgt ho;obtain⟨rfl,rfl⟩:=get i blk hi hgt;obtain⟨v',hv',hb⟩:=ho;rw[cur1] at hv';obtain rfl:=aLS hv';exact(hperm b hb).imp id (fun h=>h o)
 refine⟨le,hslot,hH.upd le fr perm gho (fun i blk hi hgt=> ?_) (fun i j bi bj b o hi hj hij hgi hgj _ _=>hij ((get i bi hi hgi).1.trans (get j bj hj hgj).1.symm)) (fun b o h=>aMu (hH.sl b o h) hgo.2.2.2),fr,perm,gho,fun i u' y us h=>by
  simp only[qP,qD] at h;split at h
  .cases h
  .exact .inl ⟨y,us,h⟩⟩
 obtain⟨rfl,rfl⟩:=get i blk hi hgt;refine⟨hl,v,xs,cur1,hown,C7 (fun _ _ h=>wU le h) hF,fun m hm=> ?_,hseal⟩;show (if i=i/\m=n then _ else _)=_;rw[aLU pG];exact hnone m hm
theorem sB.newVarJ {side:List Prop}{rds:pQ}{base:Nat}{t:Ty}{x:t.den}{toks:pL}{cs:pN}{e:TypeId}(hR:Rd (g.var base w.heap.size (some (e,cs.length))) w t x cs) (htk:F1 g t x cs toks) (hf:g.J base=none) (hc:g.cur base=fun _=>none):
  sB g w H ⟨side,(.val .ref (some (base,0)),none),[(base,.cells t x toks)],rds⟩ (g.var base w.heap.size (some (e,cs.length))) (w.alloc (.cells cs.toArray e)) (.pointer (some ⟨w.heap.size,0,none⟩)):=by
 have hJ:(g.var base w.heap.size (some (e,cs.length))).J base=some ⟨w.heap.size,0,some (e,cs.length)⟩:=by simp [Gh.var]
 have le:Le g w (g.var base w.heap.size (some (e,cs.length))) (w.alloc (.cells cs.toArray e)):=⟨fun _ _ h=>h,fun b o h=>aMe (a:=⟨b,o,none⟩) (aMp _ _ _ (hH.sl b o h)),fun i p h=>by
  show (if i=base then _ else _)=_;rw[aLU (fun e1=>by rw[e1,hf] at h;cases h)];exact h,fun _ _ _ h=>h⟩
 have le2:Le (g.var base w.heap.size (some (e,cs.length))) w (g.var base w.heap.size (some (e,cs.length))) (w.alloc (.cells cs.toArray e)):=⟨fun _ _ h=>h,fun b o h=>aMe (a:=⟨b,o,none⟩) (aMp _ _ _ (hH.sl b o h)),fun _ _ h=>h,fun _ _ _ h=>h⟩;have fr:Fr (sW g H (qG [(base,q9.cells t x toks)])) w (w.alloc (.cells cs.toArray e)) g.S (g.var base w.heap.size (some (e,cs.length))).S:=
  ⟨rfl,rfl,rfl,by simp,fun b hb _=>aMp _ _ _ hb,fun b o hb _=>⟨aMe (a:=⟨b,o,none⟩) (aMp _ _ _ hb),aME (a:=⟨b,o,none⟩) (aMp _ _ _ hb)⟩,fun b o h=> .inl h,fun b s h=> .inl ((BM (aMp _ _ _ (BL h))).trans h)⟩
 have gho: ∀i,i∉qG [(base,q9.cells t x toks)]->(g.var base w.heap.size (some (e,cs.length))).J i=g.J i/\(g.var base w.heap.size (some (e,cs.length))).cur i=g.cur i:=fun i hi=>⟨by
  show (if i=base then _ else _)=_;rw[aLU (fun e1=>hi (by simp [qG,e1]))],rfl⟩
 have get: ∀i blk,i∈qG [(base,q9.cells t x toks)]->qD (qP [(base,q9.cells t x toks)] H) i=some blk->i=base/\blk= .cells t x toks:=by
  intro i blk hi hg;simp only[qG,aL6] at hi;subst hi;simp only[qP,qD,aNo,aLO] at hg;exact⟨rfl,hg.symm⟩
 have perm: ∀i blk b o,i∈qG [(base,q9.cells t x toks)]->qD (qP [(base,q9.cells t x toks)] H) i=some blk->sA (g.var base w.heap.size (some (e,cs.length))) i blk b o->w.heap.size<=b\/sW g H (qG [(base,q9.cells t x toks)]) b o:=by
  intro i blk b o hi hg ho;obtain⟨rfl,rfl⟩:=get i blk hi hg;obtain⟨p,hp,h1,_⟩:=ho;rw[hJ] at hp;obtain rfl:=aLS hp;exact .inl (aNj h1.symm)
 have hl:=sV hR;refine⟨le,⟨.inr ⟨rfl,_,hJ,rfl⟩,trivial⟩,hH.upd le fr perm gho (fun i blk hi hg=> ?_) (fun i j bi bj b o hi hj hij hgi hgj _ _=>hij ((get i bi hi hgi).1.trans (get j bj hj hgj).1.symm)) (fun b o h=>aMu (hH.sl b o h) pI),fr,perm,gho,fun i u' y us h=>by
  simp only[qP,qD] at h;split at h
  .rename_i e1;subst e1;exact .inr ⟨hf,fun n=>by rw[hc]⟩
  .exact .inl ⟨y,us,h⟩⟩
 obtain⟨rfl,rfl⟩:=get i blk hi hg;refine⟨_,cs,hJ,wU le2 hR,fun j v hv=> ?_,⟨fun j hj=> ?_,fun _ s hs=> ?_⟩,fun j _ hs=>aNp _ (hH.sl _ _ hs),a6C le.cur htk⟩
 .simp only[aMs];rw[aNO];simpa using hv
 .simp only[aMs];rw[aNO,World.frozen?_alloc_new];exact⟨by simp;omega,rfl⟩
 .cases hs;show (match (w.heap.push (.cells cs.toArray e))[w.heap.size]? with|some (.cells c elem _)=>some (elem,c.size) |_=>none)=_
  rw[aNF];simp only[aMF]
theorem sB.newVar {side:List Prop}{rds:pQ}{base:Nat}{t:Ty}{x:t.den}{toks:pL}{cs:pN}{e:TypeId}(hR:Rd g w t x cs) (htk:F1 g t x cs toks) (hf:g.J base=none) (hc:g.cur base=fun _=>none):
  sB g w H ⟨side,(.val .ref (some (base,0)),none),[(base,.cells t x toks)],rds⟩ (g.var base w.heap.size (some (e,cs.length))) (w.alloc (.cells cs.toArray e)) (.pointer (some ⟨w.heap.size,0,none⟩)):=
 sB.newVarJ hH (wU (g:=g) (g':=g.var base w.heap.size (some (e,cs.length))) (w:=w) (w':=w) ⟨fun _ _ h=>h,fun _ _ _=>rfl,fun i p h=>by
  show (if i=base then _ else _)=_;rw[aLU (fun e1=>by rw[e1,hf] at h;cases h)];exact h,fun _ _ _ h=>h⟩ hR) htk hf hc
end
theorem WP {P:Program}(w:pR) (t ty e:TypeId) (i:TypeInfo) (z:pS) (size bytes:Nat) (ht:P.underlying t=some (.slice e)) (hi:P.info? e=some i) (hz:i.zero=some z)
  (hsize:i.size=size) (hby:i.bytes=bytes) (hzs:z.cells.size=size)
  (v:pS) (n:Nat) (xs:pN) (hown:w.ownsRow 0 e size v n xs)
  (a:Addr) (m c:Nat) (news:pN) (hl:news.length=m*size) (hnews: ∀j u,news[j]? =some u->w.cell? (a.add j)=some u) (h1: ∀u∈news,u.oneCell'=true) (hm:0<m)
  (h63:n+m<=maxLen) (hbytes:(n+m)*bytes<=140737488355328):
  ∃q cap w',(Builtin.append_ #[t,t] ty #[v,.slice (some a) m c]).run P w= .ok (.slice (some ⟨q,0,none⟩) (n+m) cap) w'/\w'.ownsRow 0 e size (.slice (some ⟨q,0,none⟩) (n+m) cap) (n+m) (xs++news)/\
   (q=w.heap.size\/v.ownBlock=some q)/\w.grownBy w' v.ownBlock/\n+m<=cap/\
   ∀b o,b<w.heap.size->(v.ownBlock=some b->o<n*size)->w'.cell? ⟨b,o,none⟩=w.cell? ⟨b,o,none⟩:=by
 subst hsize;subst hby;have hsmall:n+m<=9223372036854775807:=by simp only[maxLen] at h63;omega
 have hlen:(xs++news).length=(n+m)*i.size:=by rw[aLT,hown.1,hl,Nat.add_mul]
 have grown: ∀(old:Nat),old<n+m->∀(row:pP),
   (w.drew.alloc (.cells (xs.toArray++news.toArray++Builtin.zeroCells z.cells (grownCap w (n+m) old e- (n+m))) e)).ownsRow 0 e i.size
    (.slice (some ⟨w.heap.size,0,none⟩) (n+m) (grownCap w (n+m) old e)) (n+m) (xs++news)/\
   w.grownBy (w.drew.alloc (.cells (xs.toArray++news.toArray++Builtin.zeroCells z.cells (grownCap w (n+m) old e- (n+m))) e)) row/\n+m<=grownCap w (n+m) old e/\
   ∀b o,b<w.heap.size->(w.drew.alloc (.cells (xs.toArray++news.toArray++Builtin.zeroCells z.cells (grownCap w (n+m) old e- (n+m))) e)).cell? ⟨b,o,none⟩=w.cell? ⟨b,o,none⟩:=by
  intro old ho row;have hge:=grownCap_ge w (n+m) old e;have hcm:grownCap w (n+m) old e<=maxLen:=grownCap_le_maxLen w (n+m) old e h63;refine⟨⟨hlen,.inr ⟨w.heap.size,_,_,rfl,aMR _,aNM w.drew _,hge,hcm,?_,?_⟩⟩,⟨rfl,rfl,rfl,by simp,fun k hk _=>aMp w.drew _ k hk⟩,hge,fun b o hb=>aMe (w:=w) (a:=⟨b,o,none⟩) (aMp w.drew _ b hb)⟩
  .simp only[aNL,aMF,size_zeroCells,hzs,hown.1,hl,<-Nat.add_mul];congr 1;omega
  .simp only[Array.toList_append,aLV];rw[<-aLV,<-hlen];exact aM2
 rcases hown.2 with⟨rfl,rfl⟩ |⟨g,cap,cur,rfl,hbg,hg,hnc,hcm,hcs,htake⟩
 .have hx:xs=[]:=aMo (by simpa using hown.1);subst hx;have hr:=run_append_nil (P:=P) w t ty e i z ht hi hz a m c news hl hnews pG pG (by have hb:=hbytes;simp only[aMs] at hb;omega);have hgr:=grown 0 pG (Value.ownBlock (.slice none 0 0));simp only[aMs,List.nil_append,Array.empty_append] at hgr|-;exact⟨_,_,_,hr,hgr.1,.inl rfl,hgr.2.1,hgr.2.2.1,fun b o hb _=>hgr.2.2.2 b o hb⟩
 .by_cases hroom:n+m<=cap
  .have hfit:n*i.size+news.length<=cur.size:=by rw[hl,hcs,<-Nat.add_mul];exact Nat.mul_le_mul_right _ hroom
   have hr:=run_append_room (P:=P) w t ty e i ht hi g n cap cur hg a m c news hl hnews h1 hroom hfit;refine⟨_,_,_,hr,⟨hlen,.inr ⟨g,cap,_,rfl,hbg,aNB w g cur _ e _ hg,hroom,hcm,?_,?_⟩⟩,.inr rfl,⟨rfl,rfl,rfl,by simp,fun k _ hk=>aNh w g k _ (fun e=>hk (by simp [Value.ownBlock,e]))⟩,hroom,fun b o hb hso=> ?_⟩
   .simp only[aMF,aLT,aMd,aL8,aMt];omega
   .rw[htake,<-hlen];exact aM2
   .by_cases hbg':b=g
    .subst hbg';have ho:=hso rfl;rw[cell_setRow_same w b o cur _ e _ hg,cell_of_row w b o cur e (0,0) hg];have hlt:o<(cur.toList.take (n*i.size)).length:=by rw[aMd,aMt];omega
     rw[aLV,List.getElem?_toArray,aL4 hlt,aNd,aLQ ho,aMT]
    .exact aMe (w:=w) (a:=⟨b,o,none⟩) (aNh w g b _ hbg')
  .have holds: ∀j u,xs[j]? =some u->w.cell? ((⟨g,0,none⟩:Addr).add j)=some u:=hown.cells (g:=g) rfl;have hr:=run_append_grow (P:=P) w t ty e i z ht hi hz ⟨g,0,none⟩ n cap xs hown.1 holds a m c news hl hnews pG pG (growslice_fits pG hbytes);have hgr:=grown cap pG (Value.ownBlock (.slice (some ⟨g,0,none⟩) n cap));exact⟨_,_,_,hr,hgr.1,.inl rfl,hgr.2.1,hgr.2.2.1,fun b o hb _=>hgr.2.2.2 b o hb⟩
theorem WQ {w:pR}{e:TypeId}{c n:Nat}{q cap:Nat}{xs:pN}(h:w.ownsRow 0 e c (.slice (some ⟨q,0,none⟩) n cap) n xs):w.rangeAt q 0 xs:=fun j u hu=>by
 have:=h.cells (g:=q) rfl j u hu;rwa [aM6] at this
theorem aEV (w:pR) (a:Addr) (v:pS) (b:Nat):(w.setCell a v).shape? b=w.shape? b:=by
 unfold World.shape? World.setCell;simp only[aM0];by_cases h:a.block=b
 .rw[aLQ h];cases hb:w.heap[b]? with
  |none=>rfl
  |some x=>
   cases x with
   |cells c e f=>
    simp only[Option.map_some];split<;>simp
   |_=>rfl
 .rw[aLU h]
theorem NM (b:Nat): ∀(l:pN) (o:Nat) (w:pR) (b':Nat),(w.setCells b o l).shape? b'=w.shape? b'
 |[],_,_,_=>rfl
 |v::l,o,w,b'=>by rw[World.setCells,NM b l,aEV]
section
variable {g:Gh}{w:pR}{H:s0}(hH:sG g w H)
include hH
theorem sB.append {side:List Prop}{rds:pQ}{k e c n:Nat}{u:Ty}{l r:List u.den}{w':pR}{q cap:Nat}{v:pS}{xs news:pN}(hk:qD H k=some (.grow e c n)) (hc:c=u.cells)
  (hln:l.length=n) (hv:g.cur k n=some v) (hown:w.ownsRow 0 e c v n xs) (hnone: ∀m,n<m->g.cur k m=none) (hseal: ∀b,v.ownBlock=some b->∀o,g.S b o->o<n*c) (hl:tV (Rd g w u) c l xs) (hr:tV (Rd g w u) c r news) (hm:0<r.length)
  (ho:w'.ownsRow 0 e c (.slice (some ⟨q,0,none⟩) (n+r.length) cap) (n+r.length) (xs++news)) (hq:q=w.heap.size\/v.ownBlock=some q) (hg:w.grownBy w' v.ownBlock) (hcap:n+r.length<=cap)
  (hcell: ∀b o,b<w.heap.size->(v.ownBlock=some b->o<n*c)->w'.cell? ⟨b,o,none⟩=w.cell? ⟨b,o,none⟩):
  sB g w H ⟨side,(.val (.list u) (l++r),some k),[(k,.grow e c (n+r.length))],rds⟩ ((g.tok k (n+r.length) (.slice (some ⟨q,0,none⟩) (n+r.length) cap)).shut q ((n+r.length)*c)) w' (.slice (some ⟨q,0,none⟩) (n+r.length) cap):=by
 have hnb:=hnone (n+r.length) pG;have hownk: ∀o b,v.ownBlock=some b->sW g H (qG [(k,q9.grow e c (n+r.length))]) b o:=fun o b hb=>⟨k,_,by simp [qG],hk,v,hv,hb⟩;have hqlt:q<w'.heap.size:=(ho.lt q rfl).2;have le:Le g w ((g.tok k (n+r.length) (.slice (some ⟨q,0,none⟩) (n+r.length) cap)).shut q ((n+r.length)*c)) w':=⟨fun _ _ h=> .inl h,fun b o h=>hcell b o (hH.sl b o h) (fun hb=>hseal b hb o h),fun _ _ h=>h,fun k' n' v' h=>by
  show (if k'=k/\n'=n+r.length then _ else _)=_;rw[aLU (fun⟨e1,e2⟩=>by rw[e1,e2,hnb] at h;cases h)];exact h⟩
 have fr:Fr (sW g H (qG [(k,q9.grow e c (n+r.length))])) w w' g.S ((g.tok k (n+r.length) (.slice (some ⟨q,0,none⟩) (n+r.length) cap)).shut q ((n+r.length)*c)).S:=by
  have hbk: ∀b,b<w.heap.size->∀o,¬sW g H (qG [(k,q9.grow e c (n+r.length))]) b o->w'.heap[b]? =w.heap[b]? :=fun b hb o hno=>hg.block b hb (fun e1=>hno (hownk o b e1.symm));refine⟨hg.os,hg.tape,hg.output,hg.size,fun b hb hno=>hbk b hb 0 (hno 0),fun b o hb hno=>⟨aMe (a:=⟨b,o,none⟩) (hbk b hb o hno),aME (a:=⟨b,o,none⟩) (hbk b hb o hno)⟩,fun b o h=> ?_,fun b s hs=> ?_⟩
  rotate_left
  .by_cases e1:v.ownBlock=some b
   .exact .inr fun o=>hownk o b e1
   .exact .inl ((BM (hg.block b (BL hs) (fun h=>e1 h.symm))).trans hs)
  rcases h with h|⟨rfl,_⟩
  .exact .inl h
  .rcases hq with h|h
   .exact .inr (.inl (aNj h.symm))
   .exact .inr (.inr (hownk o b h))
 have gho: ∀i,i∉qG [(k,q9.grow e c (n+r.length))]->((g.tok k (n+r.length) (.slice (some ⟨q,0,none⟩) (n+r.length) cap)).shut q ((n+r.length)*c)).J i=g.J i/\((g.tok k (n+r.length) (.slice (some ⟨q,0,none⟩) (n+r.length) cap)).shut q ((n+r.length)*c)).cur i=g.cur i:=fun i hi=>⟨rfl,by
  funext n';show (if i=k/\n'=n+r.length then _ else _)=_;rw[aLU (fun⟨e1,_⟩=>hi (by simp [qG,e1]))]⟩
 have cur1:((g.tok k (n+r.length) (.slice (some ⟨q,0,none⟩) (n+r.length) cap)).shut q ((n+r.length)*c)).cur k (n+r.length)=some (.slice (some ⟨q,0,none⟩) (n+r.length) cap):=by
  show (if k=k/\n+r.length=n+r.length then _ else _)=_;simp
 have get: ∀i blk,i∈qG [(k,q9.grow e c (n+r.length))]->qD (qP [(k,q9.grow e c (n+r.length))] H) i=some blk->i=k/\blk= .grow e c (n+r.length):=by
  intro i blk hi hg;simp only[qG,aL6] at hi;subst hi;simp only[qP,qD,aNo,aLO] at hg;exact⟨rfl,hg.symm⟩
 have perm: ∀i blk b o,i∈qG [(k,q9.grow e c (n+r.length))]->qD (qP [(k,q9.grow e c (n+r.length))] H) i=some blk->sA ((g.tok k (n+r.length) (.slice (some ⟨q,0,none⟩) (n+r.length) cap)).shut q ((n+r.length)*c)) i blk b o->w.heap.size<=b\/sW g H (qG [(k,q9.grow e c (n+r.length))]) b o:=by
  intro i blk b o hi hgt ho';obtain⟨rfl,rfl⟩:=get i blk hi hgt;obtain⟨v',hv',hb⟩:=ho';rw[cur1] at hv';obtain rfl:=aLS hv';cases hb;rcases hq with h|h
  .exact .inl (aNj h.symm)
  .exact .inr (hownk o _ h)
 have hF:tV (Rd ((g.tok k (n+r.length) (.slice (some ⟨q,0,none⟩) (n+r.length) cap)).shut q ((n+r.length)*c)) w' u) u.cells (l++r) (xs++news):=hc▸C7 (fun _ _ h=>wU le h) (NE hl hr);have hlr:(l++r).length=n+r.length:=by rw[aLT,hln]
 refine⟨le,⟨.inr ⟨rfl,some ⟨q,0,none⟩,cap,by rw[hlr],by rw[hlr];exact hcap,.inr ⟨q,0,rfl,KO hF (WQ ho) (fun j hj=> ?_)⟩⟩,?_⟩,hH.upd le fr perm gho (fun i blk hi hgt=> ?_) (fun i j bi bj b o hi hj hij hgi hgj _ _=>hij ((get i bi hi hgi).1.trans (get j bj hj hgj).1.symm)) (fun b o h=> ?_),fr,perm,gho,fun i u' y us h=>by
  simp only[qP,qD] at h;split at h
  .cases h
  .exact .inl ⟨y,us,h⟩⟩
 .right;rw[hlr] at hj;exact⟨rfl,by rw[hc];omega⟩
 .show _=_;rw[hlr];exact cur1
 .obtain⟨rfl,rfl⟩:=get i blk hi hgt;refine⟨_,_,cur1,ho,fun m hm'=> ?_,fun b hb o h=> ?_⟩
  .show (if i=i/\m=n+r.length then _ else _)=_;rw[aLU pG];exact hnone m pG
  .cases hb;rcases h with h|⟨_,h⟩
   .rcases hq with h2|h2
    .have:q<w.heap.size:=hH.sl _ _ h;omega
    .have:=hseal _ h2 o h;rw[Nat.add_mul];omega
   .exact h
 .rcases h with h|⟨rfl,_⟩
  .exact aMu (hH.sl b o h) hg.size
  .exact hqlt
theorem sB.lit {side:List Prop}{rds:pQ}{base e c n:Nat}{u:Ty}{l:List u.den}{cs:pN}(hc:c=u.cells) (hln:l.length=n) (hl:tV (Rd g w u) c l cs) (hn:n<=maxLen) (hf: ∀m,g.cur base m=none):
  sB g w H ⟨side,(.val (.list u) l,some base),[(base,.grow e c n)],rds⟩ ((g.tok base n (.slice (some ⟨w.heap.size,0,none⟩) n n)).shut w.heap.size (n*c)) (w.alloc (.cells cs.toArray e)) (.slice (some ⟨w.heap.size,0,none⟩) n n):=by
 have hlen:=GO hl;have le:Le g w ((g.tok base n (.slice (some ⟨w.heap.size,0,none⟩) n n)).shut w.heap.size (n*c)) (w.alloc (.cells cs.toArray e)):=⟨fun _ _ h=> .inl h,fun b o h=>aMe (a:=⟨b,o,none⟩) (aMp _ _ _ (hH.sl b o h)),fun _ _ h=>h,fun k' n' v' h=>by
  show (if k'=base/\n'=n then _ else _)=_;rw[aLU (fun⟨e1,e2⟩=>by rw[e1,hf] at h;cases h)];exact h⟩
 have fr:Fr (sW g H (qG [(base,q9.grow e c n)])) w (w.alloc (.cells cs.toArray e)) g.S ((g.tok base n (.slice (some ⟨w.heap.size,0,none⟩) n n)).shut w.heap.size (n*c)).S:=
  ⟨rfl,rfl,rfl,by simp,fun b hb _=>aMp _ _ _ hb,fun b o hb _=>⟨aMe (a:=⟨b,o,none⟩) (aMp _ _ _ hb),aME (a:=⟨b,o,none⟩) (aMp _ _ _ hb)⟩,fun b o h=>h.imp id fun h=> .inl (aNj h.1.symm),fun b s h=> .inl ((BM (aMp _ _ _ (BL h))).trans h)⟩
 have gho: ∀i,i∉qG [(base,q9.grow e c n)]->((g.tok base n (.slice (some ⟨w.heap.size,0,none⟩) n n)).shut w.heap.size (n*c)).J i=g.J i/\((g.tok base n (.slice (some ⟨w.heap.size,0,none⟩) n n)).shut w.heap.size (n*c)).cur i=g.cur i:=fun i hi=>⟨rfl,by
  funext n';show (if i=base/\n'=n then _ else _)=_;rw[aLU (fun⟨e1,_⟩=>hi (by simp [qG,e1]))]⟩
 have cur1:((g.tok base n (.slice (some ⟨w.heap.size,0,none⟩) n n)).shut w.heap.size (n*c)).cur base n=some (.slice (some ⟨w.heap.size,0,none⟩) n n):=by
  show (if base=base/\n=n then _ else _)=_;simp
 have get: ∀i blk,i∈qG [(base,q9.grow e c n)]->qD (qP [(base,q9.grow e c n)] H) i=some blk->i=base/\blk= .grow e c n:=by
  intro i blk hi hg;simp only[qG,aL6] at hi;subst hi;simp only[qP,qD,aNo,aLO] at hg;exact⟨rfl,hg.symm⟩
 have perm: ∀i blk b o,i∈qG [(base,q9.grow e c n)]->qD (qP [(base,q9.grow e c n)] H) i=some blk->sA ((g.tok base n (.slice (some ⟨w.heap.size,0,none⟩) n n)).shut w.heap.size (n*c)) i blk b o->w.heap.size<=b\/sW g H (qG [(base,q9.grow e c n)]) b o:=by
  intro i blk b o hi hgt ho';obtain⟨rfl,rfl⟩:=get i blk hi hgt;obtain⟨v',hv',hb⟩:=ho';rw[cur1] at hv';obtain rfl:=aLS hv';cases hb;exact .inl (aMc _)
 have hF:tV (Rd ((g.tok base n (.slice (some ⟨w.heap.size,0,none⟩) n n)).shut w.heap.size (n*c)) (w.alloc (.cells cs.toArray e)) u) u.cells l cs:=hc▸C7 (fun _ _ h=>wU le h) hl;have hra:(w.alloc (.cells cs.toArray e)).rangeAt w.heap.size 0 cs:=fun j v hv=>by
  rw[aMs,aNO];simpa using hv
 refine⟨le,⟨.inr ⟨rfl,some ⟨w.heap.size,0,none⟩,n,by rw[hln],by rw[hln];exact aMc _,.inr ⟨w.heap.size,0,rfl,KO hF hra (fun j hj=> ?_)⟩⟩,?_⟩,hH.upd le fr perm gho (fun i blk hi hgt=> ?_) (fun i j bi bj b o hi hj hij hgi hgj _ _=>hij ((get i bi hi hgi).1.trans (get j bj hj hgj).1.symm)) (fun b o h=> ?_),fr,perm,gho,fun i u' y us h=>by
  simp only[qP,qD] at h;split at h
  .cases h
  .exact .inl ⟨y,us,h⟩⟩
 .right;rw[hln] at hj;exact⟨rfl,by rw[hc];omega⟩
 .show _=_;rw[hln];exact cur1
 .obtain⟨rfl,rfl⟩:=get i blk hi hgt;refine⟨_,cs,cur1,⟨by rw[hlen,hln],.inr ⟨w.heap.size,n,cs.toArray,rfl,aMR _,aNM w _,aMc _,hn,by simp [hlen,hln],by simp [<-hln,<-hlen]⟩⟩,fun m hm'=> ?_,fun b hb o h=> ?_⟩
  .show (if i=i/\m=n then _ else _)=_;rw[aLU pG];exact hf m
  .cases hb;rcases h with h|⟨_,h⟩
   .exact absurd (hH.sl _ _ h) (aNp _)
   .exact h
 .rcases h with h|⟨rfl,_⟩
  .exact aMu (hH.sl b o h) pI
  .simp
theorem WR: ∀{toks:pL}{off n q k:Nat},(q,k)∈vJ toks off n->(q,k)∈toks/\¬(off<=q/\q<off+n)
 |[],_,_,_,_,h=>by simp [vJ] at h
 |(q',k')::r,off,n,q,k,h=>by
  simp only[vJ] at h;split at h
  .obtain⟨h1,h2⟩:=WR h;exact⟨aL5 _ h1,h2⟩
  .rename_i hn;rcases aL3.1 h with h|h
   .cases h;exact⟨by simp,hn⟩
   .obtain⟨h1,h2⟩:=WR h;exact⟨aL5 _ h1,h2⟩
theorem aEW {u:Ty}{y:u.den}: ∀{t:Ty}{x z:t.den}{o:Nat},u.isRow=false->sU u y t x o=some z->rC u t z o=some y:=by
 intro t
 induction t with
 |pair a b iha ihb=>
  intro x z o hu h;have hne:u≠.pair a b:=by intro e;rw[e] at hu;cases hu
  have key: ∀o,(if o<a.cells then(sU u y a x.1 o).map (fun q=>(q,x.2)) else(sU u y b x.2 (o-a.cells)).map (fun q=>(x.1,q)))=some z->
    (if o<a.cells then rC u a z.1 o else rC u b z.2 (o-a.cells))=some y:=by
   intro o h;by_cases ho:o<a.cells
   .rw[aLQ ho] at h|-;obtain⟨q,hq,rfl⟩:=aLW.1 h;exact iha hu hq
   .rw[aLU ho] at h|-;obtain⟨q,hq,rfl⟩:=aLW.1 h;exact ihb hu hq
  cases o with
  |zero=>
   unfold sU at h;unfold rC;rw[aNr hne] at h;rw[aNr (Ne.symm hne)];have:=key 0 (by simpa using h);simpa using this
  |succ o=>
   have:=key (o+1) (by simpa[sU] using h);simpa[rC] using this
 |_=>
  intro x z o hu h;cases o with
  |zero=>
   unfold sU at h;split at h
   .rename_i e;subst e;simp only[uF,aLO] at h
    try subst h
    unfold rC;simp [uF]
   .simp at h
  |succ o=>simp [sU] at h
theorem a6X {u v:Ty}{y:u.den}: ∀{t:Ty}{x z:t.den}{o q:Nat}{l:(Ty.list v).den},sU u y t x o=some z->rC (.list v) t x q=some l->¬(o<=q/\q<o+u.cells)->rC (.list v) t z q=some l:=by
 intro t
 induction t with
 |pair a b iha ihb=>
  intro x z o q l h g hq;by_cases hu:o=0/\u= .pair a b
  .obtain⟨rfl,rfl⟩:=hu;exfalso;apply hq;have: ∀(t:Ty) (x:t.den) (q:Nat) (l:(Ty.list v).den),rC (.list v) t x q=some l->q<t.cells:=by
    intro t
    induction t with
    |pair s t ihs iht=>
     intro x q l g;have key: ∀q,(if q<s.cells then rC (.list v) s x.1 q else rC (.list v) t x.2 (q-s.cells))=some l->q<s.cells+t.cells:=by
      intro q g;by_cases h:q<s.cells
      .omega
      .rw[aLU h] at g;have:=iht _ _ _ g;omega
     cases q with
     |zero=>
      unfold rC at g;rw[aNr (by intro e;cases e)] at g;exact key 0 (by simpa using g)
     |succ q=>exact key (q+1) (by simpa[rC] using g)
    |_=>
     intro x q l g;cases q with
     |zero=>first|(simp [Ty.cells];done) |(unfold rC at g;simp at g)
     |succ q=>simp [rC] at g
   exact⟨aMR _,by simpa using this _ _ _ _ g⟩
  .have keyh:(if o<a.cells then(sU u y a x.1 o).map (fun q=>(q,x.2)) else(sU u y b x.2 (o-a.cells)).map (fun q=>(x.1,q)))=some z:=by
    cases o with
    |zero=>
     unfold sU at h;rw[aNr (fun e=>hu ⟨rfl,e⟩)] at h;simpa using h
    |succ o=>simpa[sU] using h
   have keyg: ∀x:(Ty.pair a b).den,rC (.list v) (.pair a b) x q=(if q<a.cells then rC (.list v) a x.1 q else rC (.list v) b x.2 (q-a.cells)):=by
    intro x;cases q with
    |zero=>
     conv=>lhs;unfold rC
     rw[aNr (by intro e;cases e),Nat.zero_sub]
    |succ q=>simp [rC]
   rw[keyg] at g|-;by_cases ho:o<a.cells
   .rw[aLQ ho] at keyh;obtain⟨z',hz',rfl⟩:=aLW.1 keyh;by_cases hqa:q<a.cells
    .rw[aLQ hqa] at g|-;exact iha hz' g hq
    .rw[aLU hqa] at g|-;exact g
   .rw[aLU ho] at keyh;obtain⟨z',hz',rfl⟩:=aLW.1 keyh;by_cases hqa:q<a.cells
    .rw[aLQ hqa] at g|-;exact g
    .rw[aLU hqa] at g|-;exact ihb hz' g pG
 |unit=>
  intro x z o q l h g hq;cases q with
  |zero=>
   unfold rC at g;rw[aNr (by intro e;cases e)] at g;cases g
  |succ q=>simp [rC] at g
 |_=>
  intro x z o q l h g hq;cases o with
  |zero=>
   unfold sU at h;split at h
   .rename_i e;subst e;cases q with
    |zero=>exact absurd ⟨aMc _,Nat.zero_lt_one⟩ hq
    |succ q=>simp [rC] at g
   .simp at h
  |succ o=>simp [sU] at h
theorem sB.store {side:List Prop}{rds:pQ}{i:Nat}{u t:Ty}{x z:u.den}{y:t.den}{off:Nat}{toks:pL}{k:pP}{p:Pl}{cy:pN}{v:pS}(hb:qD H i=some (.cells u x toks)) (hp:g.J i=some p)
  (hset:sU t y u x off=some z) (hy:Rd g w t y cy) (hk:C5 g t y v k) (hk2: ∀a b,t= .pair a b->k=none) (hv:t.isRow=false->cy=[v]):
  sB g w H ⟨side,(.any,none),[(i,.cells u z (qP (x8 k off) (vJ toks off t.cells)))],rds⟩ g (w.setCells p.1 (p.2+off) cy) undef/\w.there p.1 (p.2+off) cy.length:=by
 obtain⟨p',cs,hp',hR,hra,hth,hns,htk⟩:=hH.blk i _ hb;rw[hp] at hp';obtain rfl:=aLS hp';obtain⟨c1,c2,c3,hcs,hl1,hl2,hz⟩:=RX hy hR hset;subst hcs;subst hl1;have hcl:=sV hR;have hyl:=sV hy;simp only[aLT] at hcl;have hthere:w.there p.1 (p.2+c1.length) cy.length:=fun j hj=>by
  have:=hth.1 (c1.length+j) pG;rwa [<-aMy] at this
 have hout: ∀b o,(b=p.1->o<p.2+c1.length\/p.2+c1.length+cy.length<=o)->(w.setCells p.1 (p.2+c1.length) cy).cell? ⟨b,o,none⟩=w.cell? ⟨b,o,none⟩:=fun b o h=>World.cell?_setCells_out p.1 cy _ w ⟨b,o,none⟩ (fun e _=>h e);have hin: ∀b o,b=p.1->p.2+c1.length<=o->o<p.2+c1.length+cy.length->sA g i (.cells u x toks) b o:=fun b o e h1 h2=>⟨p,hp,e,pG,pG⟩;have hsz:(w.setCells p.1 (p.2+c1.length) cy).heap.size=w.heap.size:=by
  have: ∀(l:pN) (o:Nat) (w:pR),(w.setCells p.1 o l).heap.size=w.heap.size:=by
   intro l
   induction l with
   |nil=>intro o w;rfl
   |cons v l ih=>intro o w;rw[World.setCells,ih];simp [World.setCell]
  exact this _ _ _
 have hbk: ∀b,b≠p.1->(w.setCells p.1 (p.2+c1.length) cy).heap[b]? =w.heap[b]? :=by
  intro b hb;have: ∀(l:pN) (o:Nat) (w:pR),(w.setCells p.1 o l).heap[b]? =w.heap[b]? :=by
   intro l
   induction l with
   |nil=>intro o w;rfl
   |cons v l ih=>intro o w;rw[World.setCells,ih];exact Below.heap_setCell _ _ _ _ hb
  exact this _ _ _
 have hos:(w.setCells p.1 (p.2+c1.length) cy).os=w.os/\(w.setCells p.1 (p.2+c1.length) cy).tape=w.tape/\(w.setCells p.1 (p.2+c1.length) cy).output=w.output:=by
  have: ∀(l:pN) (o:Nat) (w:pR),(w.setCells p.1 o l).os=w.os/\(w.setCells p.1 o l).tape=w.tape/\(w.setCells p.1 o l).output=w.output:=by
   intro l
   induction l with
   |nil=>intro o w;exact⟨rfl,rfl,rfl⟩
   |cons v l ih=>intro o w;rw[World.setCells];exact ih _ _
  exact this _ _ _
 have hiS: ∀b o,g.S b o->¬(b=p.1/\p.2<=o/\o<p.2+u.cells):=fun b o hs ⟨e,h1,h2⟩=>hns (o-p.2) pG (by rw[show p.2+(o-p.2)=o from by omega,<-e];exact hs);have le:Le g w g (w.setCells p.1 (p.2+c1.length) cy):=⟨fun _ _ h=>h,fun b o h=>hout b o (fun e=>by
  have:=hiS b o h;rcases aMY o (p.2+c1.length) with h1|h1
  .exact .inl h1
  .rcases aMY o (p.2+c1.length+cy.length) with h2|h2
   .exact absurd ⟨e,pG,pG⟩ this
   .exact .inr h2),fun _ _ h=>h,fun _ _ _ h=>h⟩
 have hofI: ∀b o,sA g i (.cells u x toks) b o->sW g H (qG [(i,q9.cells u z (qP (x8 k c1.length) (vJ toks c1.length t.cells)))]) b o:=fun b o h=>⟨i,_,by simp [qG],hb,h⟩;have fr:Fr (sW g H (qG [(i,q9.cells u z (qP (x8 k c1.length) (vJ toks c1.length t.cells)))])) w (w.setCells p.1 (p.2+c1.length) cy) g.S g.S:=by
  refine⟨hos.1,hos.2.1,hos.2.2,aNj hsz.symm,fun b hb' hno=> ?_,fun b o hb' hno=>⟨hout b o (fun e=> ?_),World.frozen?_setCells _ _ _ _ _⟩,fun b o h=> .inl h,fun b s hs=> .inl ((NM _ _ _ _ _).trans hs)⟩
  .by_cases e:b=p.1
   .cases hcy:cy with
    |nil=>rfl
    |cons q l=>exact absurd (hofI b (p.2+c1.length) (hin b _ e (aMc _) (by rw[hcy];simp))) (hno _)
   .exact hbk b e
  .rcases aMY o (p.2+c1.length) with h1|h1
   .exact .inl h1
   .rcases aMY o (p.2+c1.length+cy.length) with h2|h2
    .exact absurd (hofI b o (hin b o e h1 h2)) hno
    .exact .inr h2
 have gho: ∀j,j∉qG [(i,q9.cells u z (qP (x8 k c1.length) (vJ toks c1.length t.cells)))]->g.J j=g.J j/\g.cur j=g.cur j:=fun _ _=>⟨rfl,rfl⟩;have get: ∀j blk,j∈qG [(i,q9.cells u z (qP (x8 k c1.length) (vJ toks c1.length t.cells)))]->qD (qP [(i,q9.cells u z (qP (x8 k c1.length) (vJ toks c1.length t.cells)))] H) j=some blk->j=i/\blk= .cells u z (qP (x8 k c1.length) (vJ toks c1.length t.cells)):=by
  intro j blk hi hg;simp only[qG,aL6] at hi;subst hi;simp only[qP,qD,aNo,aLO] at hg;exact⟨rfl,hg.symm⟩
 have perm: ∀j blk b o,j∈qG [(i,q9.cells u z (qP (x8 k c1.length) (vJ toks c1.length t.cells)))]->qD (qP [(i,q9.cells u z (qP (x8 k c1.length) (vJ toks c1.length t.cells)))] H) j=some blk->sA g j blk b o->w.heap.size<=b\/sW g H (qG [(i,q9.cells u z (qP (x8 k c1.length) (vJ toks c1.length t.cells)))]) b o:=by
  intro j blk b o hi hg ho;obtain⟨rfl,rfl⟩:=get j blk hi hg;exact .inr (hofI b o ho)
 refine⟨⟨le,⟨trivial,trivial⟩,hH.upd le fr perm gho (fun j blk hi hg=> ?_) (fun i j bi bj b o hi hj hij hgi hgj _ _=>hij ((get i bi hi hgi).1.trans (get j bj hj hgj).1.symm)) (fun b o h=>by rw[hsz];exact hH.sl b o h),fr,perm,gho,fun j u' y' us h=>by
  simp only[qP,qD] at h;split at h
  .rename_i e1;subst e1;simp only[aLO,q9.cells.injEq] at h;obtain⟨rfl,_⟩:=h;exact .inl ⟨x,toks,hb⟩
  .exact .inl ⟨y',us,h⟩⟩,hthere⟩
 obtain⟨rfl,rfl⟩:=get j blk hi hg;refine⟨p,_,hp,wU le hz,fun q v hq=> ?_,⟨fun q hq=> ?_,fun h0 s hs=>(NM _ _ _ _ _).trans (hth.2 h0 s hs)⟩,hns,?_⟩
 .by_cases h1:q<c1.length
  .rw[hout _ _ (fun _=> .inl pG)];refine hra q v ?_;rw[aLV,aL4 h1] at hq|-;exact hq
  .by_cases h2:q<c1.length+cy.length
   .have:=aNf p.1 cy (p.2+c1.length) w (fun j hj=>(hthere j hj).1) (q-c1.length) pG;rw[show p.2+c1.length+(q-c1.length)=p.2+q from by omega] at this;rw[this];rw[aLV,aL0 pG,aL4 pG] at hq;rw[<-hq,aLZ pG]
   .rw[hout _ _ (fun _=> .inr pG)];refine hra q v ?_;rw[aLV,aL0 pG,aL0 pG] at hq|-;rw[hl2];rw[hyl] at hq;exact hq
 .have hh:=hth.1 q hq;refine⟨?_,by rw[World.frozen?_setCells];exact hh.2⟩;by_cases h1:q<c1.length\/c1.length+cy.length<=q
  .rw[hout _ _ (fun _=>by omega)];exact hh.1
  .have:=aNf p.1 cy (p.2+c1.length) w (fun j hj=>(hthere j hj).1) (q-c1.length) pG;rw[show p.2+c1.length+(q-c1.length)=p.2+q from by omega] at this;rw[this];rfl
 .intro q kk hm;have hsplit:(q,kk)∈x8 k c1.length\/(q,kk)∈vJ toks c1.length t.cells:=by
   cases k with
   |none=>exact .inr (by simpa[x8,qP] using hm)
   |some k=>
    simp only[x8,qP,aL3] at hm;rcases hm with hm|hm
    .exact .inl (by simp [x8,hm])
    .exact .inr hm
  rcases hsplit with hm|hm
  .cases k with
   |none=>simp [x8] at hm
   |some k=>
    simp only[x8,aL6,aMl] at hm;obtain⟨rfl,rfl⟩:=hm;cases t with
    |list t=>
     obtain rfl:=hv rfl;exact⟨t,y,v,aEW hH rfl hset,by simp,hk⟩
    |pair a b=>cases hk2 a b rfl
    |_=>exact hk.elim
  .obtain⟨h1,h2⟩:=WR hH hm;obtain⟨v',l,v1,g1,g2,g3⟩:=htk q kk h1;refine⟨v',l,v1,a6X hH hset g1 h2,?_,g3⟩;rcases aMY q c1.length with h3|h3
   .rw[aLV,aL4 h3] at g2|-;exact g2
   .have h4:c1.length+t.cells<=q:=by omega
    rw[aLV,aL0 pG,aL0 pG] at g2|-;rw[hyl];rw[hl2] at g2;exact g2
theorem yV.openS {side:List Prop}{rds:pQ}{i:Nat}{u u0:Ty}{el:Nat}{kn:pO}{x:u.den}{z: Σ t:Ty,t.den}{off:Nat}{toks:pL}{p:Pl}{cy:pN}(hb:qD H i=some (.cells u x toks)) (hp:g.J i=some p)
  (hset:xN el u0 kn u x off=some z) (hy:DW g kn cy) (hyl:cy.length=1) (hre:GB rds=true):
  yV g w H ⟨side,(.any,none),[(i,.cells z.1 z.2 [])],rds⟩ g (w.setCells p.1 (p.2+off) cy) undef/\w.there p.1 (p.2+off) cy.length:=by
 obtain⟨p',cs,hp',hR,hra,hth,hns,htk⟩:=hH.blk i _ hb;rw[hp] at hp';obtain rfl:=aLS hp';obtain⟨c1,c2,c3,hcs,hl1,hl2,hz⟩:=aEm hy hR hset;subst hcs;subst hl1;have hcl:=sV hR;have hcz:=aEl hset;simp only[aLT] at hcl;have hthere:w.there p.1 (p.2+c1.length) cy.length:=fun j hj=>by
  have:=hth.1 (c1.length+j) pG;rwa [<-aMy] at this
 have hout: ∀b o,(b=p.1->o<p.2+c1.length\/p.2+c1.length+cy.length<=o)->(w.setCells p.1 (p.2+c1.length) cy).cell? ⟨b,o,none⟩=w.cell? ⟨b,o,none⟩:=fun b o h=>World.cell?_setCells_out p.1 cy _ w ⟨b,o,none⟩ (fun e _=>h e);have hin: ∀b o,b=p.1->p.2+c1.length<=o->o<p.2+c1.length+cy.length->sA g i (.cells u x toks) b o:=fun b o e h1 h2=>⟨p,hp,e,pG,pG⟩;have hsz:(w.setCells p.1 (p.2+c1.length) cy).heap.size=w.heap.size:=by
  have: ∀(l:pN) (o:Nat) (w:pR),(w.setCells p.1 o l).heap.size=w.heap.size:=by
   intro l
   induction l with
   |nil=>intro o w;rfl
   |cons v l ih=>intro o w;rw[World.setCells,ih];simp [World.setCell]
  exact this _ _ _
 have hbk: ∀b,b≠p.1->(w.setCells p.1 (p.2+c1.length) cy).heap[b]? =w.heap[b]? :=by
  intro b hb;have: ∀(l:pN) (o:Nat) (w:pR),(w.setCells p.1 o l).heap[b]? =w.heap[b]? :=by
   intro l
   induction l with
   |nil=>intro o w;rfl
   |cons v l ih=>intro o w;rw[World.setCells,ih];exact Below.heap_setCell _ _ _ _ hb
  exact this _ _ _
 have hos:(w.setCells p.1 (p.2+c1.length) cy).os=w.os/\(w.setCells p.1 (p.2+c1.length) cy).tape=w.tape/\(w.setCells p.1 (p.2+c1.length) cy).output=w.output:=by
  have: ∀(l:pN) (o:Nat) (w:pR),(w.setCells p.1 o l).os=w.os/\(w.setCells p.1 o l).tape=w.tape/\(w.setCells p.1 o l).output=w.output:=by
   intro l
   induction l with
   |nil=>intro o w;exact⟨rfl,rfl,rfl⟩
   |cons v l ih=>intro o w;rw[World.setCells];exact ih _ _
  exact this _ _ _
 have hiS: ∀b o,g.S b o->¬(b=p.1/\p.2<=o/\o<p.2+u.cells):=fun b o hs ⟨e,h1,h2⟩=>hns (o-p.2) pG (by rw[show p.2+(o-p.2)=o from by omega,<-e];exact hs);have le:Le g w g (w.setCells p.1 (p.2+c1.length) cy):=⟨fun _ _ h=>h,fun b o h=>hout b o (fun e=>by
  have:=hiS b o h;rcases aMY o (p.2+c1.length) with h1|h1
  .exact .inl h1
  .rcases aMY o (p.2+c1.length+cy.length) with h2|h2
   .exact absurd ⟨e,pG,pG⟩ this
   .exact .inr h2),fun _ _ h=>h,fun _ _ _ h=>h⟩
 have hofI: ∀b o,sA g i (.cells u x toks) b o->sW g H (qG [(i,q9.cells z.1 z.2 [])]) b o:=fun b o h=>⟨i,_,by simp [qG],hb,h⟩;have fr:Fr (sW g H (qG [(i,q9.cells z.1 z.2 [])])) w (w.setCells p.1 (p.2+c1.length) cy) g.S g.S:=by
  refine⟨hos.1,hos.2.1,hos.2.2,aNj hsz.symm,fun b hb' hno=> ?_,fun b o hb' hno=>⟨hout b o (fun e=> ?_),World.frozen?_setCells _ _ _ _ _⟩,fun b o h=> .inl h,fun b s hs=> .inl ((NM _ _ _ _ _).trans hs)⟩
  .by_cases e:b=p.1
   .cases hcy:cy with
    |nil=>rfl
    |cons q l=>exact absurd (hofI b (p.2+c1.length) (hin b _ e (aMc _) (by rw[hcy];simp))) (hno _)
   .exact hbk b e
  .rcases aMY o (p.2+c1.length) with h1|h1
   .exact .inl h1
   .rcases aMY o (p.2+c1.length+cy.length) with h2|h2
    .exact absurd (hofI b o (hin b o e h1 h2)) hno
    .exact .inr h2
 have gho: ∀j,j∉qG [(i,q9.cells z.1 z.2 [])]->g.J j=g.J j/\g.cur j=g.cur j:=fun _ _=>⟨rfl,rfl⟩;have get: ∀j blk,j∈qG [(i,q9.cells z.1 z.2 [])]->qD (qP [(i,q9.cells z.1 z.2 [])] H) j=some blk->j=i/\blk= .cells z.1 z.2 []:=by
  intro j blk hi hg;simp only[qG,aL6] at hi;subst hi;simp only[qP,qD,aNo,aLO] at hg;exact⟨rfl,hg.symm⟩
 have perm: ∀j blk b o,j∈qG [(i,q9.cells z.1 z.2 [])]->qD (qP [(i,q9.cells z.1 z.2 [])] H) j=some blk->sA g j blk b o->w.heap.size<=b\/sW g H (qG [(i,q9.cells z.1 z.2 [])]) b o:=by
  intro j blk b o hi hg ho;obtain⟨rfl,rfl⟩:=get j blk hi hg;obtain⟨q,hq,e1,e2,e3⟩:=ho;rw[hcz] at e3;exact .inr (hofI b o ⟨q,hq,e1,e2,e3⟩)
 refine⟨⟨le,⟨trivial,trivial⟩,hH.upd le fr perm gho (fun j blk hi hg=> ?_) (fun i j bi bj b o hi hj hij hgi hgj _ _=>hij ((get i bi hi hgi).1.trans (get j bj hj hgj).1.symm)) (fun b o h=>by rw[hsz];exact hH.sl b o h),fr,perm,gho,fun h=>by rw[hre] at h;cases h⟩,hthere⟩;obtain⟨rfl,rfl⟩:=get j blk hi hg;refine⟨p,_,hp,wU le hz,fun q v hq=> ?_,⟨fun q hq=> ?_,fun h0 s hs=>(NM _ _ _ _ _).trans (hth.2 (by rw[<-hcz];exact h0) s hs)⟩,fun q hq=>hns q (by rw[<-hcz];exact hq),fun _ _ hm=>by cases hm⟩
 .by_cases h1:q<c1.length
  .rw[hout _ _ (fun _=> .inl pG)];refine hra q v ?_;rw[aLV,aL4 h1] at hq|-;exact hq
  .by_cases h2:q<c1.length+cy.length
   .have:=aNf p.1 cy (p.2+c1.length) w (fun j hj=>(hthere j hj).1) (q-c1.length) pG;rw[show p.2+c1.length+(q-c1.length)=p.2+q from by omega] at this;rw[this];rw[aLV,aL0 pG,aL4 pG] at hq;rw[<-hq,aLZ pG]
   .rw[hout _ _ (fun _=> .inr pG)];refine hra q v ?_;rw[aLV,aL0 pG,aL0 pG] at hq|-;rw[hl2];rw[hyl] at hq;exact hq
 .have hh:=hth.1 q (by rw[<-hcz];exact hq);refine⟨?_,by rw[World.frozen?_setCells];exact hh.2⟩;by_cases h1:q<c1.length\/c1.length+cy.length<=q
  .rw[hout _ _ (fun _=>by omega)];exact hh.1
  .have:=aNf p.1 cy (p.2+c1.length) w (fun j hj=>(hthere j hj).1) (q-c1.length) pG;rw[show p.2+c1.length+(q-c1.length)=p.2+q from by omega] at this;rw[this];rfl
end
def yG (g:Gh) (base:Nat) (e:qH):Prop:= ∀i,i∈qG e.upd->base<=i->g.J i=none/\∀n,g.cur i n=none
section
variable {P:Program}{o:Oper}{a:Act}{g:Gh}{w:pR}{H:s0}{T:sM}(hT:wV P T) (hH:sG g w H)
include hT hH
theorem a6Y {x:Operand}(ho:o.op= .move x\/o.op= .assign x) {sx:qC}(hx:rJ g w sx (a.eval x)) {base:Nat}{e:qH}(hr:V4 base (rK T o.type) sx=some e) (hf:yG g base e):rD P o a g w H e:=by
 have hrun:(execOp a.eval o).run P w= .ok (.value (a.eval x)) w:=by rcases ho with ho|ho<;>simp [execOp,ho]
 generalize hst:rK T o.type=ot at hr;unfold V4 at hr;split at hr
 .cases hr;have hv:a.eval x= .slice none 0 0:=hx.1;have hfr:=(hf base (by simp [qG]) (aMc _)).2;refine rD.value (v:= .slice none 0 0) (by rw[hrun,hv]) (sB.row (v:= .slice none 0 0) (xs:=[]) hH rfl (World.ownsRow_nil w 0 _ _) rfl (fun m _=>hfr m) (fun u hu=>by rw[hfr] at hu;cases hu) (.inl ⟨rfl,rfl,rfl,aMc _,fun _ _ _=>rfl⟩) (fun _ _ _=>rfl) (fun b hb=>by cases hb) (fun b hb=>by cases hb) ⟨⟨by simp [Gh.tok],.inl ⟨rfl,rfl⟩⟩,trivial⟩)
 .cases hr;have hv:a.eval x= .slice none 0 0:=hx.1;refine rD.value (v:= .slice none 0 0) (by rw[hrun,hv]) (sB.nilTok hH rfl (hf base (by simp [qG]) (aMc _)).2)
 .cases hr
 .cases hr;exact rD.value hrun (.pure hH hx)
theorem aEX {u:Ty}{y:List u.den}{k:pP}{v:pS}{cs:pN}(h:C5 g (.list u) y v k) (hc:cs=[v]):F1 g (.list u) y cs (x8 k 0):=by
 intro q kk hm;cases k with
 |none=>simp [x8] at hm
 |some k=>
  simp only[x8,aL6,aMl] at hm;obtain⟨rfl,rfl⟩:=hm;exact⟨u,y,v,by unfold rC;simp [uF],by rw[hc];rfl,h⟩
omit hT hH in
theorem KR {α:Type}: ∀(l m n:List α),qP (qP l m) n=qP l (qP m n)
 |[],_,_=>rfl
 |x::l,m,n=>by simp only[qP,KR l m n]
omit hT hH in
theorem D0 {i:Nat}: ∀{l m:List (Nat×q9)},i∈qG (qP l m)↔i∈qG l\/i∈qG m
 |[],m=>by simp [qP,qG]
 |(k,b)::l,m=>by simp only[qP,qG,aL3,D0 (l:=l),or_assoc]
omit hT hH in
theorem sB.trans {H:s0}{e1 e2:qH}{g1 g2:Gh}{w1 w2:pR}{v1 v2:pS}{side:List Prop}{rds:pQ}(h:sB g w H e1 g1 w1 v1) (k:sB g1 w1 (qP e1.upd H) e2 g2 w2 v2):sB g w H ⟨side,e2.slot,qP e2.upd e1.upd,rds⟩ g2 w2 v2:=by
 have hB: ∀b o,sW g1 (qP e1.upd H) (qG e2.upd) b o->w.heap.size<=b\/sW g H (qG (qP e2.upd e1.upd)) b o:=by
  rintro b o ⟨i,blk,hi,hg,ho⟩;by_cases h1:i∈qG e1.upd
  .refine(h.perm i blk b o h1 hg ho).imp id fun⟨j,bj,hj,q⟩=>⟨j,bj,D0.2 (.inr hj),q⟩
  .exact .inr ⟨i,blk,D0.2 (.inl hi),(BN h1).symm.trans hg,(yW (h.gho i h1).1 (h.gho i h1).2).1 ho⟩
 have mono: ∀b o,sW g H (qG e1.upd) b o->sW g H (qG (qP e2.upd e1.upd)) b o:=fun b o ⟨j,bj,hj,q⟩=>⟨j,bj,D0.2 (.inr hj),q⟩;refine⟨h.le.trans k.le,k.slot,by simp only[KR];exact k.heap,?_,fun i blk b o hi hg ho=> ?_,fun i hi=> ?_,fun i u y us hg=> ?_⟩
 .have h1:Fr (sW g H (qG (qP e2.upd e1.upd))) w w1 g.S g1.S:=⟨h.fr.os,h.fr.tape,h.fr.output,h.fr.size,fun b hb hn=>h.fr.blk b hb (fun o ho=>hn o (mono b o ho)),fun b o hb hn=>h.fr.cell b o hb (fun ho=>hn (mono b o ho)),fun b o hs=>(h.fr.new b o hs).imp id (Or.imp id (mono b o)),fun b s hs=>(h.fr.shape b s hs).imp id fun h o=>mono b o (h o)⟩;exact h1.trans k.fr hB
 .simp only[KR] at hg;by_cases h2:i∈qG e2.upd
  .rcases k.perm i blk b o h2 hg ho with h3|h3
   .exact .inl (aMN h.fr.size h3)
   .exact hB b o h3
  .have hi1:i∈qG e1.upd:=(D0.1 hi).resolve_left h2;rw[BN h2] at hg;exact(h.perm i blk b o hi1 hg ((yW (k.gho i h2).1 (k.gho i h2).2).1 ho)).imp id (mono b o)
 .have h2:i∉qG e2.upd:=fun q=>hi (D0.2 (.inl q));have h1:i∉qG e1.upd:=fun q=>hi (D0.2 (.inr q));exact⟨(k.gho i h2).1.trans (h.gho i h1).1,(k.gho i h2).2.trans (h.gho i h1).2⟩
 .simp only[KR] at hg;rcases k.ty i u y us hg with⟨x,ts,h3⟩ |⟨h3,h4⟩
  .exact h.ty i u x ts h3
  .right;refine⟨?_,fun n=> ?_⟩
   .cases hj:g.J i with
    |none=>rfl
    |some p=>rw[h.le.J i p hj] at h3;cases h3
   .cases hj:g.cur i n with
    |none=>rfl
    |some p=>rw[<-h4 n,h.le.cur i n p hj]
omit hT hH in
theorem sB.congrH {H H':s0}{e:qH}{g':Gh}{w':pR}{v:pS}(h:sB g w H e g' w' v) (hH:H=H'):sB g w H' e g' w' v:=hH▸h
omit hT hH in
theorem WS {w:pR}: ∀(ls:List (Nat×TypeId×Nat)) (i:Nat) (g:Gh) (H:s0),sG g w H->(∀j,i<=j->j<i+ls.length->∀n,g.cur j n=none)->
  ∃g1,sB g w H ⟨[],(.any,none),CT ls i,[]⟩ g1 w undef/\g1.J=g.J/\(∀o k,(o,k)∈BG ls i->g1.cur k 0=some (.slice none 0 0))/\(∀k,k<i->g1.cur k=g.cur k)
 |[],i,g,H,hH,_=>⟨g,.pure hH ⟨trivial,trivial⟩,rfl,fun _ _ h=>by simp [BG] at h,fun _ _=>rfl⟩
 |(o,e,c)::r,i,g,H,hH,hf=>by
  have e1:=sB.nilTok (side:=[]) (d:= .val (.list .bool) []) (rds:=[]) (base:=i) (e:=e) (c:=c) (u:= .bool) hH rfl (hf i (aMc _) pI);have hc1: ∀k n,k≠i->(g.tok i 0 (.slice none 0 0)).cur k n=g.cur k n:=fun k n hk=>by
   show (if k=i/\n=0 then _ else _)=_;rw[aLU (fun h=>hk h.1)]
  obtain⟨g1,k1,k2,k3,k4⟩:=WS r (i+1) (g.tok i 0 (.slice none 0 0)) (qP [(i,q9.grow e c 0)] H) e1.heap (fun j h1 h2 n=>by rw[hc1 j n pG];exact hf j pG (by simp only[aLY];omega) n);refine⟨g1,e1.trans k1,k2.trans rfl,fun o' k hm=> ?_,fun k hk=> ?_⟩
  .simp only[BG,aL3,aMl] at hm;rcases hm with⟨rfl,rfl⟩ |hm
   .rw[k4 _ pG];show (if k=k/\0=0 then _ else _)=_;simp
   .exact k3 o' k hm
  .rw[k4 k pG];funext n;exact hc1 k n pG
omit hT hH in
theorem WT: ∀{ls:List (Nat×TypeId×Nat)}{i o k:Nat},(o,k)∈BG ls i->∃q∈ls,q.1=o
 |[],_,_,_,h=>by simp [BG] at h
 |(o',e,c)::r,i,o,k,h=>by
  simp only[BG,aL3,aMl] at h;rcases h with⟨h1,_⟩ |h
  .exact⟨(o',e,c),by simp,h1.symm⟩
  .obtain⟨q,h1,h2⟩:=WT h;exact⟨q,by simp [h1],h2⟩
omit hT hH in
theorem WU {t:Ty}: ∀{ls:List (Nat×TypeId×Nat)},DT t ls=true->∀q∈ls,DS t q.1=true
 |[],_,_,h=>by cases h
 |(o,e,c)::r,h,q,hq=>by
  simp only[DT,aMb] at h;rcases aL3.1 hq with rfl|hq
  .exact h.1
  .exact WU h.2 q hq
omit hT hH in
theorem NN: ∀(ls:List (Nat×TypeId×Nat)) (i j:Nat),j∈qG (CT ls i)↔i<=j/\j<i+ls.length
 |[],i,j=>by simp only[CT,qG,aNi,aMh,false_iff];omega
 |(o,e,c)::r,i,j=>by
  simp only[CT,D0,NN r (i+1) j,qG,aL6,aLY];omega
omit hT hH in
theorem a6Z {w:pR}: ∀(R:List (Nat×Nat×Ty)) (i:Nat) (g:Gh) (H:s0),sG g w H->(∀j,i<=j->j<i+R.length->∀n,g.cur j n=none)->
  ∃g1,sB g w H ⟨[],(.any,none),I7 R i,[]⟩ g1 w undef/\g1.J=g.J/\(∀j,j<R.length->g1.cur (i+j) 0=some (.slice none 0 0))/\(∀k,k<i->g1.cur k=g.cur k)
 |[],i,g,H,hH,_=>⟨g,.pure hH ⟨trivial,trivial⟩,rfl,fun _ h=>by simp at h,fun _ _=>rfl⟩
 |(o,e,u)::r,i,g,H,hH,hf=>by
  have hfr:=hf i (aMc _) pI;have e1:=sB.row (side:=[]) (rds:=[]) (k:=i) (e:=e) (t:=u) (l:=[]) (n:=0) (s:=(.any,none)) (val:=undef) (v:= .slice none 0 0) (xs:=[]) hH rfl (World.ownsRow_nil w 0 _ _) rfl (fun m _=>hfr m) (fun u hu=>by rw[hfr] at hu;cases hu) (.inl ⟨rfl,rfl,rfl,aMc _,fun _ _ _=>rfl⟩) (fun _ _ _=>rfl) (fun b hb=>by cases hb) (fun b hb=>by cases hb) ⟨trivial,trivial⟩;have hc1: ∀k n,k≠i->(g.tok i 0 (.slice none 0 0)).cur k n=g.cur k n:=fun k n hk=>by
   show (if k=i/\n=0 then _ else _)=_;rw[aLU (fun h=>hk h.1)]
  obtain⟨g1,k1,k2,k3,k4⟩:=a6Z r (i+1) (g.tok i 0 (.slice none 0 0)) (qP [(i,q9.row e u [] 0)] H) e1.heap (fun j h1 h2 n=>by rw[hc1 j n pG];exact hf j pG (by simp only[aLY];omega) n);refine⟨g1,e1.trans k1,k2.trans rfl,fun j hj=> ?_,fun k hk=> ?_⟩
  .cases j with
   |zero=>
    rw[aM7,k4 _ pG];show (if i=i/\0=0 then _ else _)=_;simp
   |succ j=>
    have:=k3 j (by simpa using hj);rwa [show i+1+j=i+(j+1) by omega] at this
  .rw[k4 k pG];funext n;exact hc1 k n pG
omit hT hH in
theorem a60: ∀(R:List (Nat×Nat×Ty)) (i j:Nat),j∈qG (I7 R i)↔i<=j/\j<i+R.length
 |[],i,j=>by simp only[I7,qG,aNi,aMh,false_iff];omega
 |(o,e,c)::r,i,j=>by
  simp only[I7,D0,a60 r (i+1) j,qG,aL6,aLY];omega
omit hT hH in
theorem WV {α:Type}: ∀l:List α,MX l=l.length
 |[]=>rfl
 |_::l=>by simp only[MX,WV l,aLY]
omit hT hH in
theorem NO {α:Type}{x:α}: ∀{l m:List α},x∈qP l m↔x∈l\/x∈m
 |[],m=>by simp [qP]
 |y::l,m=>by simp only[qP,aL3,NO (l:=l),or_assoc]
omit hT hH in
theorem aEY {g:Gh}{w:pR}: ∀{t:Ty}{x:t.den}{cs:pN}{o:Nat},Rd g w t x cs->∀q∈DU t x o,o<=q.1/\cs[q.1-o]? =some (.slice none 0 0):=by
 intro t
 induction t with
 |pair a b iha ihb=>
  intro x cs o r q hq;obtain⟨c1,c2,rfl,r1,r2⟩:=r;simp only[DU,NO] at hq;have hl:=sV r1;rcases hq with hq|hq
  .obtain⟨h1,h2⟩:=iha r1 q hq;exact⟨h1,by rw[aL4 (aL1.1 h2).1];exact h2⟩
  .obtain⟨h1,h2⟩:=ihb r2 q hq;refine⟨pG,?_⟩;rw[aL0 pG,hl,show q.1-o-a.cells=q.1- (o+a.cells) by omega];exact h2
 |rl e u=>
  intro x cs o r q hq;cases x with
  |none=>
   simp only[DU,V6,aL6] at hq;subst hq;refine⟨aMc _,?_⟩;rw[show cs=[.slice none 0 0] from r];simp
  |some z=>simp [DU,V6] at hq
 |_=>intro x cs o r q hq;simp [DU] at hq
omit hT hH in
theorem aEZ {g:Gh}{w:pR}: ∀{t:Ty}{x:t.den}{cs:pN}{o:Nat},Rd g w t x cs->∀q∈EW t x o,o<=q/\cs[q-o]? =some (.pointer none):=by
 intro t
 induction t with
 |pair a b iha ihb=>
  intro x cs o r q hq;obtain⟨c1,c2,rfl,r1,r2⟩:=r;simp only[EW,NO] at hq;have hl:=sV r1;rcases hq with hq|hq
  .obtain⟨h1,h2⟩:=iha r1 q hq;exact⟨h1,by rw[aL4 (aL1.1 h2).1];exact h2⟩
  .obtain⟨h1,h2⟩:=ihb r2 q hq;refine⟨pG,?_⟩;rw[aL0 pG,hl,show q-o-a.cells=q- (o+a.cells) by omega];exact h2
 |mref=>
  intro x cs o r q hq;cases x with
  |none=>
   simp only[EW,V7,aL6] at hq;subst hq;refine⟨aMc _,?_⟩;rw[show cs=[.pointer none] from r];simp
  |some z=>simp [EW,V7] at hq
 |_=>intro x cs o r q hq;simp [EW] at hq
omit hT hH in
theorem a61 {g:Gh}{w:pR}{t u:Ty}{x z:t.den}{y:u.den}{cs:pN}{o:Nat}{v:pS}(h:sU u y t x o=some z) (hy:Rd g w u y [v]) (hR:Rd g w t x cs) (hv:cs[o]? =some v):Rd g w t z cs:=by
 obtain⟨c1,c2,c3,rfl,rfl,h2,h3⟩:=RX hy hR h;have hu:=sV hy;simp only[aNl] at hu;rw[<-hu] at h2;obtain⟨v',rfl⟩:=aM9.1 h2;have:(c1++[v']++c3)[c1.length]? =some v':=by simp
 rw[this] at hv;obtain rfl:=aLS hv;exact h3
omit hT hH in
theorem a62 {g:Gh}{w:pR}{t:Ty}{cs:pN}: ∀{R:List (Nat×Nat×Ty)}{i:Nat}{x z:t.den},I5 t i R (some x)=some z->Rd g w t x cs->(∀q∈R,cs[q.1]? =some (.slice none 0 0))->(∀j,j<R.length->g.cur (i+j) 0=some (.slice none 0 0))->Rd g w t z cs
 |[],i,x,z,h,hR,_,_=>by simp only[I5,aLO] at h;exact h▸hR
 |(o,e,u)::r,i,x,z,h,hR,hc,hg=>by
  simp only[I5] at h;cases hs:sU (.rl e u) (some (i,0)) t x o with
  |none=>rw[hs] at h;cases r<;>simp [I5] at h
  |some x'=>
   rw[hs] at h;refine a62 h (a61 (v:= .slice none 0 0) hs ⟨_,by simpa using hg 0 pI,rfl,.inl ⟨rfl,rfl⟩⟩ hR (hc _ aL7)) (fun q hq=>hc q (aL5 _ hq)) (fun j hj=> ?_);have:=hg (j+1) (by simpa using hj);rwa [show i+(j+1)=i+1+j by omega] at this
omit hT hH in
theorem a63 {g:Gh}{w:pR}{t:Ty}{cs:pN}{i:Nat}{p:Pl}(hp:g.J i=some p) (hp2:p.2=0): ∀{M:pQ}{x z:t.den},GF t i M (some x)=some z->Rd g w t x cs->(∀q∈M,cs[q]? =some (.pointer none)/\W7 p.3 q)->Rd g w t z cs
 |[],x,z,h,hR,_=>by simp only[GF,aLO] at h;exact h▸hR
 |q::r,x,z,h,hR,hc=>by
  simp only[GF] at h;cases hs:sU .mref (some (i,q)) t x q with
  |none=>rw[hs] at h;cases r<;>simp [GF] at h
  |some x'=>
   rw[hs] at h;exact a63 hp hp2 h (a61 (v:= .pointer none) hs ⟨p,hp,by rw[hp2,aMs];exact(hc _ aL7).2,.inl rfl⟩ hR (hc _ aL7).1) (fun q hq=>hc q (aL5 _ hq))
omit hT hH in
theorem S6 {k:Nat}: ∀{ls:List (Nat×TypeId×Nat)}{q:Nat×TypeId×Nat},q∈BH k ls->q.1+1≠k
 |[],_,h=>by cases h
 |(o,e,c)::r,q,h=>by
  simp only[BH] at h;split at h
  .exact S6 h
  .rename_i hne;rcases aL3.1 h with rfl|h
   .exact hne
   .exact S6 h
omit hT in
theorem a64 {t:Ty}{y:t.den}{ls:List (Nat×TypeId×Nat)}{base:Nat}{e:qH}{cs:pN}{el:TypeId}(hr:QR base el t y ls (DT t ls)=some e) (hf:yG g base e) (hR:Rd g w t y cs) (hn: ∀q∈ls,∃k,xD k t 0 cs/\q.1+1≠k):
  ∃g',sB g w H e g' (w.alloc (.cells cs.toArray el)) (.pointer (some ⟨w.heap.size,0,none⟩)):=by
 cases hl:DT t ls with
 |false=>rw[hl] at hr;cases hr
 |true=>
  rw[hl] at hr;simp only[QR,WV] at hr;have cR:=fun q hq=>aEY (o:=0) hR q hq;have cM: ∀q∈QQ el t y,cs[q]? =some (.pointer none)/\W7 (some (el,cs.length)) q:=by
   intro q hq;unfold QQ at hq;split at hq
   .rename_i hb;have h0:=fun q hq=>aEZ (o:=0) hR q hq;have hl:=sV hR;generalize EW t y 0=M at hq h0;rw[<-hl] at hq;unfold a52 at hq;split at hq
    .rename_i h2;simp only[aL6] at hq;subst hq;exact⟨by simpa using(h0 0 pI).2,rfl,el,hb,by rw[h2]⟩
    .cases hq
   .cases hq
  generalize DU t y 0=R at hr cR;generalize QQ el t y=M at hr cM;cases hz1:I5 t (base+1+ls.length) R (some y) with
  |none=>
   rw[hz1] at hr;have:GF t base M none=none:=by cases M<;>rfl
   rw[this] at hr;cases hr
  |some z1=>
   rw[hz1] at hr;cases hz2:GF t base M (some z1) with
   |none=>rw[hz2] at hr;cases hr
   |some z=>
    rw[hz2] at hr;simp only[a54,WV] at hr;obtain rfl:=(aLS hr);have hfr: ∀j,base+1<=j->j<base+1+ls.length+R.length->g.J j=none/\∀n,g.cur j n=none:=fun j h1 h2=>hf j (by
     simp only[qG,aL3];right;rw[D0];by_cases h3:j<base+1+ls.length
     .exact .inr ((NN ls (base+1) j).2 ⟨h1,h3⟩)
     .exact .inl ((a60 R (base+1+ls.length) j).2 ⟨pG,h2⟩)) pG
    have hf0:=hf base (by simp [qG]) (aMc _);obtain⟨g1,k1,k2,k3,k4⟩:=WS ls (base+1) g H hH (fun j h1 h2=>(hfr j h1 pG).2);have hfr1: ∀j,base+1+ls.length<=j->j<base+1+ls.length+R.length->∀n,g1.cur j n=none:=by
     intro j h1 h2 n;have:=(k1.gho j (by simp only;rw[NN];omega)).2;rw[this];exact(hfr j pG h2).2 n
    obtain⟨g2,m1,m2,m3,m4⟩:=a6Z R (base+1+ls.length) g1 _ k1.heap hfr1;have hJ:(g2.var base w.heap.size (some (el,cs.length))).J base=some ⟨w.heap.size,0,some (el,cs.length)⟩:=by simp [Gh.var]
    have hle:Le g w (g2.var base w.heap.size (some (el,cs.length))) w:=by
     refine((k1.le.trans m1.le).trans ⟨fun _ _ h=>h,fun _ _ _=>rfl,fun i p h=> ?_,fun _ _ _ h=>h⟩);show (if i=base then _ else _)=_;rw[aLU (fun e1=>by rw[e1,m2,k2,hf0.1] at h;cases h)];exact h
    have hRz:Rd (g2.var base w.heap.size (some (el,cs.length))) w t z cs:=a63 hJ rfl hz2 (a62 hz1 (wU hle hR) (fun q hq=>by simpa using(cR q hq).2) (fun j hj=>m3 j hj)) cM;have htk:F1 g2 t z cs (BG ls (base+1)):=by
     intro o k hm;obtain⟨q,hq,rfl⟩:=WT hm;obtain⟨kx,hx1,hx2⟩:=hn q hq;obtain⟨u,h1,h2⟩:=a6L hx1 hRz (WU hl q hq) pG;exact⟨u,[],_,h1,h2,m1.le.cur _ _ _ (k3 _ _ hm)⟩
    have e3:=sB.newVarJ (side:=[]) (rds:=[]) (base:=base) (toks:=BG ls (base+1)) (e:=el) m1.heap hRz htk (by rw[m2,k2];exact hf0.1) (by rw[m4 base pG,k4 base pG];exact funext hf0.2);have e4:=sB.trans (side:=[]) (rds:=[]) k1 m1;exact⟨_,sB.trans (side:=[]) (rds:=[]) e4 (e3.congrH (H':=qP (qP (I7 R (base+1+ls.length)) (CT ls (base+1))) H) (by simp only[KR]))⟩
theorem WW {t:Ty}{y:t.den}{k:pP}{v:pS}(h:rJ g w (.val t y,k) v):tJ g w t y v/\C5 g t y v k:=by
 refine⟨h.1,?_⟩;cases k with
 |none=>trivial
 |some k=>exact h.2
theorem aE0 {t:TypeId}{x:Operand}(ho:o.op= .box t x) {sx:qC}(hx:rJ g w sx (a.eval x)) {base:Nat}{e:qH}(hr:V8 base t (rK T t) sx=some e) (hf:yG g base e):rD P o a g w H e:=by
 generalize hst:rK T t=ot at hr;have hrun:(execOp a.eval o).run P w= .ok (.value (.pointer (some ⟨w.heap.size,0,none⟩))) (w.alloc (.cells (a.eval x).cells.toList.toArray t)):=by
  unfold execOp;rw[ho];simp only[Instr.box,Go.newVar,newRow,aL2,run_newObj,aLX,aMf,aNe];rfl
 have one: ∀{u:Ty}{y:u.den},tJ g w u y (a.eval x)->u.isRow=false->(a.eval x).cells.toList=[a.eval x]:=fun hv hrow=>by
  have h1:=A3 (A4 hrow hv) _ (aL6.2 rfl);cases h:a.eval x<;>first|rfl|(rw[h] at h1;simp [Value.oneCell'] at h1)
 unfold V8 at hr;split at hr
 .rename_i ti u y k;split at hr
  .obtain⟨hv,hk⟩:=WW hT hH hx;have hR:=DX hv;unfold a55 at hr;split at hr
   .rename_i a' b' y' k' _;have hn:xD k' (.pair a' b') 0 (a.eval x).cells.toList:=hk;obtain⟨g',h⟩:=a64 (el:=t) hH hr hf hR (fun q hq=>⟨k',hn,S6 hq⟩);exact rD.value hrun h
   .rename_i u' y' k';cases hr;have hfr:=hf base (by simp [qG]) (aMc _);exact rD.value hrun (sB.newVar hH hR (aEX hT hH hk (one hv rfl)) hfr.1 (funext hfr.2))
   .cases hr;have hfr:=hf base (by simp [qG]) (aMc _);exact rD.value hrun (sB.newVar hH hR (fun q k hm=>by cases hm) hfr.1 (funext hfr.2))
  .cases hr
 .cases hr
theorem a65 {t:TypeId}(run: ∀ti,rK T t=some ti->(execOp a.eval o).run P w= .ok (.value (.pointer (some ⟨w.heap.size,0,none⟩))) (w.alloc (.cells (uA ti.ty).toArray t))) {base:Nat}{e:qH}(hr:MY base t (rK T t)=some e) (hf:yG g base e):rD P o a g w H e:=by
 generalize hst:rK T t=ot at hr;unfold MY at hr;split at hr
 .rename_i u el by' ar ls_;cases hr;have hf0:=hf base (by simp [qG]) (aMc _);have hf1:=hf (base+1) (by simp [qG]) pG;have hty:=tD hT hst;have e1:=sB.nilTok (side:=[]) (d:= .val (.list u) []) (rds:=[]) (base:=base+1) (e:=el) (c:=u.cells) (u:=u) hH rfl hf1.2;have hH1:=e1.heap;have htk:F1 (g.tok (base+1) 0 (.slice none 0 0)) (.list u) [] [.slice none 0 0] [(0,base+1)]:=by
   intro q kk hm;simp only[aL6,aMl] at hm;obtain⟨rfl,rfl⟩:=hm;exact⟨u,[],.slice none 0 0,by unfold rC;simp [uF],rfl,by simp [Gh.tok]⟩
  have e2:=sB.newVar (side:=[]) (rds:=[]) (base:=base) (toks:=[(0,base+1)]) (e:=t) hH1 (CX (g.tok (base+1) 0 (.slice none 0 0)) w (.list u)) htk hf0.1 (by
   funext n;show (if base=base+1/\n=0 then _ else _)=_;rw[aLU pG];exact hf0.2 n)
  exact rD.value (run _ hst) (sB.trans (side:=[]) (rds:=[]) e1 e2)
 .rename_i ti hno;obtain⟨g',h⟩:=a64 (el:=t) hH hr hf (CX g w ti.ty) (fun q _=>⟨0,S2 _ _,pG⟩);exact rD.value (run _ hst) h
 .cases hr
theorem aE1 {t:TypeId}(ho:o.op= .alloc t) {base:Nat}{e:qH}(hr:MY base t (rK T t)=some e) (hf:yG g base e):rD P o a g w H e:=by
 have run: ∀ti,rK T t=some ti->(execOp a.eval o).run P w= .ok (.value (.pointer (some ⟨w.heap.size,0,none⟩))) (w.alloc (.cells (uA ti.ty).toArray t)):=by
  intro ti hti;obtain⟨i,hi,hsz,hz⟩:=CZ (tD hT hti);have hc:(vW ti.ty).cells=(uA ti.ty).toArray:=by
   have:=DX (IJ g w ti.ty);unfold vW;cases h:ti.ty<;>simp [Ty.isRow,uA,Value.cells]
  unfold execOp;rw[ho];simp only[Instr.alloc,zeroValue,typeInfo,Go.newVar,newRow,aL2,aMP,hi,hz,hc,run_newObj,aLX,aMf];rfl
 exact a65 hT hH run hr hf
theorem aE2 {t:TypeId}{x:Operand}(ho:o.op= .box t x) {sx:qC}(hx:rJ g w sx (a.eval x)) (hfix: ∀ti:Option TI,rJ g w (K3 ti sx) (a.eval x)) {base:Nat}{e:qH}(hr:V9 base t (rK T t) sx=some e) (hf:yG g base e):rD P o a g w H e:=by
 generalize hst:rK T t=ot at hr;unfold V9 at hr;split at hr
 .rename_i u el by' ar ls_ k;rw[<-hst] at hr;refine a65 hT hH (fun ti hti=> ?_) hr hf;rw[hst] at hti;cases hti;have hv:a.eval x= .slice none 0 0:=hx.1;unfold execOp;rw[ho];simp only[Instr.box,Go.newVar,newRow,aL2,run_newObj,aLX,aMf,hv];rfl
 .rw[<-hst] at hr;exact aE0 hT hH ho (hfix _) hr hf
omit hT hH in
theorem aE3 {t:Ty}{y:t.den}{k:pP}{v:pS}(h:C5 g t y v k):C5 g t y v (DQ t k):=by
 cases t with
 |list u=>exact h
 |_=>trivial
omit hT hH in
theorem a66 {off:Nat}: ∀{l:pL}{o k:Nat},(o,k)∈KA off l->∃q,o=off+q/\(q,k)∈l
 |[],_,_,h=>by cases h
 |(q,k')::r,o,k,h=>by
  simp only[KA,aL3,aMl] at h;rcases h with⟨rfl,rfl⟩ |h
  .exact⟨q,rfl,aL7⟩
  .obtain⟨q',h1,h2⟩:=a66 h;exact⟨q',h1,aL5 _ h2⟩
omit hT hH in
theorem a67 {v t:Ty}{y:t.den}: ∀{u:Ty}{x z:u.den}{o q:Nat}{l:(Ty.list v).den},sU t y u x o=some z->rC (.list v) t y q=some l->q<t.cells->rC (.list v) u z (o+q)=some l:=by
 intro u
 induction u with
 |pair a b iha ihb=>
  intro x z o q l h g hq;by_cases hu:o=0/\t= .pair a b
  .obtain⟨rfl,rfl⟩:=hu;unfold sU at h;rw[aNP rfl] at h;simp only[uF,aLO] at h;subst h;simpa using g
  .have keyh:(if o<a.cells then(sU t y a x.1 o).map (fun q=>(q,x.2)) else(sU t y b x.2 (o-a.cells)).map (fun q=>(x.1,q)))=some z:=by
    cases o with
    |zero=>
     unfold sU at h;rw[aNr (fun e=>hu ⟨rfl,e⟩)] at h;simpa using h
    |succ o=>simpa[sU] using h
   have keyg: ∀m,rC (.list v) (.pair a b) z m=(if m<a.cells then rC (.list v) a z.1 m else rC (.list v) b z.2 (m-a.cells)):=by
    intro m;cases m with
    |zero=>
     conv=>lhs;unfold rC
     rw[aNr (by intro e;cases e),Nat.zero_sub]
    |succ m=>simp [rC]
   rw[keyg];by_cases ho:o<a.cells
   .rw[aLQ ho] at keyh;obtain⟨z',hz',rfl⟩:=aLW.1 keyh;have hfit:o+t.cells<=a.cells:=by
     have: ∀{u:Ty}{x z:u.den}{o:Nat},sU t y u x o=some z->o+t.cells<=u.cells:=by
      intro u
      induction u with
      |pair a b iha ihb=>
       intro x z o h;have key: ∀o,(if o<a.cells then(sU t y a x.1 o).map (fun q=>(q,x.2)) else(sU t y b x.2 (o-a.cells)).map (fun q=>(x.1,q)))=some z->o+t.cells<=a.cells+b.cells:=by
        intro o h;by_cases ho:o<a.cells
        .rw[aLQ ho] at h;obtain⟨z',hz',_⟩:=aLW.1 h;have:=iha hz';omega
        .rw[aLU ho] at h;obtain⟨z',hz',_⟩:=aLW.1 h;have:=ihb hz';omega
       cases o with
       |zero=>
        unfold sU at h;split at h
        .rename_i e;subst e;simp
        .exact key 0 (by simpa using h)
       |succ o=>exact key (o+1) (by simpa[sU] using h)
      |_=>
       intro x z o h;cases o with
       |zero=>
        unfold sU at h;split at h
        .rename_i e;subst e;simp
        .simp at h
       |succ o=>simp [sU] at h
     exact this hz'
    rw[aLQ pG];exact iha hz' g hq
   .rw[aLU ho] at keyh;obtain⟨z',hz',rfl⟩:=aLW.1 keyh;rw[aLU pG,show o+q-a.cells=o-a.cells+q from by omega];exact ihb hz' g hq
 |_=>
  intro x z o q l h g hq;cases o with
  |zero=>
   unfold sU at h;split at h
   .rename_i e;subst e;simp only[uF,aLO] at h
    try subst h
    simpa using g
   .simp at h
  |succ o=>simp [sU] at h
omit hT hH in
theorem a68 {v:Ty}: ∀{t:Ty}{x:t.den}{q:Nat}{l:(Ty.list v).den},rC (.list v) t x q=some l->q<t.cells:=by
 intro t
 induction t with
 |pair s t ihs iht=>
  intro x q l g;have key: ∀q,(if q<s.cells then rC (.list v) s x.1 q else rC (.list v) t x.2 (q-s.cells))=some l->q<s.cells+t.cells:=by
   intro q g;by_cases h:q<s.cells
   .omega
   .rw[aLU h] at g;have:=iht g;omega
  cases q with
  |zero=>
   unfold rC at g;rw[aNr (by intro e;cases e)] at g;exact key 0 (by simpa using g)
  |succ q=>exact key (q+1) (by simpa[rC] using g)
 |unit=>
  intro x q l g;cases q with
  |zero=>unfold rC at g;rw[aNr (by intro e;cases e)] at g;cases g
  |succ q=>simp [rC] at g
 |_=>
  intro x q l g;cases q with
  |zero=>simp [Ty.cells]
  |succ q=>simp [rC] at g
omit hT in
theorem sB.retok {i:Nat}{u:Ty}{z:u.den}{toks nt:pL}{p:Pl}(hb:qD H i=some (.cells u z toks)) (hp:g.J i=some p)
  (hn: ∀cs,Rd g w u z cs->w.rangeAt p.1 p.2 cs->F1 g u z cs nt):sB g w H ⟨[],(.any,none),[(i,.cells u z (qP nt toks))],[]⟩ g w undef:=by
 obtain⟨p',cs,hp',hR,hra,hth,hns,htk⟩:=hH.blk i _ hb;rw[hp] at hp';obtain rfl:=aLS hp';have get: ∀j blk,j∈qG [(i,q9.cells u z (qP nt toks))]->qD (qP [(i,q9.cells u z (qP nt toks))] H) j=some blk->j=i/\blk= .cells u z (qP nt toks):=by
  intro j blk hi hg;simp only[qG,aL6] at hi;subst hi;simp only[qP,qD,aNo,aLO] at hg;exact⟨rfl,hg.symm⟩
 have perm: ∀j blk b o,j∈qG [(i,q9.cells u z (qP nt toks))]->qD (qP [(i,q9.cells u z (qP nt toks))] H) j=some blk->sA g j blk b o->w.heap.size<=b\/sW g H (qG [(i,q9.cells u z (qP nt toks))]) b o:=by
  intro j blk b o hi hg ho;obtain⟨rfl,rfl⟩:=get j blk hi hg;exact .inr ⟨j,_,hi,hb,ho⟩
 have le:Le g w g w:=⟨fun _ _ h=>h,fun _ _ _=>rfl,fun _ _ h=>h,fun _ _ _ h=>h⟩;have fr:Fr (sW g H (qG [(i,q9.cells u z (qP nt toks))])) w w g.S g.S:=⟨rfl,rfl,rfl,aMc _,fun _ _ _=>rfl,fun _ _ _ _=>⟨rfl,rfl⟩,fun _ _ h=> .inl h,fun _ _ h=> .inl h⟩;refine⟨le,⟨trivial,trivial⟩,hH.upd le fr perm (fun _ _=>⟨rfl,rfl⟩) (fun j blk hi hg=> ?_) (fun i j bi bj b o hi hj hij hgi hgj _ _=>hij ((get i bi hi hgi).1.trans (get j bj hj hgj).1.symm)) (fun b o h=>hH.sl b o h),fr,perm,fun _ _=>⟨rfl,rfl⟩,fun j u' y' us h=> ?_⟩
 .obtain⟨rfl,rfl⟩:=get j blk hi hg;refine⟨p,cs,hp,hR,hra,hth,hns,fun q kk hm=> ?_⟩;rcases(NO.1 hm) with hm|hm
  .exact hn cs hR hra q kk hm
  .exact htk q kk hm
 .simp only[qP,qD] at h;split at h
  .rename_i e1;subst e1;simp only[aLO,q9.cells.injEq] at h;obtain⟨rfl,_⟩:=h;exact .inl ⟨z,toks,hb⟩
  .exact .inl ⟨y',us,h⟩
omit hT hH in
theorem aE4 {g:Gh}{t a b:Ty}{y:t.den}{v:pS}{k:pP}(h:k.isSome=true) (ht:t= .pair a b) (hk:C5 g t y v k): ∃m,k=some m/\xD m t 0 v.cells.toList:=by
 subst ht;cases k with
 |none=>cases h
 |some k=>exact⟨k,rfl,hk⟩
omit hT hH in
theorem aE5 {base i off:Nat}{b:Option q9}{ls:List (Nat×TypeId×Nat)}{t:Ty}{y:t.den}{k:pP}{e:qH}(h:R2 base i off b ls t y k=some e):
  (∃(s:Ty) (x:s.den) (toks:pL) (z:s.den),b=some (.cells s x toks)/\sU t y s x off=some z/\k.isSome=true/\(∃a c,t= .pair a c)/\∃m,k=some m/\DT t (BH m ls)=true/\
   e=⟨[],(.any,none),(i,.cells s z (qP (KA off (BG (BH m ls) base)) (vJ toks off t.cells)))::qP (CT (BH m ls) base) [(i,.cells s z (vJ toks off t.cells))],[i]⟩)\/R0 t y k i off b=some e:=by
 unfold R2 at h;split at h
 .rename_i q r a c y' k';cases hok:DT (.pair a c) (BH k' (q::r)) with
  |false=>rw[hok] at h;unfold R1 at h;split at h<;>first|cases h|(rename_i h2;cases h2)
  |true=>
   rw[hok] at h;unfold R1 at h;split at h
   .rename_i s x toks _;cases hset:sU (.pair a c) y' s x off with
    |none=>rw[hset] at h;cases h
    |some z=>
     rw[hset] at h;exact .inl ⟨s,x,toks,z,rfl,hset,rfl,⟨a,c,rfl⟩,_,rfl,hok,(aLS h).symm⟩
   .cases h
 .exact .inr h
omit hT hH in
theorem a69 {i off k n el:Nat}{u v:Ty}{x:v.den}{y:Option qH}{e:qH}(h:orO i off k n el u v x y=some e):y=some e\/VL i (xN el u (some (k,n)) v x off)=some e:=by
 cases y with
 |some r=>exact .inl h
 |none=>exact .inr h
theorem aE6 {t:TypeId}{x y:Operand}(ho:o.op= .store t x y) {sx sy:qC}(hx:rJ g w sx (a.eval x)) (hy:rJ g w sy (a.eval y)) {base:Nat}{e:qH}(hr:R4 base H (rK T t) sx sy=some e) (hside: ∀p∈e.side,p) (hf:yG g base e):rD P o a g w H e:=by
 generalize hst:rK T t=ot at hr;unfold R4 at hr;split at hr
 .rename_i ti i off k kk n k2;generalize hb:qD H i=ob at hr;unfold VM at hr;split at hr
  .rename_i u el _ _ _ v x' toks;rcases a69 hr with hr|hr
   case inr=>
    generalize hset:xN el u (some (kk,n)) v x' off=oz at hr;cases oz with
    |none=>cases hr
    |some z'=>
     cases hr;have hty:=tD hT hst;obtain⟨p,hp,hv⟩:=yX hx.1;obtain⟨h1,h2⟩:=hy.1;have hR:Rd g w (.rl el u) (some (kk,n)) [a.eval y]:=⟨_,h1,rfl,h2⟩;obtain⟨heff,hth⟩:=yV.openS (side:=[]) (rds:=[1000000000,i]) hH hb hp hset hR rfl rfl;have hce:(a.eval y).cells= #[a.eval y]:=by rcases h2 with⟨h2,_⟩ |⟨_,_,h2,_⟩<;>(rw[h2];rfl)
     refine rD.skipW (w':=w.setCells p.1 (p.2+off) [a.eval y]) ?_ heff;obtain⟨inf,hi,hsz,_⟩:=CZ hty;have hcells:=run_storeCells_cells (P:=P) p.1 (p.2+off) [a.eval y] 0 w (fun j hj=>by simpa using(hth j hj).1) (fun j hj=>by simpa using(hth j hj).2) (fun v hv=>A3 hR v hv);simp only[aM7] at hcells;have hs2:(a.eval y).cells.size=inf.size:=by rw[hsz,hce];rfl
     have hcl:(a.eval y).cells.toList=[a.eval y]:=by rw[hce]
     simp only[execOp,ho,hv,Instr.storeAt,Instr.sureAddr,storeVar,aL2,aMf,aLX,sizeOf,typeInfo,aMP,hi,hs2,ne_eq,not_true_eq_false,aNT,hcl,hcells]
   generalize hset:sU (.rl el u) (some (kk,n)) v x' off=oz at hr;cases oz with
   |none=>cases hr
   |some z'=>
    cases hr;have hty:=tD hT hst;obtain⟨p,hp,hv⟩:=yX hx.1;obtain⟨h1,h2⟩:=hy.1;have hR:Rd g w (.rl el u) (some (kk,n)) [a.eval y]:=⟨_,h1,rfl,h2⟩;obtain⟨heff,hth⟩:=sB.store (side:=[]) (rds:=[i]) (k:=none) (v:=a.eval y) hH hb hp hset hR trivial (fun _ _ _=>rfl) (fun _=>rfl);have hce:(a.eval y).cells= #[a.eval y]:=by rcases h2 with⟨h2,_⟩ |⟨_,_,h2,_⟩<;>(rw[h2];rfl)
    refine rD.skip (w':=w.setCells p.1 (p.2+off) [a.eval y]) ?_ heff;obtain⟨inf,hi,hsz,_⟩:=CZ hty;have hcells:=run_storeCells_cells (P:=P) p.1 (p.2+off) [a.eval y] 0 w (fun j hj=>by simpa using(hth j hj).1) (fun j hj=>by simpa using(hth j hj).2) (fun v hv=>A3 hR v hv);simp only[aM7] at hcells;have hs2:(a.eval y).cells.size=inf.size:=by rw[hsz,hce];rfl
    have hcl:(a.eval y).cells.toList=[a.eval y]:=by rw[hce]
    simp only[execOp,ho,hv,Instr.storeAt,Instr.sureAddr,storeVar,aL2,aMf,aLX,sizeOf,typeInfo,aMP,hi,hs2,ne_eq,not_true_eq_false,aNT,hcl,hcells]
  .cases hr
 .rename_i ti k n c i o' _ u z kk;split at hr
  .rename_i hu;subst hu;generalize hk:qD H k=ob at hr;unfold R3 at hr;split at hr
   .rename_i e' t' l m;split at hr
    .rename_i hc;generalize hset:sU ti.ty z t' (qW t' l i) o'=oz at hr;cases oz with
     |none=>cases hr
     |some z'=>
      cases hr;have hnm:=hside _ (aL6.2 rfl);obtain⟨b,cap,xs,c1,c2,c3,hv,hcur,hown,hF,hl,hi,h0,e1,e2,e3,e4⟩:=a6Q hT hH hx.1 hk hnm hc;subst hnm;have hty:=tD hT hst;obtain⟨hvy,hky⟩:=WW hT hH hy;have hR:=DX hvy;have hRl:=sV hR;obtain⟨d1,d2,d3,f1,f2,f3,f4⟩:=RX hR e4 hset;obtain⟨_,_,_,_,hv0,hown0,_,hnone,hseal⟩: ∃(_:True) (_:True) (v0:pS) (xs0:pN),g.cur k n=some v0/\w.ownsRow 0 e' t'.cells v0 n xs0/\tV (Rd g w t') t'.cells l xs0/\(∀m,n<m->g.cur k m=none)/\∀b,v0.ownBlock=some b->∀o,¬g.S b o:=by
       obtain⟨_,v0,xs0,q1,q2,q3,q4,q5⟩:=hH.blk k _ hk;exact⟨trivial,trivial,v0,xs0,q1,q2,q3,q4,q5⟩
      rw[hcur] at hv0;obtain rfl:=aLS hv0;rcases hown.2 with⟨h5,_⟩ |⟨q,cap',cur,h5,_,hg,hnc,hcm,hcs,htake⟩
      .cases h5
      simp only[aNK,aLO,Addr.mk.injEq,and_true,true_and] at h5;obtain⟨rfl,rfl⟩:=h5;have hxl:=hown.1;have hnew:=sV f4;simp only[aLT] at hnew;have hc2l:c2.length=t'.cells:=by rw[e3,hc]
      have hd:d1.length+d2.length+d3.length=t'.cells:=by rw[<-hc2l,f1];simp only[aLT]
      have hx1:c1.length+c2.length+c3.length=n*t'.cells:=by rw[<-hxl,e1];simp only[aLT]
      have hall:cur.toList=(c1++(d1++d2++d3)++c3)++cur.toList.drop (n*t'.cells):=by
       conv=>lhs;rw[<-aNk (n*t'.cells) cur.toList,htake,e1,f1]
      obtain⟨D,hD⟩: ∃D,D=cur.toList.drop (n*t'.cells):=⟨_,rfl⟩;rw[<-hD] at hall;have hall2:cur.toList=(c1++d1)++(d2++(d3++c3++D)):=by rw[hall];simp only[aLV]
      have hpos:i.toNat*c+o'=(c1++d1).length:=by rw[aLT,e2,f2]
      have hD2:(a.eval y).cells.toList.length=d2.length:=by rw[hRl,f3]
      have hfit:i.toNat*c+o'+0+(a.eval y).cells.toList.length<=cur.size:=by
       have:cur.size=cur.toList.length:=by simp
       rw[this,hall2,aM7,hpos,hD2];simp only[aLT];omega
      have hst2:=run_storeCells_at P b (i.toNat*c+o') e' (a.eval y).cells.toList 0 cur w hg hfit (fun v hv=>A3 hR v hv);have hrow:cur.toList.take (i.toNat*c+o'+0)++(a.eval y).cells.toList++cur.toList.drop (i.toNat*c+o'+0+(a.eval y).cells.toList.length)=(c1++(d1++(a.eval y).cells.toList++d3)++c3)++D:=by
       rw[aM7,hpos,hD2,hall2,aM2,List.drop_append,List.drop_of_length_le pG,List.nil_append,aMC,aNq];simp only[aLV]
      rw[hrow] at hst2;obtain⟨inf,hinf,hsz,_⟩:=CZ hty;have hs2:(a.eval y).cells.size=inf.size:=by rw[hsz,<-hRl,aMt]
      have hnewlen:((c1++(d1++(a.eval y).cells.toList++d3)++c3)++D).length=cur.size:=by
       have:cur.size=cur.toList.length:=by simp
       rw[this,hall];simp only[aLT];omega
      have hxs':(c1++(d1++(a.eval y).cells.toList++d3)++c3).length=n*t'.cells:=by
       rw[<-hx1];simp only[aLT];rw[f1];simp only[aLT];omega
      have hown':(w.setRow b ((c1++(d1++(a.eval y).cells.toList++d3)++c3)++D).toArray).ownsRow 0 e' t'.cells (.slice (some ⟨b,0,none⟩) n cap) n (c1++(d1++(a.eval y).cells.toList++d3)++c3):=
       ⟨hxs',.inr ⟨b,cap,_,rfl,aMR _,aNB w b cur _ e' _ hg,hnc,hcm,by rw[aMF,hnewlen,hcs],by rw[<-hxs'];exact aM2⟩⟩
      have hF':tV (Rd g w t') t'.cells (l.set i.toNat z') (c1++(d1++(a.eval y).cells.toList++d3)++c3):=by
       obtain⟨q1,q2,q3,r1,r2,r3,r4⟩:=WO hF f4 (sV f4) hi;have s1:q1=c1/\q2=c2/\q3=c3:=by
        have h6:q1++(q2++q3)=c1++(c2++c3):=by rw[<-aLV,<-r1,e1,aLV]
        obtain⟨h7,h8⟩:=aNH h6 (by rw[r2,e2,hc]);obtain⟨h9,h10⟩:=aNH h8 (by rw[r3,e3,hc]);exact⟨h7,h9,h10⟩
       obtain⟨rfl,rfl,rfl⟩:=s1;exact r4
      have hownk: ∀o,sW g H [k] b o:=fun o=>⟨k,_,by simp,hk,_,hcur,rfl⟩;refine rD.skip (w':=w.setRow b ((c1++(d1++(a.eval y).cells.toList++d3)++c3)++D).toArray) ?_ (sB.row (v:= .slice (some ⟨b,0,none⟩) n cap) hH (by rw[List.length_set];exact hl) hown' hF' hnone (fun u hu=>by rw[hcur] at hu;exact(aLS hu).symm)
       (.inr ⟨some b,⟨rfl,rfl,rfl,by simp,fun q _ hq=>aNh w b q _ (fun e=>hq (by rw[e]))⟩,fun b' hb' o=>by cases hb';exact hownk o⟩) (fun b' o hS=> ?_) hseal (fun b' hb'=>by cases hb';exact .inr hownk) ⟨trivial,trivial⟩)
      .simp only[execOp,ho,hv,Instr.storeAt,Instr.sureAddr,storeVar,aL2,aMf,aLX,sizeOf,typeInfo,aMP,hinf,hs2,ne_eq,not_true_eq_false,aNT,hst2]
      .have hne:b'≠b:=fun e=>hseal b rfl o (e▸hS);exact aMe (a:=⟨b',o,none⟩) (aNh w b b' _ hne)
    .cases hr
   .cases hr
  .cases hr
 .rename_i ti i off k u z kk;split at hr
  .rename_i hu;subst hu;generalize hb:qD H i=ob at hr;have hty:=tD hT hst;obtain⟨p,hp,hv⟩:=yX hx.1;obtain⟨hvy,hky⟩:=WW hT hH hy;have hR:=DX hvy;have hone:ti.ty.isRow=false->(a.eval y).cells.toList=[a.eval y]:=fun hrow=>by
    have h1:=A3 (A4 hrow hvy) _ (aL6.2 rfl);cases h:a.eval y<;>first|rfl|(rw[h] at h1;simp [Value.oneCell'] at h1)
   have hrun:w.there p.1 (p.2+off) (a.eval y).cells.toList.length->(execOp a.eval o).run P w= .ok .skip (w.setCells p.1 (p.2+off) (a.eval y).cells.toList):=by
    intro hth;obtain⟨inf,hi,hsz,_⟩:=CZ hty;have hlen:=sV hR;have hcells:=run_storeCells_cells (P:=P) p.1 (p.2+off) (a.eval y).cells.toList 0 w (fun j hj=>by simpa using(hth j hj).1) (fun j hj=>by simpa using(hth j hj).2) (fun v hv=>A3 hR v hv);simp only[aM7] at hcells;have hs2:(a.eval y).cells.size=inf.size:=by rw[hsz,<-hlen,aMt]
    simp only[execOp,ho,hv,Instr.storeAt,Instr.sureAddr,storeVar,aL2,aMf,aLX,sizeOf,typeInfo,aMP,hi,hs2,ne_eq,not_true_eq_false,aNT,hcells]
   rcases aE5 hr with⟨s,x',toks,z',hb',hset,hsome,⟨pa,pb,hpair⟩,mk_,hmk,hok,rfl⟩ |hr
   .rw[hb'] at hb;have hn:xD mk_ ti.ty 0 (a.eval y).cells.toList:=by
     obtain⟨m',e1,e2⟩:=aE4 hsome hpair hky;rw[hmk] at e1;obtain rfl:=aLS e1;exact e2
    have hlx:=fun q hq=>S6 (k:=mk_) (ls:=ti.ls) (q:=q) hq;generalize BH mk_ ti.ls=lsm at hf hok hlx|-;obtain⟨heff,hth⟩:=sB.store (side:=[]) (rds:=[i]) (k:=none) (v:=undef) hH hb hp hset hR trivial (fun _ _ _=>rfl) (fun h=>by rw[hpair] at h;cases h);have hfr: ∀j,base<=j->j<base+lsm.length->∀n,g.cur j n=none:=fun j h1 h2=>(hf j (by
     simp only[qG,aL3];right;rw[D0];exact .inl ((NN _ base j).2 ⟨h1,h2⟩)) h1).2
    obtain⟨g1,k1,k2,k3,k4⟩:=WS lsm base g _ heff.heap hfr;have e2:=sB.trans (side:=[]) (rds:=[]) heff k1;have hib:i<base:=by
     rcases aMY i base with h|h
     .exact h
     .have:=(hf i (by simp [qG]) h).1;rw[hp] at this;cases this
    have hiN:i∉qG (CT lsm base):=fun h=>by
     have:=(NN _ base i).1 h;omega
    have hb3:qD (qP (qP (CT lsm base) [(i,q9.cells s z' (vJ toks off ti.ty.cells))]) H) i=some (.cells s z' (vJ toks off ti.ty.cells)):=by
     rw[KR,BN hiN];simp [qP,qD]
    have hyl:=sV hR;have e3:=sB.retok (p:=p) (nt:=KA off (BG lsm base)) e2.heap hb3 (by rw[k2];exact hp) (fun cs hRz hra o k hm=>by
     obtain⟨q,rfl,hq⟩:=a66 hm;obtain⟨en,he,rfl⟩:=WT hq;obtain⟨u,h1,h2⟩:=a6L hn hR (WU hok en he) (by have:=hlx en he;omega);have hql:en.1<(a.eval y).cells.toList.length:=(aL1.1 h2).1;have h3:=a67 hset h1 pG;refine⟨u,[],.slice none 0 0,h3,?_,k3 _ _ hq⟩;have hlen:=sV hRz;have hlt:=a68 h3;have hc:cs[off+en.1]? =some cs[off+en.1]:=aLZ pG;have hr1:=hra _ _ hc;have hr2:=aNf p.1 (a.eval y).cells.toList (p.2+off) w (fun j hj=>(hth j hj).1) en.1 hql;rw[aMy] at hr2;rw[hr2] at hr1;rw[hc,<-hr1,<-h2,aLZ hql])
    exact rD.skip (w':=w.setCells p.1 (p.2+off) (a.eval y).cells.toList) (hrun hth) (sB.trans (side:=[]) (rds:=[i]) e2 e3)
   .unfold R0 at hr;split at hr
    .rename_i s q toks _;generalize hset:sU ti.ty z s q off=oz at hr;cases oz with
     |none=>cases hr
     |some z'=>
      cases hr;obtain⟨heff,hth⟩:=sB.store (side:=[]) (rds:=[i]) hH hb hp hset hR (aE3 hky) (fun a b e=>by rw[e];rfl) hone;exact rD.skip (w':=w.setCells p.1 (p.2+off) (a.eval y).cells.toList) (hrun hth) heff
    .cases hr
  .cases hr
 .cases hr
theorem a7a {t:Ty}{n:Nat}{ev:Operand->pS}{ρ:Operand->qC}: ∀(ps:List (Nat×Operand)) (l z:List t.den) (cs:pN),tV (Rd g w t) t.cells l cs->l.length=n->(∀q∈ps,rJ g w (ρ q.2) (ev q.2))->AI t n (some l) (uG ρ ps)=some z->
  ∃cs',Instr.fill (fun i=>some (i*t.cells,t.cells)) cs.toArray (ps.map fun q=>(q.1,ev q.2))=some cs'.toArray/\tV (Rd g w t) t.cells z cs'/\z.length=n
 |[],l,z,cs,r,hl,_,h=>by
  simp only[uG,AI,aLO] at h;subst h;exact⟨cs,rfl,r,hl⟩
 |(i,q)::ps,l,z,cs,r,hl,hq,h=>by
  have h0:=hq (i,q) pI;generalize hs:ρ q=s at h0;simp only[uG,hs] at h;obtain⟨d,k⟩:=s;cases d with
  |val u y=>
   simp only[AI,a5Q] at h;by_cases hc:u=t/\i<n
   .rw[aNP hc] at h;obtain⟨rfl,hi⟩:=hc;simp only[uF] at h;have hR:=DX h0.1;obtain⟨c1,c2,c3,rfl,h2,h3,h4⟩:=WO (i:=i) r hR (sV hR) pG;obtain⟨cs',k1,k2,k3⟩:=a7a ps (l.set i y) z _ h4 (by simpa using hl) (fun q hq'=>hq q (by simp [hq'])) h;refine⟨cs',?_,k2,k3⟩;simp only[aMQ];rw[a6K rfl (by have:=sV hR;simpa using this) (c1:=c1) (c2:=c2) (c3:=c3) pI h2 h3];exact k1
   .rw[aNr hc] at h;cases ps with
    |nil=>simp [uG,AI] at h
    |cons p ps=>simp [uG,AI] at h
  |_=>simp [AI] at h
theorem WX {t:TypeId}{n:Nat}{ps:Array (Nat×Operand)}(ho:o.op= .buildSlice t n ps) {ρ:Operand->qC}(hρ: ∀q∈ps.toList,rJ g w (ρ q.2) (a.eval q.2)) {u:Ty}{el:TypeId}{by':Nat}{ar:Bool}{ls:List (Nat×TypeId×Nat)}(hst:rK T t=some ⟨.list u,el,by',ar,ls⟩) {l:List u.den}
  (hb:AI u n (some (C2 u n)) (uG ρ ps.toList)=some l) (hn:n<=16777216/\n*u.cells<=16777216):
  ∃cs':pN,tV (Rd g w u) u.cells l cs'/\l.length=n/\(execOp a.eval o).run P w= .ok (.value (.slice (some ⟨w.heap.size,0,none⟩) n n)) (w.alloc (.cells cs'.toArray el)):=by
    obtain⟨h2,h3,_⟩:=(tD hT hst).2;obtain⟨ei,hei,hz⟩:=aLW.1 h3;simp only[aMl] at hz;obtain⟨cs',k1,k2,k3⟩:=a7a hT hH ps.toList (C2 u n) l _ (a6V n) (a6W u n) hρ hb;refine⟨cs',k2,k3,?_⟩;have hzc:(vW u).cells=(uA u).toArray:=by
     unfold vW;cases h:u<;>simp [Ty.isRow,uA,Value.cells]
    have hmap:(ps.map fun(q:Nat×Operand)=>(q.1,a.eval q.2)).toList=ps.toList.map fun q=>(q.1,a.eval q.2):=by simp
    have hzl:(uA u).length=u.cells:=sV (CX g w u);have hrow: ∀z:Array pS,(n*u.cells≠0->z=(uA u).toArray)->(Array.range (n*u.cells)).map (fun i=>z[i%z.size]!)=(List.flatten (List.replicate n (uA u))).toArray:=by
     intro z hz0;by_cases h0:n*u.cells=0
     .rw[h0];have:List.flatten (List.replicate n (uA u))=[]:=aMo (by simp [hzl,h0]);rw[this];simp
     .rw[hz0 h0];have hpos:0<u.cells:=Nat.pos_of_ne_zero (fun h=>h0 (by rw[h];simp));apply aMV.1;apply List.ext_getElem?;intro j;have key: ∀(m j:Nat),j<m*u.cells->(List.flatten (List.replicate m (uA u)))[j]? =(uA u)[j%u.cells]? :=by
       intro m
       induction m with
       |zero=>intro j h;simp at h
       |succ m ih=>
        intro j h;rw[List.replicate_succ,aMD];by_cases hj:j<u.cells
        .rw[aL4 pG,Nat.mod_eq_of_lt hj]
        .rw[aL0 pG,hzl,ih (j-u.cells) (by rw[aMX] at h;omega)];congr 1
         conv=>rhs;rw[<-Nat.sub_add_cancel (Nat.le_of_not_lt hj),Nat.add_mod_right]
      by_cases hj:j<n*u.cells
      .have hm:j%u.cells<(uA u).length:=by rw[hzl];exact Nat.mod_lt _ hpos
       simp only[Array.toList_map,Array.toList_range,List.getElem?_map,List.getElem?_range hj,Option.map_some,aMF,hzl];rw[key n j hj,aLZ hm];simp [getElem!_pos,hm]
      .rw[aNc pJ,aNc (by simp [hzl];omega)]
    have hlim: ¬(n*u.cells>2^24):=by have:=hn.2;omega
    by_cases h0:n*u.cells=0
    .simp only[execOp,ho,Instr.buildSlice,aL2,aMa h2,aLX,sizeOf,typeInfo,aMP,hei,hz.1,aMf,aLU hlim,aLQ h0];rw[hrow #[] (fun h=>absurd h0 h),hmap,k1];simp only[newRow,aL2,run_newObj,aLX,aMf];rfl
    .simp only[execOp,ho,Instr.buildSlice,aL2,aMa h2,aLX,sizeOf,typeInfo,aMP,hei,hz.1,aMf,aLU hlim,aLU h0,zeroValue,hz.2.2,hzc];rw[hrow (uA u).toArray (fun _=>rfl),hmap,k1];simp only[newRow,aL2,run_newObj,aLX,aMf];rfl
theorem aE7 {t:TypeId}{n:Nat}{ps:Array (Nat×Operand)}(ho:o.op= .buildSlice t n ps) {ρ:Operand->qC}(hρ: ∀q∈ps.toList,rJ g w (ρ q.2) (a.eval q.2)) {base:Nat}{e:qH}(hr:VD base n (uG ρ ps.toList) (rK T t)=some e) (hf:yG g base e):rD P o a g w H e:=by
 generalize hst:rK T t=ot at hr;unfold VD at hr;split at hr
 .rename_i u el by' ls_;split at hr
  .rename_i hn0;generalize hb:AI u n (some (C2 u n)) (uG ρ ps.toList)=ol at hr;cases ol with
   |none=>cases hr
   |some l=>
    simp only[a56] at hr;split at hr
    .rename_i hn;cases hr;obtain⟨cs',k2,k3,hrun⟩:=WX hT hH ho hρ hst hb hn.2;have hfr:=(hf base (by simp [qG]) (aMc _)).2;have hlen:=GO k2;have hown:(w.alloc (.cells cs'.toArray el)).ownsRow 0 el u.cells (.slice (some ⟨w.heap.size,0,none⟩) n n) n cs':=⟨by rw[hlen,k3],.inr ⟨w.heap.size,n,cs'.toArray,rfl,aMR _,aNM w _,aMc _,by unfold maxLen;omega,by simp [hlen,k3],by simp [<-k3,<-hlen]⟩⟩;refine rD.value hrun (sB.row (v:= .slice (some ⟨w.heap.size,0,none⟩) n n) (xs:=cs') hH k3 hown k2 (fun m _=>hfr m) (fun u hu=>by rw[hfr] at hu;cases hu) (.inl (World.grownBy_alloc w _ _)) (fun b o h=>aMe (a:=⟨b,o,none⟩) (aMp _ _ _ (hH.sl b o h))) (fun b hb o hs=> ?_) (fun b hb=> ?_) ⟨⟨by simp [Gh.tok],.inr ⟨_,_,rfl,aMc _⟩⟩,trivial⟩)
     .cases hb;exact aNp _ (hH.sl _ _ hs)
     .cases hb;exact .inl (aMc _)
    .cases hr
  .rename_i hn0;generalize hb:AI u n (some (C2 u n)) (uG ρ ps.toList)=ol at hr;cases ol with
   |none=>cases hr
   |some l=>
    simp only[QU] at hr;split at hr
    .rename_i hn;cases hr;obtain⟨cs',k2,k3,hrun⟩:=WX hT hH ho hρ hst hb hn;have hfr:=hf base (by simp [qG]) (aMc _);exact rD.value (v:= .slice (some ⟨w.heap.size,0,none⟩) n n) (w':=w.alloc (.cells cs'.toArray el)) hrun (sB.lit hH rfl k3 k2 (by unfold maxLen;omega) hfr.2)
    .cases hr
 .rename_i u el by' ls_;generalize hb:AI u n (some (C2 u n)) (uG ρ ps.toList)=ol at hr;cases ol with
  |none=>cases hr
  |some l=>
   simp only[QU] at hr;split at hr
   .rename_i hn;cases hr;obtain⟨cs',k2,k3,hrun⟩:=WX hT hH ho hρ hst hb hn;have hfr:=hf base (by simp [qG]) (aMc _);exact rD.value (v:= .slice (some ⟨w.heap.size,0,none⟩) n n) (w':=w.alloc (.cells cs'.toArray el)) hrun (sB.lit hH rfl k3 k2 (by unfold maxLen;omega) hfr.2)
   .cases hr
 .cases hr
theorem aE8 {args:Array Operand}{tys:Array TypeId}(ho:o.op= .call ⟨.builtin .append,args,tys⟩) {ρ:Operand->qC}(hρ: ∀x∈args.toList,rJ g w (ρ x) (a.eval x)) {e:qH}
  {t:TypeId}(htt:tys= #[t,t]) (hr:RC H (rK T t) (vK ρ args.toList)=some e) (hs: ∀p∈e.side,p):rD P o a g w H e:=by
 subst htt;generalize hst:rK T t=ot at hr;generalize hss:vK ρ args.toList=ss at hr;unfold RC at hr;split at hr
 .rename_i u el by' ar ls_ k n _ b1 r _;split at hr
  .rename_i hbu;subst hbu;generalize hk:qD H k=ob at hr;unfold RB at hr;split at hr
   .rename_i e' t' l m;split at hr
    .rename_i hbt;subst hbt;split at hr
     .rename_i hec;obtain⟨rfl,hpos,hb1⟩:=hec;simp only[uF] at hr;cases hr;have hnm:=hs _ (by simp:(n=m)∈_);subst hnm;have hby:=hs _ (by simp:((n+List.length r)*by'<=140737488355328)∈_);obtain⟨v,vr,hv,hs1,hs2⟩:=S4 hT hH hρ hss;obtain⟨h2,h3,_⟩:=(tD hT hst).2;obtain⟨ei,hei,hz⟩:=aLW.1 h3;simp only[aMl] at hz;obtain⟨cs,hx⟩:=F2 (a:=a) hT hH ho;obtain⟨hl,v0,xs,hv0,hown,hF0,hnone,hseal⟩:=hH.blk k _ hk;obtain⟨hcur,hshape⟩:=hs1.1;rw[hv0] at hcur;obtain rfl:=aLS hcur;obtain⟨adr,capr,hvr,hler,hlr⟩:=CY hs2.1;have hlen2:(l++r).length=n+List.length r:=by rw[aLT,hl]
      rw[hlen2];have hownk: ∀q,v0.ownBlock=some q->∀o,sW g H [k] q o:=fun q hq o=>⟨k,_,by simp,hk,v0,hv0,hq⟩;by_cases hm:List.length r=0
      .obtain rfl:r=[]:=aMo hm;refine rD.value (v:=v0) (w':=w) ?_ (sB.row (v:=v0) (xs:=xs) hH hlen2 hown (by rw[List.append_nil];exact hF0) hnone (fun u hu=>by
        have h5:g.cur k n=some u:=hu;rw[hv0] at h5;exact(aLS h5).symm) (.inl ⟨rfl,rfl,rfl,aMc _,fun _ _ _=>rfl⟩) (fun _ _ _=>rfl) hseal (fun q hq=> .inr (hownk q hq)) ⟨⟨by simp [Gh.tok],hshape⟩,trivial⟩)
       obtain⟨adl,capl,hvl,hlel⟩: ∃adl capl,v0= .slice adl n capl/\n<=capl:=by
        rcases hshape with⟨h,rfl⟩ |⟨b,cap,h,h'⟩
        .exact⟨_,_,h,aMc _⟩
        .exact⟨_,_,h,h'⟩
       rw[hx,hv,hvr,hvl];have ha0:(#[Value.slice adl n capl,Value.slice adr (List.length ([]:List b1.den)) capr]:Array pS)[0]? =some (.slice adl n capl):=rfl;have ha1:(#[Value.slice adl n capl,Value.slice adr (List.length ([]:List b1.den)) capr]:Array pS)[1]? =some (.slice adr 0 capr):=rfl;have ht0:(#[t,t]:Array TypeId)[0]? =some t:=rfl;have ht1:(#[t,t]:Array TypeId)[1]? =some t:=rfl;simp only[builtin,Builtin.append_,ht0,ht1,ha0,ha1,aL2,aMa h2,aLX,aMf,sizeOf,typeInfo,aMP,hei];cases adr<;>cases adl<;>simp [Builtin.lenOf,Builtin.firstCells,loadCells,loadCellsFrom,storeCells,hlel]
      .obtain⟨b,off,rfl,hL⟩: ∃b o,adr=some ⟨b,o,none⟩/\y4 (Rd g w b1) w g.S b1.cells b o r:=by
        rcases hlr with rfl|h
        .exact absurd rfl hm
        .exact h
       obtain⟨news,hF,hra,_⟩:=KQ hL;obtain⟨q,cap,w',hrun,hown',hq,hg,hcap,hcell⟩:=WP (P:=P) w t o.type e' ei (vW b1) b1.cells by' h2 hei hz.2.2 hz.1 hz.2.1 (by
        have:=sV (DX (IJ g w b1));simpa using this) v0 n xs hown ⟨b,off,none⟩ (List.length r) capr news (GO hF) (fun j u hu=>by rw[aM6];exact hra j u hu) (NL (fun _ _ h=>A3 h) hF) pG
        (by
         have:=Nat.mul_le_mul_left (n+List.length r) hb1;unfold maxLen;omega) hby
       refine rD.value (v:= .slice (some ⟨q,0,none⟩) (n+List.length r) cap) (w':=w') ?_ (sB.row (v:= .slice (some ⟨q,0,none⟩) (n+List.length r) cap) (xs:=xs++news) hH hlen2 hown' (NE hF0 hF) (fun m hm'=>hnone m pG) (fun u hu=>by
        rw[hnone _ pG] at hu;cases hu) (.inr ⟨v0.ownBlock,hg,fun b hb o=>hownk b hb o⟩) (fun b o hS=>hcell b o (hH.sl b o hS) (fun hb=>absurd hS (hseal b hb o))) (fun b hb o hS=> ?_) (fun b hb=> ?_) ⟨⟨by simp [Gh.tok],.inr ⟨q,cap,rfl,hcap⟩⟩,trivial⟩)
       .rw[hx,hv,hvr];simp only[builtin,aL2,hrun,aLX,aMf]
       .cases hb;rcases hq with h|h
        .rw[h] at hS;exact aNp _ (hH.sl _ _ hS)
        .exact hseal _ h o hS
       .cases hb;rcases hq with h|h
        .exact .inl (aNj h.symm)
        .exact .inr (hownk _ h)
     .cases hr
    .cases hr
   .cases hr
  .cases hr
 .rename_i u el by' ar ls_ a1 l k b1 r k2;split at hr
  .rename_i hab;obtain⟨rfl,rfl⟩:=hab;simp only[uF] at hr;generalize hk:qD H k=ob at hr;unfold RA at hr;split at hr
   .rename_i e' c n;split at hr
    .rename_i hec;obtain⟨rfl,hcc,hpos,hb1⟩:=hec;cases hr;rw[aLT];have hln:=hs _ (by simp:(List.length l=n)∈_);have hby:=hs _ (by simp:((List.length l+List.length r)*by'<=140737488355328)∈_);obtain⟨v,vr,hv,hs1,hs2⟩:=S4 hT hH hρ hss;obtain⟨h2,h3,_⟩:=(tD hT hst).2;obtain⟨ei,hei,hz⟩:=aLW.1 h3;simp only[aMl] at hz;obtain⟨cs,hx⟩:=F2 (a:=a) hT hH ho;obtain⟨v0,xs,hv0,hown,hnone,hseal⟩:=hH.blk k _ hk;have hcur:g.cur k (List.length l)=some v:=hs1.2;rw[hln,hv0] at hcur;obtain rfl:=aLS hcur;obtain⟨adr,capr,hvr,hler,hlr⟩:=CY hs2.1;obtain⟨adl,capl,hvl,hlel,hll⟩:=CY hs1.1;by_cases hm:List.length r=0
     ·
      obtain rfl:r=[]:=aMo hm;have hlr:List.length l+List.length ([]:List b1.den)=n:=by rw[hln];rfl
      have hget: ∀i,qD (qP [(k,q9.grow e' c (List.length l+List.length ([]:List b1.den)))] H) i=qD H i:=by
       intro i;simp only[qP,qD];by_cases hi:k=i
       .subst hi;rw[aLQ rfl,hlr];exact hk.symm
       .rw[aLU hi]
      have hkeep:sB g w H ⟨[List.length l=n,(List.length l+List.length ([]:List b1.den))*by'<=140737488355328],(.val (.list b1) (l++[]),some k),[(k,.grow e' c (List.length l+List.length ([]:List b1.den)))],[k]⟩ g w v0:=by
       refine⟨.refl _ _,?_,⟨fun i b h=>hH.blk i b ((hget i).symm.trans h),fun i j bi bj b o' hij h1 h2=>hH.dis i j bi bj b o' hij ((hget i).symm.trans h1) ((hget j).symm.trans h2),hH.sl,hH.tab.1,fun i blk b o' h ho'=>hH.tab.2 i blk b o' ((hget i).symm.trans h) ho'⟩,.refl _ _ _,fun i blk b o' hi hg ho'=> .inr ⟨i,blk,hi,(hget i).symm.trans hg,ho'⟩,fun _ _=>⟨rfl,rfl⟩,fun i u' y us h=> .inl ⟨y,us,(hget i).symm.trans h⟩⟩;rw[List.append_nil];exact hs1
      refine rD.value (v:=v0) (w':=w) ?_ hkeep;rw[hx,hv,hvr,hvl];have ha0:(#[Value.slice adl (List.length l) capl,Value.slice adr (List.length ([]:List b1.den)) capr]:Array pS)[0]? =some (.slice adl (List.length l) capl):=rfl;have ha1:(#[Value.slice adl (List.length l) capl,Value.slice adr (List.length ([]:List b1.den)) capr]:Array pS)[1]? =some (.slice adr 0 capr):=rfl;have ht0:(#[t,t]:Array TypeId)[0]? =some t:=rfl;have ht1:(#[t,t]:Array TypeId)[1]? =some t:=rfl;simp only[builtin,Builtin.append_,ht0,ht1,ha0,ha1,aL2,aMa h2,aLX,aMf,sizeOf,typeInfo,aMP,hei];cases adr<;>cases adl<;>simp [Builtin.lenOf,Builtin.firstCells,loadCells,loadCellsFrom,storeCells,hlel]
     .obtain⟨b,off,rfl,hL⟩: ∃b o,adr=some ⟨b,o,none⟩/\y4 (Rd g w b1) w g.S b1.cells b o r:=by
       rcases hlr with rfl|h
       .exact absurd rfl hm
       .exact h
      obtain⟨news,hF,hra,_⟩:=KQ hL;have hxs:tV (Rd g w b1) b1.cells l xs:=by
       by_cases h0:List.length l=0
       .obtain rfl:l=[]:=aMo h0;have:xs=[]:=aMo (by rw[hown.1,<-hln];simp);exact this
       .rcases hll with rfl|⟨b0,off0,rfl,hL0⟩
        .exact absurd rfl h0
        .obtain⟨ls,hF0,hra0,_⟩:=KQ hL0;rcases hown.2 with⟨e1,e2⟩ |⟨q,cap,cur,e1,e2⟩
         .exact absurd (hln.trans e2) h0
         .rw[hvl] at e1;simp only[aNK,aLO,Addr.mk.injEq] at e1;obtain⟨⟨rfl,rfl,_⟩,_,rfl⟩:=e1;have hvn:v0= .slice (some ⟨b0,0,none⟩) n capl:=by rw[hvl,hln]
          have hrx:=WQ (hvn▸hown);have:ls=xs:=by
           have hl1:=GO hF0;have hl2:=hown.1;apply List.ext_getElem?;intro j;by_cases hj:j<ls.length
           .have h1:=hra0 j ls[j] (aLZ hj);have hj':j<xs.length:=by rw[hl2,hcc,<-hln,<-hl1];exact hj
            have h2:=hrx j xs[j] (aLZ hj');rw[h1] at h2;rw[aLZ hj,aLZ hj',aLS h2]
           .rw[aNc pG,aNc (by rw[hl2,hcc,<-hln,<-hl1];omega)]
          rw[<-this];exact hF0
      obtain⟨q,cap,w',hrun,hown',hq,hg,hcap,hcell⟩:=WP (P:=P) w t o.type e' ei (vW b1) c by' h2 hei hz.2.2 (by rw[hz.1,hcc]) hz.2.1 (by
       have:=sV (DX (IJ g w b1));rw[hcc];simpa using this) v0 n xs hown ⟨b,off,none⟩ (List.length r) capr news (by rw[GO hF,hcc]) (fun j u hu=>by rw[aM6];exact hra j u hu) (NL (fun _ _ h=>A3 h) hF) pG
       (by
        have:=Nat.mul_le_mul_left (List.length l+List.length r) hb1;unfold maxLen;omega) (by rw[<-hln];exact hby)
      refine rD.value (v:= .slice (some ⟨q,0,none⟩) (n+List.length r) cap) (w':=w') ?_ (by
       have:=sB.append (side:=[List.length l=n,(List.length l+List.length r)*by'<=140737488355328]) (rds:=[k]) hH hk hcc hln hv0 hown hnone hseal (hcc▸hxs) (hcc▸hF) pG hown' hq hg hcap hcell;rw[hln];rw[hln] at this;exact this)
      rw[hx,hv,hvr];simp only[builtin,aL2,hrun,aLX,aMf]
    .cases hr
   .cases hr
  .cases hr
 .cases hr
end
end Go.Proofs.YtkpflnijijccpaaGreatDoor.Vc
