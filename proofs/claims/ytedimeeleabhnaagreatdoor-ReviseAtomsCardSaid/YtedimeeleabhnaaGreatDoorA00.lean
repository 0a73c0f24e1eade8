import Derived.Below
import Derived.Calls
import Derived.ChangeKeysEq
import Derived.Deep.MidRow
import Derived.Deep.Upon
import Derived.Laws.AppendOwn
import Derived.Laws.BitsLemmas
import Derived.Laws.OwnMore
import Derived.Laws.Runes
import Derived.Laws.StructEq
import Derived.Shelf.Strconv.Itoa3
import Derived.Shelf.Unicode.DecodeSlow
import Derived.Still
import Derived.WalkKit
import Derived.WalkSpells
set_option linter.all false
set_option maxRecDepth 100000
set_option maxHeartbeats 4000000
namespace Go.Proofs
abbrev pI:=List UInt8
abbrev pJ:=List pI
def aM3:=@_root_.Option.bind_some
def aM4:=@_root_.if_pos
def aM5:=@_root_.List.length_cons
def aM6:=@_root_.Option.some.injEq
def aM7:=@_root_.List.length_append
def aM8:=@_root_.List.length_nil
def aM9:=@_root_.if_neg
def aNa:=@_root_.Option.some.inj
def aNb:=@_root_.Go.Result.andThen_ok
def aNc:=@_root_.List.getElem_mem
def aNd:=@_root_.List.append_assoc
def aNe:=@_root_.List.getElem?_eq_getElem
def aNf:=@_root_.Bool.and_eq_true
def aNg:=@_root_.List.getElem?_append_right
def aNh:=@_root_.Option.map_eq_some_iff
def aNi:=@_root_.Go.Sem.run_bind
def aNj:=@_root_.decide_eq_true_eq
def aNk:=@_root_.List.mem_cons
def aNl:=@_root_.List.getElem?_eq_some_iff
def aNm:=@_root_.List.drop_eq_getElem_cons
def aNn:=@_root_.List.mem_singleton
def aNo:=@_root_.List.getElem?_append_left
def aNp:=@_root_.List.mem_cons_of_mem
def aNq:=@_root_.List.mem_cons_self
def aNr:=@_root_.Array.getElem?_eq_some_iff
def aNs:=@_root_.Go.run_underlying
def aNt:=@_root_.Nat.le_refl
def aNu:=@_root_.Go.Sem.run_pure
def aNv:=@_root_.Bool.eq_iff_iff
def aNw:=@_root_.Array.getD_eq_getD_getElem?
def aNx:=@_root_.Go.World.cell?_of_block
def aNy:=@_root_.List.getD_eq_getElem?_getD
def aNz:=@_root_.congrArg
def aNA:=@_root_.Prod.mk.injEq
def aNB:=@_root_.Go.RowKit.Below.heap_alloc
def aNC:=@_root_.List.getElem?_cons_zero
def aND:=@_root_.List.eq_nil_of_length_eq_zero
def aNE:=@_root_.List.length_drop
def aNF:=@_root_.Nat.zero_add
def aNG:=@_root_.List.drop_zero
def aNH:=@_root_.List.drop_length
def aNI:=@_root_.Nat.lt_of_lt_of_le
def aNJ:=@_root_.Bool.false_eq_true
def aNK:=@_root_.Nat.le_trans
def aNL:=@_root_.Int.toNat_natCast
def aNM:=@_root_.Nat.add_sub_cancel_left
def aNN:=@_root_.Nat.add_assoc
def aNO:=@_root_.List.reverse_cons
def aNP:=@_root_.List.getElem?_cons_succ
def aNQ:=@_root_.List.flatten_cons
def aNR:=@_root_.List.length_take
def aNS:=@_root_.Bool.not_eq_true'
def aNT:=@_root_.Option.isSome_iff_exists
def aNU:=@_root_.List.mem_append
def aNV:=@_root_.of_decide_eq_true
def aNW:=@_root_.List.cons.injEq
def aNX:=@_root_.List.flatMap_cons
def aNY:=@_root_.Array.getElem?_setIfInBounds_ne
def aNZ:=@_root_.Go.World.frozen?_of_block
def aN0:=@_root_.Nat.succ_mul
def aN1:=@_root_.Go.run_program
def aN2:=@_root_.Int.le_refl
def aN3:=@_root_.List.size_toArray
def aN4:=@_root_.List.all_eq_true
def aN5:=@_root_.decide_eq_false_iff_not
def aN6:=@_root_.decide_eq_true
def aN7:=@_root_.Array.length_toList
def aN8:=@_root_.List.map_cons
def aN9:=@_root_.List.length_map
def aOa:=@_root_.List.drop_drop
def aOb:=@_root_.Nat.mul_le_mul_right
def aOc:=@_root_.if_true
def aOd:=@_root_.Nat.add_zero
def aOe:=@_root_.Array.toList_inj
def aOf:=@_root_.List.length_eq_zero_iff
def aOg:=@_root_.Go.Addr.add_mid
def aOh:=@_root_.if_false
def aOi:=@_root_.Nat.lt_or_ge
def aOj:=@_root_.List.getElem?_eq_none
def aOk:=@_root_.Array.toArray_toList
def aOl:=@_root_.Go.wpIn_mono
def aOm:=@_root_.List.length_eq_one_iff
def aOn:=@_root_.Go.Value.slice.injEq
def aOo:=@_root_.Go.World.cell?_alloc_new
def aOp:=@_root_.List.findIdx?_cons
def aOq:=@_root_.List.not_mem_nil
def aOr:=@_root_.Go.World.cell?_setCells_in
def aOs:=@_root_.Bool.false_and
def aOt:=@_root_.Bool.or_eq_true
def aOu:=@_root_.Int.tmod_eq_emod_of_nonneg
def aOv:=@_root_.Nat.le_of_eq
def aOw:=@_root_.Classical.choose_spec
def aOx:=@_root_.Array.getElem?_toList
def aOy:=@_root_.Array.getElem?_modify
def aOz:=@_root_.Nat.zero_le
def aOA:=@_root_.dif_neg
def aOB:=@_root_.Nat.lt_irrefl
def aOC:=@_root_.List.getElem_of_mem
def aOD:=@_root_.List.drop_succ_cons
def aOE:=@_root_.decide_eq_decide
def aOF:=@_root_.List.take_append_of_le_length
def aOG:=@_root_.Go.IntKind.wrap_i64
def aOH:=@_root_.Bool.false_ne_true
def aOI:=@_root_.Array.getElem?_setIfInBounds
def aOJ:=@_root_.Nat.sub_self
def aOK:=@_root_.List.take_append_drop
def aOL:=@_root_.List.take_left
def aOM:=@_root_.List.mem_take_iff_getElem
def aON:=@_root_.Array.getElem?_eq_getElem
def aOO:=@_root_.List.mem_toArray
def aOP:=@_root_.List.length_pos_iff
def aOQ:=@_root_.beq_iff_eq
def aOR:=@_root_.Array.getElem?_push_size
def aOS:=@_root_.dif_pos
def aOT:=@_root_.List.append_inj
def aOU:=@_root_.Array.size_append
def aOV:=@_root_.Go.setRow_other
def aOW:=@_root_.Option.getD_some
def aOX:=@_root_.List.range'_succ
def aOY:=@_root_.Bool.not_eq_true
def aOZ:=@_root_.Bool.or_eq_false_iff
def aO0:=@_root_.Array.foldl_toList
def aO1:=@_root_.Go.heap_alloc_new
def aO2:=@_root_.List.any_eq_false
def aO3:=@_root_.Nat.mul_one
theorem aO4{p:Prop}(h:p:=by simpa using h):p:=h
theorem aO5{p:Prop}(h:p:=by simpa using j):p:=h
theorem aO6{p:Prop}(h:p:=by simpa using z):p:=h
theorem aO7{p:Prop}(h:p:=by intro e;cases e):p:=h
theorem aO8{p:Prop}(h:p:=by simpa using hk):p:=h
theorem aO9{p:Prop}(h:p:=by simp only[execOp,U,hv,aNi,O,aNb,aNu]):p:=h
theorem aPa{p:Prop}(h:p:=by simp [qV,e1]):p:=h
theorem aPb{p:Prop}(h:p:=by simp [qV]):p:=h
theorem aPc{p:Prop}(h:p:=by simp only[aM5];omega):p:=h
theorem aPd{p:Prop}(h:p:=by simpa using F):p:=h
theorem aPe{p:Prop}(h:p:=by simpa using hb):p:=h
theorem aPf{p:Prop}(h:p:=by simp [sQ]):p:=h
theorem aPg{p:Prop}(h:p:=by simpa[sQ] using z):p:=h
theorem aPh{p:Prop}(h:p:=by rw[<-hr];simp):p:=h
theorem aPi{p:Prop}(h:p:=by simp only[Op.operands,aOO];exact List.mem_map_of_mem j):p:=h
theorem aPj{p:Prop}(h:p:=by simp [sD,rW.id]):p:=h
theorem aPk{p:Prop}(h:p:=by rw[this];simp):p:=h
theorem aPl{p:Prop}(h:p:=by rw[hp];simp [Op.operands]):p:=h
theorem aPm{p:Prop}(h:p:=by simpa using D):p:=h
theorem aPn{p:Prop}(h:p:=by rw[<-e];exact hb):p:=h
theorem aPo{p:Prop}(h:p:=by cases h):p:=h
theorem aPp{p:Prop}(h:p:=by rw[hop];intro c;simp):p:=h
theorem aPq{p:Prop}(h:p:=by show w.heap.size+1<_;omega):p:=h
theorem aPr{p:Prop}(h:p:=by show w.heap.size≠w.heap.size+1;omega):p:=h
theorem aPs{p:Prop}(h:p:=by show k≠w.heap.size+1;omega):p:=h
theorem aPt{p:Prop}(h:p:=by show D≠w.heap.size+1;omega):p:=h
theorem aPu{p:Prop}(h:p:=by simp only[go_sem];rfl):p:=h
theorem aPv{p:Prop}(h:p:=by unfold qG;omega):p:=h
theorem aPw{p:Prop}(h:p:=by simp [j]):p:=h
theorem aPx{p:Prop}(h:p:=by simp only[aNj];omega):p:=h
theorem aPy{p:Prop}(h:p:=by simp only[aNf,aNj];omega):p:=h
theorem aPz{p:Prop}(h:p:=by simp only[aM5,aM8] at E|-;omega):p:=h
theorem aPA{p:Prop}(h:p:=by rw[aM7];omega):p:=h
theorem aPB{p:Prop}(h:p:=by rw[KX];omega):p:=h
theorem aPC{p:Prop}(h:p:=by rw[aM7];simp only[aM5,aM8];omega):p:=h
theorem aPD{p:Prop}(h:p:=by simp only[aM5,aM8];omega):p:=h
theorem aPE{p:Prop}(h:p:=by simp only[aM8];omega):p:=h
theorem aPF{p:Prop}(h:p:=by rw[BI];omega):p:=h
theorem aPG{p:Prop}(h:p:=by rw[II,xJ];have:=UJ s;unfold L4 at this;simp only[aM8];omega):p:=h
theorem aPH{p:Prop}(h:p:=by simp only[aM7,aM5,aM8];omega):p:=h
theorem aPI{p:Prop}(h:p:=by unfold fit;omega):p:=h
theorem aPJ{p:Prop}(h:p:=by simp only[aM7];omega):p:=h
theorem aPK{p:Prop}(h:p:=by rw[vN] at D;simp only[aM7,aM5,aM8];omega):p:=h
theorem pM{p:Prop}(h:p:=by omega):p:=h
theorem pN{p:Prop}(h:p:=by decide):p:=h
theorem pO{p:Prop}(h:p:=by simp):p:=h
theorem pP{p:Prop}(h:p:=by simp;omega):p:=h
theorem qA{p:Prop}(h:p:=by kernel_rfl):p:=h
theorem qB{p:Prop}(h:p:=by rfl):p:=h
theorem qC{p:Prop}(h:p:=by first|rfl|trivial):p:=h
theorem pK{a:Type}{p q r:a->Prop}(k:a)(h1:p k:=by rfl)(h2:q k:=by rfl)(h3:r k:=by rfl): ∃k,p k/\q k/\r k:=⟨k,h1,h2,h3⟩
abbrev pQ:=Int×(Int×Unit)
abbrev pR:=List (pI×Bool)
abbrev pS:=List (Nat×Nat)
abbrev pT:=List Int
abbrev pU:=List Value
abbrev pV:=Option (Nat×Nat)
abbrev pW:=Option Nat
abbrev pX:=List Nat
abbrev pY:=World
abbrev pZ:=Value
end Go.Proofs
namespace Go.Proofs.YtedimeeleabhnaaGreatDoor.Vc
def NG:Nat:=6
def Ac:Nat:=171
def Ad:List (Nat×Nat×pZ):=[(5,15,.int .u8 4)]
def Ae:List (Nat×Array pZ):=[(3,(Lib.pow10Tab.map λz=>Value.int .u64 z).toArray)]
def a5t (w:pY):Prop:=(∀x∈Ad,x.1<NG/\w.cell? ⟨x.1,x.2.1,none⟩=some x.2.2)/\∀x∈Ae,x.1<NG/\∃e fz,w.heap[x.1]? =some (.cells x.2 e fz)
def IT (w:pY):Prop:=NG<=w.heap.size/\Lib.Utf8Tabs 0 1 w/\(∃m,w.cell? ⟨2,0,none⟩=some (.int .i64 m))/\a5t w
theorem UP {w w':pY}(h:IT w) (G:w.heap.size<=w'.heap.size) (hb: ∀b,b<NG->w'.heap[b]? =w.heap[b]?):IT w':=by
 obtain⟨h0,⟨O,F⟩,⟨m,M⟩,D⟩:=h;have z: ∀b o,b<NG->w'.cell? ⟨b,o,none⟩=w.cell? ⟨b,o,none⟩:=λb o h=>aNx (a:=⟨b,o,none⟩) (hb b h);refine⟨aNK h0 G,⟨λc E=>?_,λi hi=>⟨?_,?_⟩⟩,⟨m,?_⟩,λx j=>⟨(D.1 x j).1,(z _ _ (D.1 x j).1).trans (D.1 x j).2⟩,λx j=>⟨(D.2 x j).1,by obtain⟨K,e,fz,I⟩:=D.2 x j;exact⟨e,fz,(hb _ K).trans I⟩⟩⟩
 .rw[z _ _ pN];exact O c E
 .rw[z _ _ pN];exact(F i hi).1
 .rw[z _ _ pN];exact(F i hi).2
 rw[z _ _ pN];exact M
attribute [go_sem] Ac
inductive qF where
 |mk (kind:Int) (text name style:pI) (cases:List (pI×List qF×Unit)) (parts:List qF)
abbrev Ja0:=List qF
def qF.zero:qF:= .mk 0 [] [] [] [] []
inductive Ty where
 |bool|int (k:IntKind) |str|list (t:Ty) |unit|pair (a b:Ty) |ref|clo|mp|rl (e:Nat) (t:Ty) |mref|fn|part
 deriving DecidableEq
@[go_sem] abbrev sP:Ty:= .pair .str (.pair .str .unit)
abbrev Ty.den:Ty->Type
 | .bool=>Bool
 | .int _=>Int
 | .str=>pI
 | .list t=>List t.den
 | .unit=>Unit
 | .pair a b=>a.den×b.den
 | .ref=>pV
 | .clo=>Option (Nat×pS)
 | .mp=>pW
 | .rl _ _=>pV
 | .fn=>pW
 | .mref=>pV
 | .part=>qF
@[go_sem] def Ty.cells:Ty->Nat
 | .unit=>0
 | .pair a b=>a.cells+b.cells
 | .part=>6
 | .bool| .int _| .str| .list _| .ref| .clo| .mp| .rl _ _| .mref| .fn=>1
@[go_sem] def Ty.zero:(t:Ty)->t.den
 | .bool=>false
 | .int _=>(0:Int)
 | .str=>[]
 | .list _=>[]
 | .unit=>()
 | .pair a b=>(a.zero,b.zero)
 | .ref=>none
 | .clo=>none
 | .mp=>none
 | .rl _ _=>none
 | .fn=>none
 | .mref=>none
 | .part=>qF.zero
@[go_sem] def Ty.isRow:Ty->Bool
 | .unit| .pair _ _| .part=>true
 | .bool| .int _| .str| .list _| .ref| .clo| .mp| .rl _ _| .mref| .fn=>false
@[go_sem] def Ty.pure:Ty->Bool
 | .ref| .clo| .mp| .rl _ _| .mref=>false
 | .list t=>t.pure
 | .pair a b=>a.pure&&b.pure
 | .bool| .int _| .str| .unit| .fn| .part=>true
@[go_sem] abbrev rT:Ty:= .pair .str (.pair (.list .part) .unit)
@[go_sem] abbrev sM:Ty:= .pair (.int .i64) (.pair .str (.pair .str (.pair .str (.pair (.list rT) (.pair (.list .part) .unit)))))
def qF.un:qF->sM.den
 | .mk k t n s cs ps=>(k,(t,(n,(s,(cs,(ps,()))))))
def qF.of (x:sM.den):qF:= .mk x.1 x.2.1 x.2.2.1 x.2.2.2.1 x.2.2.2.2.1 x.2.2.2.2.2.1
@[go_sem] theorem qF.un_of (x:sM.den):(qF.of x).un=x:=rfl
theorem qF.of_un (x:qF):qF.of x.un=x:=by cases x;rfl
def qH (t:Ty) (l:List t.den) (i:Int):t.den:=l.getD i.toNat t.zero
def qZ (l:pI) (i:Int):Int:=((l.getD i.toNat 0).toNat:Int)
def uF {t u:Ty}(h:t=u) (x:t.den):u.den:=h▸x
@[go_sem] theorem Q6 {t:Ty}(x:t.den):uF (rfl:t=t) x=x:=rfl
@[go_sem] def rR (u:Ty):(t:Ty)->t.den->Nat->Option u.den
 |t,x,0=>if h:t=u then some (uF h x) else match t,x with
  | .pair a b,x=>if 0<a.cells then rR u a x.1 0 else rR u b x.2 0
  |_,_=>none
 | .pair a b,x,o+1=>if o+1<a.cells then rR u a x.1 (o+1) else rR u b x.2 (o+1-a.cells)
 |_,_,_=>none
@[go_sem] def sW (u:Ty) (y:u.den):(t:Ty)->t.den->Nat->Option t.den
 |t,x,0=>if h:u=t then some (uF h y) else match t,x with
  | .pair a b,x=>if 0<a.cells then(sW u y a x.1 0).map (λz=>(z,x.2)) else(sW u y b x.2 0).map (λz=>(x.1,z))
  |_,_=>none
 | .pair a b,x,o+1=>if o+1<a.cells then(sW u y a x.1 (o+1)).map (λz=>(z,x.2)) else(sW u y b x.2 (o+1-a.cells)).map (λz=>(x.1,z))
 |_,_,_=>none
@[go_sem] def Ty.proj:(t:Ty)->t.den->Nat->Option (Σ u:Ty,u.den)
 | .pair a _,x,0=>some ⟨a,x.1⟩
 | .pair _ b,x,i+1=>b.proj x.2 i
 |_,_,_=>none
@[go_sem] def Ty.offs:Ty->Nat->pW
 | .pair _ _,0=>some 0
 | .pair a b,i+1=>(b.offs i).map λo=>a.cells+o
 |_,_=>none
@[go_sem] def Ty.fld:Ty->Nat->Option Ty
 | .pair a _,0=>some a
 | .pair _ b,i+1=>b.fld i
 |_,_=>none
@[go_sem] def Ty.setPart (u:Ty) (y:u.den):(t:Ty)->t.den->Nat->Option t.den
 | .pair a b,x,0=>if h:u=a then some (uF h y,x.2) else none
 | .pair a b,x,i+1=>(Ty.setPart u y b x.2 i).map λz=>(x.1,z)
 |_,_,_=>none
inductive DV where
 |any
 |nilS
 |val (t:Ty) (x:t.den)
 |at (t:Ty) (x:t.den)
 |tup (l:List ((Σ t:Ty,t.den)×pW))
 |cond (p:Bool) (d:DV)
 |flag (p q:Prop)
 |own (k n:Nat)
 |elt (k n c:Nat) (i:Int) (o:Nat)
 |nxt (b:Bool) (p c:Int)
 |arr (i off:Nat) (t:Ty) (m:Nat) (ix:Int)
 |itr (n:Nat)
abbrev qK:=DV×pW
inductive qP where
 |cells (t:Ty) (x:t.den) (toks:pS)
 |grow (e:TypeId) (c:Nat) (n:Nat)
 |row (e:TypeId) (t:Ty) (l:List t.den) (n:Nat)
 |map (k v:Ty) (l:List (k.den×v.den))
 |iter (s:pI) (p:Nat)
 |dead
structure St where
 env:List (Nat×qK)
 H:List (Nat×qP)
 nb:Nat
 N:Nat
 np:Nat:=0
@[go_sem] def lk:List (Nat×qK)->Nat->qK
 |[],_=>(.any,none)
 |(k,s)::r,t=>if k=t then s else lk r t
@[go_sem] def qT:List (Nat×qP)->Nat->Option qP
 |[],_=>none
 |(k,s)::r,t=>if k=t then some s else qT r t
structure TI where
 ty:Ty
 elem:TypeId:=0
 bytes:Nat:=0
 arr:Bool:=false
 ls:List (Nat×TypeId×Nat):=[]
abbrev sH:=List (Nat×TI)
@[go_sem] def s0:sH->TypeId->Option TI
 |[],_=>none
 |(k,s)::r,t=>if k=t then some s else s0 r t
inductive PK where
 |v|own|p (t:Ty) (os:pX) |m|s|r|f (ks:List (Ty×pX))
structure r8 where
 side:List Prop
 ret:List qK
 H:List qP
structure r7 where
 ps:List PK
 C:List qK->List qP->Option r8
 gs:List (Nat×Nat×PK):=[]
 same:pX:=[]
 row:Option ((t:Ty)->List t.den->Option (List t.den)):=none
abbrev tS:=Nat->Option r7
structure r9 where
 side:List Prop
 slot:qK
 upd:List (Nat×qP)
 rds:pX
@[go_sem] def IU:pX->Bool
 |[]=>false
 |i::_=>if i=1000000000 then true else false
@[go_sem] def Af:Option r9->Option r9->Option r9
 |some r,_=>some r
 |none,r=>r
@[go_sem] def AU:Option (List Prop×DV)->Option r9
 |some (p,d)=>some ⟨p,(d,none),[],[]⟩
 |none=>none
@[go_sem] def je:pZ->DV
 | .bool b=> .val .bool b
 | .int k n=> .val (.int k) n
 | .string s=> .val .str s.data.toList
 | .slice none 0 0=> .nilS
 | .pointer none=> .val .ref none
 | .nilFunc=> .val .clo none
 | .map none=> .val .mp none
 |_=> .any
@[go_sem] def tC (env:List (Nat×qK)):Operand->qK
 | .tmp t=>lk env t
 | .const v=>(je v,none)
 | .func f=>(.val .clo (some (f,[])),none)
 | .global _=>(.any,none)
@[go_sem] def Q7:Option TI->qK->qK
 |some ⟨.list t,_,_,_,_⟩,(.nilS,_)=>(.val (.list t) [],none)
 |_,s=>s
@[go_sem] def L9:IntKind->Int->List Prop×DV
 | .i64,n=>([-9223372036854775808<=n/\n<=9223372036854775807],.val (.int .i64) n)
 |k,n=>([],.val (.int k) (k.wrap n))
@[go_sem] def rJ {α:Type}:List α->List α->List α
 |[],m=>m
 |x::l,m=>x::rJ l m
@[go_sem] def zK:(t:Ty)->t.den->t.den->Option Bool
 | .bool,a,b=>some (a==b)
 | .int _,a,b=>some (decide ((a:Int)=b))
 | .str,a,b=>some (decide ((a:pI)=b))
 | .unit,_,_=>some true
 | .pair s t,a,b=>eqAnd (zK s a.1 b.1) (zK t a.2 b.2)
 |_,_,_=>none
where
 eqAnd:Option Bool->Option Bool->Option Bool
  |some x,some y=>some (x&&y)
  |_,_=>none
attribute [go_sem] zK.eqAnd
@[go_sem] def jf (k:IntKind) (a b:Int):BinOp->Option (List Prop×DV)
 | .add=>some (L9 k (a+b))
 | .sub=>some (L9 k (a-b))
 | .mul=>some (L9 k (a*b))
 | .eql=>some ([],.val .bool (decide (a=b)))
 | .neq=>some ([],.val .bool (!decide (a=b)))
 | .lss=>some ([],.val .bool (decide (a<b)))
 | .leq=>some ([],.val .bool (decide (a<=b)))
 | .gtr=>some ([],.val .bool (decide (b<a)))
 | .geq=>some ([],.val .bool (decide (b<=a)))
 | .quo=>some ([b≠0],.val (.int k) (k.wrap (Int.tdiv a b)))
 | .rem=>some ([b≠0],.val (.int k) (Int.tmod a b))
 | .and=>some ([],.val (.int k) (bits .and k a b))
 | .or=>some ([],.val (.int k) (bits .or k a b))
 | .xor=>some ([],.val (.int k) (bits .xor k a b))
 | .andNot=>some ([],.val (.int k) (bits .andNot k a b))
 |_=>none
def jg (k:IntKind) (a b:Int):Int:=k.wrap (a*2^min b.toNat k.bits)
def jh (k:IntKind) (a b:Int):Int:=a.fdiv (2^min b.toNat k.bits)
@[go_sem] def Ag (k:IntKind) (a:Int) (k':IntKind) (b:Int):BinOp->Option (List Prop×DV)
 | .shl=>some ([0<=b],.val (.int k) (jg k a b))
 | .shr=>some ([0<=b],.val (.int k) (jh k a b))
 |op=>if k=k' then jf k a b op else none
@[go_sem] def ji (a b:pI):BinOp->Option (List Prop×DV)
 | .add=>some ([((a++b).length:Int)<=9223372036854775807],.val .str (a++b))
 | .eql=>some ([],.val .bool (decide (a=b)))
 | .neq=>some ([],.val .bool (!decide (a=b)))
 | .lss=>some ([],.val .bool (Op.bytesLess a b))
 | .leq=>some ([],.val .bool (Op.bytesLess a b||decide (a=b)))
 | .gtr=>some ([],.val .bool (!(Op.bytesLess a b||decide (a=b))))
 | .geq=>some ([],.val .bool (!Op.bytesLess a b))
 |_=>none
@[go_sem] def Ah:BinOp->Option Bool->Option (List Prop×DV)
 | .eql,some r=>some ([],.val .bool r)
 | .neq,some r=>some ([],.val .bool (!r))
 |_,_=>none
@[go_sem] def YA (op:BinOp):qK->qK->Option (List Prop×DV)
 |(.val (.int k) a,_),(.val (.int k') b,_)=>Ag k a k' b op
 |(.val .str a,_),(.val .str b,_)=>ji a b op
 |_,_=>none
@[go_sem] def Ai (k:IntKind) (a b:Int):BinOp->Option (List Prop×DV)
 | .add=>some ([],.val (.int k) (k.wrap (a+b)))
 | .sub=>some ([],.val (.int k) (k.wrap (a-b)))
 | .mul=>some ([],.val (.int k) (k.wrap (a*b)))
 |_=>none
@[go_sem] def YB (op:BinOp):Option TI->qK->qK->Option (List Prop×DV)
 |some ⟨.int _,_,_,true,_⟩,(.val (.int k) a,_),(.val (.int k') b,_)=>if k=k' then Ai k a b op else none
 |_,_,_=>none
@[go_sem] def Aj (u:Ty) (b:Nat) (op:BinOp) (t t':Ty) (x:t.den) (y:t'.den):Option (List Prop×DV):=
 if h:t'=t then(if t=u/\(t= .bool\/(t.isRow=true/\b=1)) then Ah op (zK t x (uF h y)) else none) else none
@[go_sem] def YC {α:Type}(l:List α):BinOp->Option (List Prop×DV)
 | .eql=>some ([],.flag (l=[]) True)
 | .neq=>some ([],.flag True (l=[]))
 |_=>none
@[go_sem] def jj:Option TI->BinOp->qK->qK->Option (List Prop×DV)
 |some ⟨.list _,_,_,_,_⟩,op,(.val (.list _) l,_),(.nilS,_)=>YC l op
 |some ⟨.list _,_,_,_,_⟩,op,(.nilS,_),(.val (.list _) l,_)=>YC l op
 |some ⟨u,_,b,_,_⟩,op,(.val t x,_),(.val t' y,_)=>Aj u b op t t' x y
 |_,_,_,_=>none
@[go_sem] def jk:Option (List Prop×DV)->Option (List Prop×DV)->Option (List Prop×DV)
 |some r,_=>some r
 |none,r=>r
@[go_sem] def jl:UnOp->qK->Option (List Prop×DV)
 | .not,(.val .bool b,_)=>some ([],.val .bool (!b))
 | .neg,(.val (.int k) n,_)=>some (L9 k (-(n:Int)))
 |_,_=>none
def tQ (l:pT):pI:=l.map λn=>UInt8.ofNat n.toNat
def tK (s:pI):pT:=s.map λb=>(b.toNat:Int)
def IV (n:Int):pI:=(Utf8.encode n).data.toList
@[go_sem] def YD:Option TI->Option TI->qK->Option (List Prop×DV)
 |some _,some ⟨.int k,_,_,_,_⟩,(.val (.int _) n,_)=>some ([],.val (.int k) (k.wrap n))
 |some _,some ⟨.str,_,_,_,_⟩,(.val .str s,_)=>some ([],.val .str s)
 |some _,some ⟨.str,_,_,_,_⟩,(.val (.int _) n,_)=>some ([],.val .str (IV n))
 |_,_,_=>none
@[go_sem] def Ak (l:pT):Option TI->Option (List Prop×DV)
 |some ⟨.int .u8,_,_,_,_⟩=>some ([],.val .str (tQ l))
 |_=>none
@[go_sem] def jm (T:sH):Option TI->Option TI->qK->Option (List Prop×DV)
 |some ⟨.list (.int .u8),e,_,_,_⟩,some ⟨.str,_,_,_,_⟩,(.val (.list (.int .u8)) l,_)=>Ak l (s0 T e)
 |_,_,_=>none
def s8 {α:Type}(l:List α) (lo hi:Int):List α:=(l.drop lo.toNat).take (hi.toNat-lo.toNat)
@[go_sem] def CH:Option qK->Int->Option Int
 |none,d=>some d
 |some (.val (.int _) n,_),_=>some n
 |_,_=>none
@[go_sem] def YE (t:Ty) (n:Nat) (f:Int->Int->t.den):Option Int->Option Int->Option (List Prop×DV)
 |some a,some b=>some ([0<=a/\a<=b/\b<=(n:Int)],.val t (f a b))
 |_,_=>none
@[go_sem] def jn:Option TI->qK->Option qK->Option qK->Option (List Prop×DV)
 |some ⟨.str,_,_,_,_⟩,(.val .str l,_),lo,hi=>YE .str (List.length l) (s8 l) (CH lo 0) (CH hi (List.length l))
 |some ⟨.list u,_,_,_,_⟩,(.val (.list t) l,_),lo,hi=>if t=u then YE (.list t) (List.length l) (s8 l) (CH lo 0) (CH hi (List.length l)) else none
 |_,_,_,_=>none
@[go_sem] def YF (t:Ty) (x:t.den) (i:Nat):Option Ty->Option t.den
 |some (.list u)=>Ty.setPart (.list u) [] t x i
 |_=>none
@[go_sem] def AV (t:Ty):Option t.den->List (Nat×qK)->Option t.den
 |some x,[]=>some x
 |some x,(i,(.val u y,_))::r=>AV t (Ty.setPart u y t x i) r
 |some x,(i,(.nilS,_))::r=>AV t (YF t x i (t.fld i)) r
 |_,_=>none
@[go_sem] def DL (t:Ty):Nat->List t.den
 |0=>[]
 |n+1=>t.zero::DL t n
@[go_sem] def Al (t:Ty) (n:Nat) (l:List t.den) (i:Nat) (u:Ty) (y:u.den):Option (List t.den):=if h:(u=sM/\.part=t)/\i<n then some (l.set i (uF h.1.2 (qF.of (uF h.1.1 y)))) else none
@[go_sem] def Am (t:Ty) (n:Nat) (l:List t.den) (i:Nat) (u:Ty) (y:u.den):Option (List t.den):=if h:u=t/\i<n then some (l.set i (uF h.1 y)) else Al t n l i u y
@[go_sem] def BK (t:Ty) (n:Nat):Option (List t.den)->List (Nat×qK)->Option (List t.den)
 |some l,[]=>some l
 |some l,(i,(.val u y,_))::r=>BK t n (Am t n l i u y) r
 |_,_=>none
attribute [go_sem] List.set_cons_zero List.set_cons_succ
@[go_sem] def LA:List qK->Option pS
 |[]=>some []
 |(.val .ref (some p),_)::r=>(LA r).map (p:: ·)
 |_=>none
@[go_sem] def xC:pS->Nat->pW
 |[],_=>none
 |(o,k)::r,a=>if o=a then some k else xC r a
@[go_sem] def xT:pW->Nat->pS
 |some k,o=>[(o,k)]
 |none,_=>[]
@[go_sem] def vV:pS->Nat->Nat->pS
 |[],_,_=>[]
 |(q,k)::r,o,n=>if o<=q/\q<o+n then vV r o n else(q,k)::vV r o n
@[go_sem] def FL:Ty->pW->pW
 | .list _,k=>k
 |_,_=>none
@[go_sem] def zL {α:Type}:List α->List α->List α
 |[],acc=>acc
 |x::l,acc=>zL l (x::acc)
inductive rW where
 |box (id:Nat) (u:Ty) (x:u.den) (toks:pS) (o:Nat)
 |tok (id:Nat)
@[go_sem] def rW.id:rW->Nat
 | .box i _ _ _ _=>i
 | .tok k=>k
@[go_sem] def BL:Nat->pX->Bool
 |_,[]=>false
 |i,j::r=>if i=j then true else BL i r
@[go_sem] def sD:List rW->pX
 |[]=>[]
 |w::r=>w.id::sD r
structure tD where
 args:List qK
 H:List qP
 ws:List rW
 n:Nat
@[go_sem] def LB:pX->Nat->pS
 |[],_=>[]
 |q::qs,n=>(q,n)::LB qs (n+1)
@[go_sem] def CI (k:Nat):Option qP->Option tD->Option tD
 |some (.grow e c m),some a=>if BL k (sD a.ws)=true then none else some ⟨a.args,.grow e c m::a.H,.tok k::a.ws,a.n+1⟩
 |_,_=>none
@[go_sem] def zM (H:List (Nat×qP)):pW->Option tD->Option tD
 |some k,a=>CI k (qT H k) a
 |none,_=>none
@[go_sem] def yS (H:List (Nat×qP)) (toks:pS) (o:Nat):pX->Option tD->Option tD
 |[],a=>a
 |q::qs,a=>yS H toks o qs (zM H (xC toks (o+q)) a)
@[go_sem] def Q8 (n:Nat):pX->Bool
 |[]=>true
 |q::qs=>decide (q<n)&&Q8 n qs
@[go_sem] def FM (H:List (Nat×qP)) (t:Ty) (os:pX) (i o:Nat) (u:Ty) (x:u.den) (toks:pS) (a:tD):Option t.den->Option tD
 |some y=>if (Q8 t.cells os&& !BL i (sD a.ws))=true then yS H toks o os (some ⟨(.val .ref (some (a.n,0)),none)::a.args,.cells t y (LB os (a.n+1))::a.H,.box i u x toks o::a.ws,a.n+1⟩) else none
 |none=>none
@[go_sem] def vZ (H:List (Nat×qP)) (t:Ty) (os:pX) (i o:Nat) (a:tD):Option qP->Option tD
 |some (.cells u x toks)=>FM H t os i o u x toks a (rR t u x o)
 |_=>none
@[go_sem] def CK (t:Ty) (x:t.den) (k:Nat) (a:tD):Option qP->Option tD
 |some (.grow e c m)=>if (t.pure&& !BL k (sD a.ws))=true then some ⟨(.val t x,some a.n)::a.args,.grow e c m::a.H,.tok k::a.ws,a.n+1⟩ else none
 |_=>none
@[go_sem] def YG (t:Ty) (x:t.den) (a:tD):Option tD:=
 if t.pure=true then some ⟨(.val t x,none)::a.args,a.H,a.ws,a.n⟩ else none
@[go_sem] def YH (f:FuncId) (a:tD):Option tD:=some ⟨(.val .clo (some (f,[])),none)::a.args,a.H,a.ws,a.n⟩
@[go_sem] def YI (a:tD):Option tD:=some ⟨(.nilS,none)::a.args,a.H,a.ws,a.n⟩
@[go_sem] def CL (i:Nat) (a:tD):Option qP->Option tD
 |some (.map k v l)=>if (k.pure&&v.pure&& !BL i (sD a.ws))=true then some ⟨(.val .mp (some a.n),none)::a.args,.map k v l::a.H,.tok i::a.ws,a.n+1⟩ else none
 |_=>none
@[go_sem] def CM (i:Nat) (a:tD):Option qP->Option tD
 |some (.map k v l)=>if (k.pure&&v.pure&& !BL i (sD a.ws))=true then some ⟨(.val (.pair .mp .unit) (some a.n,()),none)::a.args,.map k v l::a.H,.tok i::a.ws,a.n+1⟩ else none
 |_=>none
@[go_sem] def CN (k n:Nat) (a:tD):Option qP->Option tD
 |some (.row e t l m)=>if (t.pure&& !BL k (sD a.ws))=true then some ⟨(.own a.n n,none)::a.args,.row e t l m::a.H,.tok k::a.ws,a.n+1⟩ else none
 |_=>none
@[go_sem] def xU (H:List (Nat×qP)) (f:FuncId) (args:List qK):List (Ty×pX)->pS->pS->Option tD->Option tD
 |[],[],ids,some a=>some ⟨(.val .clo (some (f,zL ids [])),none)::args,a.H,a.ws,a.n⟩
 |(t,os)::ks,(i,o)::cs,ids,some a=>xU H f args ks cs ((a.n,0)::ids) (vZ H t os i o a (qT H i))
 |_,_,_,_=>none
@[go_sem] def xV (H:List (Nat×qP)) (a:tD):PK->qK->Option tD
 | .v,(.val .clo (some (f,[])),_)=>YH f a
 | .v,(.val t x,_)=>YG t x a
 | .v,(.nilS,_)=>YI a
 | .own,(.val (.list t) x,some k)=>CK (.list t) x k a (qT H k)
 | .p t os,(.val .ref (some (i,o)),_)=>vZ H t os i o a (qT H i)
 | .m,(.val .mp (some i),_)=>CL i a (qT H i)
 | .s,(.val (.pair .mp .unit) (some i,()),_)=>CM i a (qT H i)
 | .r,(.own k n,_)=>CN k n a (qT H k)
 | .f ks,(.val .clo (some (f,cs)),_)=>xU H f a.args ks cs [] (some a)
 |_,_=>none
@[go_sem] def xW (H:List (Nat×qP)):List PK->List qK->Option tD->Option tD
 |_,_,none=>none
 |[],[],some a=>some a
 |p::ps,s::ss,some a=>xW H ps ss (xV H a p s)
 |_,_,some _=>none
@[go_sem] def a5u:Option pV->qK
 |some (some p)=>(.val .ref (some p),none)
 |_=>(.any,none)
@[go_sem] def a5v:Option pW->qK
 |some (some i)=>(.val .mp (some i),none)
 |_=>(.any,none)
@[go_sem] def a5w:Option pV->qK
 |some (some (k,n))=>(.own k n,none)
 |_=>(.any,none)
@[go_sem] def GS:(t:Ty)->t.den->Nat->Option pV
 | .rl _ _,x,0=>some x
 | .pair a b,x,o=>if o<a.cells then GS a x.1 o else GS b x.2 (o-a.cells)
 |_,_,_=>none
@[go_sem] def LC (q:Nat):PK->Option qP->qK
 | .r,some (.cells t y _)=>a5w (GS t y q)
 | .p _ _,some (.cells t y _)=>a5u (rR .ref t y q)
 | .m,some (.cells t y _)=>a5v (rR .mp t y q)
 |_,_=>(.any,none)
@[go_sem] def IW:List qP->Nat->Option qP
 |[],_=>none
 |b::_,0=>some b
 |_::r,n+1=>IW r n
@[go_sem] def Q9 (l:List qK):Option tD->Option tD
 |some a=>some ⟨l,a.H,a.ws,a.n⟩
 |none=>none
@[go_sem] def BM (H:List (Nat×qP)):List (Nat×Nat×PK)->Option tD->Option tD
 |_,none=>none
 |[],some a=>some a
 |(c,q,pk)::r,some a=>BM H r (Q9 a.args (xV H a pk (LC q pk (IW a.H (a.n-1-c)))))
@[go_sem] def GT (i o:Nat):List rW->Nat->pV
 |[],_=>none
 | .box j _ _ _ oc::r,c=>if j=i/\oc<=o then some (c,o-oc) else GT i o r (c+1)
 | .tok _::r,c=>GT i o r (c+1)
@[go_sem] def wK (i:Nat):List rW->Nat->pW
 |[],_=>none
 | .tok j::r,c=>if j=i then some c else wK i r (c+1)
 | .box _ _ _ _ _::r,c=>wK i r (c+1)
@[go_sem] def LD {α β:Type}:Option α->Option β->Option (α×β)
 |some a,some b=>some (a,b)
 |_,_=>none
@[go_sem] def YJ (W:List rW):pV->Option pV
 |none=>some none
 |some (i,o)=>(GT i o W 0).map some
@[go_sem] def An (W:List rW):pW->Option pW
 |none=>some none
 |some i=>(wK i W 0).map some
@[go_sem] def Ao (W:List rW):pV->Option pV
 |none=>some none
 |some (k,n)=>(wK k W 0).map λc=>some (c,n)
@[go_sem] def UQ:Option (Nat×pS)->Option (Option (Nat×pS))
 |none=>some none
 |some (f,[])=>some (some (f,[]))
 |_=>none
@[go_sem] def DM (W:List rW):(t:Ty)->t.den->Option t.den
 | .ref,x=>YJ W x
 | .clo,x=>UQ x
 | .mp,x=>An W x
 | .pair a b,x=>LD (if a.pure=true then some x.1 else DM W a x.1) (if b.pure=true then some x.2 else DM W b x.2)
 | .list t,x=>if t.pure=true then some x else none
 | .bool,x=>some x
 | .int _,x=>some x
 | .str,x=>some x
 | .unit,x=>some x
 | .rl _ _,x=>Ao W x
 | .fn,x=>some x
 | .mref,x=>YJ W x
 | .part,x=>some x
@[go_sem] def jo:Option qP->Option (List qP)->Option (List qP)
 |some b,some l=>some (b::l)
 |_,_=>none
@[go_sem] def a5x (t:Ty) (ts:pS):Option t.den->Option qP
 |some y=>some (.cells t y ts)
 |none=>none
@[go_sem] def YK (W:List rW):qP->Option qP
 | .cells t y ts=>if t.pure=true then some (.cells t y ts) else a5x t ts (DM W t y)
 |b=>some b
@[go_sem] def IX (W:List rW):List qP->Option (List qP)
 |[]=>some []
 |b::r=>jo (YK W b) (IX W r)
@[go_sem] def AW:List rW->Nat->Option rW
 |[],_=>none
 |w::_,0=>some w
 |_::r,n+1=>AW r n
@[go_sem] def QA (n:Nat) (c:Nat):Option rW->Bool
 |some _=>false
 |none=>decide (c<n)
@[go_sem] def AX (base n c:Nat):Option rW->pW
 |some (.box _ _ _ _ _)=>none
 |some (.tok k)=>some k
 |none=>if c<n then some (base+c) else none
@[go_sem] def Ap (base n c o:Nat):Option rW->qK
 |some (.box i _ _ _ o')=>(.val .ref (some (i,o'+o)),none)
 |wh=>if QA n c wh=true then(.val .ref (some (base+c,o)),none) else(.any,none)
@[go_sem] def LF (base n:Nat) (W:List rW):pW->pW
 |some c=>AX base n c (AW W c)
 |none=>none
@[go_sem] def a5y (m:Nat):pW->qK
 |some k=>(.own k m,none)
 |none=>(.any,none)
@[go_sem] def a5z:pW->qK
 |some k=>(.val .mp (some k),none)
 |none=>(.any,none)
@[go_sem] def jp (base n c o:Nat):Option rW->pV
 |some (.box i _ _ _ o')=>some (i,o'+o)
 |wh=>if QA n c wh=true then some (base+c,o) else none
@[go_sem] def a5A:pV->Option pS->Option pS
 |some p,some l=>some (p::l)
 |_,_=>none
@[go_sem] def QB (base n:Nat) (W:List rW):pS->Option pS
 |[]=>some []
 |(c,o)::r=>a5A (jp base n c o (AW W c)) (QB base n W r)
@[go_sem] def a5B (f:Nat):Option pS->qK
 |some l=>(.val .clo (some (f,l)),none)
 |none=>(.any,none)
@[go_sem] def YL (base n:Nat) (W:List rW):qK->qK
 |(.own c m,_)=>a5y m (LF base n W (some c))
 |(.val .ref (some (c,o)),_)=>Ap base n c o (AW W c)
 |(.val .ref none,_)=>(.val .ref none,none)
 |(.val .mp (some c),_)=>a5z (LF base n W (some c))
 |(.val .mp none,_)=>(.val .mp none,none)
 |(.val .clo (some (f,cs)),_)=>a5B f (QB base n W cs)
 |(.val t x,k)=>if t.pure=true then(.val t x,LF base n W (FL t k)) else(.any,none)
 |_=>(.any,none)
@[go_sem] def a5C (q:Nat):pW->pS->pS
 |some k,r=>(q,k)::r
 |none,r=>r
@[go_sem] def ER (base n:Nat) (W:List rW) (o:Nat):pS->pS
 |[]=>[]
 |(q,c)::r=>a5C (o+q) (AX base n c (AW W c)) (ER base n W o r)
@[go_sem] def LG (base n:Nat) (W:List rW):pV->Option pV
 |none=>some none
 |some (c,o)=>back2 c o (AW W c)
where
 back2 (c o:Nat):Option rW->Option pV
  |some (.box i _ _ _ o')=>some (some (i,o'+o))
  |wh=>if QA n c wh=true then some (some (base+c,o)) else none
attribute [go_sem] LG.back2
@[go_sem] def Aq (base n:Nat) (W:List rW):pW->Option pW
 |none=>some none
 |some c=>(AX base n c (AW W c)).map some
@[go_sem] def Ar (base n:Nat) (W:List rW):pV->Option pV
 |none=>some none
 |some (c,q)=>(AX base n c (AW W c)).map λk=>some (k,q)
@[go_sem] def CO (base n:Nat) (W:List rW):(t:Ty)->t.den->Option t.den
 | .ref,x=>LG base n W x
 | .clo,x=>UQ x
 | .mp,x=>Aq base n W x
 | .pair a b,x=>LD (if a.pure=true then some x.1 else CO base n W a x.1) (if b.pure=true then some x.2 else CO base n W b x.2)
 | .list t,x=>if t.pure=true then some x else none
 | .bool,x=>some x
 | .int _,x=>some x
 | .str,x=>some x
 | .unit,x=>some x
 | .rl _ _,x=>Ar base n W x
 | .fn,x=>some x
 | .mref,x=>LG base n W x
 | .part,x=>some x
@[go_sem] def YM (i o:Nat) (u t:Ty) (toks ts:pS):Option u.den->Option (Nat×qP)
 |some z=>some (i,.cells u z (rJ ts (vV toks o t.cells)))
 |none=>none
@[go_sem] def As (i:Nat) (t:Ty) (ts:pS):Option t.den->Option (Nat×qP)
 |some y=>some (i,.cells t y ts)
 |none=>none
@[go_sem] def ES (base n c:Nat) (W:List rW):qP->Option (Nat×qP)
 | .cells t y ts=>if t.pure=true then some (base+c,.cells t y (ER base n W 0 ts)) else As (base+c) t (ER base n W 0 ts) (CO base n W t y)
 | .grow e m k=>some (base+c,.grow e m k)
 | .row e t l n=>if t.pure=true then some (base+c,.row e t l n) else none
 | .map k v l=>if (k.pure&&v.pure)=true then some (base+c,.map k v l) else none
 | .iter _ _=>none
 | .dead=>some (base+c,.dead)
@[go_sem] def A6 (k:Nat):qP->Option (Nat×qP)
 | .cells _ _ _=>none
 | .grow e m n=>some (k,.grow e m n)
 | .row e t l n=>if t.pure=true then some (k,.row e t l n) else none
 | .map s v l=>if (s.pure&&v.pure)=true then some (k,.map s v l) else none
 | .iter _ _=>none
 | .dead=>some (k,.dead)
@[go_sem] def At (i o:Nat) (u t:Ty) (toks ts:pS) (x:u.den):Option t.den->Option (Nat×qP)
 |some y=>YM i o u t toks ts (sW t y u x o)
 |none=>none
@[go_sem] def xX (base n i o:Nat) (W:List rW) (u:Ty) (x:u.den) (toks:pS):qP->Option (Nat×qP)
 | .cells t y ts=>if t.pure=true then YM i o u t toks (ER base n W o ts) (sW t y u x o) else At i o u t toks (ER base n W o ts) x (CO base n W t y)
 | .dead=>some (i,.dead)
 | .grow _ _ _=>none
 | .row _ _ _ _=>none
 | .map _ _ _=>none
 | .iter _ _=>none
@[go_sem] def UR:Option (Nat×qP)->Option (List (Nat×qP))->Option (List (Nat×qP))
 |some q,some r=>some (q::r)
 |_,_=>none
@[go_sem] def BN (base n:Nat) (W:List rW):Nat->List rW->List qP->Option (List (Nat×qP))
 |_,[],[]=>some []
 |c,[],b::L=>UR (ES base n c W b) (BN base n W (c+1) [] L)
 |c,.box i u x toks o::ws,b::L=>UR (xX base n i o W u x toks b) (BN base n W (c+1) ws L)
 |c,.tok k::ws,b::L=>UR (A6 k b) (BN base n W (c+1) ws L)
 |_,_::_,[]=>none
@[go_sem] def GU:List qK->Option (List ((Σ t:Ty,t.den)×pW))
 |[]=>some []
 |(.val t x,k)::r=>(GU r).map ((⟨t,x⟩,k):: ·)
 |(.own k n,_)::r=>(GU r).map ((⟨.rl 0 .unit,some (k,n)⟩,none):: ·)
 |_=>none
@[go_sem] def a5D:Option (List ((Σ t:Ty,t.den)×pW))->qK
 |some q=>(.tup q,none)
 |none=>(.any,none)
@[go_sem] def QC:List qK->Option qK
 |[]=>some (.tup [],none)
 |[s]=>some s
 |s::s'::l=>some (a5D (GU (s::s'::l)))
@[go_sem] def jq (W:List rW):pX->pX
 |[]=>[]
 |c::r=>sameId (AW W c) (jq W r)
where
 sameId:Option rW->pX->pX
  |some w,r=>w.id::r
  |none,r=>r
attribute [go_sem] jq.sameId
@[go_sem] def US (side:List Prop) (rds:pX):Option (List (Nat×qP))->Option qK->Option r9
 |some H,some s=>some ⟨side,s,H,rds⟩
 |_,_=>none
@[go_sem] def UT (base n:Nat) (W:List rW):List qK->List qK
 |[]=>[]
 |s::r=>YL base n W s::UT base n W r
@[go_sem] def w4:List qP->Nat
 |[]=>0
 |_::r=>w4 r+1
@[go_sem] def YN (base:Nat) (W:List rW) (sm:pX):Option r8->Option r9
 |some r=>US r.side (rJ (sD W) (jq W sm)) (BN base (w4 r.H) W 0 W r.H) (QC (UT base (w4 r.H) W r.ret))
 |none=>none
@[go_sem] def YO (C:List qK->List qP->Option r8) (sm:pX) (base:Nat) (W:List rW) (args:List qK):Option (List qP)->Option r9
 |some L=>YN base W sm (C args L)
 |none=>none
@[go_sem] def UU (C:List qK->List qP->Option r8) (sm:pX) (base:Nat):Option tD->Option r9
 |some a=>YO C sm base (zL a.ws []) (zL a.args []) (IX (zL a.ws []) (zL a.H []))
 |none=>none
@[go_sem] def GW (H:List (Nat×qP)) (base:Nat) (args:List qK):Option r7->Option r9
 |some g=>UU g.C g.same base (BM H g.gs (xW H g.ps args (some ⟨[],[],[],0⟩)))
 |none=>none
@[go_sem] def UV:List PK->List qK->pW
 | .r::ps,_::ss=>UV ps ss
 |_::_,(.own k _,_)::_=>some k
 |_::ps,_::ss=>UV ps ss
 |_,_=>none
@[go_sem] def Au (k:Nat) (t:Ty) (l:List t.den):qK->qK
 |(.own j m,x)=>if j=k then(.val (.list t) l,none) else(.own j m,x)
 |s=>s
@[go_sem] def UW (k:Nat) (t:Ty) (l:List t.den):List qK->List qK
 |[]=>[]
 |s::r=>Au k t l s::UW k t l r
@[go_sem] def LH (k n:Nat):List qK->List Prop
 |[]=>[]
 |(.own j m,_)::r=>(j=k->m=n)::LH k n r
 |_::r=>LH k n r
@[go_sem] def IY:Ty->Bool
 | .list _=>false
 | .pair a b=>IY a&&IY b
 | .bool| .int _| .str| .unit| .fn=>true
 | .ref| .clo| .mp| .rl _ _| .mref| .part=>false
@[go_sem] def qV:List (Nat×qP)->pX
 |[]=>[]
 |(i,_)::r=>i::qV r
@[go_sem] def QD:List (Nat×qP)->Bool
 |[]=>true
 |(_,.cells t _ [])::r=>IY t&&QD r
 |_=>false
@[go_sem] def jr (sd:List Prop) (k:Nat):Option r9->Option r9
 |some ⟨side,(.val t x,_),U,rds⟩=>if (IY t&&QD U&& !BL k (qV U))=true then some ⟨rJ sd side,(.val t x,none),U,k::rds⟩ else none
 |_=>none
@[go_sem] def UX (H:List (Nat×qP)) (base:Nat) (args:List qK) (g:r7) (k:Nat):Option qP->Option r9
 |some (.row _ t l m)=>jr (LH k m args) k (GW ((k,.dead)::H) base (UW k t l args) (some g))
 |_=>none
@[go_sem] def Av (H:List (Nat×qP)) (base:Nat) (args:List qK) (g:r7):pW->Option r9
 |some k=>UX H base args g k (qT H k)
 |none=>GW H base args (some g)
@[go_sem] def Aw (k n m e:Nat) (t:Ty):Option (List t.den)->Option r9
 |some l=>some ⟨[n=m,m<4611686018427387904],(.tup [],none),[(k,.row e t l m)],[k]⟩
 |none=>none
@[go_sem] def js (F:(t:Ty)->List t.den->Option (List t.den)) (k n:Nat):Option qP->Option r9
 |some (.row e t l m)=>Aw k n m e t (F t l)
 |_=>none
@[go_sem] def YP (H:List (Nat×qP)) (F:(t:Ty)->List t.den->Option (List t.den)):List qK->Option r9
 |[(.own k n,_)]=>js F k n (qT H k)
 |_=>none
@[go_sem] def jt (base:Nat):Option TI->qK->Option r9
 |some ⟨.list u,e,_,true,_⟩,(.nilS,_)=>some ⟨[],(.own base 0,none),[(base,.row e u [] 0)],[]⟩
 |some ⟨.list u,e,_,false,_⟩,(.nilS,_)=>some ⟨[],(.val (.list u) [],some base),[(base,.grow e u.cells 0)],[]⟩
 |_,(.nilS,_)=>none
 |_,s=>some ⟨[],s,[],[]⟩
@[go_sem] def FN:Ty->Nat->Bool
 | .list _,0=>true
 | .pair a b,o=>if o<a.cells then FN a o else FN b (o-a.cells)
 |_,_=>false
@[go_sem] def FO (t:Ty):List (Nat×TypeId×Nat)->Bool
 |[]=>true
 |(o,_,_)::r=>FN t o&&FO t r
@[go_sem] def CP:List (Nat×TypeId×Nat)->Nat->pS
 |[],_=>[]
 |(o,_,_)::r,i=>(o,i)::CP r (i+1)
@[go_sem] def ET:List (Nat×TypeId×Nat)->Nat->List (Nat×qP)
 |[],_=>[]
 |(_,e,c)::r,i=>rJ (ET r (i+1)) [(i,.grow e c 0)]
@[go_sem] def ju (e:Nat):Bool:=if e=113 then true else if e=Ac then true else false
@[go_sem] def jv (e:Nat) (u:Ty) (o:Nat):pV->List (Nat×Nat×Ty)
 |none=>[(o,e,u)]
 |some _=>[]
@[go_sem] def FP:(t:Ty)->t.den->Nat->List (Nat×Nat×Ty)
 | .rl e u,x,o=>jv e u o x
 | .pair a b,x,o=>rJ (FP a x.1 o) (FP b x.2 (o+a.cells))
 |_,_,_=>[]
@[go_sem] def jw (o:Nat):pV->pX
 |none=>[o]
 |some _=>[]
@[go_sem] def GX:(t:Ty)->t.den->Nat->pX
 | .mref,x,o=>jw o x
 | .pair a b,x,o=>rJ (GX a x.1 o) (GX b x.2 (o+a.cells))
 |_,_,_=>[]
@[go_sem] def Ax:Nat->pX->pX
 |2,[0]=>[0]
 |_,_=>[]
@[go_sem] def YQ (el:Nat) (t:Ty) (y:t.den):pX:=if ju el=true then Ax t.cells (GX t y 0) else[]
@[go_sem] def LI (t:Ty):Nat->List (Nat×Nat×Ty)->Option t.den->Option t.den
 |_,[],x=>x
 |i,(o,e,u)::r,some x=>LI t (i+1) r (sW (.rl e u) (some (i,0)) t x o)
 |_,_::_,none=>none
@[go_sem] def IZ (t:Ty) (i:Nat):pX->Option t.den->Option t.den
 |[],x=>x
 |q::r,some x=>IZ t i r (sW .mref (some (i,q)) t x q)
 |_::_,none=>none
@[go_sem] def LJ:List (Nat×Nat×Ty)->Nat->List (Nat×qP)
 |[],_=>[]
 |(_,e,u)::r,i=>rJ (LJ r (i+1)) [(i,.row e u [] 0)]
@[go_sem] def UY {α:Type}:List α->Nat
 |[]=>0
 |_::r=>UY r+1
@[go_sem] def Ay (base:Nat) (t:Ty) (ls:List (Nat×TypeId×Nat)) (R:List (Nat×Nat×Ty)):Option t.den->Option r9
 |some z=>some ⟨[],(.val .ref (some (base,0)),none),(base,.cells t z (CP ls (base+1)))::rJ (LJ R (base+1+UY ls)) (ET ls (base+1)),[]⟩
 |none=>none
@[go_sem] def YR (base el:Nat) (t:Ty) (y:t.den) (ls:List (Nat×TypeId×Nat)):Bool->Option r9
 |true=>Ay base t ls (FP t y 0) (IZ t base (YQ el t y) (LI t (base+1+UY ls) (FP t y 0) (some y)))
 |false=>none
@[go_sem] def CQ (k:Nat):List (Nat×TypeId×Nat)->List (Nat×TypeId×Nat)
 |[]=>[]
 |(o,e,c)::r=>if o+1=k then CQ k r else(o,e,c)::CQ k r
@[go_sem] def Az (base el:Nat) (ls:List (Nat×TypeId×Nat)):(t:Ty)->t.den->pW->Option r9
 | .pair a b,y,some k=>YR base el (.pair a b) y (CQ k ls) (FO (.pair a b) (CQ k ls))
 | .list u,y,k=>some ⟨[],(.val .ref (some (base,0)),none),[(base,.cells (.list u) y (xT k 0))],[]⟩
 |t,y,_=>some ⟨[],(.val .ref (some (base,0)),none),[(base,.cells t y [])],[]⟩
@[go_sem] def UZ (base el:Nat):Option TI->Option r9
 |some ⟨.list u,e,_,_,_⟩=>some ⟨[],(.val .ref (some (base,0)),none),[(base,.cells (.list u) [] [(0,base+1)]),(base+1,.grow e u.cells 0)],[]⟩
 |some ti=>YR base el ti.ty ti.ty.zero ti.ls (FO ti.ty ti.ls)
 |none=>none
@[go_sem] def jx (base el:Nat):Option TI->qK->Option r9
 |some ti,(.val t y,k)=>if t=ti.ty then Az base el ti.ls t y k else none
 |_,_=>none
@[go_sem] def jy (base el:Nat):Option TI->qK->Option r9
 |some ⟨.list u,e,b,a,ls⟩,(.nilS,_)=>UZ base el (some ⟨.list u,e,b,a,ls⟩)
 |ti,s=>jx base el ti (Q7 ti s)
@[go_sem] def LK:Ty->Bool
 | .list _=>true
 | .pair a b=>LK a||LK b
 | .part=>true
 | .bool| .int _| .str| .unit| .ref| .clo| .mp| .rl _ _| .mref| .fn=>false
@[go_sem] def YS:pW->pW->pW
 |some o,some m=>if m=0 then some (o+1) else none
 |_,_=>none
@[go_sem] def jz:Ty->Bool
 | .list _=>true
 | .pair _ _| .bool| .int _| .str| .unit| .ref| .clo| .mp| .rl _ _| .mref| .fn| .part=>false
@[go_sem] def YT (u:Ty) (o m:pW):Bool->Bool->pW
 |false,_=>m
 |true,true=>YS o m
 |true,false=>none
@[go_sem] def AY (t:Ty):List (Nat×qK)->pW
 |[]=>some 0
 |(_,(.nilS,_))::r=>AY t r
 |(i,(.val u _,_))::r=>YT u (t.offs i) (AY t r) (LK u) (jz u)
 |_=>none
@[go_sem] def ka:Ty->pW->pW
 | .pair _ _,m=>m
 |_,_=>none
@[go_sem] def a5E (t:Ty) (k:pW):Option t.den->Option r9
 |some x=>some ⟨[],(.val t x,k),[],[]⟩
 |none=>none
@[go_sem] def kc (sl:List (Nat×qK)):Option TI->Option r9
 |some ti=>if ti.ty.isRow=true then a5E ti.ty (ka ti.ty (AY ti.ty sl)) (AV ti.ty (some ti.ty.zero) sl) else none
 |none=>none
@[go_sem] def YU (base e c n:Nat) (t:Ty):Option (List t.den)->Option r9
 |some l=>if n<=16777216/\n*c<=16777216 then some ⟨[],(.val (.list t) l,some base),[(base,.grow e c n)],[]⟩ else none
 |none=>none
@[go_sem] def Ba (base e n:Nat) (t:Ty):Option (List t.den)->Option r9
 |some l=>if t.pure=true/\n<=16777216/\n*t.cells<=16777216 then some ⟨[],(.own base n,none),[(base,.row e t l n)],[]⟩ else none
 |none=>none
@[go_sem] def ke (base n:Nat) (sl:List (Nat×qK)):Option TI->Option r9
 |some ⟨.list u,e,_,true,_⟩=>if n=0 then Ba base e n u (BK u n (some (DL u n)) sl) else YU base e u.cells n u (BK u n (some (DL u n)) sl)
 |some ⟨.list u,e,_,false,_⟩=>YU base e u.cells n u (BK u n (some (DL u n)) sl)
 |_=>none
@[go_sem] def Bb (t:Ty) (k:pW) (i:Nat):Option t.den->Option r9
 |some y=>some ⟨[],(.val t y,k),[],[i]⟩
 |none=>none
@[go_sem] def V0 (t:Ty) (i off:Nat):Option qP->Option r9
 |some (.cells u x toks)=>Bb t (FL t (xC toks off)) i (rR t u x off)
 |_=>none
@[go_sem] def Bc (u:Ty) (k n m:Nat):Option u.den->Option r9
 |some y=>some ⟨[n=m],(.val u y,none),[],[k]⟩
 |none=>none
@[go_sem] def V1 (u:Ty) (k n c:Nat) (i:Int) (o:Nat):Option qP->Option r9
 |some (.row _ t l m)=>if c=t.cells then Bc u k n m (rR u t (qH t l i) o) else none
 |_=>none
@[go_sem] def kf (i:Nat):Option pV->Option r9
 |some (some (k,n))=>some ⟨[],(.own k n,none),[],[i]⟩
 |_=>none
@[go_sem] def YV (i off:Nat):TI->Option qP->Option r9
 |⟨.list u,e,_,_,_⟩,some (.cells v x _)=>kf i (rR (.rl e u) v x off)
 |_,_=>none
@[go_sem] def kg:pV->pV->pV
 |some p,_=>some p
 |none,q=>q
@[go_sem] def BO:(t:Ty)->t.den->pV
 | .rl _ _,x=>x
 | .pair a b,x=>kg (BO a x.1) (BO b x.2)
 |_,_=>none
@[go_sem] def kh (u0:Ty) (l:List u0.den) (u:Ty):pV->Option (Σ t:Ty,t.den)
 |some _=>if u=u0 then some ⟨.list u0,l⟩ else none
 |none=>none
@[go_sem] def LL (a b:Ty) (x:a.den) (y:b.den):pV->Option (Σ t:Ty,t.den)->Option (Σ t:Ty,t.den)->Option (Σ t:Ty,t.den)
 |some _,some ⟨a',x'⟩,_=>some ⟨.pair a' b,(x',y)⟩
 |some _,none,_=>none
 |none,_,some ⟨b',y'⟩=>some ⟨.pair a b',(x,y')⟩
 |none,_,none=>none
@[go_sem] def zN (u0:Ty) (l:List u0.den):(t:Ty)->t.den->Option (Σ t:Ty,t.den)
 | .rl _ u,x=>kh u0 l u x
 | .pair a b,x=>LL a b x.1 x.2 (BO a x.1) (zN u0 l a x.1) (zN u0 l b x.2)
 |_,_=>none
@[go_sem] def kj (t:Ty) (i k:Nat) (sd:Prop) (e:TypeId) (c n:Nat) (v:Ty) (x:v.den):Option t.den->Option r9
 |some y=>some ⟨[sd],(.val t y,none),[(i,.cells v x []),(k,.grow e c n)],[1000000000,i,k]⟩
 |none=>none
@[go_sem] def kl (t:Ty) (i off k:Nat) (sd:Prop) (e:TypeId) (c n:Nat):Option (Σ t:Ty,t.den)->Option r9
 |some ⟨v,x⟩=>kj t i k sd e c n v x (rR t v x off)
 |none=>none
@[go_sem] def YW (t:Ty) (i off k n0:Nat) (v:Ty) (x:v.den):Option qP->Option r9
 |some (.row e u0 l m)=>kl t i off k (n0=m) e u0.cells (List.length l) (zN u0 l v x)
 |_=>none
@[go_sem] def YX (H:List (Nat×qP)) (t:Ty) (i off:Nat) (v:Ty) (x:v.den):pV->Option r9
 |some (k,n0)=>YW t i off k n0 v x (qT H k)
 |none=>none
@[go_sem] def J0 (H:List (Nat×qP)) (t:Ty) (i off:Nat):Option qP->Option r9
 |some (.cells v x _)=>YX H t i off v x (BO v x)
 |_=>none
@[go_sem] def Be (H:List (Nat×qP)) (t:Ty) (i off:Nat) (b:Option qP):Option r9->Option r9
 |some r=>some r
 |none=>J0 H t i off b
@[go_sem] def YY {α:Type}:Option α->Option (List α)->Option (List α)
 |some x,some l=>some (x::l)
 |_,_=>none
@[go_sem] def LM (t u:Ty) (x:u.den) (off c:Nat):Nat->Option (List t.den)
 |0=>some []
 |m+1=>YY (rR t u x off) (LM t u x (off+c) c m)
@[go_sem] def Bf (t:Ty) (i:Nat) (ix:Int):Option (List t.den)->Option r9
 |some l=>some ⟨[],(.val t (qH t l ix),none),[],[i]⟩
 |none=>none
@[go_sem] def km (t:Ty) (i off m:Nat) (ix:Int):Option qP->Option r9
 |some (.cells u x _)=>Bf t i ix (LM t u x off t.cells m)
 |_=>none
@[go_sem] def YZ (H:List (Nat×qP)):Option TI->qK->Option r9
 |some ti,(.elt k n c i o,_)=>V1 ti.ty k n c i o (qT H k)
 |some ti,(.arr i off t m ix,_)=>if t=ti.ty then km ti.ty i off m ix (qT H i) else none
 |some ti,(.at u x,_)=>if u=ti.ty then some ⟨[],(.val u x,none),[],[]⟩ else none
 |some ti,(.val .ref (some (i,off)),_)=>Be H ti.ty i off (qT H i) (Af (V0 ti.ty i off (qT H i)) (YV i off ti (qT H i)))
 |_,_=>none
@[go_sem] def Z0 (u:Ty) (i:Nat) (toks:pS):Option u.den->Option r9
 |some z=>some ⟨[],(.any,none),[(i,.cells u z toks)],[i]⟩
 |none=>none
@[go_sem] def Z1 (t:Ty) (y:t.den) (k:pW) (i off:Nat):Option qP->Option r9
 |some (.cells u x toks)=>Z0 u i (rJ (xT (FL t k) off) (vV toks off t.cells)) (sW t y u x off)
 |_=>none
@[go_sem] def QE (off:Nat):pS->pS
 |[]=>[]
 |(o,k)::r=>(off+o,k)::QE off r
@[go_sem] def Bg (u:Ty) (i:Nat) (nt toks:pS) (bs:List (Nat×qP)):Option u.den->Option r9
 |some z=>some ⟨[],(.any,none),(i,.cells u z (rJ nt toks))::rJ bs [(i,.cells u z toks)],[i]⟩
 |none=>none
@[go_sem] def Z2 (t:Ty) (y:t.den) (ls:List (Nat×TypeId×Nat)) (base i off:Nat):Option qP->Bool->Option r9
 |some (.cells u x toks),true=>Bg u i (QE off (CP ls base)) (vV toks off t.cells) (ET ls base) (sW t y u x off)
 |_,_=>none
@[go_sem] def Z3 (base i off:Nat) (b:Option qP):List (Nat×TypeId×Nat)->(t:Ty)->t.den->pW->Option r9
 |q::r,.pair a c,y,some k=>Z2 (.pair a c) y (CQ k (q::r)) base i off b (FO (.pair a c) (CQ k (q::r)))
 |_,t,y,k=>Z1 t y k i off b
@[go_sem] def Bh (k n m:Nat) (e:TypeId) (t:Ty) (l:List t.den) (i:Int):Option t.den->Option r9
 |some z=>some ⟨[n=m],(.any,none),[(k,.row e t (l.set i.toNat z) m)],[k]⟩
 |none=>none
@[go_sem] def Z4 (u:Ty) (y:u.den) (k n c:Nat) (i:Int) (o:Nat):Option qP->Option r9
 |some (.row e t l m)=>if c=t.cells then Bh k n m e t l i (sW u y t (qH t l i) o) else none
 |_=>none
@[go_sem] def kr (b:Ty) (y:b.den):Option (Σ t:Ty,t.den)->Option (Σ t:Ty,t.den)
 |some ⟨a,x⟩=>some ⟨.pair a b,(x,y)⟩
 |none=>none
@[go_sem] def ku (a:Ty) (x:a.den):Option (Σ t:Ty,t.den)->Option (Σ t:Ty,t.den)
 |some ⟨b,y⟩=>some ⟨.pair a b,(x,y)⟩
 |none=>none
@[go_sem] def yH (e:Nat) (u:Ty) (kn:pV):(t:Ty)->t.den->Nat->Option (Σ t:Ty,t.den)
 | .list v,_,0=>if v=u then some ⟨.rl e u,kn⟩ else none
 | .pair a b,x,o=>if o<a.cells then kr b x.2 (yH e u kn a x.1 o) else ku a x.1 (yH e u kn b x.2 (o-a.cells))
 |_,_,_=>none
@[go_sem] def kv (i:Nat):Option (Σ t:Ty,t.den)->Option r9
 |some ⟨v,z⟩=>some ⟨[],(.any,none),[(i,.cells v z [])],[1000000000,i]⟩
 |none=>none
@[go_sem] def Bi (i off k n e:Nat) (u v:Ty) (x:v.den):Option r9->Option r9
 |some r=>some r
 |none=>kv i (yH e u (some (k,n)) v x off)
@[go_sem] def kw (i off k n:Nat):TI->Option qP->Option r9
 |⟨.list u,e,_,_,_⟩,some (.cells v x toks)=>Bi i off k n e u v x (Z0 v i (vV toks off 1) (sW (.rl e u) (some (k,n)) v x off))
 |_,_=>none
@[go_sem] def Z5 (base:Nat) (H:List (Nat×qP)):Option TI->qK->qK->Option r9
 |some ti,(.val .ref (some (i,off)),_),(.own k n,_)=>kw i off k n ti (qT H i)
 |some ti,(.elt k n c i o,_),(.val t y,_)=>if t=ti.ty then Z4 t y k n c i o (qT H k) else none
 |some ti,(.val .ref (some (i,off)),_),(.val t y,k)=>if t=ti.ty then Z3 base i off (qT H i) ti.ls t y k else none
 |_,_,_=>none
@[go_sem] def kz:qK->Option r9
 |(.val .ref (some p),_)=>some ⟨[],(.val .ref (some p),none),[],[]⟩
 |(.at t x,_)=>some ⟨[],(.at t x,none),[],[]⟩
 |(.elt k n c i o,_)=>some ⟨[],(.elt k n c i o,none),[],[]⟩
 |_=>none
@[go_sem] def Bj (f:FuncId):Option pS->Option r9
 |some l=>some ⟨[],(.val .clo (some (f,l)),none),[],[]⟩
 |none=>none
@[go_sem] def a5F (f:FuncId) (l:Option pS):List Operand->Option r9
 |[]=>Bj f l
 |_=>none
@[go_sem] def Z6 (side:List Prop):Option (Σ t:Ty,t.den)->Option r9
 |some ⟨t,x⟩=>if 0<t.cells then some ⟨side,(.at t x,none),[],[]⟩ else none
 |none=>none
@[go_sem] def Z7 (side:List Prop) (i off:Nat):pW->Option Ty->Option r9
 |some o,some u=>if 0<u.cells then some ⟨side,(.val .ref (some (i,off+o)),none),[],[]⟩ else none
 |_,_=>none
@[go_sem] def Bk (k n c:Nat) (i:Int) (o:Nat):pW->Option Ty->Option r9
 |some q,some u=>if 0<u.cells then some ⟨[],(.elt k n c i (o+q),none),[],[]⟩ else none
 |_,_=>none
@[go_sem] def la (f:Nat):Option TI->qK->Option r9
 |some ⟨t,_,_,false,_⟩,(.elt k n c i o,_)=>Bk k n c i o (t.offs f) (t.fld f)
 |some ⟨t,_,_,false,_⟩,(.at u y,_)=>if u=t then Z6 [] (u.proj y f) else none
 |some ⟨t,_,_,false,_⟩,(.val .ref (some (i,off)),_)=>Z7 [] i off (t.offs f) (t.fld f)
 |_,_=>none
@[go_sem] def a5G:Option (Σ t:Ty,t.den)->Option r9
 |some ⟨t,x⟩=>some ⟨[],(.val t x,none),[],[]⟩
 |none=>none
@[go_sem] def lc (f:Nat):Option TI->qK->Option r9
 |some ⟨t,_,_,false,_⟩,(.val u y,_)=>if u=t then a5G (u.proj y f) else none
 |_,_=>none
@[go_sem] def ld (t:Ty) (x:t.den):DV:=if h:t= .part then .at sM (qF.un (uF h x)) else .at t x
abbrev Bl:Nat:=800000000
@[go_sem] def QF:Ty->Nat
 | .pair _ b=>QF b+1
 |_=>0
@[go_sem] def a5H (i off:Nat) (a:Ty) (m:Nat) (ix:Int):Option r9:=some ⟨[0<=ix/\ix<(m:Int)],(.arr i off a m ix,none),[],[]⟩
@[go_sem] def lf:Option TI->qK->qK->Option r9
 |some ⟨.list t',_,_,_,_⟩,(.own k n,_),(.val (.int _) i,_)=>if 0<t'.cells then some ⟨[0<=i/\i<(n:Int)],(.elt k n t'.cells i 0,none),[],[]⟩ else none
 |some ⟨.list t',_,_,_,_⟩,(.val (.list t) l,_),(.val (.int _) i,_)=>if t=t' then some ⟨[0<=i/\i<(List.length l:Int)],(ld t (qH t l i),none),[],[]⟩ else none
 |some ⟨.pair a b,el,_,true,_⟩,(.val .ref (some (i,off)),_),(.val (.int _) n,_)=>if el=Bl then a5H i off a (QF (.pair a b)) n else Z7 [(0:Int)<=n] i off ((Ty.pair a b).offs (Int.toNat n)) ((Ty.pair a b).fld (Int.toNat n))
 |some ⟨.pair a b,_,_,true,_⟩,(.at u x,_),(.val (.int _) n,_)=>if u= .pair a b then Z6 [(0:Int)<=n] (u.proj x (Int.toNat n)) else none
 |_,_,_=>none
@[go_sem] def lg:Option TI->qK->qK->Option r9
 |some ⟨.str,_,_,_,_⟩,(.val .str l,_),(.val (.int _) i,_)=>some ⟨[0<=i/\i<(List.length l:Int)],(.val (.int .u8) (qZ l i),none),[],[]⟩
 |_,_,_=>none
@[go_sem] def a5I (e:Nat) (u:Ty):pV->qK
 |some (k,n)=>(.own k n,none)
 |none=>(.val (.rl e u) none,none)
@[go_sem] def a5J:(t:Ty)->t.den->pW->qK
 | .rl e u,x,_=>a5I e u x
 | .bool,x,k=>(.val .bool x,k)
 | .int i,x,k=>(.val (.int i) x,k)
 | .str,x,k=>(.val .str x,k)
 | .list u,x,k=>(.val (.list u) x,k)
 | .unit,x,k=>(.val .unit x,k)
 | .pair a b,x,k=>(.val (.pair a b) x,k)
 | .ref,x,k=>(.val .ref x,k)
 | .clo,x,k=>(.val .clo x,k)
 | .mp,x,k=>(.val .mp x,k)
 | .mref,x,k=>(.val .mref x,k)
 | .part,x,k=>(.val .part x,k)
 | .fn,x,k=>(.val .fn x,k)
@[go_sem] def Z8:List ((Σ t:Ty,t.den)×pW)->Nat->Option r9
 |[],_=>none
 |(⟨t,x⟩,k)::_,0=>some ⟨[],a5J t x k,[],[]⟩
 |_::r,n+1=>Z8 r n
@[go_sem] def Bm (b:Bool) (p c:Int):Nat->Option r9
 |0=>some ⟨[],(.val .bool b,none),[],[]⟩
 |1=>some ⟨[b=true],(.val (.int .i64) p,none),[],[]⟩
 |2=>some ⟨[b=true],(.val (.int .i32) c,none),[],[]⟩
 |_=>none
@[go_sem] def lh (i:Nat):qK->Option r9
 |(.tup l,_)=>Z8 l i
 |(.nxt b p c,_)=>Bm b p c i
 |_=>none
@[go_sem] def Z9 (i:Nat):Option qP->Option r9
 |some (.map _ _ l)=>some ⟨[],(.val (.int .i64) (List.length l:Int),none),[],[i]⟩
 |_=>none
@[go_sem] def li (H:List (Nat×qP)):Option TI->List qK->Option r9
 |some ⟨.mp,_,_,_,_⟩,[(.val .mp (some i),_)]=>Z9 i (qT H i)
 |some ⟨.str,_,_,_,_⟩,[(.val .str l,_)]=>some ⟨[],(.val (.int .i64) (List.length l:Int),none),[],[]⟩
 |some ⟨.list _,_,_,_,_⟩,[(.val (.list _) l,_)]=>some ⟨[],(.val (.int .i64) (List.length l:Int),none),[],[]⟩
 |some ⟨.list _,_,_,_,_⟩,[(.own _ n,_)]=>some ⟨[],(.val (.int .i64) (n:Int),none),[],[]⟩
 |_,_=>none
@[go_sem] def ZA (a:Ty) (l r:List a.den) (k e' by':Nat):Option qP->Option r9
 |some (.grow e c n)=>if e=e'/\c=a.cells/\0<c/\0<by' then some ⟨[List.length l=n,(List.length l+List.length r)*by'<=140737488355328],(.val (.list a) (l++r),some k),[(k,.grow e c (List.length (l++r)))],[k]⟩ else none
 |_=>none
@[go_sem] def ZB (b:Ty) (r:List b.den) (k n e' by':Nat):Option qP->Option r9
 |some (.row e t l m)=>if h:b=t then(if e=e'/\0<t.cells/\0<by' then some ⟨[n=m,(n+List.length r)*by'<=140737488355328],(.own k (List.length (l++uF (t:= .list b) (u:= .list t) (by rw[h]) r)),none),[(k,.row e t (l++uF (t:= .list b) (u:= .list t) (by rw[h]) r) (List.length (l++uF (t:= .list b) (u:= .list t) (by rw[h]) r)))],[k]⟩ else none) else none
 |_=>none
@[go_sem] def ZC (H:List (Nat×qP)):Option TI->List qK->Option r9
 |some ⟨.list u,e,by',_,_⟩,[(.own k n,_),(.val (.list b) r,_)]=>if b=u then ZB b r k n e by' (qT H k) else none
 |some ⟨.list u,e,by',_,_⟩,[(.val (.list a) l,some k),(.val (.list b) r,_)]=>if h:b=a/\a=u then ZA a l (uF (t:= .list b) (u:= .list a) (by rw[h.1]) r) k e by' (qT H k) else none
 |_,_=>none
@[go_sem] def ZD (mx:Bool):List qK->Option (List Prop×DV)
 |[(.val (.int k) a,_),(.val (.int k') b,_)]=>if k=k' then some ([],.val (.int k) (if mx then max (a:Int) b else min (a:Int) b)) else none
 |_=>none
@[go_sem] def lj:pS->List qK
 |[]=>[]
 |c::r=>(.val .ref (some c),none)::lj r
@[go_sem] def ZE (H:List (Nat×qP)) (base:Nat) (args:List qK) (g:r7):Option ((t:Ty)->List t.den->Option (List t.den))->Option r9
 |some F=>YP H F args
 |none=>Av H base args g (UV g.ps args)
@[go_sem] def LN (H:List (Nat×qP)) (base:Nat) (args:List qK):Option r7->Option r9
 |some g=>ZE H base args g g.row
 |none=>none
@[go_sem] def V2 (Γ:tS) (f:Nat):Option r7:=if f<1000000000 then Γ f else none
@[go_sem] def QG (Γ:tS) (H:List (Nat×qP)) (base:Nat) (args:List qK):qK->Option r9
 |(.val .clo (some (f,caps)),_)=>LN H base (args++lj caps) (V2 Γ f)
 |(.val .fn (some f),_)=>LN H base args (V2 Γ f)
 |_=>none
@[go_sem] def GY (T:sH) (ρ:Operand->qK):List Operand->List TypeId->List qK
 |x::xs,t::ts=>Q7 (s0 T t) (ρ x)::GY T ρ xs ts
 |_,_=>[]
@[go_sem] def vW (ρ:Operand->qK):List Operand->List qK
 |[]=>[]
 |x::xs=>ρ x::vW ρ xs
@[go_sem] def uQ (ρ:Operand->qK):List (Nat×Operand)->List (Nat×qK)
 |[]=>[]
 |(i,x)::xs=>(i,ρ x)::uQ ρ xs
@[go_sem] def wM (ρ:Operand->qK):Option Operand->Option qK
 |some x=>some (ρ x)
 |none=>none
@[go_sem] def ZF (T:sH) (H:List (Nat×qP)) (ss:List qK):List TypeId->Option r9
 |t::_=>li H (s0 T t) ss
 |[]=>none
@[go_sem] def ZG (l:pT) (s:pI) (k e':Nat):Option qP->Option r9
 |some (.grow e c n)=>if e=e'/\c=1 then some ⟨[List.length l=n,List.length l+List.length s<=140737488355328],(.val (.list (.int .u8)) (l++tK s),some k),[(k,.grow e c (List.length (l++tK s)))],[k]⟩ else none
 |_=>none
@[go_sem] def ll (H:List (Nat×qP)):Option TI->Option TI->List qK->Option r9
 |some ⟨.list (.int .u8),e,1,_,_⟩,some ⟨.str,_,_,_,_⟩,[(.val (.list (.int .u8)) l,some k),(.val .str s,_)]=>ZG l s k e (qT H k)
 |_,_,_=>none
@[go_sem] def ZH (T:sH) (H:List (Nat×qP)) (ss:List qK):List TypeId->Option r9
 |[t,u]=>if t=u then ZC H (s0 T t) ss else ll H (s0 T t) (s0 T u) ss
 |_=>none
@[go_sem] def LO:List Operand->List TypeId->Bool
 |[],[]=>true
 |_::xs,_::ts=>LO xs ts
 |_,_=>false
@[go_sem] def lm (T:sH) (Γ:tS) (ρ:Operand->qK) (base:Nat) (H:List (Nat×qP)) (args:List Operand) (tys:List TypeId) (f:qK):Bool->Option r9
 |true=>QG Γ H base (GY T ρ args tys) f
 |false=>none
@[go_sem] def LP (T:sH) (Γ:tS) (ρ:Operand->qK) (base:Nat) (H:List (Nat×qP)) (args:Array Operand) (tys:Array TypeId):Callee->Option r9
 | .builtin .len=>ZF T H (vW ρ args.toList) tys.toList
 | .builtin .append=>ZH T H (vW ρ args.toList) tys.toList
 | .builtin .max=>AU (ZD true (vW ρ args.toList))
 | .builtin .min=>AU (ZD false (vW ρ args.toList))
 | .value f=>lm T Γ ρ base H args.toList tys.toList (ρ f) (LO args.toList tys.toList)
 |_=>none
@[go_sem] def tM:Ty->Bool
 | .int _| .str| .bool=>true
 |_=>false
@[go_sem] def CR:Ty->Bool
 | .unit=>true
 | .pair a b=>tM a&&CR b
 |_=>false
@[go_sem] def J1:TI->Bool
 |⟨.pair _ _,_,b,ar,_⟩=>decide (b=1)&& !ar
 |_=>true
@[go_sem] def DN:Ty->Bool
 | .pair a b=>CR (.pair a b)
 | .int _| .str| .bool=>true
 |_=>false
def xY:(k:Ty)->k.den->k.den->Bool
 | .int _,a,b=>decide ((a:Int)=b)
 | .str,a,b=>decide ((a:pI)=b)
 | .bool,a,b=>a==b
 | .pair s t,a,b=>(zK (.pair s t) a b).getD false
 |_,_,_=>false
def sE (k v:Ty):List (k.den×v.den)->k.den->v.den
 |[],_=>v.zero
 |(x,y)::r,a=>if xY k a x=true then y else sE k v r a
def wX (k v:Ty):List (k.den×v.den)->k.den->Bool
 |[],_=>false
 |(x,_)::r,a=>if xY k a x=true then true else wX k v r a
def rL (k v:Ty) (a:k.den) (b:v.den):List (k.den×v.den)->List (k.den×v.den)
 |[]=>[(a,b)]
 |(x,y)::r=>if xY k a x=true then(a,b)::r else(x,y)::rL k v a b r
@[go_sem] def Bn (base:Nat):Option TI->Option TI->Option r9
 |some k,some v=>if DN k.ty=true/\J1 k=true then some ⟨[],(.val .mp (some base),none),[(base,.map k.ty v.ty [])],[]⟩ else none
 |_,_=>none
@[go_sem] def ln (T:sH) (base:Nat):Option TI->Option Operand->Option r9
 |some ⟨.mp,e,f,_,_⟩,none=>Bn base (s0 T e) (s0 T f)
 |_,_=>none
@[go_sem] def ZI (k:Ty) (a:k.den) (u:Ty) (i:Nat) (ok:Bool):Option qP->Option r9
 |some (.map k' v l)=>if h:k=k'/\v=u then(if DN k=true then(match ok with
   |true=>some ⟨[],(.tup [(⟨v,sE k' v l (uF h.1 a)⟩,none),(⟨.bool,wX k' v l (uF h.1 a)⟩,none)],none),[],[i]⟩
   |false=>some ⟨[],(.val v (sE k' v l (uF h.1 a)),none),[],[i]⟩) else none) else none
 |_=>none
@[go_sem] def lq (H:List (Nat×qP)) (ok:Bool) (i:Nat):Option TI->Option TI->qK->Option r9
 |some kt,some vt,(.val k a,_)=>if k=kt.ty/\J1 kt=true then ZI k a vt.ty i ok (qT H i) else none
 |_,_,_=>none
@[go_sem] def Bo (ok:Bool):Option TI->Option TI->qK->Option r9
 |some kt,some vt,(.val k _,_)=>if k=kt.ty/\J1 kt=true then(if DN k=true then(match ok with
   |true=>some ⟨[],(.tup [(⟨vt.ty,vt.ty.zero⟩,none),(⟨.bool,false⟩,none)],none),[],[]⟩
   |false=>some ⟨[],(.val vt.ty vt.ty.zero,none),[],[]⟩) else none) else none
 |_,_,_=>none
@[go_sem] def ZJ (T:sH) (H:List (Nat×qP)) (ok:Bool):Option TI->qK->qK->Option r9
 |some ⟨.mp,e,f,_,_⟩,(.val .mp (some i),_),s=>lq H ok i (s0 T e) (s0 T f) s
 |some ⟨.mp,e,f,_,_⟩,(.val .mp none,_),s=>Bo ok (s0 T e) (s0 T f) s
 |_,_,_=>none
@[go_sem] def QH (k:Ty) (a:k.den) (u:Ty) (b:u.den) (i:Nat):Option qP->Option r9
 |some (.map k' v l)=>if h:k=k'/\u=v then(if DN k=true then some ⟨[],(.any,none),[(i,.map k' v (rL k' v (uF h.1 a) (uF h.2 b) l))],[i]⟩ else none) else none
 |_=>none
@[go_sem] def ZK (H:List (Nat×qP)) (i:Nat):Option TI->qK->qK->Option r9
 |some kt,(.val k a,_),(.val u b,_)=>if k=kt.ty/\J1 kt=true then QH k a u b i (qT H i) else none
 |_,_,_=>none
@[go_sem] def Bp:Option TI->qK->qK
 |some ⟨.fn,_,_,_,_⟩,(.val .clo (some (f,[])),_)=>(.val .fn (some f),none)
 |_,s=>s
@[go_sem] def ZL (T:sH):Option TI->qK->qK
 |some ⟨.mp,_,f,_,_⟩,s=>Bp (s0 T f) s
 |_,s=>s
@[go_sem] def QI (T:sH) (H:List (Nat×qP)):Option TI->qK->qK->qK->Option r9
 |some ⟨.mp,e,_,_,_⟩,(.val .mp (some i),_),s,x=>ZK H i (s0 T e) s x
 |_,_,_,_=>none
def xN (s:pI) (p:Nat):Int:=((Utf8.decode ⟨s.toArray⟩ p).1:Int)
def lr (s:pI) (p:Nat):Nat:=(Utf8.decode ⟨s.toArray⟩ p).2
def AZ (s:pI) (p:Nat):Nat:=if p<s.length then p+lr s p else p
@[go_sem] def lu (base:Nat):Option TI->qK->Option r9
 |some ⟨.str,_,_,_,_⟩,(.val .str s,_)=>some ⟨[],(.val .ref (some (base,0)),none),[(base,.iter s 0)],[]⟩
 |_,_=>none
@[go_sem] def lv (i:Nat):Option qP->Option r9
 |some (.iter s p)=>some ⟨[],(.nxt (decide (p<List.length s)) ((p:Nat):Int) (xN s p),none),[(i,.iter s (AZ s p))],[i]⟩
 |_=>none
@[go_sem] def ZM (H:List (Nat×qP)):Bool->qK->Option r9
 |true,(.val .ref (some (i,0)),_)=>lv i (qT H i)
 |_,_=>none
@[go_sem] def lw (base k n:Nat):Option qK->Option qK->Option qP->Option r9
 |none,some (.val (.int _) b,_),some (.row e t l m)=>some ⟨[n=m,0<=b/\b<=(n:Int)],(.own base b.toNat,none),[(k,.dead),(base,.row e t (List.take b.toNat l) b.toNat)],[k]⟩
 |_,_,_=>none
@[go_sem] def ZN (base:Nat) (H:List (Nat×qP)):Option TI->qK->Option qK->Option qK->Option r9
 |some ⟨.list _,_,_,_,_⟩,(.own k n,_),lo,hi=>lw base k n lo hi (qT H k)
 |ti,s,lo,hi=>AU (jn ti s lo hi)
@[go_sem] def uL (T:sH) (Γ:tS) (ty:TypeId) (ρ:Operand->qK) (base:Nat) (H:List (Nat×qP)):Op->Option r9
 | .move x| .assign x=>jt base (s0 T ty) (ρ x)
 | .alloc e=>UZ base e (s0 T e)
 | .box e x=>jy base e (s0 T e) (ρ x)
 | .build t ps=>kc (uQ ρ ps.toList) (s0 T t)
 | .buildSlice t n ps=>ke base n (uQ ρ ps.toList) (s0 T t)
 | .load t a=>YZ H (s0 T t) (ρ a)
 | .store t a x=>Z5 base H (s0 T t) (ρ a) (Q7 (s0 T t) (ρ x))
 | .nilCheck x=>kz (ρ x)
 | .binOp op t x y _=>AU (jk (YB op (s0 T t) (ρ x) (ρ y)) (jk (YA op (ρ x) (ρ y)) (jj (s0 T t) op (ρ x) (ρ y))))
 | .unOp op _ x=>AU (jl op (ρ x))
 | .convert src dst x=>AU (jk (YD (s0 T src) (s0 T dst) (ρ x)) (jm T (s0 T src) (s0 T dst) (ρ x)))
 | .makeFunc (.func f) first caps=>a5F f (LA (vW ρ caps.toList)) first.toList
 | .slice t x lo hi none=>ZN base H (s0 T t) (ρ x) (wM ρ lo) (wM ρ hi)
 | .fieldAddr t x f=>la f (s0 T t) (ρ x)
 | .field t x f=>lc f (s0 T t) (ρ x)
 | .indexAddr t x ix=>lf (s0 T t) (ρ x) (ρ ix)
 | .index t x ix=>lg (s0 T t) (ρ x) (ρ ix)
 | .extract x i=>lh i (ρ x)
 | .makeMap t r=>ln T base (s0 T t) r
 | .range t x=>lu base (s0 T t) (ρ x)
 | .next x b=>ZM H b (ρ x)
 | .lookup t x i ok=>ZJ T H ok (s0 T t) (ρ x) (ρ i)
 | .mapUpdate t m k x=>QI T H (s0 T t) (ρ m) (ρ k) (ZL T (s0 T t) (ρ x))
 | .insert t m k x=>QI T H (s0 T t) (ρ m) (ρ k) (ZL T (s0 T t) (ρ x))
 | .call c=>LP T Γ ρ base H c.args c.argTypes c.callee
 |_=>none
@[go_sem] def xZ:qK->qK
 |(.cond _ d,_)=>(d,none)
 |s=>s
@[go_sem] def z8 (G:Bool):List qK->List Prop
 |[]=>[]
 |(.cond p _,_)::r=>(G=true->p=true)::z8 G r
 |_::r=>z8 G r
@[go_sem] def Bq (b:Bool):qK->Option Bool
 |(.val .bool c,_)=>some (c==b)
 |(.cond p (.val .bool c),_)=>some (p&&(c==b))
 |_=>none
@[go_sem] def A7:List Oper->Nat->Option Tmp
 |[],_=>none
 |o::_,0=>o.dst
 |_::r,n+1=>A7 r n
@[go_sem] def GZ (env:List (Nat×qK)) (b:Bool):Option Tmp->Option Bool
 |some t=>Bq b (lk env t)
 |none=>none
@[go_sem] def Br (b:Bool):qK->Bool
 |(.val .bool c,_)=>c==b
 |(.cond p (.val .bool c),_)=>p&&(c==b)
 |(.cond p .any,_)=>p
 |_=>true
@[go_sem] def LQ (env:List (Nat×qK)) (b:Bool):Option Tmp->Bool
 |some t=>Br b (lk env t)
 |none=>true
@[go_sem] def ZO (j:Nat) (b:Bool):Nat:=1000000000+(2*j+if b=true then 1 else 0)
@[go_sem] theorem aJt (x y:Bool):cond x y false=(x&&y):=by cases x<;>rfl
@[go_sem] theorem aJu (x y:Bool):cond x true y=(x||y):=by cases x<;>rfl
@[go_sem] def Bs (x:Bool):qK->qK->Option r9
 |(.val .bool y,_),(.val .bool z,_)=>some ⟨[],(.val .bool (cond x y z),none),[],[]⟩
 |(.cond p (.val .bool y),_),(.val .bool z,_)=>some ⟨[x=true->p=true],(.val .bool (cond x y z),none),[],[]⟩
 |(.val .bool y,_),(.cond p (.val .bool z),_)=>some ⟨[x=false->p=true],(.val .bool (cond x y z),none),[],[]⟩
 |(.cond q (.val .bool y),_),(.cond p (.val .bool z),_)=>some ⟨[x=true->q=true,x=false->p=true],(.val .bool (cond x y z),none),[],[]⟩
 |(.val .bool y,_),(.cond _ .any,_)=>some ⟨[x=true],(.val .bool y,none),[],[]⟩
 |(.cond q (.val .bool y),_),(.cond _ .any,_)=>some ⟨[x=true,q=true],(.val .bool y,none),[],[]⟩
 |(.cond _ .any,_),(.val .bool z,_)=>some ⟨[x=false],(.val .bool z,none),[],[]⟩
 |(.cond _ .any,_),(.cond p (.val .bool z),_)=>some ⟨[x=false,p=true],(.val .bool z,none),[],[]⟩
 |_,_=>none
@[go_sem] def V3:qK->qK->qK->Option r9
 |(.val .bool x,_),a,b=>Bs x a b
 |_,_,_=>none
@[go_sem] def sQ:Op->List Operand
 | .move x| .assign x| .box _ x| .load _ x| .nilCheck x| .unOp _ _ x| .convert _ _ x| .fieldAddr _ x _| .field _ x _| .extract x _=>[x]
 | .build _ ps| .buildSlice _ _ ps=>parts ps.toList
 | .store _ a v| .binOp _ _ a v _| .indexAddr _ a v| .index _ a v=>[a,v]
 | .lookup _ a v _=>[a,v]
 | .range _ x| .next x _=>[x]
 | .mapUpdate _ m k x=>[m,k,x]
 | .insert _ m k x=>[m,k,x]
 | .makeFunc _ _ caps=>caps.toList
 | .slice _ x l h _=>x::rJ (opt l) (opt h)
 | .call ⟨.value f,args,_⟩=>f::args.toList
 | .call ⟨_,args,_⟩=>args.toList
 |_=>[]
where
 parts:List (Nat×Operand)->List Operand
  |[]=>[]
  |(_,x)::r=>x::parts r
 opt:Option Operand->List Operand
  |some x=>[x]
  |none=>[]
attribute [go_sem] sQ.parts sQ.opt
@[go_sem] def QJ (l:List Prop):Option r9->Option r9
 |some e=>some ⟨rJ l e.side,e.slot,e.upd,e.rds⟩
 |none=>none
@[go_sem] def V4 (G:Bool):List Prop->List Prop
 |[]=>[]
 |p::r=>(G=true->p)::V4 G r
@[go_sem] def J2 (G:Bool) (l:List Prop):Option r9->Option r9
 |some ⟨side,(d,_),[],rds⟩=>some ⟨rJ l (V4 G side),(.cond G d,none),[],rds⟩
 |some ⟨side,s,u::us,rds⟩=>some ⟨(G=true)::rJ l (V4 G side),s,u::us,rds⟩
 |none=>none
@[go_sem] def CS (env:List (Nat×qK)):List Operand->List qK
 |[]=>[]
 |x::r=>tC env x::CS env r
@[go_sem] def QK (T:sH) (Γ:tS) (o:Oper) (s:St):Option Bool->Op->Option r9
 |some G,.pick c a b=>J2 G (z8 G [tC s.env c]) (V3 (xZ (tC s.env c)) (tC s.env a) (tC s.env b))
 |some G,op=>J2 G (z8 G (CS s.env (sQ op))) (uL T Γ o.type (λx=>xZ (tC s.env x)) s.nb s.H op)
 |none,_=>none
@[go_sem] def Bt:Op->Bool
 | .defer _=>true
 |_=>false
@[go_sem] def Bu (up:Bool):Bool->Option r9
 |true=>none
 |false=>some ⟨[up=false],(.cond false .any,none),[],[]⟩
@[go_sem] def V5 (T:sH) (Γ:tS) (o:Oper) (s:St) (up:Bool) (g:Option Bool) (op:Op):Option r7->Option r9
 |some _=>Bu up (Bt op)
 |none=>QK T Γ o s g op
@[go_sem] def QL (T:sH) (Γ:tS) (o:Oper) (s:St):Op->Option r9
 | .pick c a b=>V3 (tC s.env c) (tC s.env a) (tC s.env b)
 |op=>QJ (z8 true (CS s.env (sQ op))) (uL T Γ o.type (λx=>xZ (tC s.env x)) s.nb s.H op)
@[go_sem] def J3 (np:Nat):List (Nat×qP)->Bool
 |[]=>true
 |(i,.cells _ _ _)::r=>if np<=i then J3 np r else false
 |_::r=>J3 np r
@[go_sem] def Bv (np:Nat) (e:r9):Bool->Option r9
 |true=>if J3 np e.upd=true then some e else none
 |false=>some e
@[go_sem] def lx (np:Nat):Option r9->Option r9
 |some e=>Bv np e (IU e.rds)
 |none=>none
@[go_sem] def QM (T:sH) (Γ:tS) (ops:List Oper) (o:Oper) (s:St):Option r9:=
 match o.guard with
 |none=>QL T Γ o s o.op
 |some (j,b)=>V5 T Γ o s (LQ s.env b (A7 ops j)) (GZ s.env b (A7 ops j)) o.op (Γ (ZO j b))
@[go_sem] def zO (T:sH) (Γ:tS) (ops:List Oper) (o:Oper) (s:St):Option r9:=lx s.np (QM T Γ ops o s)
@[go_sem] def tH:Option Tmp->qK->List (Nat×qK)->List (Nat×qK)
 |some d,s,env=>(d,s)::env
 |none,_,env=>env
structure uM where
 s:St
 side:List Prop
 es:List r9
@[go_sem] def zP (N:Nat):Option Tmp->Bool
 |some d=>decide (d<N)
 |none=>true
@[go_sem] def J4 (n:Nat):List (Nat×qP)->Bool
 |[]=>true
 |(i,_)::r=>decide (i<n)&&J4 n r
@[go_sem] def CT (i:Nat):pX->Bool
 |[]=>false
 |j::r=>if j=i then BL i r else CT i r
@[go_sem] def LR (H U:List (Nat×qP)) (rds:pX):List (Nat×qP)->List Prop
 |[]=>[]
 |(i,_)::r=>if CT i rds=true then(qT U i=qT H i)::LR H U rds r else LR H U rds r
@[go_sem] def J5 (rds:pX):List (Nat×qP)->List (Nat×qP)
 |[]=>[]
 |(i,b)::r=>if CT i rds=true then J5 rds r else(i,b)::J5 rds r
@[go_sem] def y4 (e:r9):List (Nat×qP):=J5 e.rds e.upd
@[go_sem] def ZP (o:Oper) (a:uM):Option r9->Option uM
 |some e=>if (zP a.s.N o.dst&&J4 (a.s.nb+32) e.upd)=true then some ⟨⟨tH o.dst e.slot a.s.env,rJ e.upd a.s.H,a.s.nb+32,a.s.N,a.s.np⟩,rJ a.side (rJ (LR a.s.H e.upd e.rds e.upd) e.side),e::a.es⟩ else none
 |none=>none
@[go_sem] def tP (T:sH) (Γ:tS) (ops:List Oper):List Oper->Option uM->Option uM
 |[],a=>a
 |o::r,some a=>tP T Γ ops r (ZP o a (zO T Γ ops o a.s))
 |_::_,none=>none
@[go_sem] def V6:List (Nat×qP)->pX->Bool
 |[],_=>false
 |(i,_)::r,l=>l.contains i||V6 r l
@[go_sem] def H0 (a b:r9):Bool:= !V6 (y4 a) (rJ b.rds (qV b.upd))&& !V6 (y4 b) a.rds
def LS (lo:Nat):List (Nat×qP)->Bool
 |[]=>true
 |(i,_)::r=>(decide (i<lo)||decide (lo+32<=i))&&LS lo r
def ZQ (i0 j0:Nat) (ops:Array Oper) (bs:pX) (nb i:Nat) (o:Oper) (e:r9):List Oper->List r9->Nat->Bool
 |p::ps,f::fs,j=>((bs.getD j 0).testBit i||(o.apart ops p&&(H0 e f||(decide (i=i0)&&decide (j=j0)))&&LS (nb+32*i) f.upd))&&ZQ i0 j0 ops bs nb i o e ps fs (j+1)
 |_,_,_=>true
def ZR (i0 j0:Nat) (ops:Array Oper) (bs:pX) (nb:Nat):List Oper->List r9->Nat->Bool
 |o::os,e::es,i=>ZQ i0 j0 ops bs nb i o e os es (i+1)&&ZR i0 j0 ops bs nb os es (i+1)
 |_,_,_=>true
def ZS:List Oper->Nat->Bool
 |[],_=>true
 |o::r,i=>o.after.toList.all (λe=> !Region.binds .any e||decide (e.on<i))&&ZS r (i+1)
def ZT (i0 j0:Nat) (ops:Array Oper) (nb:Nat) (es:List r9):Bool:=ZS ops.toList 0&&ZR i0 j0 ops (Region.before ops).toList nb ops.toList es 0
def J6 (ops:Array Oper) (nb:Nat) (es:List r9):Bool:=ZT ops.size 0 ops nb es
@[go_sem] def Bw (ops:Array Oper) (nb:Nat):Option uM->Option uM
 |some a=>if J6 ops nb a.es.reverse then some a else none
 |none=>none
@[go_sem] def V7 (T:sH) (Γ:tS) (ops:Array Oper) (s:St):Bool->Option uM
 |true=>Bw ops s.nb (tP T Γ ops.toList ops.toList (some ⟨s,[],[]⟩))
 |false=>tP T Γ ops.toList ops.toList (some ⟨s,[],[]⟩)
inductive Ex where
 |normal|exit (id:Nat) |ret
structure tX where
 slots:pX
 ids:pS:=[]
@[go_sem] def xD:pS->Nat->pW
 |[],_=>none
 |(n,o)::r,k=>if o=k then some n else xD r k
@[go_sem] def Bx (m:pS):pV->pV
 |some (i,o)=>(xD m i).map λj=>(j,o)
 |none=>none
@[go_sem] def CU (m:pS):pS->Option pS
 |[]=>some []
 |(i,o)::r=>renCons (xD m i) o (CU m r)
where
 renCons:pW->Nat->Option pS->Option pS
  |some j,o,some r=>some ((j,o)::r)
  |_,_,_=>none
attribute [go_sem] CU.renCons
@[go_sem] def By (m:pS):pW->pW
 |some k=>xD m k
 |none=>none
@[go_sem] def a5K (n:Nat):pW->qK
 |some k=>(.own k n,none)
 |none=>(.any,none)
@[go_sem] def Bz (m:pS):Option (Nat×pS)->Option (Option (Nat×pS))
 |none=>some none
 |some (f,l)=>(CU m l).map λl'=>some (f,l')
@[go_sem] def ZU (m:pS):pV->Option pV
 |none=>some none
 |some (i,o)=>(xD m i).map λj=>some (j,o)
@[go_sem] def Ca (m:pS):pW->Option pW
 |none=>some none
 |some i=>(xD m i).map some
@[go_sem] def Cb (m:pS):pV->Option pV
 |none=>some none
 |some (k,n)=>(xD m k).map λj=>some (j,n)
@[go_sem] def zQ (m:pS):(t:Ty)->t.den->Option t.den
 | .ref,x=>ZU m x
 | .clo,x=>Bz m x
 | .mp,x=>Ca m x
 | .pair a b,x=>LD (if a.pure=true then some x.1 else zQ m a x.1) (if b.pure=true then some x.2 else zQ m b x.2)
 | .list t,x=>if t.pure=true then some x else none
 | .bool,x=>some x
 | .int _,x=>some x
 | .str,x=>some x
 | .unit,x=>some x
 | .rl _ _,x=>Cb m x
 | .fn,x=>some x
 | .mref,x=>ZU m x
 | .part,x=>some x
@[go_sem] def A8 (m:pS):qK->qK
 |(.own k n,_)=>a5K n (xD m k)
 |(.val .ref none,_)=>(.val .ref none,none)
 |(.val .ref (some p),_)=>refSlot (Bx m (some p))
 |(.val .clo (some (f,l)),_)=>cloSlot f (CU m l)
 |(.val .mp (some i),_)=>mpSlot (xD m i)
 |(.val t x,k)=>if t.pure then(.val t x,By m (FL t k)) else valSlot t (zQ m t x)
 |(.at t x,_)=>if t.pure then(.at t x,none) else(.any,none)
 |(.nilS,_)=>(.nilS,none)
 |(.itr n,_)=>(.itr n,none)
 |_=>(.any,none)
where
 refSlot:pV->qK
  |some p=>(.val .ref (some p),none)
  |none=>(.any,none)
 cloSlot (f:Nat):Option pS->qK
  |some l=>(.val .clo (some (f,l)),none)
  |none=>(.any,none)
 valSlot (t:Ty):Option t.den->qK
  |some y=>(.val t y,none)
  |none=>(.any,none)
 mpSlot:pW->qK
  |some j=>(.val .mp (some j),none)
  |none=>(.any,none)
attribute [go_sem] A8.refSlot A8.cloSlot A8.mpSlot A8.valSlot
@[go_sem] def ZV (q j:Nat):pS->pS
 |[]=>[(q,j)]
 |(a,b)::r=>if q<=a then(q,j)::(a,b)::r else(a,b)::ZV q j r
@[go_sem] def LT (m:pS):pS->pS
 |[]=>[]
 |(q,k)::r=>renTok1 q (xD m k) (LT m r)
where
 renTok1 (q:Nat):pW->pS->pS
  |some j,r=>ZV q j r
  |none,r=>r
attribute [go_sem] LT.renTok1
@[go_sem] def ly (t:Ty) (toks:pS):Option t.den->qP
 |some y=> .cells t y toks
 |none=> .dead
@[go_sem] def J7 (m:pS):Option qP->qP
 |some (.cells t x toks)=>if t.pure then .cells t x (LT m toks) else ly t (LT m toks) (zQ m t x)
 |some (.grow e c n)=> .grow e c n
 |some (.row e t l n)=>if t.pure then .row e t l n else .dead
 |some (.map k v l)=>if k.pure&&v.pure then .map k v l else .dead
 |some (.iter s p)=> .iter s p
 |_=> .dead
@[go_sem] def V8 (m:pS) (env:List (Nat×qK)):pX->List (Nat×qK)
 |[]=>[]
 |t::r=>(t,A8 m (lk env t))::V8 m env r
@[go_sem] def ZW (m:pS) (H:List (Nat×qP)):pS->List (Nat×qP)
 |[]=>[]
 |(n,o)::r=>(n,J7 m (qT H o))::ZW m H r
@[go_sem] def ZX:pS->Nat
 |[]=>0
 |(n,_)::r=>max (n+1) (ZX r)
@[go_sem] def QN (n o:Nat):pS->Bool
 |[]=>false
 |(n',o')::r=>decide (n'=n)||decide (o'=o)||QN n o r
@[go_sem] def vI (np:Nat):pS->Bool
 |[]=>true
 |(n,o)::r=>(decide (np<=n)||decide (n=o))&& !QN n o r&&vI np r
@[go_sem] def QO (s:St) (k:tX):Bool->St
 |true=>⟨V8 k.ids s.env k.slots,ZW k.ids s.H k.ids,max s.np (ZX k.ids),s.N,s.np⟩
 |false=>⟨[],[],s.nb,s.N,s.np⟩
@[go_sem] def St.keep (s:St) (k:tX):St:=QO s k (vI s.np k.ids)
@[go_sem] def uU:List Prop->Prop
 |[]=>True
 |[p]=>p
 |p::q::r=>p/\uU (q::r)
@[go_sem] def Cc (Q:Ex->St->Prop):Option uM->Prop
 |some a=>uU a.side/\Q .normal a.s
 |none=>False
@[go_sem] def Cd (A B:Prop):qK->Prop
 |(.val .bool x,_)=>(x=true->A)/\(x=false->B)
 |(.flag p q,_)=>(p->A)/\(q->B)
 |_=>False
@[go_sem] def H1 (f:St->Prop) (Q:Ex->St->Prop):Ex->St->Prop
 | .normal,s=>f s
 | .exit j,s=>Q (.exit j) s
 | .ret,s=>Q .ret s
@[go_sem] def DO (id:Nat) (Q:Ex->St->Prop):Ex->St->Prop
 | .normal,s=>Q .normal s
 | .exit j,s=>if j=id then Q .normal s else Q (.exit j) s
 | .ret,s=>Q .ret s
@[go_sem] def a5L (I:St->Prop) (μ:St->Nat) (m:Nat) (Q:Ex->St->Prop):Ex->St->Prop
 | .normal,s=> ∃k:tX,I (s.keep k)/\μ (s.keep k)<m
 | .exit j,s=>Q (.exit j) s
 | .ret,s=>Q .ret s
def wN (T:sH) (Γ:tS):Code->St->(Ex->St->Prop)->Prop
 | .skip,s,Q=>Q .normal s
 | .label _,s,Q=>Q .normal s
 | .region _ ops draw,s,Q=>Cc Q (V7 T Γ ops s draw)
 | .seq a b,s,Q=>wN T Γ a s (H1 (λs'=>wN T Γ b s' Q) Q)
 | .cond c a b,s,Q=>Cd (wN T Γ a s Q) (wN T Γ b s Q) (tC s.env c)
 | .block id c,s,Q=>wN T Γ c s (DO id Q)
 | .loop c,s,Q=> ∃(k:tX) (I:St->Prop) (μ:St->Nat),I (s.keep k)/\∀s,I s->wN T Γ c s (a5L I μ (μ s) Q)
 | .exit id,s,Q=>Q (.exit id) s
 | .ret,s,Q=>Q .ret s
 |_,_,_=>False
attribute [go_sem] Ty.list.injEq Ty.pair.injEq Ty.int.injEq
section
variable {T:sH}{Γ:tS}{s:St}{Q:Ex->St->Prop}
theorem a5M {id:Nat}{ops:Array Oper}{a:uM}(h:tP T Γ ops.toList ops.toList (some ⟨s,[],[]⟩)=some a) (hp:uU a.side) (j:Q .normal a.s):wN T Γ (.region id ops false) s Q:=by
 unfold wN V7;rw[h];exact⟨hp,j⟩
theorem a5N {id:Nat}{ops:Array Oper}{a:uM}(h:tP T Γ ops.toList ops.toList (some ⟨s,[],[]⟩)=some a) (hf:J6 ops s.nb a.es.reverse=true) (hp:uU a.side) (j:Q .normal a.s):wN T Γ (.region id ops true) s Q:=by
 unfold wN V7;rw[h];show Cc Q (if J6 ops s.nb a.es.reverse=true then some a else none);rw[aM4 hf];exact⟨hp,j⟩
end
end Go.Proofs.YtedimeeleabhnaaGreatDoor.Vc
namespace Go.Proofs.YtedimeeleabhnaaGreatDoor.Vc
open Go.RowKit
abbrev sA:=List (Nat×qP)
structure Pl where
 b:Nat
 o:Nat
 k:Option (TypeId×Nat):=none
structure Gh where
 S:Nat->Nat->Prop
 J:Nat->Option Pl
 cur:Nat->Nat->Option pZ
def wA {α:Type}(R:α->pU->Prop) (w:pY) (S:Nat->Nat->Prop) (c b:Nat):Nat->List α->Prop
 |_,[]=>True
 |o,x::xs=>(∃cs,cs.length=c/\w.rangeAt b o cs/\(∀j,j<c->S b (o+j))/\R x cs)/\wA R w S c b (o+c) xs
def yI (g:Gh):pS->pU->Prop
 |[],vs=>vs=[]
 |(i,o)::l,vs=> ∃p vs',g.J i=some p/\vs= .pointer (some ⟨p.1,p.2+o,none⟩)::vs'/\yI g l vs'
def V9 (g:Gh):pV->pU->Prop
 |none,cs=>cs=[.pointer none]
 |some (i,o),cs=> ∃p,g.J i=some p/\cs=[.pointer (some ⟨p.1,p.2+o,none⟩)]
def VA (g:Gh):Option (Nat×pS)->pU->Prop
 |none,cs=>cs=[.nilFunc]
 |some (f,l),cs=> ∃vs,yI g l vs/\cs=[.func (.func f) #[] vs.toArray]
def LU (g:Gh):pW->pU->Prop
 |none,cs=>cs=[.map none]
 |some i,cs=> ∃p,g.J i=some p/\cs=[.map (some p.1)]
def lz (k:Option (TypeId×Nat)) (o:Nat):Prop:=o=0/\∃e,ju e=true/\k=some (e,2)
def FQ (g:Gh):pV->pU->Prop
 |none,cs=>cs=[.slice none 0 0]
 |some (k,n),cs=> ∃v,g.cur k n=some v/\cs=[v]/\((v= .slice none 0 0/\n=0)\/∃b cap,v= .slice (some ⟨b,0,none⟩) n cap/\n<=cap)
def VB (g:Gh):pV->pU->Prop
 |none,cs=>cs=[.pointer none]
 |some (i,o),cs=> ∃p,g.J i=some p/\lz p.3 (p.2+o)/\(cs=[.pointer none]\/cs=[.pointer (some ⟨p.1,p.2+o,none⟩)])
def Ce:pW->pU->Prop
 |none,cs=>cs=[.nilFunc]
 |some f,cs=>cs=[.func (.func f) #[] #[]]
def QP (R:qF->pU->Prop) (g:Gh) (w:pY) (c:pI×List qF×Unit) (us:pU):Prop:=
 ∃a p,us=[.string ⟨List.toArray c.1⟩,.slice a (List.length c.2.1) p]/\List.length c.2.1<=p/\(c.2.1=[]\/∃b o,a=some ⟨b,o,none⟩/\wA R w g.S 6 b o c.2.1)
def BP (g:Gh) (w:pY):Nat->qF->pU->Prop
 |0,_,_=>False
 |n+1,.mk k t nm s cs ps,vs=> ∃a1 p1 a2 p2,vs=[.int .i64 k,.string ⟨List.toArray t⟩,.string ⟨List.toArray nm⟩,.string ⟨List.toArray s⟩,.slice a1 (List.length cs) p1,.slice a2 (List.length ps) p2]/\
   (List.length cs<=p1/\(cs=[]\/∃b o,a1=some ⟨b,o,none⟩/\wA (QP (BP g w n) g w) w g.S 2 b o cs))/\
   (List.length ps<=p2/\(ps=[]\/∃b o,a2=some ⟨b,o,none⟩/\wA (BP g w n) w g.S 6 b o ps))
def ZY (g:Gh) (w:pY) (x:qF) (vs:pU):Prop:= ∃n,BP g w n x vs
def Rd (g:Gh) (w:pY):(t:Ty)->t.den->pU->Prop
 | .bool,x,cs=>cs=[.bool x]
 | .int k,n,cs=>cs=[.int k n]
 | .str,l,cs=>cs=[.string ⟨List.toArray l⟩]
 | .list t,l,cs=> ∃a cap,cs=[.slice a (List.length l) cap]/\List.length l<=cap/\(l=[]\/∃b o,a=some ⟨b,o,none⟩/\wA (Rd g w t) w g.S t.cells b o l)
 | .unit,_,cs=>cs=[]
 | .pair s t,x,cs=> ∃c1 c2,cs=c1++c2/\Rd g w s x.1 c1/\Rd g w t x.2 c2
 | .ref,x,cs=>V9 g x cs
 | .clo,x,cs=>VA g x cs
 | .mp,x,cs=>LU g x cs
 | .rl _ _,x,cs=>FQ g x cs
 | .fn,x,cs=>Ce x cs
 | .mref,x,cs=>VB g x cs
 | .part,x,cs=>ZY g w x cs
def sR (g:Gh) (w:pY) (t:Ty) (x:t.den) (v:pZ):Prop:=
 (t.isRow=true/\∃cs:pU,v= .agg cs.toArray/\Rd g w t x cs)\/(t.isRow=false/\Rd g w t x [v])
def y5 (k:Nat):Ty->Nat->pU->Prop
 | .list _,o,cs=>o+1=k\/cs=[.slice none 0 0]
 | .pair a b,o,cs=> ∃c1 c2,cs=c1++c2/\c1.length=a.cells/\y5 k a o c1/\y5 k b (o+a.cells) c2
 |_,_,_=>True
def DP (g:Gh) (t:Ty) (x:t.den) (v:pZ):pW->Prop
 |none=>True
 |some k=>match t,x with
  | .list _,l=>g.cur k (List.length l)=some v
  | .pair a b,_=>y5 k (.pair a b) 0 v.cells.toList
  |_,_=>False
def QQ (g:Gh) (w:pY):List ((Σ t:Ty,t.den)×pW)->pU->Prop
 |[],vs=>vs=[]
 |(⟨t,x⟩,k)::l,vs=> ∃v vs',vs=v::vs'/\sR g w t x v/\DP g t x v k/\QQ g w l vs'
def zA (g:Gh) (w:pY):DV->pZ->Prop
 | .any,_=>True
 | .nilS,v=>v= .slice none 0 0
 | .val t x,v=>sR g w t x v
 | .at t x,v=> ∃b o cs,v= .pointer (some ⟨b,o,none⟩)/\w.rangeAt b o cs/\(∀j,j<t.cells->g.S b (o+j))/\Rd g w t x cs
 | .tup l,v=> ∃vs:pU,v= .tuple vs.toArray/\QQ g w l vs
 | .cond p d,v=>(p=true->zA g w d v)/\(p=false->v=undef)
 | .flag p q,v=> ∃b,v= .bool b/\(b=true->p)/\(b=false->q)
 | .own k n,v=>g.cur k n=some v/\((v= .slice none 0 0/\n=0)\/∃b cap,v= .slice (some ⟨b,0,none⟩) n cap/\n<=cap)
 | .nxt b p c,v=>(b=true->v= .tuple #[.bool true,.int .i64 p,.int .i32 c])/\(b=false->v= .tuple #[.bool false])
 | .itr n,v=>v= .pointer (some ⟨n,0,none⟩)
 | .arr i off t m ix,v=> ∃p,g.J i=some p/\0<=ix/\ix<(m:Int)/\v= .pointer (some ⟨p.1,p.2+off+ix.toNat*t.cells,none⟩)
 | .elt k n c i o,v=> ∃b cap,g.cur k n=some (.slice (some ⟨b,0,none⟩) n cap)/\0<=i/\i<(n:Int)/\v= .pointer (some ⟨b,i.toNat*c+o,none⟩)
def rY (g:Gh) (w:pY) (s:qK) (v:pZ):Prop:=
 zA g w s.1 v/\match s with
  |(_,none)=>True
  |(.val t x,some k)=>DP g t x v (some k)
  |(_,some _)=>False
structure Le (g:Gh) (w:pY) (g':Gh) (w':pY):Prop where
 S: ∀b o,g.S b o->g'.S b o
 cell: ∀b o,g.S b o->w'.cell? ⟨b,o,none⟩=w.cell? ⟨b,o,none⟩
 J: ∀i p,g.J i=some p->g'.J i=some p
 cur: ∀k n v,g.cur k n=some v->g'.cur k n=some v
def Le.refl (g:Gh) (w:pY):Le g w g w:=⟨λ_ _ h=>h,λ_ _ _=>rfl,λ_ _ h=>h,λ_ _ _ h=>h⟩
def Le.trans {g g' g'':Gh}{w w' w'':pY}(h:Le g w g' w') (k:Le g' w' g'' w''):Le g w g'' w'':=
 ⟨λb o x=>k.S b o (h.S b o x),λb o x=>(k.cell b o (h.S b o x)).trans (h.cell b o x),λi p x=>k.J i p (h.J i p x),λi n v x=>k.cur i n v (h.cur i n v x)⟩
def ma {g g':Gh}(j: ∀i p,g.J i=some p->g'.J i=some p): ∀{l:pS}{vs:pU},yI g l vs->yI g' l vs
 |[],_,h=>h
 |(_,_)::_,_,⟨p,vs',E,D,z⟩=>⟨p,vs',j _ _ E,D,ma j z⟩
def a5O {g g':Gh}(j: ∀i p,g.J i=some p->g'.J i=some p): ∀{x:pV}{cs:pU},V9 g x cs->V9 g' x cs
 |none,_,h=>h
 |some (_,_),_,⟨p,D,z⟩=>⟨p,j _ _ D,z⟩
def a5P {g g':Gh}(j: ∀i p,g.J i=some p->g'.J i=some p): ∀{x:Option (Nat×pS)}{cs:pU},VA g x cs->VA g' x cs
 |none,_,h=>h
 |some (_,_),_,⟨vs,D,z⟩=>⟨vs,ma j D,z⟩
def a5Q {g g':Gh}(j: ∀i p,g.J i=some p->g'.J i=some p): ∀{x:pW}{cs:pU},LU g x cs->LU g' x cs
 |none,_,h=>h
 |some _,_,⟨p,D,z⟩=>⟨p,j _ _ D,z⟩
def a5R {g g':Gh}(j: ∀k n v,g.cur k n=some v->g'.cur k n=some v): ∀{x:pV}{cs:pU},FQ g x cs->FQ g' x cs
 |none,_,h=>h
 |some (_,_),_,⟨v,D,z⟩=>⟨v,j _ _ _ D,z⟩
def a5S {g g':Gh}(j: ∀i p,g.J i=some p->g'.J i=some p): ∀{x:pV}{cs:pU},VB g x cs->VB g' x cs
 |none,_,h=>h
 |some (_,_),_,⟨p,D,z⟩=>⟨p,j _ _ D,z⟩
def B1 {α:Type}{R R':α->pU->Prop}{w w':pY}{S S':Nat->Nat->Prop}{c b:Nat}(F: ∀x cs,R x cs->R' x cs) (E: ∀o,S b o->S' b o)
  (D: ∀o,S b o->w'.cell? ⟨b,o,none⟩=w.cell? ⟨b,o,none⟩): ∀{l:List α}{o:Nat},wA R w S c b o l->wA R' w' S' c b o l
 |[],_,_=>trivial
 |_::_,o,⟨⟨cs,I,O,G,M⟩,K⟩=>⟨⟨cs,I,λj v hv=>by
   have z:j<c:=I▸(aNl.1 hv).1;rw[D _ (G j z)];exact O j v hv,λj z=>E _ (G j z),F _ _ M⟩,B1 F E D K⟩
def ZZ {R R':qF->pU->Prop}{g g':Gh}{w w':pY}(E: ∀x cs,R x cs->R' x cs) (D: ∀b o,g.S b o->g'.S b o)
  (z: ∀b o,g.S b o->w'.cell? ⟨b,o,none⟩=w.cell? ⟨b,o,none⟩) {c:pI×List qF×Unit}{us:pU}(h:QP R g w c us):QP R' g' w' c us:=
 let ⟨a,p,e,hp,j⟩:=h
 ⟨a,p,e,hp,j.imp id λ⟨b,o,ea,hr⟩=>⟨b,o,ea,B1 E (λ_=>D _ _) (λ_=>z _ _) hr⟩⟩
def mb {g g':Gh}{w w':pY}(z: ∀b o,g.S b o->g'.S b o) (j: ∀b o,g.S b o->w'.cell? ⟨b,o,none⟩=w.cell? ⟨b,o,none⟩):
  ∀(n:Nat) (x:qF) (vs:pU),BP g w n x vs->BP g' w' n x vs
 |0,_,_,h=>h.elim
 |n+1,.mk _ _ _ _ _ _,_,⟨a1,p1,a2,p2,e,⟨G,F⟩,E,D⟩=>⟨a1,p1,a2,p2,e,
   ⟨G,F.imp id λ⟨b,o,ea,hr⟩=>⟨b,o,ea,B1 (λ_ _=>ZZ (mb z j n) z j) (λ_=>z _ _) (λ_=>j _ _) hr⟩⟩,
   E,D.imp id λ⟨b,o,ea,hr⟩=>⟨b,o,ea,B1 (mb z j n) (λ_=>z _ _) (λ_=>j _ _) hr⟩⟩
def Cf {g g':Gh}{w w':pY}(z: ∀b o,g.S b o->g'.S b o) (j: ∀b o,g.S b o->w'.cell? ⟨b,o,none⟩=w.cell? ⟨b,o,none⟩) {x:qF}{vs:pU}(h:ZY g w x vs):ZY g' w' x vs:=
 let ⟨n,h⟩:=h
 ⟨n,mb z j n x vs h⟩
def Cg {g:Gh}{w:pY}{x:qF}{vs:pU}(h:ZY g w x vs): ∃k t nm s a1 n1 p1 a2 n2 p2,vs=[.int .i64 k,.string t,.string nm,.string s,.slice a1 n1 p1,.slice a2 n2 p2]:=by
 obtain⟨n,h⟩:=h;cases n with
 |zero=>exact h.elim
 |succ n=>
  cases x with
  |mk k t nm s cs ps=>
   obtain⟨a1,p1,a2,p2,e,_⟩:=h;exact⟨_,_,_,_,_,_,_,_,_,_,e⟩
def xE {g g':Gh}{w w':pY}(h:Le g w g' w'): ∀{t:Ty}{x:t.den}{cs:pU},Rd g w t x cs->Rd g' w' t x cs
 | .bool,_,_,r=>r
 | .int _,_,_,r=>r
 | .str,_,_,r=>r
 | .unit,_,_,r=>r
 | .ref,_,_,r=>a5O h.J r
 | .clo,_,_,r=>a5P h.J r
 | .mp,_,_,r=>a5Q h.J r
 | .rl _ _,_,_,r=>a5R h.cur r
 | .fn,_,_,r=>r
 | .mref,_,_,r=>a5S h.J r
 | .part,_,_,r=>Cf h.S h.cell r
 | .pair _ _,_,_,⟨c1,c2,e,r1,r2⟩=>⟨c1,c2,e,xE h r1,xE h r2⟩
 | .list _,_,_,⟨a,cap,e,j,z⟩=>⟨a,cap,e,j,z.imp id λ⟨b,o,ea,hr⟩=>⟨b,o,ea,B1 (λ_ _=>xE h) (λ_=>h.S _ _) (λ_=>h.cell _ _) hr⟩⟩
def sU {g:Gh}{w:pY}: ∀{t:Ty}{x:t.den}{cs:pU},Rd g w t x cs->cs.length=t.cells
 | .bool,_,_,r=>by cases r;rfl
 | .int _,_,_,r=>by cases r;rfl
 | .str,_,_,r=>by cases r;rfl
 | .unit,_,_,r=>by cases r;rfl
 | .ref,none,_,r=>by cases r;rfl
 | .ref,some (_,_),_,⟨_,_,e⟩=>by cases e;rfl
 | .clo,none,_,r=>by cases r;rfl
 | .clo,some (_,_),_,⟨_,_,e⟩=>by cases e;rfl
 | .mp,none,_,r=>by cases r;rfl
 | .mp,some _,_,⟨_,_,e⟩=>by cases e;rfl
 | .fn,none,_,r=>by cases r;rfl
 | .fn,some _,_,r=>by cases r;rfl
 | .rl _ _,none,_,r=>by cases r;rfl
 | .rl _ _,some (_,_),_,⟨_,_,e,_⟩=>by cases e;rfl
 | .part,_,_,r=>by obtain⟨_,_,_,_,_,_,_,_,_,_,e⟩:=Cg r;cases e;rfl
 | .mref,none,_,r=>by cases r;rfl
 | .mref,some (_,_),_,⟨_,_,_,e⟩=>by rcases e with e|e<;>(cases e;rfl)
 | .pair _ _,_,_,⟨c1,c2,e,r1,r2⟩=>by rw[e,aM7,sU r1,sU r2];rfl
 | .list _,_,_,⟨_,_,e,_,_⟩=>by cases e;rfl
def LV {g g':Gh}{w w':pY}(h:Le g w g' w') {t:Ty}{x:t.den}{v:pZ}(r:sR g w t x v):sR g' w' t x v:=
 r.imp (λ⟨a,cs,e,q⟩=>⟨a,cs,e,xE h q⟩) (λ⟨a,q⟩=>⟨a,xE h q⟩)
def Ch {g g':Gh}{w w':pY}(h:Le g w g' w') {t:Ty}{x:t.den}{v:pZ}{k:pW}(r:DP g t x v k):DP g' t x v k:=by
 cases k with
 |none=>trivial
 |some k=>
  cases t with
  |list u=>exact h.cur _ _ _ r
  |pair a b=>exact r
  |_=>exact r.elim
def Ci {g g':Gh}{w w':pY}(h:Le g w g' w'): ∀{l:List ((Σ t:Ty,t.den)×pW)}{vs:pU},QQ g w l vs->QQ g' w' l vs
 |[],_,r=>r
 |(⟨_,_⟩,_)::_,_,⟨v,vs',e,r1,r2,r3⟩=>⟨v,vs',e,LV h r1,Ch h r2,Ci h r3⟩
def Cj {g g':Gh}{w w':pY}(h:Le g w g' w'): ∀{d:DV}{v:pZ},zA g w d v->zA g' w' d v
 | .any,_,r=>r
 | .nilS,_,r=>r
 | .val _ _,_,r=>LV h r
 | .at t _,_,⟨b,o,cs,e,D,z,F⟩=>⟨b,o,cs,e,λj v hv=>by
   by_cases E:j<t.cells
   .rw[h.cell _ _ (z j E)];exact D j v hv
   .exact absurd (aNl.1 hv).1 (by rw[sU F];exact E),λj E=>h.S _ _ (z j E),xE h F⟩
 | .tup _,_,⟨vs,e,r⟩=>⟨vs,e,Ci h r⟩
 | .cond _ _,_,⟨r1,r2⟩=>⟨λp=>Cj h (r1 p),r2⟩
 | .flag _ _,_,r=>r
 | .own _ _,_,⟨D,z⟩=>⟨h.cur _ _ _ D,z⟩
 | .nxt _ _ _,_,r=>r
 | .elt _ _ _ _ _,_,⟨b,cap,D,z⟩=>⟨b,cap,h.cur _ _ _ D,z⟩
 | .itr _,_,r=>r
 | .arr _ _ _ _ _,_,⟨p,D,z⟩=>⟨p,h.J _ _ D,z⟩
def DQ {g g':Gh}{w w':pY}(h:Le g w g' w') {s:qK}{v:pZ}(r:rY g w s v):rY g' w' s v:=by
 obtain⟨d,k⟩:=s;refine⟨Cj h r.1,?_⟩;have r2:=r.2;cases k with
 |none=>trivial
 |some k=>
  cases d with
  |val t x=>exact Ch h r2
  |_=>exact r2.elim
def BQ {g:Gh}{w:pY}: ∀{t:Ty}{x:t.den}{cs:pU},Rd g w t x cs->∀v∈cs,v.oneCell'=true
 | .bool,_,_,r=>by cases r;intro v hv;simp at hv;subst hv;rfl
 | .int _,_,_,r=>by cases r;intro v hv;simp at hv;subst hv;rfl
 | .str,_,_,r=>by cases r;intro v hv;simp at hv;subst hv;rfl
 | .unit,_,_,r=>by cases r;intro v hv;simp at hv
 | .ref,none,_,r=>by cases r;intro v hv;simp at hv;subst hv;rfl
 | .ref,some (_,_),_,⟨_,_,e⟩=>by cases e;intro v hv;simp at hv;subst hv;rfl
 | .clo,none,_,r=>by cases r;intro v hv;simp at hv;subst hv;rfl
 | .clo,some (_,_),_,⟨_,_,e⟩=>by cases e;intro v hv;simp at hv;subst hv;rfl
 | .mp,none,_,r=>by cases r;intro v hv;simp at hv;subst hv;rfl
 | .mp,some _,_,⟨_,_,e⟩=>by cases e;intro v hv;simp at hv;subst hv;rfl
 | .fn,none,_,r=>by cases r;intro v hv;simp at hv;subst hv;rfl
 | .fn,some _,_,r=>by cases r;intro v hv;simp at hv;subst hv;rfl
 | .rl _ _,none,_,r=>by cases r;intro v hv;simp at hv;subst hv;rfl
 | .rl _ _,some (_,_),_,⟨_,_,e,j⟩=>by
  cases e;intro v hv;simp at hv;subst hv;rcases j with⟨rfl,_⟩ |⟨_,_,rfl,_⟩<;>rfl
 | .part,_,_,r=>by
  obtain⟨_,_,_,_,_,_,_,_,_,_,e⟩:=Cg r;cases e;intro v hv;simp at hv;rcases hv with rfl|rfl|rfl|rfl|rfl|rfl<;>rfl
 | .mref,none,_,r=>by cases r;intro v hv;simp at hv;subst hv;rfl
 | .mref,some (_,_),_,⟨_,_,_,e⟩=>by rcases e with e|e<;>(cases e;intro v hv;simp at hv;subst hv;rfl)
 | .pair _ _,_,_,⟨c1,c2,e,r1,r2⟩=>by
  subst e;intro v hv;rcases aNU.1 hv with h|h
  .exact BQ r1 v h
  .exact BQ r2 v h
 | .list _,_,_,⟨_,_,e,_,_⟩=>by cases e;intro v hv;simp at hv;subst hv;rfl
def vE {g g':Gh}{w:pY}(j:g'.S=g.S): ∀{t:Ty}{x:t.den}{cs:pU},t.pure=true->Rd g w t x cs->Rd g' w t x cs
 | .bool,_,_,_,r=>r
 | .int _,_,_,_,r=>r
 | .str,_,_,_,r=>r
 | .unit,_,_,_,r=>r
 | .ref,_,_,h,_=>by simp [Ty.pure] at h
 | .clo,_,_,h,_=>by simp [Ty.pure] at h
 | .mp,_,_,h,_=>by simp [Ty.pure] at h
 | .rl _ _,_,_,h,_=>by simp [Ty.pure] at h
 | .fn,_,_,_,r=>r
 | .mref,_,_,h,_=>by simp [Ty.pure] at h
 | .part,_,_,_,r=>Cf (λb o q=>by rw[j];exact q) (λ_ _ _=>rfl) r
 | .pair _ _,_,_,h,⟨c1,c2,e,r1,r2⟩=>by
  simp only[Ty.pure,aNf] at h;exact⟨c1,c2,e,vE j h.1 r1,vE j h.2 r2⟩
 | .list _,_,_,h,⟨a,cap,e,z,D⟩=>by
  simp only[Ty.pure] at h;exact⟨a,cap,e,z,D.imp id λ⟨b,o,ea,hr⟩=>⟨b,o,ea,B1 (λ_ _ r=>vE j h r) (λ_ q=>by rw[j];exact q) (λ_ _=>rfl) hr⟩⟩
def LW {g:Gh}{w:pY}: ∀(n m:Nat),n<=m->∀(x:qF) (vs:pU),BP g w n x vs->BP g w m x vs
 |0,_,_,_,_,h=>h.elim
 |n+1,0,hm,_,_,_=>absurd hm pM
 |n+1,m+1,hm,.mk _ _ _ _ _ _,_,⟨a1,p1,a2,p2,e,⟨E,D⟩,z,j⟩=>⟨a1,p1,a2,p2,e,
   ⟨E,D.imp id λ⟨b,o,ea,hr⟩=>⟨b,o,ea,B1 (λ_ _=>ZZ (LW n m pM) (λ_ _=>id) (λ_ _ _=>rfl)) (λ_=>id) (λ_ _=>rfl) hr⟩⟩,
   z,j.imp id λ⟨b,o,ea,hr⟩=>⟨b,o,ea,B1 (LW n m pM) (λ_=>id) (λ_ _=>rfl) hr⟩⟩
def aa {α:Type}{Q:Nat->α->pU->Prop}(j: ∀n m,n<=m->∀x vs,Q n x vs->Q m x vs) {w:pY}{S:Nat->Nat->Prop}{c b:Nat}: ∀{l:List α}{o:Nat},wA (λx vs=> ∃n,Q n x vs) w S c b o l->∃n,wA (Q n) w S c b o l
 |[],_,_=>⟨0,trivial⟩
 |_::_,_,⟨⟨cs,I,G,F,n,E⟩,D⟩=>
  let ⟨m,z⟩:=aa j D
  ⟨max n m,⟨cs,I,G,F,j _ _ (Nat.le_max_left _ _) _ _ E⟩,B1 (j _ _ (Nat.le_max_right _ _)) (λ_=>id) (λ_ _=>rfl) z⟩
def a5T {g:Gh}{w:pY}{x:qF}{vs:pU}(h:Rd g w .part x vs):Rd g w sM x.un vs:=by
 obtain⟨n,h⟩:=h;cases n with
 |zero=>exact h.elim
 |succ n=>
  cases x with
  |mk k t nm s cs ps=>
   obtain⟨a1,p1,a2,p2,e,⟨G,F⟩,E,D⟩:=h;have j: ∀y us,BP g w n y us->Rd g w .part y us:=λy us q=>⟨n,q⟩;refine⟨[.int .i64 k],_,e,rfl,[.string ⟨List.toArray t⟩],_,rfl,rfl,[.string ⟨List.toArray nm⟩],_,rfl,rfl,[.string ⟨List.toArray s⟩],_,rfl,rfl,[.slice a1 (List.length cs) p1],_,rfl,⟨a1,p1,rfl,G,F.imp id λ⟨b,o,ea,hr⟩=>⟨b,o,ea,B1 (λc us q=>?_) (λ_=>id) (λ_ _=>rfl) hr⟩⟩,
    [.slice a2 (List.length ps) p2],[],rfl,⟨a2,p2,rfl,E,D.imp id λ⟨b,o,ea,hr⟩=>⟨b,o,ea,B1 j (λ_=>id) (λ_ _=>rfl) hr⟩⟩,rfl⟩
   obtain⟨a,p,e2,hp,z⟩:=q;exact⟨[.string ⟨List.toArray c.1⟩],_,e2,rfl,[.slice a (List.length c.2.1) p],[],rfl,⟨a,p,rfl,hp,z.imp id λ⟨b,o,ea,hr⟩=>⟨b,o,ea,B1 j (λ_=>id) (λ_ _=>rfl) hr⟩⟩,rfl⟩
def a5U {g:Gh}{w:pY}{x:qF}{vs:pU}(h:Rd g w sM x.un vs):Rd g w .part x vs:=by
 cases x with
 |mk k t nm s cs ps=>
  obtain⟨c1,r1,e1,rfl,c2,r2,rfl,rfl,c3,r3,rfl,rfl,c4,r4,rfl,rfl,c5,r5,rfl,⟨a1,p1,rfl,K,F⟩,c6,r6,rfl,⟨a2,p2,rfl,I,E⟩,rfl⟩:=h;have G: ∃n,cs=[]\/∃b o,a1=some ⟨b,o,none⟩/\wA (QP (BP g w n) g w) w g.S 2 b o cs:=by
   rcases F with F|⟨b,o,ea,hr⟩
   .exact⟨0,.inl F⟩
   obtain⟨n,z⟩:=aa (Q:=λn=>QP (BP g w n) g w) (λn m j c us q=>ZZ (LW n m j) (λ_ _=>id) (λ_ _ _=>rfl) q) (B1 (R':=λc us=> ∃n,QP (BP g w n) g w c us) (λc us q=>by
    obtain⟨d1,d2,e2,rfl,d3,d4,rfl,⟨a,p,rfl,hp,D⟩,rfl⟩:=q;rcases D with D|⟨b,o,ea,hr⟩
    .exact⟨0,a,p,e2,hp,.inl D⟩
    obtain⟨n,z⟩:=aa (Q:=λn=>BP g w n) (λn m j=>LW n m j) hr;exact⟨n,a,p,e2,hp,.inr ⟨b,o,ea,z⟩⟩) (λ_=>id) (λ_ _=>rfl) hr)
   exact⟨n,.inr ⟨b,o,ea,z⟩⟩
  have hP: ∃n,ps=[]\/∃b o,a2=some ⟨b,o,none⟩/\wA (BP g w n) w g.S 6 b o ps:=by
   rcases E with E|⟨b,o,ea,hr⟩
   .exact⟨0,.inl E⟩
   obtain⟨n,z⟩:=aa (Q:=λn=>BP g w n) (λn m j=>LW n m j) hr;exact⟨n,.inr ⟨b,o,ea,z⟩⟩
  obtain⟨n,z⟩:=G;obtain⟨m,hm⟩:=hP;exact⟨max n m+1,a1,p1,a2,p2,e1,
   ⟨K,z.imp id λ⟨b,o,ea,hr⟩=>⟨b,o,ea,B1 (λ_ _=>ZZ (LW _ _ (Nat.le_max_left _ _)) (λ_ _=>id) (λ_ _ _=>rfl)) (λ_=>id) (λ_ _=>rfl) hr⟩⟩,
   I,hm.imp id λ⟨b,o,ea,hr⟩=>⟨b,o,ea,B1 (LW _ _ (Nat.le_max_right _ _)) (λ_=>id) (λ_ _=>rfl) hr⟩⟩
def xF (g:Gh) (w:pY) (k v:Ty):List (k.den×v.den)->List MapEntry->Prop
 |[],es=>es=[]
 |(a,b)::l,es=> ∃e es',es=e::es'/\sR g w k a e.key/\sR g w v b e.val/\xF g w k v l es'
def VC {g g':Gh}{w w':pY}(h:Le g w g' w') {k v:Ty}: ∀{l:List (k.den×v.den)}{es:List MapEntry},xF g w k v l es->xF g' w' k v l es
 |[],_,r=>r
 |_::_,_,⟨e,es',E,D,z,j⟩=>⟨e,es',E,LV h D,LV h z,VC h j⟩
def Ck {g g':Gh}{w:pY}(j:g'.S=g.S) {t:Ty}{x:t.den}{v:pZ}(hp:t.pure=true) (r:sR g w t x v):sR g' w t x v:=
 r.imp (λ⟨a,cs,e,q⟩=>⟨a,cs,e,vE j hp q⟩) (λ⟨a,q⟩=>⟨a,vE j hp q⟩)
def LX {g g':Gh}{w:pY}(j:g'.S=g.S) {k v:Ty}(hk:k.pure=true) (hv:v.pure=true): ∀{l:List (k.den×v.den)}{es:List MapEntry},xF g w k v l es->xF g' w k v l es
 |[],_,r=>r
 |_::_,_,⟨e,es',F,E,D,z⟩=>⟨e,es',F,Ck j hk E,Ck j hv D,LX j hk hv z⟩
def uR {α:Type}(R:α->pU->Prop) (c:Nat):List α->pU->Prop
 |[],cs=>cs=[]
 |x::xs,cs=> ∃c1 c2,cs=c1++c2/\c1.length=c/\R x c1/\uR R c xs c2
def LY {α:Type}{R:α->pU->Prop}{c:Nat}: ∀{l:List α}{cs:pU},uR R c l cs->cs.length=l.length*c
 |[],_,h=>by rw[h];simp
 |_::l,_,⟨c1,c2,e,z,_,j⟩=>by rw[e,aM7,z,LY j,aM5,aN0];omega
def mc {α:Type}{R:α->pU->Prop}{c:Nat}: ∀{l m:List α}{cs ds:pU},uR R c l cs->uR R c m ds->uR R c (l++m) (cs++ds)
 |[],_,_,_,h,k=>by rw[h];exact k
 |_::_,_,_,_,⟨c1,c2,e,D,z,j⟩,k=>⟨c1,c2++_,by rw[e,aNd],D,z,mc j k⟩
def CV {α:Type}{R R':α->pU->Prop}{c:Nat}(j: ∀x cs,R x cs->R' x cs): ∀{l:List α}{cs:pU},uR R c l cs->uR R' c l cs
 |[],_,h=>h
 |_::_,_,⟨c1,c2,e,E,D,z⟩=>⟨c1,c2,e,E,j _ _ D,CV j z⟩
def DR {g:Gh}{w:pY}{u:Ty}: ∀{t:Ty}{x:t.den}{cs:pU}{o:Nat}{y:u.den},Rd g w t x cs->rR u t x o=some y->
  ∃c1 c2 c3,cs=c1++c2++c3/\c1.length=o/\Rd g w u y c2:=by
 intro t
 induction t with
 |pair a b iha ihb=>
  intro x cs o y r h;obtain⟨c1,c2,e,r1,r2⟩:=r;have key: ∀o,(if o<a.cells then rR u a x.1 o else rR u b x.2 (o-a.cells))=some y->∃d1 d2 d3,cs=d1++d2++d3/\d1.length=o/\Rd g w u y d2:=by
   intro o h;by_cases D:o<a.cells
   .rw[aM4 D] at h;obtain⟨d1,d2,d3,e',z,hr⟩:=iha r1 h;exact⟨d1,d2,d3++c2,by rw[e,e'];simp,z,hr⟩
   rw[aM9 D] at h;obtain⟨d1,d2,d3,e',z,hr⟩:=ihb r2 h;refine⟨c1++d1,d2,d3,by rw[e,e'];simp,?_,hr⟩;rw[aM7,z,sU r1];omega
  cases o with
  |zero=>
   unfold rR at h;by_cases j:Ty.pair a b=u
   .rw[aOS j] at h;subst j;simp only[uF,aM6] at h;subst h;exact⟨[],cs,[],by simp,rfl,⟨c1,c2,e,r1,r2⟩⟩
   .rw[aOA j] at h;refine key 0 ?_;simpa using h
  |succ o=>exact key (o+1) (by simpa[rR] using h)
 |_=>
  intro x cs o y r h;cases o with
  |zero=>
   unfold rR at h;split at h
   .rename_i j;subst j;simp only[uF,aM6] at h
    try subst h
    exact⟨[],cs,[],by simp,rfl,r⟩
   .simp at h
  |succ o=>simp [rR] at h
def ab {g:Gh}{w:pY}{u:Ty}{y:u.den}{cy:pU}(G:Rd g w u y cy): ∀{t:Ty}{x z:t.den}{cs:pU}{o:Nat},Rd g w t x cs->sW u y t x o=some z->
  ∃c1 c2 c3,cs=c1++c2++c3/\c1.length=o/\c2.length=u.cells/\Rd g w t z (c1++cy++c3):=by
 intro t
 induction t with
 |pair a b iha ihb=>
  intro x z cs o r h;obtain⟨c1,c2,e,r1,r2⟩:=r;have key: ∀o,(if o<a.cells then(sW u y a x.1 o).map (λq=>(q,x.2)) else(sW u y b x.2 (o-a.cells)).map (λq=>(x.1,q)))=some z->
    ∃d1 d2 d3,cs=d1++d2++d3/\d1.length=o/\d2.length=u.cells/\Rd g w (.pair a b) z (d1++cy++d3):=by
   intro o h;by_cases I:o<a.cells
   .rw[aM4 I] at h;obtain⟨q,E,rfl⟩:=aNh.1 h;obtain⟨d1,d2,d3,e',F,j,hr⟩:=iha r1 E;exact⟨d1,d2,d3++c2,by rw[e,e'];simp,F,j,⟨d1++cy++d3,c2,by simp,hr,r2⟩⟩
   rw[aM9 I] at h;obtain⟨q,E,rfl⟩:=aNh.1 h;obtain⟨d1,d2,d3,e',F,j,hr⟩:=ihb r2 E;refine⟨c1++d1,d2,d3,by rw[e,e'];simp,?_,j,⟨c1,d1++cy++d3,by simp,r1,hr⟩⟩;rw[aM7,F,sU r1];omega
  cases o with
  |zero=>
   unfold sW at h;by_cases D:u=Ty.pair a b
   .rw[aOS D] at h;subst D;simp only[uF,aM6] at h;subst h;exact⟨[],cs,[],by simp,rfl,sU (t:= .pair a b) (x:=x) ⟨c1,c2,e,r1,r2⟩,by simpa using G⟩
   .rw[aOA D] at h;refine key 0 ?_;simpa using h
  |succ o=>exact key (o+1) (by simpa[sW] using h)
 |_=>
  intro x z cs o r h;cases o with
  |zero=>
   unfold sW at h;split at h
   .rename_i D;subst D;simp only[uF,aM6] at h
    try subst h
    exact⟨[],cs,[],by simp,rfl,sU r,by simpa using G⟩
   .simp at h
  |succ o=>simp [sW] at h
def a5V {e:Nat}{u:Ty}{kn:pV}: ∀{t:Ty}{x:t.den}{o:Nat}{q: Σ t:Ty,t.den},yH e u kn t x o=some q->q.1.cells=t.cells:=by
 intro t
 induction t with
 |pair a b iha ihb=>
  intro x o q h;unfold yH at h;split at h
  .cases j:yH e u kn a x.1 o with
   |none=>rw[j] at h;cases h
   |some r=>
    obtain⟨a',x'⟩:=r;rw[j] at h;simp only[kr,aM6] at h;subst h;have:=iha j;simp only[Ty.cells] at this|-;omega
  .cases j:yH e u kn b x.2 (o-a.cells) with
   |none=>rw[j] at h;cases h
   |some r=>
    obtain⟨b',y'⟩:=r;rw[j] at h;simp only[ku,aM6] at h;subst h;have:=ihb j;simp only[Ty.cells] at this|-;omega
 |list v=>
  intro x o q h;cases o with
  |zero=>
   simp only[yH] at h;split at h
   .simp only[aM6] at h;subst h;rfl
   .cases h
  |succ o=>simp [yH] at h
 |_=>intro x o q h;cases o<;>simp [yH] at h
def a5W {g:Gh}{w:pY}{e:Nat}{u:Ty}{kn:pV}{cy:pU}(F:FQ g kn cy): ∀{t:Ty}{x:t.den}{cs:pU}{o:Nat}{q: Σ t:Ty,t.den},Rd g w t x cs->yH e u kn t x o=some q->
  ∃c1 c2 c3,cs=c1++c2++c3/\c1.length=o/\c2.length=1/\Rd g w q.1 q.2 (c1++cy++c3):=by
 intro t
 induction t with
 |pair a b iha ihb=>
  intro x cs o q r h;obtain⟨c1,c2,e1,r1,r2⟩:=r;unfold yH at h;split at h
  .cases j:yH e u kn a x.1 o with
   |none=>rw[j] at h;cases h
   |some z=>
    obtain⟨a',x'⟩:=z;rw[j] at h;simp only[kr,aM6] at h;subst h;obtain⟨d1,d2,d3,e',E,D,hr⟩:=iha r1 j;exact⟨d1,d2,d3++c2,by rw[e1,e'];simp,E,D,⟨d1++cy++d3,c2,by simp,hr,r2⟩⟩
  .cases j:yH e u kn b x.2 (o-a.cells) with
   |none=>rw[j] at h;cases h
   |some z=>
    obtain⟨b',y'⟩:=z;rw[j] at h;simp only[ku,aM6] at h;subst h;obtain⟨d1,d2,d3,e',E,D,hr⟩:=ihb r2 j;refine⟨c1++d1,d2,d3,by rw[e1,e'];simp,?_,D,⟨c1,d1++cy++d3,by simp,r1,hr⟩⟩;rw[aM7,E,sU r1];omega
 |list v=>
  intro x cs o q r h;cases o with
  |zero=>
   simp only[yH] at h;split at h
   .simp only[aM6] at h;subst h;exact⟨[],cs,[],by simp,rfl,sU r,by rw[List.nil_append,List.append_nil];exact F⟩
   .cases h
  |succ o=>simp [yH] at h
 |_=>intro x cs o q r h;cases o<;>simp [yH] at h
def H3 (g:Gh) (t:Ty) (x:t.den) (cs:pU) (toks:pS):Prop:=
 ∀o k,(o,k)∈toks->∃(u:Ty) (l:List u.den) (v:pZ),rR (.list u) t x o=some l/\cs[o]? =some v/\g.cur k l.length=some v
def a5X (w:pY) (p:Pl) (n:Nat):Prop:=w.there p.1 p.2 n/\(0<n->∀s,p.3=some s->w.shape? p.1=some s)
def EU {w:pY}{b:Nat}{s:TypeId×Nat}(h:w.shape? b=some s):b<w.heap.size:=by
 unfold World.shape? at h;cases hb:w.heap[b]? with
 |none=>rw[hb] at h;cases h
 |some x=>exact(aNr.1 hb).1
def EV {w w':pY}{b:Nat}(h:w'.heap[b]? =w.heap[b]?):w'.shape? b=w.shape? b:=by
 unfold World.shape?;rw[h]
def J8 (es:Array MapEntry) (clock:Nat):Prop:=(∀x∈es.toList,x.born<clock)/\(es.toList.map (·.born)).Nodup
def a5Y {es:Array MapEntry}{clock:Nat}(h:J8 es clock) (key val:pZ):J8 (es.push ⟨key,val,clock⟩) (clock+1):=by
 obtain⟨z,E⟩:=h;refine⟨λx j=>?_,?_⟩
 .rw[Array.toList_push,aNU] at j;rcases j with j|j
  .have:=z x j;omega
  simp at j;subst j;exact Nat.lt_succ_self _
 rw[Array.toList_push,List.map_append,List.nodup_append];refine⟨E,by simp,λa D b hb=>?_⟩;obtain⟨x,j,rfl⟩:=List.mem_map.1 D;simp at hb;have:=z x j;omega
def Cl (f:MapEntry->MapEntry) (hf: ∀e,(f e).born=e.born): ∀(l:List MapEntry) (i:Nat),(l.modify i f).map (·.born)=l.map (·.born)
 |[],i=>by simp
 |x::l,0=>by simp [hf]
 |x::l,i+1=>by simp [Cl f hf l i]
def a5Z {es:Array MapEntry}{clock:Nat}(h:J8 es clock) (i:Nat) (f:MapEntry->MapEntry) (hf: ∀e,(f e).born=e.born):J8 (es.modify i f) clock:=by
 obtain⟨F,E⟩:=h;have e:(es.modify i f).toList.map (·.born)=es.toList.map (·.born):=by rw[Array.toList_modify];exact Cl f hf _ _
 refine⟨λx D=>?_,by rw[e];exact E⟩;have hm:x.born∈es.toList.map (·.born):=by rw[<-e];exact List.mem_map.2 ⟨x,D,rfl⟩
 obtain⟨y,z,j⟩:=List.mem_map.1 hm;rw[<-j];exact F y z
def A9 (g:Gh) (w:pY) (i:Nat):qP->Prop
 | .cells t x toks=> ∃p cs,g.J i=some p/\Rd g w t x cs/\w.rangeAt p.1 p.2 cs/\a5X w p t.cells/\(∀j,j<t.cells->¬g.S p.1 (p.2+j))/\H3 g t x cs toks
 | .grow e c n=> ∃v xs,g.cur i n=some v/\w.ownsRow 0 e c v n xs/\(∀m,n<m->g.cur i m=none)/\∀b,v.ownBlock=some b->∀o,g.S b o->o<n*c
 | .row e t l n=>l.length=n/\∃v xs,g.cur i n=some v/\w.ownsRow 0 e t.cells v n xs/\uR (Rd g w t) t.cells l xs/\(∀m,n<m->g.cur i m=none)/\∀b,v.ownBlock=some b->∀o,¬g.S b o
 | .map k v l=> ∃p es clock,g.J i=some p/\(p.2=0/\J8 es clock)/\w.heap[p.1]? =some (.map es clock)/\xF g w k v l es.toList/\∀o,¬g.S p.1 o
 | .iter s n=> ∃p,g.J i=some p/\p.2=0/\w.heap[p.1]? =some (.stringIter ⟨s.toArray⟩ n)/\∀o,¬g.S p.1 o
 | .dead=>True
def sB (g:Gh) (i:Nat):qP->Nat->Nat->Prop
 | .cells t _ _,b,o=> ∃p,g.J i=some p/\b=p.1/\p.2<=o/\o<p.2+t.cells
 | .grow _ _ n,b,_=> ∃v,g.cur i n=some v/\v.ownBlock=some b
 | .row _ _ _ n,b,_=> ∃v,g.cur i n=some v/\v.ownBlock=some b
 | .map _ _ _,b,_=> ∃p,g.J i=some p/\b=p.1
 | .iter _ _,b,_=> ∃p,g.J i=some p/\b=p.1
 | .dead,_,_=>False
structure sL (g:Gh) (w:pY) (H:sA):Prop where
 blk: ∀i b,qT H i=some b->A9 g w i b
 dis: ∀i j bi bj b o,i≠j->qT H i=some bi->qT H j=some bj->sB g i bi b o->sB g j bj b o->False
 sl: ∀b o,g.S b o->b<w.heap.size
 tab:IT w/\∀i blk b o,qT H i=some blk->sB g i blk b o->NG<=b
def sX (g:Gh) (H:sA) (ids:pX) (b o:Nat):Prop:= ∃i blk,i∈ids/\qT H i=some blk/\sB g i blk b o
structure Fr (A:Nat->Nat->Prop) (w w':pY) (S S':Nat->Nat->Prop):Prop where
 os:w'.os=w.os
 tape:w'.tape=w.tape
 output:w'.output=w.output
 size:w.heap.size<=w'.heap.size
 blk: ∀b,b<w.heap.size->(∀o,¬A b o)->w'.heap[b]? =w.heap[b]?
 cell: ∀b o,b<w.heap.size->¬A b o->w'.cell? ⟨b,o,none⟩=w.cell? ⟨b,o,none⟩/\w'.frozen? ⟨b,o,none⟩=w.frozen? ⟨b,o,none⟩
 new: ∀b o,S' b o->S b o\/w.heap.size<=b\/A b o
 shape: ∀b s,w.shape? b=some s->w'.shape? b=some s\/∀o,A b o
def Fr.refl (A:Nat->Nat->Prop) (w:pY) (S:Nat->Nat->Prop):Fr A w w S S:=
 ⟨rfl,rfl,rfl,aNt _,λ_ _ _=>rfl,λ_ _ _ _=>⟨rfl,rfl⟩,λ_ _ h=> .inl h,λ_ _ h=> .inl h⟩
def Fr.trans {A B:Nat->Nat->Prop}{w w' w'':pY}{S S' S'':Nat->Nat->Prop}(h:Fr A w w' S S') (k:Fr B w' w'' S' S'') (F: ∀b o,B b o->w.heap.size<=b\/A b o):Fr A w w'' S S'':=by
 refine⟨k.os.trans h.os,k.tape.trans h.tape,k.output.trans h.output,aNK h.size k.size,λb hb D=>?_,λb o hb D=>?_,λb o E=>?_,λb s E=>?_⟩
 .refine(k.blk b (aNI hb h.size) λo G=>?_).trans (h.blk b hb D);rcases F b o G with j|j
  .omega
  exact D o j
 .have j:=h.cell b o hb D;have z:=k.cell b o (aNI hb h.size) (λG=>by
   rcases F b o G with j|j
   .omega
   exact D j)
  exact⟨z.1.trans j.1,z.2.trans j.2⟩
 .rcases k.new b o E with j|j|j
  .exact h.new b o j
  .exact .inr (.inl (aNK h.size j))
  exact .inr (F b o j)
 rcases h.shape b s E with j|j
 .rcases k.shape b s j with z|z
  .exact .inl z
  refine .inr λo=>(F b o (z o)).resolve_left ?_;have:=EU E;omega
 exact .inr j
structure sC (g:Gh) (w:pY) (H:sA) (e:r9) (g':Gh) (w':pY) (v:pZ):Prop where
 le:Le g w g' w'
 slot:rY g' w' e.slot v
 heap:sL g' w' (rJ e.upd H)
 fr:Fr (sX g H (qV e.upd)) w w' g.S g'.S
 perm: ∀i blk b o,i∈qV e.upd->qT (rJ e.upd H) i=some blk->sB g' i blk b o->w.heap.size<=b\/sX g H (qV e.upd) b o
 gho: ∀i,i∉qV e.upd->g'.J i=g.J i/\g'.cur i=g.cur i
 ty: ∀i u y us,qT (rJ e.upd H) i=some (.cells u y us)->(∃x ts,qT H i=some (.cells u x ts))\/(g.J i=none/\∀n,g.cur i n=none)
structure zR (g:Gh) (w:pY) (H:sA) (e:r9) (g':Gh) (w':pY) (v:pZ):Prop where
 le:Le g w g' w'
 slot:rY g' w' e.slot v
 heap:sL g' w' (rJ e.upd H)
 fr:Fr (sX g H (qV e.upd)) w w' g.S g'.S
 perm: ∀i blk b o,i∈qV e.upd->qT (rJ e.upd H) i=some blk->sB g' i blk b o->w.heap.size<=b\/sX g H (qV e.upd) b o
 gho: ∀i,i∉qV e.upd->g'.J i=g.J i/\g'.cur i=g.cur i
 ty:IU e.rds=false->∀i u y us,qT (rJ e.upd H) i=some (.cells u y us)->(∃x ts,qT H i=some (.cells u x ts))\/(g.J i=none/\∀n,g.cur i n=none)
def sC.w {g:Gh}{w:pY}{H:sA}{e:r9}{g':Gh}{w':pY}{v:pZ}(h:sC g w H e g' w' v):zR g w H e g' w' v:=⟨h.le,h.slot,h.heap,h.fr,h.perm,h.gho,λ_=>h.ty⟩
def VD {w:pY}{B:Nat}{e:TypeId}{c n:Nat}{v:pZ}{xs:pU}(h:w.ownsRow B e c v n xs) {b:Nat}(hb:v.ownBlock=some b):b<w.heap.size:=(h.lt b hb).2
def md {w:pY}{b o:Nat}{v:pZ}(h:w.cell? ⟨b,o,none⟩=some v):b<w.heap.size:=by
 have:=World.block_lt_of_cell? w ⟨b,o,none⟩ h;exact this
def VE {g:Gh}{w:pY}{i:Nat}{blk:qP}(h:A9 g w i blk) {b o:Nat}(D:sB g i blk b o):b<w.heap.size:=by
 cases blk with
 |cells t x toks=>
  obtain⟨p,cs,hp,_,_,F,_⟩:=h;obtain⟨q,z,rfl,I,G⟩:=D;rw[hp] at z;obtain rfl:=aNa z;have:=(F.1 (o-p.2) pM).1;obtain⟨v,hv⟩:=aNT.1 this;exact md hv
 |grow e c n=>
  obtain⟨v,xs,hv,hr,_⟩:=h;obtain⟨v',j,hb⟩:=D;rw[hv] at j;obtain rfl:=aNa j;exact VD hr hb
 |row e t l n=>
  obtain⟨_,v,xs,hv,hr,_⟩:=h;obtain⟨v',j,hb⟩:=D;rw[hv] at j;obtain rfl:=aNa j;exact VD hr hb
 |map k v l=>
  obtain⟨p,es,cl,hp,_,E,_,_⟩:=h;obtain⟨q,z,rfl⟩:=D;rw[hp] at z;obtain rfl:=aNa z;exact(aNr.1 E).1
 |iter s n=>
  obtain⟨p,hp,_,E,_⟩:=h;obtain⟨q,z,rfl⟩:=D;rw[hp] at z;obtain rfl:=aNa z;exact(aNr.1 E).1
 |dead=>exact D.elim
def Cm {g g':Gh}(j: ∀k n v,g.cur k n=some v->g'.cur k n=some v) {t:Ty}{x:t.den}{cs:pU}{toks:pS}(h:H3 g t x cs toks):H3 g' t x cs toks:=
 λo k hm=>let ⟨u,l,v,E,D,z⟩:=h o k hm;⟨u,l,v,E,D,j _ _ _ z⟩
def QR {g g':Gh}{w w':pY}{i:Nat}{blk:qP}(h:A9 g w i blk) (le:Le g w g' w') (U:g'.J i=g.J i) (E:g'.cur i=g.cur i)
  (R: ∀b o,sB g i blk b o->w'.cell? ⟨b,o,none⟩=w.cell? ⟨b,o,none⟩/\w'.frozen? ⟨b,o,none⟩=w.frozen? ⟨b,o,none⟩)
  (hb: ∀b,(∀o,sB g i blk b o)->w'.heap[b]? =w.heap[b]?) (M: ∀b o,sB g i blk b o->g'.S b o->g.S b o) (X: ∀b o s,sB g i blk b o->w.shape? b=some s->w'.shape? b=some s):A9 g' w' i blk:=by
 cases blk with
 |cells t x toks=>
  obtain⟨p,cs,hp,hr,Z,ht,G,V⟩:=h;have K: ∀j,j<t.cells->sB g i (.cells t x toks) p.1 (p.2+j):=λj I=>⟨p,hp,rfl,pM,pM⟩;refine⟨p,cs,U.trans hp,xE le hr,λj v hv=>?_,⟨λj I=>?_,λh0 s Y=>X _ _ _ (K 0 h0) (ht.2 h0 s Y)⟩,λj I D=>G j I (M _ _ (K j I) D),Cm le.cur V⟩
  .have I:j<t.cells:=sU hr▸(aNl.1 hv).1;rw[(R _ _ (K j I)).1];exact Z j v hv
  .rw[(R _ _ (K j I)).1,(R _ _ (K j I)).2];exact ht.1 j I
 |grow e c n=>
  obtain⟨v,xs,hv,hr,O,G⟩:=h;have z: ∀b,v.ownBlock=some b->∀o,sB g i (.grow e c n) b o:=λb hb o=>⟨v,hv,hb⟩;refine⟨v,xs,by rw[E];exact hv,⟨hr.1,?_⟩,λm hm=>by rw[E];exact O m hm,λb F o D=>G b F o (M _ _ (z b F o) D)⟩;rcases hr.2 with h0|⟨q,cap,cur,e1,e2,e3,e4⟩
  .exact .inl h0
  .subst e1;exact .inr ⟨q,cap,cur,rfl,e2,by rw[hb q (z q rfl)];exact e3,e4⟩
 |row e t l n=>
  obtain⟨hl,v,xs,hv,hr,hF,O,G⟩:=h;have z: ∀b,v.ownBlock=some b->∀o,sB g i (.row e t l n) b o:=λb hb o=>⟨v,hv,hb⟩;refine⟨hl,v,xs,by rw[E];exact hv,⟨hr.1,?_⟩,CV (λ_ _ h=>xE le h) hF,λm hm=>by rw[E];exact O m hm,λb F o D=>G b F o (M _ _ (z b F o) D)⟩;rcases hr.2 with h0|⟨q,cap,cur,e1,e2,e3,e4⟩
  .exact .inl h0
  .subst e1;exact .inr ⟨q,cap,cur,rfl,e2,by rw[hb q (z q rfl)];exact e3,e4⟩
 |map k v l=>
  obtain⟨p,es,cl,hp,h0,Q,hM,G⟩:=h;have z: ∀o,sB g i (.map k v l) p.1 o:=λo=>⟨p,hp,rfl⟩;exact⟨p,es,cl,U.trans hp,h0,(hb _ z).trans Q,VC le hM,λo D=>G o (M _ _ (z o) D)⟩
 |iter s n=>
  obtain⟨p,hp,h0,Q,G⟩:=h;have z: ∀o,sB g i (.iter s n) p.1 o:=λo=>⟨p,hp,rfl⟩;exact⟨p,U.trans hp,h0,(hb _ z).trans Q,λo D=>G o (M _ _ (z o) D)⟩
 |dead=>trivial
def zS {g g':Gh}{i:Nat}{blk:qP}(z:g'.J i=g.J i) (j:g'.cur i=g.cur i) {b o:Nat}:sB g' i blk b o↔sB g i blk b o:=by
 cases blk<;>simp [sB,z,j]
def CW {i:Nat}: ∀{u:List (Nat×qP)}{H:sA},i∉qV u->qT (rJ u H) i=qT H i
 |[],_,_=>rfl
 |(k,b)::r,H,h=>by
  simp only[qV,aNk,not_or] at h;simp only[rJ,qT];rw[aM9 (Ne.symm h.1)];exact CW h.2
def sL.upd {g g':Gh}{w w':pY}{H:sA}{u:List (Nat×qP)}(h:sL g w H) (le:Le g w g' w') (fr:Fr (sX g H (qV u)) w w' g.S g'.S)
  (perm: ∀i blk b o,i∈qV u->qT (rJ u H) i=some blk->sB g' i blk b o->w.heap.size<=b\/sX g H (qV u) b o)
  (gho: ∀i,i∉qV u->g'.J i=g.J i/\g'.cur i=g.cur i)
  (hb: ∀i blk,i∈qV u->qT (rJ u H) i=some blk->A9 g' w' i blk)
  (V: ∀i j bi bj b o,i∈qV u->j∈qV u->i≠j->qT (rJ u H) i=some bi->qT (rJ u H) j=some bj->sB g' i bi b o->sB g' j bj b o->False)
  (sl: ∀b o,g'.S b o->b<w'.heap.size):sL g' w' (rJ u H):=by
 have out: ∀i blk,i∉qV u->qT H i=some blk->∀b o,sB g i blk b o->b<w.heap.size/\¬sX g H (qV u) b o:=λi blk hi Q b o D=>
  ⟨VE (h.blk i blk Q) D,λ⟨j,bj,I,G,F⟩=>h.dis i j blk bj b o (λe=>hi (e▸I)) Q G D F⟩
 refine⟨λi blk Q=>?_,λi j bi bj b o R O G M F=>?_,sl,UP h.tab.1 fr.size (λb hb=>fr.blk b (aNI hb h.tab.1.1) (λo ⟨j,bj,_,k1,k2⟩=>Nat.not_lt.2 (h.tab.2 j bj b o k1 k2) hb)),λi blk b o Q D=>?_⟩
 rotate_right
 .by_cases hi:i∈qV u
  .rcases perm i blk b o hi Q D with E|⟨j,bj,_,k1,k2⟩
   .exact aNK h.tab.1.1 E
   exact h.tab.2 j bj b o k1 k2
  exact h.tab.2 i blk b o ((CW hi).symm.trans Q) ((zS (gho i hi).1 (gho i hi).2).1 D)
 .by_cases hi:i∈qV u
  .exact hb i blk hi Q
  have z:=(CW hi).symm.trans Q;have hk:=gho i hi;refine QR (h.blk i blk z) le hk.1 hk.2 (λb o D=>?_) (λb D=>?_) (λb o D U=>?_) (λb o s D U=>(fr.shape b s U).resolve_right λE=>(out i blk hi z b o D).2 (E o))
  .exact fr.cell b o (out i blk hi z b o D).1 (out i blk hi z b o D).2
  .exact fr.blk b (out i blk hi z b 0 (D 0)).1 (λo=>(out i blk hi z b o (D o)).2)
  rcases fr.new b o U with E|E|E
  .exact E
  .have:=(out i blk hi z b o D).1;omega
  exact absurd E (out i blk hi z b o D).2
 by_cases hi:i∈qV u<;>by_cases I:j∈qV u
 .exact V i j bi bj b o hi I R O G M F
 .have z:=(CW I).symm.trans G;have K:=(zS (gho j I).1 (gho j I).2).1 F;rcases perm i bi b o hi O M with E|E
  .have:=(out j bj I z b o K).1;omega
  exact(out j bj I z b o K).2 E
 .have z:=(CW hi).symm.trans O;have K:=(zS (gho i hi).1 (gho i hi).2).1 M;rcases perm j bj b o I G F with E|E
  .have:=(out i bi hi z b o K).1;omega
  exact(out i bi hi z b o K).2 E
 exact h.dis i j bi bj b o R ((CW hi).symm.trans O) ((CW I).symm.trans G) ((zS (gho i hi).1 (gho i hi).2).1 M) ((zS (gho j I).1 (gho j I).2).1 F)
def sC.pure {g:Gh}{w:pY}{H:sA}{side:List Prop}{s:qK}{rds:pX}{v:pZ}(h:sL g w H) (j:rY g w s v):sC g w H ⟨side,s,[],rds⟩ g w v:=
 ⟨.refl _ _,j,h,.refl _ _ _,λ_ _ _ _ hi=>(by cases hi),λ_ _=>⟨rfl,rfl⟩,λ_ _ y us h=> .inl ⟨y,us,h⟩⟩
def zR.pure {g:Gh}{w:pY}{H:sA}{side:List Prop}{s:qK}{rds:pX}{v:pZ}(h:sL g w H) (j:rY g w s v):zR g w H ⟨side,s,[],rds⟩ g w v:=(sC.pure h j).w
def uN:Ty->pU
 | .bool=>[.bool false]
 | .int k=>[.int k 0]
 | .str=>[.string ⟨#[]⟩]
 | .list _=>[.slice none 0 0]
 | .unit=>[]
 | .pair a b=>uN a++uN b
 | .ref=>[.pointer none]
 | .clo=>[.nilFunc]
 | .mp=>[.map none]
 | .rl _ _=>[.slice none 0 0]
 | .fn=>[.nilFunc]
 | .mref=>[.pointer none]
 | .part=>[.int .i64 0,.string ⟨#[]⟩,.string ⟨#[]⟩,.string ⟨#[]⟩,.slice none 0 0,.slice none 0 0]
def y6 (t:Ty):pZ:=if t.isRow then .agg (uN t).toArray else(uN t).headD undef
def QS (P:Program):Ty->Nat->List Field->Prop
 | .unit,_,[]=>True
 | .pair a b,o,f::r=>f.offset=o/\(P.info? f.type).map (·.size)=some a.cells/\(P.underlying f.type).map (·.isRow)=some a.isRow/\QS P b (o+a.cells) r
 |_,_,_=>False
def QT (P:Program) (e:TypeId):Ty->Nat->Prop
 | .unit,0=>True
 | .pair a b,n+1=>(P.info? e).map (·.size)=some a.cells/\(P.underlying e).map (·.isRow)=some a.isRow/\QT P e b n
 |_,_=>False
inductive mf where
 |ty (t:TypeId) |fs (o:Nat) (l:List Field) |el (e:TypeId) (i m:Nat)
inductive wY (P:Program):Nat->mf->Ty->Prop
 |bool {h t}:P.underlying t=some .bool->wY P h (.ty t) .bool
 |int {h t k}:P.underlying t=some (.int k)->wY P h (.ty t) (.int k)
 |str {h t}:P.underlying t=some .string->wY P h (.ty t) .str
 |struct {h t fs ty}:ty.isRow=true->P.underlying t=some (.struct fs)->P.stoodInHeld t=false->wY P h (.fs 0 fs.toList) ty->wY P (h+1) (.ty t) ty
 |arr {h t e n ty}:ty.isRow=true->P.underlying t=some (.array n e)->(P.info? e).isSome=true->wY P h (.el e 0 n) ty->wY P (h+1) (.ty t) ty
 |nil {h o}:wY P h (.fs o []) .unit
 |cons {h o}{f:Field}{r a b}:f.name≠ "_" ->f.offset=o->(P.info? f.type).map (·.size)=some a.cells->(P.underlying f.type).map (·.isRow)=some a.isRow->wY P h (.ty f.type) a->wY P h (.fs (o+a.cells) r) b->wY P h (.fs o (f::r)) (.pair a b)
 |anil {h e i}:wY P h (.el e i 0) .unit
 |acons {h e i m a b}:(P.info? e).map (·.size)=some a.cells->(P.underlying e).map (·.isRow)=some a.isRow->wY P h (.ty e) a->wY P h (.el e (i+1) m) b->wY P h (.el e i (m+1)) (.pair a b)
def xG (P:Program) (t:TypeId) (ti:TI):Prop:=
 match ti.ty with
 | .bool=>P.underlying t=some .bool
 | .int k=>P.underlying t=some (.int k)
 | .str=>P.underlying t=some .string
 | .ref=> ∃e,P.underlying t=some (.pointer e)
 | .clo=> ∃a b c,P.underlying t=some (.func a b c)
 | .mp=>P.underlying t=some (.map ti.elem ti.bytes)
 | .rl _ _=> ∃e,P.underlying t=some (.slice e)
 | .fn=> ∃a b c,P.underlying t=some (.func a b c)
 | .mref=> ∃e,P.underlying t=some (.pointer e)
 | .part=>False
 | .list u=>P.underlying t=some (.slice ti.elem)/\(P.info? ti.elem).map (λi=>(i.size,i.bytes,i.zero))=some (u.cells,ti.bytes,some (y6 u))/\(P.underlying ti.elem).map (·.isRow)=some u.isRow
 |ty=>((ti.arr=false/\∃fs,P.underlying t=some (.struct fs)/\QS P ty 0 fs.toList)\/(ti.arr=true/\∃n e,P.underlying t=some (.array n e)/\QT P e ty n/\(P.info? e).isSome=true))/\(ti.bytes=1->P.eqGuardType P.depth t=false/\∃h,h<9000/\wY P h (.ty t) ty)
def sY (P:Program) (t:TypeId) (ti:TI):Prop:=(P.info? t).map (λi=>(i.size,i.zero))=some (ti.ty.cells,some (y6 ti.ty))/\xG P t ti
def vX (P:Program):sH->Prop
 |[]=>True
 |(t,ti)::r=>sY P t ti/\vX P r
theorem t7 {P:Program}: ∀{T:sH},vX P T->∀{t:TypeId}{ti:TI},s0 T t=some ti->sY P t ti
 |[],_,_,_,h=>by simp [s0] at h
 |(k,ti)::r,hT,t,ti',h=>by
  simp only[s0] at h;by_cases hk:k=t
  .rw[aM4 hk] at h;subst hk;rw[<-aNa h];exact hT.1
  rw[aM9 hk] at h;exact t7 hT.2 h
theorem EW (g:Gh) (w:pY): ∀t:Ty,Rd g w t t.zero (uN t)
 | .bool=>rfl
 | .int _=>rfl
 | .str=>rfl
 | .list _=>⟨none,0,rfl,aNt _,.inl rfl⟩
 | .unit=>rfl
 | .pair a b=>⟨_,_,rfl,EW g w a,EW g w b⟩
 | .ref=>rfl
 | .clo=>rfl
 | .mp=>rfl
 | .rl _ _=>rfl
 | .fn=>rfl
 | .mref=>rfl
 | .part=>⟨1,none,0,none,0,rfl,⟨aNt _,.inl rfl⟩,aNt _,.inl rfl⟩
theorem LZ (g:Gh) (w:pY) (t:Ty):sR g w t t.zero (y6 t):=by
 unfold sR y6;by_cases h:t.isRow=true
 .left;rw[aM4 h];exact⟨h,_,rfl,EW g w t⟩
 right;rw[aM9 h];refine⟨by simpa using h,?_⟩;cases t<;>first|exact EW g w _|(simp [Ty.isRow] at h)
theorem EX {g:Gh}{w:pY}{t:Ty}{x:t.den}{v:pZ}(h:sR g w t x v):Rd g w t x v.cells.toList:=by
 rcases h with⟨_,cs,rfl,r⟩ |⟨hr,r⟩
 .simpa[Value.cells] using r
 have j:=BQ r v pO;have:v.cells= #[v]:=by cases v<;>first|rfl|(simp [Value.oneCell'] at j)
 rw[this];exact r
theorem B2 {g:Gh}{w:pY}{t:Ty}{x:t.den}{v:pZ}(hr:t.isRow=false) (h:sR g w t x v):Rd g w t x [v]:=by
 rcases h with⟨j,_⟩ |⟨_,r⟩
 .rw[hr] at j;cases j
 exact r
theorem vF {g:Gh}{w:pY}{k:IntKind}{n:Int}{v:pZ}(h:sR g w (.int k) n v):v= .int k n:=by
 have:=B2 rfl h;simp only[Rd,aNW,and_true] at this;exact this
theorem vO {g:Gh}{w:pY}{n:Bool}{v:pZ}(h:sR g w .bool n v):v= .bool n:=by
 have:=B2 rfl h;simp only[Rd,aNW,and_true] at this;exact this
theorem xO {g:Gh}{w:pY}{l:pI}{v:pZ}(h:sR g w .str l v):v= .string ⟨l.toArray⟩:=by
 have:=B2 rfl h;simp only[Rd,aNW,and_true] at this;exact this
theorem EY {g:Gh}{w:pY}{t:Ty}{l:List t.den}{v:pZ}(h:sR g w (.list t) l v): ∃a cap,v= .slice a l.length cap/\l.length<=cap/\(l=[]\/∃b o,a=some ⟨b,o,none⟩/\wA (Rd g w t) w g.S t.cells b o l):=by
 have:=B2 rfl h;obtain⟨a,cap,e,z,j⟩:=this;simp only[aNW,and_true] at e;exact⟨a,cap,e,z,j⟩
theorem zB {g:Gh}{w:pY}{i o:Nat}{v:pZ}(h:sR g w .ref (some (i,o)) v): ∃p,g.J i=some p/\v= .pointer (some ⟨p.1,p.2+o,none⟩):=by
 have:=B2 rfl h;obtain⟨p,j,e⟩:=this;simp only[aNW,and_true] at e;exact⟨p,j,e⟩
theorem DS {g:Gh}{w:pY}{t:Ty}{x:t.den}{v:pZ}(hr:t.isRow=true) (h:sR g w t x v): ∃cs:pU,v= .agg cs.toArray/\Rd g w t x cs:=by
 rcases h with⟨_,r⟩ |⟨j,_⟩
 .exact r
 rw[hr] at j;cases j
theorem wO (g:Gh) (w:pY) (k:IntKind) (n:Int):sR g w (.int k) n (.int k n):= .inr ⟨rfl,rfl⟩
theorem w5 (g:Gh) (w:pY) (b:Bool):sR g w .bool b (.bool b):= .inr ⟨rfl,rfl⟩
theorem BR (g:Gh) (w:pY) (l:pI):sR g w .str l (.string ⟨l.toArray⟩):= .inr ⟨rfl,rfl⟩
def rS (P:Program) (o:Oper) (a:Act) (g:Gh) (w:pY) (H:sA) (e:r9):Prop:=
 ∀(K:Act->pY->Prop) (Q:Exit->Act->pY->Prop),(∀g' w' v,zR g w H e g' w' v->K (a.put o.dst v) w')->o.wp P a w K Q
theorem rS.valueW {P:Program}{o:Oper}{a:Act}{g g':Gh}{w w':pY}{H:sA}{e:r9}{v:pZ}(hr:(execOp a.eval o).run P w= .ok (.value v) w') (h:zR g w H e g' w' v):rS P o a g w H e:=by
 intro K Q j;unfold Oper.wp;rw[hr];exact j g' w' v h
theorem rS.skipW {P:Program}{o:Oper}{a:Act}{g g':Gh}{w w':pY}{H:sA}{e:r9}(hr:(execOp a.eval o).run P w= .ok .skip w') (h:zR g w H e g' w' undef):rS P o a g w H e:=by
 intro K Q j;unfold Oper.wp;rw[hr];exact j g' w' undef h
theorem rS.value {P:Program}{o:Oper}{a:Act}{g g':Gh}{w w':pY}{H:sA}{e:r9}{v:pZ}(hr:(execOp a.eval o).run P w= .ok (.value v) w') (h:sC g w H e g' w' v):rS P o a g w H e:= .valueW hr h.w
theorem rS.skip {P:Program}{o:Oper}{a:Act}{g g':Gh}{w w':pY}{H:sA}{e:r9}(hr:(execOp a.eval o).run P w= .ok .skip w') (h:sC g w H e g' w' undef):rS P o a g w H e:= .skipW hr h.w
theorem rS.pure {P:Program}{o:Oper}{a:Act}{g:Gh}{w:pY}{H:sA}{side:List Prop}{d:DV}{rds:pX}{v:pZ}(hH:sL g w H) (hr:(execOp a.eval o).run P w= .ok (.value v) w) (h:zA g w d v):
  rS P o a g w H ⟨side,(d,none),[],rds⟩:= .value hr (.pure hH ⟨h,trivial⟩)
section
variable {P:Program}{o:Oper}{a:Act}{g:Gh}{w:pY}{H:sA}
theorem ac {g:Gh}{w:pY}{k:IntKind}(q:Int) (j: ∀p∈(L9 k q).1,p):zA g w (L9 k q).2 (.int k (k.wrap q)):=by
 cases k<;>simp only[L9] at j|- <;>first|exact wO _ _ _ _|skip
 have h0:=j _ (aNn.2 rfl);rw[show IntKind.i64.wrap q=q from IntWalk.i64_in q pM];exact wO _ _ _ _
theorem a50 (g:Gh) {op:BinOp}{xt:TypeId}{x y:Operand}{k:IntKind}{m n:Int}{r:List Prop×DV}(hr:jf k m n op=some r) (j: ∀p∈r.1,p):
  ∃v,(do eqGuard op xt x y (.int k m) (.int k n);Go.binOp op xt (.int k m) (.int k n):Sem pZ).run P w= .ok v w/\zA g w r.2 v:=by
 cases op<;>simp only[jf,aM6,reduceCtorEq] at hr
 all_goals subst hr
 case add=>exact⟨.int k (k.wrap _),by simp [eqGuard,Go.binOp,Op.intArith],ac _ j⟩
 case sub=>exact⟨.int k (k.wrap _),by simp [eqGuard,Go.binOp,Op.intArith],ac _ j⟩
 case mul=>exact⟨.int k (k.wrap _),by simp [eqGuard,Go.binOp,Op.intArith],ac _ j⟩
 case eql=>exact⟨.bool (decide (m=n)),by simp [eqGuard,Go.binOp,Op.intCmp];rfl,w5 _ _ _⟩
 case neq=>exact⟨.bool (!decide (m=n)),by simp [eqGuard,Go.binOp,Op.intCmp,bne];rfl,w5 _ _ _⟩
 case lss=>exact⟨.bool (decide _),by simp [eqGuard,Go.binOp,Op.intCmp],w5 _ _ _⟩
 case leq=>exact⟨.bool (decide _),by simp [eqGuard,Go.binOp,Op.intCmp],w5 _ _ _⟩
 case gtr=>exact⟨.bool (decide (n<m)),by simp [eqGuard,Go.binOp,Op.intCmp],w5 _ _ _⟩
 case geq=>exact⟨.bool (decide (n<=m)),by simp [eqGuard,Go.binOp,Op.intCmp],w5 _ _ _⟩
 case quo=>
  have h0:=j _ (aNn.2 rfl);exact⟨.int k (k.wrap (Int.tdiv m n)),by simp [eqGuard,Go.binOp,Op.intDiv,h0],wO _ _ _ _⟩
 case rem=>
  have h0:=j _ (aNn.2 rfl);exact⟨.int k (Int.tmod m n),by simp [eqGuard,Go.binOp,Op.intDiv,h0],wO _ _ _ _⟩
 case and=>exact⟨.int k (bits .and k m n),by simp [eqGuard,Go.binOp,intBits_and],wO _ _ _ _⟩
 case or=>exact⟨.int k (bits .or k m n),by simp [eqGuard,Go.binOp,intBits_or],wO _ _ _ _⟩
 case xor=>exact⟨.int k (bits .xor k m n),by simp [eqGuard,Go.binOp,intBits_xor],wO _ _ _ _⟩
 case andNot=>exact⟨.int k (bits .andNot k m n),by simp [eqGuard,Go.binOp,intBits_andNot],wO _ _ _ _⟩
theorem VF (m n:pI):(m==n)=decide (m=n):=by rw[aNv];simp
theorem a52 (g:Gh) {op:BinOp}{xt:TypeId}{x y:Operand}{m n:pI}{r:List Prop×DV}(hr:ji m n op=some r) (z: ∀p∈r.1,p):
  ∃v,(do eqGuard op xt x y (.string ⟨m.toArray⟩) (.string ⟨n.toArray⟩);Go.binOp op xt (.string ⟨m.toArray⟩) (.string ⟨n.toArray⟩):Sem pZ).run P w= .ok v w/\zA g w r.2 v:=by
 have j: ∀l:pI,(⟨l.toArray⟩:ByteArray).size=l.length:=λl=>by simp [ByteArray.size]
 cases op<;>simp only[ji,aM6,reduceCtorEq] at hr
 all_goals subst hr
 case add=>
  have h0:=z _ (aNn.2 rfl);refine⟨.string ⟨(m++n).toArray⟩,?_,BR _ _ _⟩;rw[aM7] at h0;have D: ¬(((⟨m.toArray⟩:ByteArray).size+(⟨n.toArray⟩:ByteArray).size:Nat):Int) >IntKind.i64.max:=by rw[j,j,show IntKind.i64.max=9223372036854775807 from by decide];omega
  simp only[eqGuard,Go.binOp,Op.stringOp,aNi,aM9 D];simp;rfl
 case eql=>exact⟨.bool (decide (m=n)),by simp [eqGuard,Go.binOp,Op.stringOp,VF],w5 _ _ _⟩
 case neq=>exact⟨.bool (!decide (m=n)),by simp [eqGuard,Go.binOp,Op.stringOp,VF],w5 _ _ _⟩
 case lss=>exact⟨.bool (Op.bytesLess m n),by simp [eqGuard,Go.binOp,Op.stringOp],w5 _ _ _⟩
 case leq=>exact⟨.bool (Op.bytesLess m n||decide (m=n)),by simp [eqGuard,Go.binOp,Op.stringOp,VF],w5 _ _ _⟩
 case gtr=>exact⟨.bool (!(Op.bytesLess m n||decide (m=n))),by simp [eqGuard,Go.binOp,Op.stringOp,VF],w5 _ _ _⟩
 case geq=>exact⟨.bool (!Op.bytesLess m n),by simp [eqGuard,Go.binOp,Op.stringOp],w5 _ _ _⟩
theorem J9 {r:Option (List Prop×DV)}{e:r9}(h:AU r=some e): ∃q,r=some q/\e=⟨q.1,(q.2,none),[],[]⟩:=by
 cases r with
 |none=>cases h
 |some q=>obtain⟨p,d⟩:=q;exact⟨(p,d),rfl,(aNa h).symm⟩
theorem a54 (hH:sL g w H) {op:BinOp}{xt yt:TypeId}{x y:Operand}(I:o.op= .binOp op xt x y yt) {sx sy:qK}(E:rY g w sx (a.eval x)) (D:rY g w sy (a.eval y)) {e:r9}
  (hr:AU (YA op sx sy)=some e) (F: ∀p∈e.side,p):rS P o a g w H e:=by
 obtain⟨q,j,rfl⟩:=J9 hr;have go: ∀{u v:pZ},a.eval x=u->a.eval y=v->(∃z,(do eqGuard op xt x y u v;Go.binOp op xt u v:Sem pZ).run P w= .ok z w/\zA g w q.2 z)->rS P o a g w H ⟨q.1,(q.2,none),[],[]⟩:=by
  rintro u v rfl rfl ⟨z,G,K⟩;refine rS.pure hH (v:=z) ?_ K;unfold execOp;rw[I];simp only[aNi,aNu] at G|-;rw[G];rfl
 obtain⟨dx,kx⟩:=sx;obtain⟨dy,ky⟩:=sy;replace E:=E.1;replace D:=D.1;unfold YA at j;split at j
 .rename_i k m k1 k' n k2 e1 e2;simp only[aNA] at e1 e2;obtain⟨rfl,-⟩:=e1;obtain⟨rfl,-⟩:=e2;unfold Ag at j;split at j
  .cases j;have h0:=F _ (aNn.2 rfl);exact go (vF E) (vF D) ⟨.int k (jg k m n),by simp [eqGuard,Go.binOp,Op.shift,jg,Int.not_lt.2 h0],wO _ _ _ _⟩
  .cases j;have h0:=F _ (aNn.2 rfl);exact go (vF E) (vF D) ⟨.int k (jh k m n),by simp [eqGuard,Go.binOp,Op.shift,jh,Int.not_lt.2 h0],wO _ _ _ _⟩
  by_cases hk:k=k'
  .subst hk;rw[aM4 rfl] at j;exact go (vF E) (vF D) (a50 g j F)
  rw[aM9 hk] at j;cases j
 .rename_i m k1 n k2 e1 e2;simp only[aNA] at e1 e2;obtain⟨rfl,-⟩:=e1;obtain⟨rfl,-⟩:=e2;exact go (xO E) (xO D) (a52 g j F)
 cases j
theorem a55 (hH:sL g w H) {op:BinOp}{xt yt:TypeId}{x y:Operand}(G:o.op= .binOp op xt x y yt) {ti:Option TI}{sx sy:qK}(F:rY g w sx (a.eval x)) (E:rY g w sy (a.eval y)) {e:r9}
  (hr:AU (YB op ti sx sy)=some e):rS P o a g w H e:=by
 obtain⟨q,j,rfl⟩:=J9 hr;unfold YB at j;split at j
 .rename_i k m _ k' n _;by_cases hk:k=k'
  .subst hk;rw[aM4 rfl] at j;have D:=vF F.1;have z:=vF E.1;cases op<;>simp only[Ai,aM6,reduceCtorEq] at j
   all_goals subst j
   all_goals refine rS.pure hH (v:= .int k (k.wrap _)) ?_ (wO _ _ _ _)
   all_goals
    unfold execOp;rw[G];simp [D,z,eqGuard,Go.binOp,Op.intArith]
  rw[aM9 hk] at j;cases j
 cases j
theorem a56 (hH:sL g w H) {op:UnOp}{xt:TypeId}{x:Operand}(D:o.op= .unOp op xt x) {sx:qK}(z:rY g w sx (a.eval x)) {e:r9}
  (hr:AU (jl op sx)=some e) (E: ∀p∈e.side,p):rS P o a g w H e:=by
 obtain⟨q,j,rfl⟩:=J9 hr;replace z:=z.1;unfold jl at j;split at j
 .have:=vO z;cases j;refine rS.pure hH (v:= .bool _) ?_ (w5 _ _ _);simp [execOp,D,this,Op.unary]
 .rename_i k n _;have:=vF z;cases j;refine rS.pure hH (v:= .int k (k.wrap (-n))) ?_ (ac _ E);simp [execOp,D,this,Op.unary,Op.intArith]
 cases j
theorem VG {t:TypeId}{ti:TI}(h:sY P t ti): ∃d,P.underlying t=some d/\d.isRow=ti.ty.isRow:=by
 have j:=h.2;unfold xG at j;obtain⟨ty,el,by',ar,ls⟩:=ti;cases ty<;>simp only at j
 case bool=>exact⟨_,j,rfl⟩
 case int=>exact⟨_,j,rfl⟩
 case str=>exact⟨_,j,rfl⟩
 case list=>exact⟨_,j.1,rfl⟩
 case ref=>obtain⟨e,h⟩:=j;exact⟨_,h,rfl⟩
 case clo=>obtain⟨a,b,c,h⟩:=j;exact⟨_,h,rfl⟩
 case mp=>exact⟨_,j,rfl⟩
 case rl=>obtain⟨e,h⟩:=j;exact⟨_,h,rfl⟩
 case fn=>obtain⟨a,b,c,h⟩:=j;exact⟨_,h,rfl⟩
 case mref=>obtain⟨e,h⟩:=j;exact⟨_,h,rfl⟩
 all_goals
  rcases j.1 with⟨_,fs,h,_⟩ |⟨_,n,e,h,_⟩
  .exact⟨_,h,rfl⟩
  exact⟨_,h,rfl⟩
theorem H4 {t:TypeId}{ti:TI}(h:sY P t ti): ∃i,P.info? t=some i/\i.size=ti.ty.cells/\i.zero=some (y6 ti.ty):=by
 obtain⟨i,hi,j⟩:=aNh.1 h.1;simp only[aNA] at j;exact⟨i,hi,j.1,j.2⟩
theorem a57 {T:sH}(hT:vX P T) (hH:sL g w H) {st dt:TypeId}{x:Operand}(G:o.op= .convert st dt x) {sx:qK}(E:rY g w sx (a.eval x)) {e:r9}
  (hr:AU (YD (s0 T st) (s0 T dt) sx)=some e):rS P o a g w H e:=by
 obtain⟨q,D,rfl⟩:=J9 hr;replace E:=E.1;generalize F:s0 T st=os at D;generalize I:s0 T dt=od at D;unfold YD at D;split at D
 .rename_i k' k _ _ _ _ k0 n _;obtain⟨d,z,_⟩:=VG (t7 hT F);have j:=(t7 hT I).2;simp only[xG] at j;have:=vF E;cases D;refine rS.pure hH (v:= .int k (k.wrap n)) ?_ (wO _ _ _ _);simp [execOp,G,this,Go.convert,aNs z,aNs j,Conv.intToInt]
 .rename_i k' _ _ _ _ s _;obtain⟨d,z,_⟩:=VG (t7 hT F);have j:=(t7 hT I).2;simp only[xG] at j;have:=xO E;cases D;refine rS.pure hH (v:= .string ⟨List.toArray s⟩) ?_ (BR _ _ _);simp [execOp,G,this,Go.convert,aNs z,aNs j]
 .rename_i k' _ _ _ _ k0 n _;obtain⟨d,z,_⟩:=VG (t7 hT F);have j:=(t7 hT I).2;simp only[xG] at j;have:=vF E;have e1:Utf8.encode n=⟨List.toArray (IV n)⟩:=by simp [IV]
  cases D;refine rS.pure hH (v:= .string ⟨List.toArray (IV n)⟩) ?_ (BR _ _ _);simp only[execOp,G,this,run_convert_int_string w _ _ _ _ (by rw[z];rfl) j,e1,aNi,aNb,aNu]
 cases D
theorem VH {α:Type}{R:α->pU->Prop}{w:pY}{S:Nat->Nat->Prop}{c b:Nat}: ∀{l:List α}{o i:Nat}{x:α},wA R w S c b o l->l[i]? =some x->
  ∃cs,cs.length=c/\w.rangeAt b (o+i*c) cs/\(∀j,j<c->S b (o+i*c+j))/\R x cs
 |y::l,o,0,x,⟨⟨cs,F,E,D,z⟩,_⟩,h=>by
  simp only[aNC,aM6] at h;subst h;exact⟨cs,F,by simpa using E,by simpa using D,z⟩
 |y::l,o,i+1,x,⟨_,G⟩,h=>by
  simp only[aNP] at h;obtain⟨cs,F,E,D,z⟩:=VH G h;have e:o+c+i*c=o+(i+1)*c:=by rw[aN0];omega
  exact⟨cs,F,by rw[<-e];exact E,by rw[<-e];exact D,z⟩
theorem Cn {α:Type}{R:α->pU->Prop}{w:pY}{S:Nat->Nat->Prop}{c b:Nat}: ∀{l:List α}{o:Nat}(i:Nat),wA R w S c b o l->i<=l.length->wA R w S c b (o+i*c) (l.drop i)
 |_,o,0,h,_=>by simpa using h
 |[],o,i+1,_,h=>by simp at h
 |y::l,o,i+1,⟨_,j⟩,h=>by
  have:=Cn i j aO4;have e:o+c+i*c=o+(i+1)*c:=by rw[aN0];omega
  rw[<-e];simpa using this
theorem Co {α:Type}{R:α->pU->Prop}{w:pY}{S:Nat->Nat->Prop}{c b:Nat}: ∀{l:List α}{o:Nat}(i:Nat),wA R w S c b o l->wA R w S c b o (l.take i)
 |_,_,0,_=>by simp [wA]
 |[],_,_+1,_=>by simp [wA]
 |_::_,_,i+1,⟨h,j⟩=>by simpa[wA] using⟨h,Co i j⟩
theorem mg {g:Gh}{w:pY}: ∀{t:Ty}{x:t.den}{cs:pU}{f:Nat}{u:Ty}{y:u.den},Rd g w t x cs->t.proj x f=some ⟨u,y⟩->
  ∃o c1 c2 c3,t.offs f=some o/\t.fld f=some u/\cs=c1++c2++c3/\c1.length=o/\Rd g w u y c2:=by
 intro t
 induction t with
 |pair a b _ ihb=>
  intro x cs f u y r h;obtain⟨c1,c2,e,r1,r2⟩:=r;cases f with
  |zero=>
   simp only[Ty.proj,aM6,Sigma.mk.injEq] at h;obtain⟨rfl,j⟩:=h;obtain rfl:=eq_of_heq j;exact⟨0,[],c1,c2,rfl,rfl,by simpa using e,rfl,r1⟩
  |succ f=>
   simp only[Ty.proj] at h;obtain⟨o,d1,d2,d3,F,j,E,D,z⟩:=ihb r2 h;refine⟨a.cells+o,c1++d1,d2,d3,by simp [Ty.offs,F],by simpa[Ty.fld] using j,by rw[e,E];simp,?_,z⟩;rw[aM7,D,sU r1]
 |_=>intro x cs f u y r h;cases f<;>simp [Ty.proj] at h
theorem mh {P:Program}: ∀{ty:Ty}{off:Nat}{fs:List Field}{f o:Nat}{u:Ty},QS P ty off fs->ty.offs f=some o->ty.fld f=some u->
  ∃fd,fs[f]? =some fd/\fd.offset=off+o/\(P.info? fd.type).map (·.size)=some u.cells/\(P.underlying fd.type).map (·.isRow)=some u.isRow:=by
 intro ty
 induction ty with
 |pair a b _ ihb=>
  intro off fs f o u h j z;cases fs with
  |nil=>exact h.elim
  |cons fd fs=>
   obtain⟨I,G,F,E⟩:=h;cases f with
   |zero=>
    simp only[Ty.offs,aM6] at j;simp only[Ty.fld,aM6] at z;subst j;subst z;exact⟨fd,rfl,pM,G,F⟩
   |succ f=>
    simp only[Ty.offs,aNh] at j;obtain⟨o',D,rfl⟩:=j;obtain⟨fd',k1,k2,k3,k4⟩:=ihb E D z;exact⟨fd',by simpa using k1,pM,k3,k4⟩
 |_=>intro off fs f o u h j z;cases f<;>simp [Ty.offs] at j
theorem mi {P:Program}{e:TypeId}: ∀{ty:Ty}{n f o:Nat}{u:Ty},QT P e ty n->ty.offs f=some o->ty.fld f=some u->
  f<n/\(P.info? e).map (·.size)=some u.cells/\(P.underlying e).map (·.isRow)=some u.isRow/\o=f*u.cells:=by
 intro ty
 induction ty with
 |pair a b _ ihb=>
  intro n f o u h j z;cases n with
  |zero=>exact h.elim
  |succ n=>
   obtain⟨D,I,G⟩:=h;cases f with
   |zero=>
    simp only[Ty.offs,aM6] at j;simp only[Ty.fld,aM6] at z;subst j;subst z;exact⟨pM,D,I,by simp⟩
   |succ f=>
    simp only[Ty.offs,aNh] at j;obtain⟨o',E,rfl⟩:=j;obtain⟨k1,k2,k3,k4⟩:=ihb G E z;rw[D] at k2;have F:a.cells=u.cells:=aNa k2;exact⟨pM,by rw[D,F],k3,by rw[k4,F,aN0];omega⟩
 |_=>intro n f o u h j z;cases f<;>simp [Ty.offs] at j
theorem QU {t:TypeId}{u:Ty}(hi:(P.info? t).map (·.size)=some u.cells) (hr:(P.underlying t).map (·.isRow)=some u.isRow) {y:u.den}{c1 c2 c3:pU}(h:Rd g w u y c2):
  ∃v,(part t (c1++c2++c3).toArray c1.length).run P w= .ok v w/\sR g w u y v:=by
 obtain⟨i,hi,G⟩:=aNh.1 hi;obtain⟨d,I,z⟩:=aNh.1 hr;have F:=sU h;by_cases E:u.isRow=true
 .refine⟨.agg c2.toArray,?_,.inl ⟨E,c2,rfl,h⟩⟩;have j:(isAgg t).run P w= .ok true w:=by
   unfold isAgg;rw[aNi,aNs I w];rw[E] at z;cases d<;>simp_all [TypeDesc.isRow]
  simp only[part,aNi,j,aNb,aOc,sizeOf,typeInfo,aN1,hi,G,aNu];congr 2;apply aOe.1;simp [<-F]
 have D:u.isRow=false:=by simpa using E
 have K:u.cells=1:=by cases u<;>first|rfl|(simp [Ty.isRow] at D)
 obtain⟨v,rfl⟩: ∃v,c2=[v]:=by
  rw[K] at F;exact aOm.1 F
 refine⟨v,?_,.inr ⟨D,h⟩⟩;have j:(isAgg t).run P w= .ok false w:=by
  unfold isAgg;rw[aNi,aNs I w];rw[D] at z;cases d<;>simp_all [TypeDesc.isRow]
 simp only[part,aNi,j,aNb];simp
theorem mj {t:TypeId}{ti:TI}(h:sY P t ti) (hr:ti.ty.isRow=true):
  (ti.arr=false/\∃fs,P.underlying t=some (.struct fs)/\QS P ti.ty 0 fs.toList)\/(ti.arr=true/\∃n e,P.underlying t=some (.array n e)/\QT P e ti.ty n/\(P.info? e).isSome=true):=by
 have j:=h.2;unfold xG at j;obtain⟨ty,el,by',ar,ls⟩:=ti;cases ty<;>simp only[Ty.isRow,aNJ] at hr<;>first|exact j.1|exact j.elim
theorem Cp {t:TypeId}{ti:TI}(h:sY P t ti) (hr:ti.ty.isRow=true) (j:ti.arr=false): ∃fs,P.underlying t=some (.struct fs)/\QS P ti.ty 0 fs.toList:=by
 rcases mj h hr with⟨_,h⟩ |⟨h,_⟩
 .exact h
 rw[j] at h;cases h
theorem ml {t:TypeId}{ti:TI}(h:sY P t ti) (hr:ti.ty.isRow=true) (j:ti.arr=true): ∃n e,P.underlying t=some (.array n e)/\QT P e ti.ty n/\(P.info? e).isSome=true:=by
 rcases mj h hr with⟨h,_⟩ |⟨_,h⟩
 .rw[j] at h;cases h
 exact h
theorem a58 {t:Ty}{x:t.den}{f:Nat}{q: Σ u:Ty,u.den}(h:t.proj x f=some q):t.isRow=true:=by
 cases t<;>first|rfl|(cases f<;>simp [Ty.proj] at h)
theorem a59 {t:Ty}{f o:Nat}(h:t.offs f=some o):t.isRow=true:=by
 cases t<;>first|rfl|(cases f<;>simp [Ty.offs] at h)
end
theorem a6a (l:pI) (n:Nat) (h:n<l.length):(⟨l.toArray⟩:ByteArray)[n]? =some l[n]:=by
 have:n<(⟨l.toArray⟩:ByteArray).size:=by simpa[ByteArray.size] using h
 rw[getElem?_pos (⟨l.toArray⟩:ByteArray) n this];rfl
theorem yT {i:Int}{n:Nat}(h0:0<=i) (j:i<n):i.toNat<n:=by omega
theorem Cq {i:Int}{n:Nat}(h0:0<=i) (j:i.toNat<n):i<n:=by omega
section
variable {P:Program}{o:Oper}{a:Act}{g:Gh}{w:pY}{H:sA}{T:sH}(hT:vX P T) (hH:sL g w H)
include hT hH
theorem a6b {t:TypeId}{x:Operand}{f:Nat}(Q:o.op= .field t x f) {sx:qK}(D:rY g w sx (a.eval x)) {e:r9}(hr:lc f (s0 T t) sx=some e):rS P o a g w H e:=by
 generalize O:s0 T t=ot at hr;replace D:=D.1;unfold lc at hr;split at hr
 .rename_i ty el by' ls_ u y _;split at hr
  .rename_i M;subst M;have G:=t7 hT O;generalize hp:u.proj y f=q at hr;cases q with
   |none=>cases hr
   |some q=>
    obtain⟨u,z⟩:=q;cases hr;have j:=a58 hp;obtain⟨cs,hv,R⟩:=DS j D;obtain⟨oo,c1,c2,c3,X,V,rfl,rfl,U⟩:=mg R hp;obtain⟨fs,I,K⟩:=Cp G j rfl;obtain⟨fd,k1,k2,k3,k4⟩:=mh K X V;obtain⟨v,F,E⟩:=QU k3 k4 (P:=P) (c1:=c1) (c3:=c3) U;refine rS.pure hH (v:=v) ?_ E;have k1':fs[f]? =some fd:=by simpa using k1
    simp only[execOp,Q,hv,Instr.field,aNi,aNs I,aNb,k1',asAgg,aNu,k2,aNF,F]
  cases hr
 cases hr
theorem mm {t:TypeId}{ti:TI}(j:sY P t ti) (G:ti.arr=false) {f oo:Nat}{u:Ty}(I:ti.ty.offs f=some oo) (M:ti.ty.fld f=some u) (K:0<u.cells) (b off:Nat):
  (Instr.fieldAt t (.pointer (some ⟨b,off,none⟩)) f).run P w= .ok (.pointer (some ⟨b,off+oo,none⟩)) w:=by
 obtain⟨fs,E,F⟩:=Cp j (a59 I) G;obtain⟨fd,k1,k2,k3,k4⟩:=mh F I M;obtain⟨i,hi,z⟩:=aNh.1 k3;have k1':fs[f]? =some fd:=by simpa using k1
 have D: ¬(u.cells=0):=by omega
 simp only[Instr.fieldAt,aNi,aNs E,aNb,k1',Instr.sureAddr,aNu,fieldPlace,sizeOf,typeInfo,aN1,hi,z,aM9 D,k2,aNF,aOg]
theorem a6c {t:TypeId}{x:Operand}{f:Nat}(M:o.op= .fieldAddr t x f) {sx:qK}(F:rY g w sx (a.eval x)) {e:r9}(hr:la f (s0 T t) sx=some e):rS P o a g w H e:=by
 generalize K:s0 T t=ot at hr;replace F:=F.1;unfold la at hr;split at hr
 .rename_i ty el by' ls_ k n c i o' _;have E:=t7 hT K;generalize I:ty.offs f=o1 at hr;generalize G:ty.fld f=o2 at hr;unfold Bk at hr;split at hr
  .split at hr
   .rename_i oo u D;cases hr;obtain⟨b,cap,hc,V,U,hv⟩:=F;refine rS.pure hH (v:= .pointer (some ⟨b,i.toNat*c+o'+oo,none⟩)) ?_ ⟨b,cap,hc,V,U,by rw[aNN]⟩;simp only[execOp,M,hv,aNi,mm hT hH E rfl I G D,aNb,aNu]
   cases hr
  cases hr
 .rename_i ty el by' ls_ u y _;split at hr
  .rename_i Z;subst Z;have E:=t7 hT K;generalize hp:u.proj y f=q at hr;cases q with
   |none=>cases hr
   |some q=>
    obtain⟨u,z⟩:=q;simp only[Z6] at hr;split at hr
    .rename_i D;cases hr;obtain⟨b,off,cs,hv,Q,hS,X⟩:=F;obtain⟨oo,c1,c2,c3,I,G,rfl,rfl,Y⟩:=mg X hp;refine rS.pure hH (v:= .pointer (some ⟨b,off+c1.length,none⟩)) ?_ ⟨b,off+c1.length,c2,rfl,λj v O=>?_,λj O=>?_,Y⟩
     .simp only[execOp,M,hv,aNi,mm hT hH E rfl I G D,aNb,aNu]
     .have:=Q (c1.length+j) v (by
       have R:=(aNl.1 O).1;rw[aNd,aNg pM,aNM,aNo R];exact O)
      rw[aNN];exact this
     have:=hS (c1.length+j) (by
      have:=sU X;have h6:=sU Y;simp only[aM7] at this;omega)
     rw[aNN];exact this
    cases hr
  cases hr
 .rename_i ty el by' ls_ i off _;have E:=t7 hT K;generalize I:ty.offs f=o1 at hr;generalize G:ty.fld f=o2 at hr;unfold Z7 at hr;split at hr
  .split at hr
   .rename_i oo u D;cases hr;obtain⟨p,hp,hv⟩:=zB F;refine rS.pure hH (v:= .pointer (some ⟨p.1,p.2+off+oo,none⟩)) ?_ (.inr ⟨rfl,p,hp,by rw[aNN]⟩);simp only[execOp,M,hv,aNi,mm hT hH E rfl I G D,aNb,aNu]
   cases hr
  cases hr
 cases hr
theorem a6d {x:Operand}{i:Nat}(I:o.op= .extract x i) {sx:qK}(E:rY g w sx (a.eval x)) {e:r9}(hr:lh i sx=some e) (G: ∀p∈e.side,p):rS P o a g w H e:=by
 replace E:=E.1;unfold lh at hr;split at hr
 rotate_left
 .rename_i b p c _;have run: ∀(v:pZ) (vs:Array pZ),a.eval x= .tuple vs->vs[i]? =some v->(execOp a.eval o).run P w= .ok (.value v) w:=by
   intro v vs z j;simp [execOp,I,z,Instr.extract,j]
  obtain⟨z,j⟩:=E;unfold Bm at hr;split at hr
  .cases hr;cases b with
   |true=>exact rS.pure hH (run (.bool true) _ (z rfl) rfl) (w5 _ _ _)
   |false=>exact rS.pure hH (run (.bool false) _ (j rfl) rfl) (w5 _ _ _)
  .cases hr;have hb:=G (b=true) pO;exact rS.pure hH (run (.int .i64 p) _ (z hb) rfl) (wO _ _ _ _)
  .cases hr;have hb:=G (b=true) pO;exact rS.pure hH (run (.int .i32 c) _ (z hb) rfl) (wO _ _ _ _)
  cases hr
 rotate_left
 .rename_i l _;obtain⟨vs,hv,K⟩:=E;have key: ∀(l:List ((Σ t:Ty,t.den)×pW)) (vs:pU) (i:Nat),QQ g w l vs->Z8 l i=some e->∃v,vs[i]? =some v/\rY g w e.slot v/\e.upd=[]/\e.rds=[]:=by
   intro l
   induction l with
   |nil=>intro vs i _ h;cases i<;>cases h
   |cons q l ih=>
    obtain⟨⟨t,x⟩,k⟩:=q;rintro vs i ⟨v,vs',rfl,r1,r2,r3⟩ h;cases i with
    |zero=>
     simp only[Z8,aM6] at h;subst h;refine⟨v,rfl,?_,rfl,rfl⟩;have gen:rY g w (.val t x,k) v:=⟨r1,by
      cases k with
      |none=>trivial
      |some k=>exact r2⟩
     cases t with
     |rl e u=>
      cases x with
      |none=>exact⟨r1,trivial⟩
      |some q=>
       obtain⟨k',n⟩:=q;obtain⟨v',z,j,D⟩:=B2 rfl r1;simp only[aNW,and_true] at j;subst j;exact⟨⟨z,D⟩,trivial⟩
     |_=>exact gen
    |succ i=>
     obtain⟨v',z,j,D,F⟩:=ih vs' i r3 h;exact⟨v',by simpa using z,j,D,F⟩
  obtain⟨v,z,j,D,F⟩:=key l vs i K hr;obtain⟨side,slot,upd,rds⟩:=e;simp only at j D F;subst D;refine rS.value (v:=v) (g':=g) (w':=w) ?_ (.pure hH j);have:vs.toArray[i]? =some v:=by simpa using z
  simp [execOp,I,hv,Instr.extract,this]
 cases hr
theorem a6e {x:Operand}(z:o.op= .nilCheck x) {sx:qK}(j:rY g w sx (a.eval x)) {e:r9}(hr:kz sx=some e):rS P o a g w H e:=by
 replace j:=j.1;unfold kz at hr;split at hr
 .rename_i p _;obtain⟨i,off⟩:=p;cases hr;obtain⟨p,hp,hv⟩:=zB j;refine rS.pure hH (v:=a.eval x) ?_ j;simp [execOp,z,hv]
 .cases hr;obtain⟨b,off,cs,hv,h⟩:=j;refine rS.pure hH (v:=a.eval x) ?_ ⟨b,off,cs,hv,h⟩;simp [execOp,z,hv]
 .cases hr;obtain⟨b,cap,F,E,D,hv⟩:=j;refine rS.pure hH (v:=a.eval x) ?_ ⟨b,cap,F,E,D,hv⟩;simp [execOp,z,hv]
 cases hr
theorem a6f {t:TypeId}{x ix:Operand}(K:o.op= .index t x ix) {sx si:qK}(E:rY g w sx (a.eval x)) (hi:rY g w si (a.eval ix)) {e:r9}(hr:lg (s0 T t) sx si=some e) (I: ∀p∈e.side,p):rS P o a g w H e:=by
 generalize hst:s0 T t=ot at hr;replace E:=E.1;replace hi:=hi.1;unfold lg at hr;split at hr
 .rename_i _ _ _ _ l _ k i _;cases hr;have hb:=I _ (aNn.2 rfl);have G:=(t7 hT hst).2;simp only[xG] at G;have hv:=xO E;have F:=vF hi;have z:(Int.toNat i)<List.length l:=yT hb.1 hb.2;refine rS.pure hH (v:= .int .u8 (qZ l i)) ?_ (wO _ _ _ _);have D:(if (0:Int)<=i then(⟨List.toArray l⟩:ByteArray)[Int.toNat i]? else none)=some (l[Int.toNat i]):=by
   rw[aM4 hb.1];exact a6a l _ z
  have j:qZ l i=((l[Int.toNat i]).toNat:Int):=by
   unfold qZ;rw[aNy,aNe z];rfl
  simp only[execOp,K,hv,F,Instr.index,asIntOf,aNi,aNu,aNb,aNs G,D,j]
 cases hr
omit hT hH in
theorem Cr {e:TypeId}: ∀{t:Ty}{n:Nat},QT P e t n->n=QF t
 | .unit,0,_=>rfl
 | .pair a b,n+1,h=>by rw[show QF (.pair a b)=QF b+1 from rfl,<-Cr (t:=b) h.2.2]
omit hT hH in
theorem a6g {t:Ty}{x:t.den}{v:pZ}(h:zA g w (.at t x) v):zA g w (ld t x) v:=by
 unfold ld;split
 .rename_i e;subst e;obtain⟨b,o,cs,E,D,z,j⟩:=h;exact⟨b,o,cs,E,D,z,a5T j⟩
 exact h
theorem a6h {t:TypeId}{x ix:Operand}(V:o.op= .indexAddr t x ix) {sx si:qK}(O:rY g w sx (a.eval x)) (hi:rY g w si (a.eval ix)) {e:r9}(hr:lf (s0 T t) sx si=some e) (U: ∀p∈e.side,p):rS P o a g w H e:=by
 generalize hst:s0 T t=ot at hr;replace O:=O.1;replace hi:=hi.1;unfold lf at hr;split at hr
 .rename_i t' el by' ar ls_ k n _ k' i _;split at hr
  .rename_i M;cases hr;have hb:=U _ (aNn.2 rfl);obtain⟨Q,h3,_⟩:=(t7 hT hst).2;obtain⟨ei,E,I⟩:=aNh.1 h3;simp only[aNA] at I;have D:=vF hi;obtain⟨hc,hv⟩:=O;rcases hv with⟨_,rfl⟩ |⟨b,cap,hv,hy⟩
   .exact absurd (Int.lt_of_le_of_lt hb.1 hb.2) (Int.lt_irrefl 0)
   refine rS.pure hH (v:= .pointer (some ⟨b,0+Int.toNat i*t'.cells,none⟩)) ?_ ⟨b,cap,by rw[<-hv];exact hc,hb.1,hb.2,by rw[aNF,aOd]⟩;simp only[execOp,V,hv,D,Instr.indexAt,asIntOf,aNi,aNu,aNb,aNs Q,sizeOf,typeInfo,aN1,E,I.1,aM4 hb,aOg]
  cases hr
 .rename_i t' el by' ar ls_ t1 l _ k i _;split at hr
  .rename_i he;subst he;cases hr;have hb:=U _ (aNn.2 rfl);obtain⟨Q,h3,_⟩:=(t7 hT hst).2;obtain⟨ei,E,I⟩:=aNh.1 h3;simp only[aNA] at I;have D:=vF hi;obtain⟨ad,cap,hv,hA,hl⟩:=EY O;have Y:(Int.toNat i)<List.length l:=yT hb.1 hb.2;rcases hl with rfl|⟨b,off,rfl,hL⟩
   .simp at Y
   have Z:l[Int.toNat i]? =some (qH t1 l i):=by
    unfold qH;rw[aNy,aNe Y];rfl
   obtain⟨cs,hB,hw,ht,hq⟩:=VH hL Z;refine rS.pure hH (v:= .pointer (some ⟨b,off+Int.toNat i*t1.cells,none⟩)) ?_ (a6g ⟨b,_,cs,rfl,hw,ht,hq⟩);simp only[execOp,V,hv,D,Instr.indexAt,asIntOf,aNi,aNu,aNb,aNs Q,sizeOf,typeInfo,aN1,E,I.1,aM4 hb,aOg]
  cases hr
 .rename_i s u el by' ls_ i off _ k n _;have K:=t7 hT hst;split at hr
  .cases hr;obtain⟨F,X⟩:=U _ (aNn.2 rfl);obtain⟨p,hp,hv⟩:=zB O;have D:=vF hi;obtain⟨len,el',R,G,_⟩:=ml K rfl rfl;have ha:len=QF (.pair s u):=Cr G;have hg:(P.info? el').map (·.size)=some s.cells:=by
    cases len with
    |zero=>exact G.elim
    |succ len=>exact G.1
   obtain⟨ei,E,I⟩:=aNh.1 hg;have hb:(0:Int)<=n/\(n:Int)<(len:Int):=⟨F,by rw[ha];exact X⟩;refine rS.pure hH (v:= .pointer (some ⟨p.1,p.2+off+n.toNat*s.cells,none⟩)) ?_ ⟨p,hp,F,X,rfl⟩;simp only[execOp,V,hv,D,Instr.indexAt,Instr.sureAddr,asIntOf,aNi,aNu,aNb,aNs R,sizeOf,typeInfo,aN1,E,I,aM4 hb,aOg]
  generalize h1:(Ty.pair s u).offs (Int.toNat n)=o1 at hr;generalize Q:(Ty.pair s u).fld (Int.toNat n)=o2 at hr;unfold Z7 at hr;split at hr
  .split at hr
   .rename_i oo v M;cases hr;have F:=U _ (aNn.2 rfl);obtain⟨p,hp,hv⟩:=zB O;have D:=vF hi;obtain⟨len,el',R,G,_⟩:=ml K rfl rfl;obtain⟨k1,k2,k3,k4⟩:=mi G h1 Q;obtain⟨ei,E,I⟩:=aNh.1 k2;have hb:(0:Int)<=n/\(n:Int)<(len:Int):=⟨F,Cq F k1⟩;refine rS.pure hH (v:= .pointer (some ⟨p.1,p.2+off+oo,none⟩)) ?_ (.inr ⟨rfl,p,hp,by rw[aNN]⟩);simp only[execOp,V,hv,D,Instr.indexAt,Instr.sureAddr,asIntOf,aNi,aNu,aNb,aNs R,sizeOf,typeInfo,aN1,E,I,aM4 hb,aOg,k4]
   cases hr
  cases hr
 .rename_i s u el by' ls_ u' y _ k n _;split at hr
  .rename_i hd;subst hd;have K:=t7 hT hst;generalize hp:(Ty.pair s u).proj y (Int.toNat n)=q at hr;cases q with
   |none=>cases hr
   |some q=>
    obtain⟨v,z⟩:=q;simp only[Z6] at hr;split at hr
    .rename_i M;cases hr;have F:=U _ (aNn.2 rfl);obtain⟨b,off,cs,hv,hh,hS,hR⟩:=O;have D:=vF hi;obtain⟨oo,c1,c2,c3,h1,Q,rfl,rfl,h5⟩:=mg hR hp;obtain⟨len,el',R,G,_⟩:=ml K rfl rfl;obtain⟨k1,k2,k3,k4⟩:=mi G h1 Q;obtain⟨ei,E,I⟩:=aNh.1 k2;have hb:(0:Int)<=n/\(n:Int)<(len:Int):=⟨F,Cq F k1⟩;refine rS.pure hH (v:= .pointer (some ⟨b,off+c1.length,none⟩)) ?_ ⟨b,off+c1.length,c2,rfl,λj v hj=>?_,λj hj=>?_,h5⟩
     .simp only[execOp,V,hv,D,Instr.indexAt,Instr.sureAddr,asIntOf,aNi,aNu,aNb,aNs R,sizeOf,typeInfo,aN1,E,I,aM4 hb,aOg,<-k4]
     .have:=hh (c1.length+j) v (by
       have hn:=(aNl.1 hj).1;rw[aNd,aNg pM,aNM,aNo hn];exact hj)
      rw[aNN];exact this
     have:=hS (c1.length+j) (by
      have:=sU hR;have h6:=sU h5;simp only[aM7] at this;omega)
     rw[aNN];exact this
    cases hr
  cases hr
 cases hr
end
theorem Cs (off:Nat): ∀(vl:pU) (k:Nat) (cs:Array pZ) (c1 c2 c3:pU),cs.toList=c1++c2++c3->c1.length=off+k->c2.length=vl.length->
  ((vl.zipIdx k).foldl (fun(cs:Array pZ) (p:pZ×Nat)=>cs.setIfInBounds (off+p.2) p.1) cs).toList=c1++vl++c3
 |[],_,cs,c1,c2,c3,h,_,j=>by
  have:c2=[]:=aND aO5;subst this;simpa using h
 |v::vl,k,cs,c1,c2,c3,h,z,j=>by
  cases c2 with
  |nil=>simp at j
  |cons u c2=>
   simp only[List.zipIdx_cons,List.foldl_cons];have:=Cs off vl (k+1) (cs.setIfInBounds (off+k) v) (c1++[v]) c2 c3 (by
    rw[Array.toList_setIfInBounds,h,<-z];simp) pP aO5
   rw[this];simp
theorem a6i (off:Nat) (vs cs:Array pZ) (c1 c2 c3:pU) (h:cs.toList=c1++c2++c3) (D:c1.length=off) (z:c2.length=vs.size):
  (vs.zipIdx.foldl (fun(cs:Array pZ) (x:pZ×Nat)=>match x with|(c,j)=>cs.setIfInBounds (off+j) c) cs).toList=c1++vs.toList++c3:=by
 rw[<-aO0,Array.toList_zipIdx];exact Cs off vs.toList 0 cs c1 c2 c3 h pM aO6
theorem mn {place:Nat->pV}{cells:Array pZ}{i:Nat}{v:pZ}{rest:List (Nat×pZ)}{off size:Nat}{c1 c2 c3:pU}(hp:place i=some (off,size)) (j:v.cells.size=size)
  (h:cells.toList=c1++c2++c3) (z:c1.length=off) (E:c2.length=size):
  Instr.fill place cells ((i,v)::rest)=Instr.fill place (c1++v.cells.toList++c3).toArray rest:=by
 have D:cells.size=c1.length+c2.length+c3.length:=by rw[<-aN7,h];simp;omega
 simp only[Instr.fill,hp];rw[aM9 (by simp [j];omega)];congr 1;apply aOe.1;rw[a6i off v.cells cells c1 c2 c3 h z pM]
theorem mq {k:Nat}: ∀{t:Ty}{o:Nat}{cs:pU},LK t=false->cs.length=t.cells->y5 k t o cs
 | .bool,_,_,_,_=>trivial
 | .int _,_,_,_,_=>trivial
 | .str,_,_,_,_=>trivial
 | .unit,_,_,_,_=>trivial
 | .ref,_,_,_,_=>trivial
 | .clo,_,_,_,_=>trivial
 | .mp,_,_,_,_=>trivial
 | .rl _ _,_,_,_,_=>trivial
 | .fn,_,_,_,_=>trivial
 | .mref,_,_,_,_=>trivial
 | .part,_,_,_,_=>trivial
 | .list _,_,_,h,_=>by simp [LK] at h
 | .pair a b,_,cs,h,j=>by
  simp only[LK,aOZ] at h;simp only[Ty.cells] at j;exact⟨cs.take a.cells,cs.drop a.cells,by simp,by rw[aNR];omega,mq h.1 (by rw[aNR];omega),mq h.2 (by rw[aNE];omega)⟩
theorem mr: ∀t:Ty,(uN t).length=t.cells
 | .bool=>rfl
 | .int _=>rfl
 | .str=>rfl
 | .unit=>rfl
 | .ref=>rfl
 | .clo=>rfl
 | .mp=>rfl
 | .rl _ _=>rfl
 | .fn=>rfl
 | .mref=>rfl
 | .part=>rfl
 | .list _=>rfl
 | .pair a b=>by simp only[uN,aM7,mr a,mr b,Ty.cells]
theorem ae {k:Nat}: ∀(t:Ty) (o:Nat),y5 k t o (uN t)
 | .bool,_=>trivial
 | .int _,_=>trivial
 | .str,_=>trivial
 | .unit,_=>trivial
 | .ref,_=>trivial
 | .clo,_=>trivial
 | .mp,_=>trivial
 | .rl _ _,_=>trivial
 | .fn,_=>trivial
 | .mref,_=>trivial
 | .part,_=>trivial
 | .list _,_=> .inr rfl
 | .pair a b,_=>⟨uN a,uN b,rfl,mr a,ae a _,ae b _⟩
theorem Ct {g:Gh}{w:pY}{k:Nat}: ∀{t:Ty}{x:t.den}{cs:pU}{off o:Nat},y5 k t off cs->Rd g w t x cs->FN t o=true->off+o+1≠k->∃(u:Ty),rR (.list u) t x o=some []/\cs[o]? =some (.slice none 0 0):=by
 intro t
 induction t with
 |pair a b iha ihb=>
  intro x cs off o F hr z hk;obtain⟨c1,c2,e,G,M,K⟩:=F;obtain⟨d1,d2,e',r1,r2⟩:=hr;have I:c1=d1/\c2=d2:=aOT (e.symm.trans e') (by rw[G,sU r1]);obtain⟨rfl,rfl⟩:=I;have key: ∀(u:Ty) q,rR (.list u) (.pair a b) x q=if q<a.cells then rR (.list u) a x.1 q else rR (.list u) b x.2 (q-a.cells):=by
   intro u q;cases q with
   |zero=>
    conv=>lhs;unfold rR
    rw[aOA aO7,Nat.zero_sub]
   |succ q=>simp [rR]
  have j:(if o<a.cells then FN a o else FN b (o-a.cells))=true:=by
   cases o<;>simpa[FN] using z
  by_cases E:o<a.cells
  .rw[aM4 E] at j;obtain⟨u,k1,k2⟩:=iha M r1 j hk;exact⟨u,by rw[key,aM4 E];exact k1,by rw[e,aNo pM];exact k2⟩
  .rw[aM9 E] at j;obtain⟨u,k1,k2⟩:=ihb K r2 j pM;exact⟨u,by rw[key,aM9 E];exact k1,by rw[e,aNg pM,G];exact k2⟩
 |list u=>
  intro x cs off o F hr z hk;cases o with
  |succ o=>simp [FN] at z
  |zero=>
   obtain⟨a,cap,e,_,_⟩:=hr;have D:cs=[.slice none 0 0]:=F.resolve_left aO8;rw[D] at e;simp only[aNW,aOn,and_true] at e;have:(x:List u.den)=[]:=aND e.2.1.symm;subst this;exact⟨u,by unfold rR;simp [uF],by rw[D];rfl⟩
 |_=>intro x cs off o F hr z;cases o<;>simp [FN] at z
theorem a6j {g:Gh}{w:pY}{u:Ty}{y:u.den}{cy:pU}(D:Rd g w u y cy): ∀{t:Ty}{x z:t.den}{cs:pU}{f:Nat},Rd g w t x cs->Ty.setPart u y t x f=some z->
  ∃o c1 c2 c3,t.offs f=some o/\t.fld f=some u/\cs=c1++c2++c3/\c1.length=o/\c2.length=u.cells/\Rd g w t z (c1++cy++c3)/\(∀k off,y5 k t off cs->y5 k u (off+o) cy->y5 k t off (c1++cy++c3)):=by
 intro t
 induction t with
 |pair a b _ ihb=>
  intro x z cs f r h;obtain⟨c1,c2,e,r1,r2⟩:=r;cases f with
  |zero=>
   simp only[Ty.setPart] at h;split at h
   .rename_i E;subst E;simp only[uF,aM6] at h;subst h;refine⟨0,[],c1,c2,rfl,rfl,by simpa using e,rfl,sU r1,⟨cy,c2,by simp,D,r2⟩,λk off ⟨d1,d2,e',k1,_,k3⟩ j=>?_⟩;obtain⟨rfl,rfl⟩:=aOT (e'.symm.trans e) (by rw[k1,sU r1]);exact⟨cy,d2,by simp,sU D,j,k3⟩
   .cases h
  |succ f=>
   simp only[Ty.setPart,aNh] at h;obtain⟨q,F,rfl⟩:=h;obtain⟨o,d1,d2,d3,R,Q,O,M,K,I,G⟩:=ihb r2 F;refine⟨a.cells+o,c1++d1,d2,d3,by simp [Ty.offs,R],by simpa[Ty.fld] using Q,by rw[e,O];simp,?_,K,⟨c1,d1++cy++d3,by simp,r1,I⟩,λk off ⟨k1,k2,e',k3,k4,k5⟩ j=>by
    obtain⟨rfl,rfl⟩:=aOT (e'.symm.trans e) (by rw[k3,sU r1]);exact⟨k1,d1++cy++d3,by simp,k3,k4,G k _ k5 (by rw[aNN];exact j)⟩⟩
   rw[aM7,M,sU r1]
 |_=>intro x z cs f r h;cases f<;>simp [Ty.setPart] at h
theorem ms {g:Gh}{w:pY}{t:Ty}{ev:Operand->pZ}{ρ:Operand->qK}{place:Nat->pV}(hp: ∀f o u,t.offs f=some o->t.fld f=some u->place f=some (o,u.cells)):
  ∀(ps:List (Nat×Operand)) (x z:t.den) (cs:pU),Rd g w t x cs->(∀q∈ps,rY g w (ρ q.2) (ev q.2))->AV t (some x) (uQ ρ ps)=some z->
  ∃cs',Instr.fill place cs.toArray (ps.map λq=>(q.1,ev q.2))=some cs'.toArray/\Rd g w t z cs'/\(∀m k,AY t (uQ ρ ps)=some m->m=0\/m=k->y5 k t 0 cs->y5 k t 0 cs')
 |[],x,z,cs,r,_,h=>by
  simp only[uQ,AV,aM6] at h;subst h;exact⟨cs,rfl,r,λ_ _ _ _ h=>h⟩
 |(i,q)::ps,x,z,cs,r,V,h=>by
  have h0:=V (i,q) pO;have step: ∀{u:Ty}{y:u.den}{z1:t.den},sR g w u y (ev q)->Ty.setPart u y t x i=some z1->AV t (some z1) (uQ ρ ps)=some z->(∀m k,AY t (uQ ρ ((i,q)::ps))=some m->m=0\/m=k->(∀o,t.offs i=some o->y5 k u o (ev q).cells.toList)/\∃m',AY t (uQ ρ ps)=some m'/\(m'=0\/m'=k))->
    ∃cs',Instr.fill place cs.toArray (((i,q)::ps).map λq=>(q.1,ev q.2))=some cs'.toArray/\Rd g w t z cs'/\(∀m k,AY t (uQ ρ ((i,q)::ps))=some m->m=0\/m=k->y5 k t 0 cs->y5 k t 0 cs'):=by
   intro u y z1 hv D h F;obtain⟨o,c1,c2,c3,Y,h2,rfl,h4,h5,h6,h7⟩:=a6j (EX hv) r D;obtain⟨cs',hf,hr,Z⟩:=ms hp ps z1 z _ h6 (λq O=>V q (by simp [O])) h;refine⟨cs',?_,hr,λm k j hm U=>?_⟩
   rotate_left
   .obtain⟨q1,m',q2,q3⟩:=F m k j hm;exact Z m' k q2 q3 (h7 k 0 U (by rw[aNF];exact q1 o Y))
   simp only[aN8];rw[mn (hp i o u Y h2) (by have:=sU (EX hv);simpa using this) (c1:=c1) (c2:=c2) (c3:=c3) pO h4 h5];exact hf
  generalize M:ρ q=s at h0;simp only[uQ,M] at h;obtain⟨d,k⟩:=s;cases d with
  |val u y=>
   simp only[AV] at h;generalize D:Ty.setPart u y t x i=o1 at h;cases o1 with
   |none=>cases ps with
    |nil=>simp [uQ,AV] at h
    |cons p ps=>simp [uQ,AV] at h
   |some z1=>
    have F: ∀m k,AY t (uQ ρ ((i,q)::ps))=some m->m=0\/m=k->(∀o,t.offs i=some o->y5 k u o (ev q).cells.toList)/\∃m',AY t (uQ ρ ps)=some m'/\(m'=0\/m'=k):=by
     intro m k j hm;simp only[uQ,M,AY] at j;cases K:LK u with
     |false=>
      rw[K] at j;simp only[YT] at j;exact⟨λo _=>mq K (sU (EX h0.1)),m,j,hm⟩
     |true=>
      rw[K] at j;cases E:jz u with
      |false=>rw[E] at j;simp [YT] at j
      |true=>
       rw[E] at j;simp only[YT] at j;cases X:t.offs i with
       |none=>rw[X] at j;simp [YS] at j
       |some o=>
        rw[X] at j;cases G:AY t (uQ ρ ps) with
        |none=>rw[G] at j;simp [YS] at j
        |some m'=>
         rw[G] at j;simp only[YS] at j;split at j
         .rename_i R;subst R;simp only[aM6] at j;refine⟨λo' Q=>?_,0,rfl,.inl rfl⟩;obtain rfl:=aNa Q;cases u with
          |list u=>exact .inl pM
          |_=>simp [jz] at E
         cases j
    obtain⟨cs',k1,k2,k3⟩:=step h0.1 D h F;exact⟨cs',k1,k2,k3⟩
  |nilS=>
   simp only[AV] at h;generalize ha:t.fld i=fl at h;cases fl with
   |none=>cases ps<;>simp [YF,uQ,AV] at h
   |some u=>
    cases u with
    |list u=>
     simp only[YF] at h;generalize D:Ty.setPart (.list u) [] t x i=o1 at h;cases o1 with
     |none=>cases ps<;>simp [uQ,AV] at h
     |some z1=>
      have I:ev q= .slice none 0 0:=h0.1;refine step (u:= .list u) (y:=[]) ?_ D h (λm k j hm=>?_)
      .rw[I];exact .inr ⟨rfl,none,0,rfl,aNt _,.inl rfl⟩
      .simp only[uQ,M,AY] at j;exact⟨λo _=>by rw[I];exact .inr rfl,m,j,hm⟩
    |_=>cases ps<;>simp [YF,uQ,AV] at h
  |_=>simp [AV] at h
section
variable {P:Program}{o:Oper}{a:Act}{g:Gh}{w:pY}{H:sA}{T:sH}(hT:vX P T) (hH:sL g w H)
include hT hH
theorem Cu {P:Program}(w:pY): ∀(fs:List Field),(∀f∈fs,∃n,(P.info? f.type).map (·.size)=some n)->
  (fs.mapM (λf=>do pure (f.offset,<-sizeOf f.type):Field->Sem (Nat×Nat))).run P w= .ok (fs.map λf=>(f.offset,((P.info? f.type).map (·.size)).getD 0)) w
 |[],_=>rfl
 |f::fs,h=>by
  obtain⟨n,j⟩:=h f pO;obtain⟨i,hi,z⟩:=aNh.1 j;rw[List.mapM_cons];simp only[aNi,sizeOf,typeInfo,aN1,hi,aNb,aNu];have:=Cu w fs (λf hf=>h f (by simp [hf]));simp only[sizeOf,typeInfo,aNi,aN1] at this;rw[this];simp [hi]
theorem a6k {P:Program}: ∀{ty:Ty}{off:Nat}{fs:List Field},QS P ty off fs->∀f∈fs,∃n,(P.info? f.type).map (·.size)=some n:=by
 intro ty
 induction ty with
 |pair a b _ ihb=>
  intro off fs h f hf;cases fs with
  |nil=>cases hf
  |cons fd fs=>
   obtain⟨_,z,_,j⟩:=h;rcases aNk.1 hf with rfl|hf
   .exact⟨_,z⟩
   .exact ihb j f hf
 |unit=>intro off fs h f hf;cases fs with|nil=>cases hf|cons=>exact h.elim
 |_=>intro off fs h f hf;cases fs<;>exact h.elim
omit hT hH in
theorem Cv {t:Ty}{x:t.den}{cs:pU}{ps:List (Nat×qK)}(h: ∀m k,AY t ps=some m->m=0\/m=k->y5 k t 0 (uN t)->y5 k t 0 cs):match ((DV.val t x,ka t (AY t ps)):qK) with
  |(_,none)=>True
  |(.val t x,some k)=>DP g t x (.agg cs.toArray) (some k)
  |(_,some _)=>False:=by
 cases hp:AY t ps with
 |none=>cases t<;>trivial
 |some m=>
  cases t with
  |pair a b=>
   have:=h m m hp (.inr rfl) (ae _ _);simpa[ka,DP,Value.cells] using this
  |_=>trivial
omit hT in
theorem rS.pureS {s:qK}{v:pZ}(hr:(execOp a.eval o).run P w= .ok (.value v) w) (j:rY g w s v):rS P o a g w H ⟨[],s,[],[]⟩:=
 rS.value hr (.pure hH j)
theorem a6l {t:TypeId}{ps:Array (Nat×Operand)}(ho:o.op= .build t ps) {ρ:Operand->qK}(hρ: ∀q∈ps.toList,rY g w (ρ q.2) (a.eval q.2)) {e:r9}(hr:kc (uQ ρ ps.toList) (s0 T t)=some e):rS P o a g w H e:=by
 generalize hs:s0 T t=ot at hr;cases ot with
 |none=>cases hr
 |some ti=>
  have G:=t7 hT hs;simp only[kc] at hr;by_cases z:ti.ty.isRow=true
  case neg=>rw[aM9 z] at hr;cases hr
  rw[aM4 z] at hr;generalize hb:AV ti.ty (some ti.ty.zero) (uQ ρ ps.toList)=ox at hr;cases ox with
  |none=>cases hr
  |some x=>
   cases hr;obtain⟨i,hi,hc,hz⟩:=H4 G;have U:y6 ti.ty= .agg (uN ti.ty).toArray:=by unfold y6;rw[aM4 z]
   have F: ∀w,(zeroValue t).run P w= .ok (.agg (uN ti.ty).toArray) w:=by
    intro w;simp [zeroValue,typeInfo,hi,hz,U]
   have D:(ps.map fun(q:Nat×Operand)=>(q.1,a.eval q.2)).toList=ps.toList.map λq=>(q.1,a.eval q.2):=by simp
   rcases mj G z with⟨ha,fs,Y,I⟩ |⟨ha,n,el,hu,Z,E⟩
   .have V:=Cu (P:=P) hT hH w fs.toList (a6k hT hH I);obtain⟨cs',hf,M,O⟩:=ms (g:=g) (w:=w) (ev:=a.eval) (ρ:=ρ) (t:=ti.ty) (place:=λj=>((fs.map λf=>(f.offset,((P.info? f.type).map (·.size)).getD 0))[j]?)) (λf oo u R Q=>by
     obtain⟨fd,k1,k2,k3,_⟩:=mh I R Q;have k1':fs[f]? =some fd:=by simpa using k1
     simp [k1',k2,k3]) ps.toList ti.ty.zero x (uN ti.ty) (EW g w ti.ty) hρ hb
    refine rS.pureS hH (v:= .agg cs'.toArray) ?_ ⟨.inl ⟨z,cs',rfl,M⟩,Cv O⟩;have X:(fs.mapM (λf=>do pure (f.offset,<-sizeOf f.type):Field->Sem (Nat×Nat))).run P w= .ok (fs.map λf=>(f.offset,((P.info? f.type).map (·.size)).getD 0)) w:=by
     rw[Array.mapM_eq_mapM_toList,Sem.run_map,V];simp only[aNb];congr 1;apply aOe.1;simp
    simp only[execOp,ho,Instr.build,aNi,F,aNb,aNs Y,X,Value.cells];rw[D,hf];rfl
   obtain⟨cs',hf,M,O⟩:=ms (g:=g) (w:=w) (ev:=a.eval) (ρ:=ρ) (t:=ti.ty) (place:=λj=>some (j*((P.info? el).map (·.size)).getD 0,((P.info? el).map (·.size)).getD 0)) (λf oo u R Q=>by
    obtain⟨k1,k2,k3,k4⟩:=mi Z R Q;simp [k2,k4]) ps.toList ti.ty.zero x (uN ti.ty) (EW g w ti.ty) hρ hb
   refine rS.pureS hH (v:= .agg cs'.toArray) ?_ ⟨.inl ⟨z,cs',rfl,M⟩,Cv O⟩;obtain⟨ei,K⟩:=aNT.1 E;simp only[K,Option.map_some,aOW] at hf;simp only[execOp,ho,Instr.build,aNi,F,aNb,aNs hu,sizeOf,typeInfo,aN1,K,aNu,Value.cells];rw[D,hf];rfl
theorem mu {ρ:Operand->qK}{ev:Operand->pZ}: ∀{xs:List Operand}{ss:List qK},(∀x∈xs,rY g w (ρ x) (ev x))->vW ρ xs=ss->∃vs,xs.map ev=vs/\vs.length=ss.length/\∀(i:Nat) (s:qK) (v:pZ),ss[i]? =some s->vs[i]? =some v->rY g w s v
 |[],_,_,h=>⟨[],rfl,by rw[<-h];rfl,λi s v _ hv=>by simp at hv⟩
 |x::xs,ss,z,h=>by
  subst h;obtain⟨vs,G,F,E⟩:=mu (λy D=>z y (by simp [D])) rfl (xs:=xs);refine⟨ev x::vs,by simp [G],by simp [vW,F],λi s v j hv=>?_⟩;cases i with
  |zero=>
   simp only[vW,aNC,aM6] at j hv;subst j;subst hv;exact z x pO
  |succ i=>
   simp only[vW,aNP] at j hv;exact E i s v j hv
theorem af {ρ:Operand->qK}{ev:Operand->pZ}{args:Array Operand}{s:qK}(hρ: ∀x∈args.toList,rY g w (ρ x) (ev x)) (h:vW ρ args.toList=[s]): ∃v,args.map ev= #[v]/\rY g w s v:=by
 obtain⟨vs,D,z,j⟩:=mu hT hH hρ h;obtain⟨v,rfl⟩:=aOm.1 z;exact⟨v,by apply aOe.1;simpa using D,j 0 s v rfl rfl⟩
theorem ag {ρ:Operand->qK}{ev:Operand->pZ}{args:Array Operand}{s t:qK}(hρ: ∀x∈args.toList,rY g w (ρ x) (ev x)) (h:vW ρ args.toList=[s,t]): ∃v u,args.map ev= #[v,u]/\rY g w s v/\rY g w t u:=by
 obtain⟨vs,D,z,j⟩:=mu hT hH hρ h
 match vs,z with
 |[v,u],_=>exact⟨v,u,by apply aOe.1;simpa using D,j 0 s v rfl rfl,j 1 t u rfl rfl⟩
theorem H5 {b:Builtin}{args:Array Operand}{tys:Array TypeId}(j:o.op= .call ⟨.builtin b,args,tys⟩):
  ∃cs,execOp a.eval o=builtin b tys o.type cs (args.map a.eval):=by
 refine⟨args.map fun| .const _=>true|_=>false,?_⟩
 unfold execOp;rw[j];rfl
theorem a6m (x y:Int):(if y<x then y else x)=min x y:=by rw[Int.min_def];split<;>split<;>omega
theorem a6n (x y:Int):(if y>x then y else x)=max x y:=by rw[Int.max_def];split<;>split<;>omega
theorem a6o {args:Array Operand}{tys:Array TypeId}(Q:o.op= .call ⟨.builtin .len,args,tys⟩) {ρ:Operand->qK}(hρ: ∀x∈args.toList,rY g w (ρ x) (a.eval x)) {e:r9}
  (hr:ZF T H (vW ρ args.toList) tys.toList=some e):rS P o a g w H e:=by
 obtain⟨t0,tr,I⟩: ∃t0 tr,tys.toList=t0::tr:=by cases h:tys.toList with|nil=>(rw[h] at hr;cases hr) |cons t r=>exact⟨t,r,rfl⟩
 have D:tys[0]? =some t0:=by rw[<-aOx,I];rfl
 rw[I] at hr;simp only[ZF] at hr;generalize hst:s0 T t0=ot at hr;generalize E:vW ρ args.toList=ss at hr;unfold li at hr;split at hr
 .rename_i el fl ar ls_ i k;generalize hb:qT H i=ob at hr;unfold Z9 at hr;split at hr
  .rename_i kt vt l;cases hr;obtain⟨v,hv,G⟩:=af hT hH hρ E;have z:=(t7 hT hst).2;simp only[xG] at z;obtain⟨p,es,cl,hp,ha,X,Y,hS⟩:=hH.blk i _ hb;obtain⟨p',K,R⟩: ∃p,g.J i=some p/\v= .map (some p.1):=by
    rcases G.1 with⟨h1,_⟩ |⟨_,p,h3,V⟩
    .cases h1
    simp only[aNW,and_true] at V;exact⟨p,h3,V⟩
   rw[hp] at K;obtain rfl:=aNa K;have O: ∀{l:List (kt.den×vt.den)}{es:List MapEntry},xF g w kt vt l es->es.length=l.length:=by
    intro l
    induction l with
    |nil=>intro es h;rw[show es=[] from h];rfl
    |cons q l ih=>intro es h;obtain⟨e,es',rfl,_,_,Z⟩:=h;simp [ih Z]
   refine rS.pure hH (v:= .int .i64 (List.length l:Int)) ?_ (wO _ _ _ _);obtain⟨cs,F⟩:=H5 (a:=a) hT hH Q;rw[F,hv,R];have j:(#[Value.map (some p.1)]:Array pZ)[0]? =some (.map (some p.1)):=rfl;have M:(getObj p.1).run P w= .ok (.map es cl) w:=by simp [getObj,Sem.run,X]
   simp only[builtin,Builtin.len_,D,j,aNi,aNs z,aNb,aNu,goInt,M];rw[<-O Y,aN7]
  cases hr
 .rename_i el by' ar ls_ l k;cases hr;obtain⟨v,hv,G⟩:=af hT hH hρ E;have z:=(t7 hT hst).2;simp only[xG] at z;have U:=xO G.1;refine rS.pure hH (v:= .int .i64 (List.length l:Int)) ?_ (wO _ _ _ _);subst U;obtain⟨cs,F⟩:=H5 (a:=a) hT hH Q;rw[F,hv];have j:(#[Value.string ⟨List.toArray l⟩]:Array pZ)[0]? =some (.string ⟨List.toArray l⟩):=rfl;simp only[builtin,Builtin.len_,D,j,aNi,aNs z,aNb,aNu,goInt];rfl
 .rename_i u el by' ar ls_ t l k;cases hr;obtain⟨v,hv,G⟩:=af hT hH hρ E;have z:=(t7 hT hst).2.1;obtain⟨ad,cap,rfl,_⟩:=EY G.1;refine rS.pure hH (v:= .int .i64 (List.length l:Int)) ?_ (wO _ _ _ _);obtain⟨cs,F⟩:=H5 (a:=a) hT hH Q;rw[F,hv];have j:(#[Value.slice ad (List.length l) cap]:Array pZ)[0]? =some (.slice ad (List.length l) cap):=rfl;simp only[builtin,Builtin.len_,D,j,aNi,aNs z,aNb,aNu,goInt]
 .rename_i u el by' ar ls_ ko n k;cases hr;obtain⟨v,hv,G⟩:=af hT hH hρ E;have z:=(t7 hT hst).2.1;obtain⟨ad,cap,rfl⟩: ∃ad cap,v= .slice ad n cap:=by
   rcases G.1.2 with⟨h,rfl⟩ |⟨b,cap,h,_⟩
   .exact⟨_,_,h⟩
   exact⟨_,_,h⟩
  refine rS.pure hH (v:= .int .i64 (n:Int)) ?_ (wO _ _ _ _);obtain⟨cs,F⟩:=H5 (a:=a) hT hH Q;rw[F,hv];have j:(#[Value.slice ad n cap]:Array pZ)[0]? =some (.slice ad n cap):=rfl;simp only[builtin,Builtin.len_,D,j,aNi,aNs z,aNb,aNu,goInt]
 cases hr
theorem Cw {args:Array Operand}{tys:Array TypeId}{mx:Bool}(G:o.op= .call ⟨.builtin (if mx then .max else .min),args,tys⟩) {ρ:Operand->qK}(hρ: ∀x∈args.toList,rY g w (ρ x) (a.eval x)) {e:r9}
  (hr:AU (ZD mx (vW ρ args.toList))=some e):rS P o a g w H e:=by
 obtain⟨q,j,rfl⟩:=J9 hr;generalize D:vW ρ args.toList=ss at j;unfold ZD at j;split at j
 .rename_i k x k1 k' y k2;split at j
  .rename_i hk;subst hk;cases j;obtain⟨v,u,hv,F,E⟩:=ag hT hH hρ D;have e1:=vF F.1;have e2:=vF E.1;subst e1;subst e2;cases mx
   .refine rS.pure hH (v:= .int k (min (x:Int) y)) ?_ (wO _ _ _ _);obtain⟨cs,z⟩:=H5 (a:=a) hT hH G;rw[z,hv];have:=a6m hT hH x y;simp [builtin,Builtin.min_,Builtin.min2,this]
   refine rS.pure hH (v:= .int k (max (x:Int) y)) ?_ (wO _ _ _ _);obtain⟨cs,z⟩:=H5 (a:=a) hT hH G;rw[z,hv];have:=a6n hT hH x y;simp [builtin,Builtin.max_,Builtin.max2,this]
  cases j
 cases j
theorem a6p {f:FuncId}{caps:Array Operand}(F:o.op= .makeFunc (.func f) #[] caps) {ρ:Operand->qK}(hρ: ∀x∈caps.toList,rY g w (ρ x) (a.eval x)) {e:r9}
  (hr:Bj f (LA (vW ρ caps.toList))=some e):rS P o a g w H e:=by
 generalize G:LA (vW ρ caps.toList)=oc at hr;cases oc with
 |none=>cases hr
 |some l=>
  cases hr;have key: ∀(xs:List Operand) (l:pS),(∀x∈xs,rY g w (ρ x) (a.eval x))->LA (vW ρ xs)=some l->yI g l (xs.map a.eval):=by
   intro xs
   induction xs with
   |nil=>intro l _ h;simp only[vW,LA,aM6] at h;subst h;rfl
   |cons x xs ih=>
    intro l z h;have h0:=z x pO;generalize E:ρ x=s at h0;simp only[vW,E] at h;obtain⟨d,k⟩:=s;unfold LA at h;split at h
    .cases ‹_=[]›
    .rename_i p k r heq;simp only[aNW,aNA] at heq;obtain⟨⟨rfl,rfl⟩,rfl⟩:=heq;obtain⟨l',j,rfl⟩:=aNh.1 h;obtain⟨i,off⟩:=p;obtain⟨p,hp,hv⟩:=zB h0.1;exact⟨p,_,hp,by rw[aN8,hv],ih l' (λy D=>z y (by simp [D])) j⟩
    cases h
  refine rS.pure hH (v:= .func (.func f) #[] (caps.map a.eval)) ?_ (.inr ⟨rfl,caps.toList.map a.eval,key _ _ hρ G,by congr 2;apply aOe.1;simp⟩);simp [execOp,F,Instr.makeFunc]
end
theorem mv {α:Type}{l:List α}{m n:Int}(h0:0<=m) (z:m<=n) (j:n<=(l.length:Int)):(s8 l m n).length=n.toNat-m.toNat:=by
  unfold s8;rw[aNR,aNE];omega
theorem Cx {α:Type}{R:α->pU->Prop}{c:Nat}: ∀{l:List α}{cs:pU}{i:Nat}{x:α},uR R c l cs->l[i]? =some x->∃c1 c2 c3,cs=c1++c2++c3/\c1.length=i*c/\c2.length=c/\R x c2
  | y::l,_,0,x,⟨c1,c2,e,j,D,z⟩,h=>by
    simp only[aNC,aM6] at h;subst h;exact⟨[],c1,c2,by simpa using e,by simp,j,D⟩
  | y::l,_,i+1,x,⟨c1,c2,e,j,D,z⟩,h=>by
    simp only[aNP] at h;obtain⟨d1,d2,d3,e1,e2,e3,e4⟩:=Cx z h;exact⟨c1++d1,d2,d3,by rw[e,e1];simp,by rw[aM7,j,e2,aN0];omega,e3,e4⟩
theorem Cy {t:Ty}{l:List t.den}{i:Int}(h0:0<=i) (h:i.toNat<l.length):l[i.toNat]? =some (qH t l i):=by
  unfold qH;rw[aNy,aNe h];rfl
theorem QV {α:Type}{R:α->pU->Prop}{w:pY}{S:Nat->Nat->Prop}{c b:Nat}: ∀{l:List α}{o:Nat}{cs:pU},uR R c l cs->w.rangeAt b o cs->(∀j,j<l.length*c->S b (o+j))->wA R w S c b o l
  |[],_,_,_,_,_=>trivial
  | x::l,o,cs,⟨c1,c2,e,D,G,F⟩,hr,z=>by
    subst e;refine⟨⟨c1,D,λj v hv=>hr j v (by rw[aNo (aNl.1 hv).1];exact hv),λj E=>z j (by rw[aM5,aN0];omega),G⟩,QV F (λj v hv=>?_) (λj E=>?_)⟩
    · have:=hr (c+j) v (by rw[aNg pM,D,aNM];exact hv)
      rwa [<-aNN] at this
    have:=z (c+j) (by rw[aM5,aN0];omega)
    rwa [<-aNN] at this
theorem mw {u0:Ty}{l:List u0.den}: ∀{t:Ty}{x:t.den}{q: Σ t:Ty,t.den},zN u0 l t x=some q->q.1.cells=t.cells:=by
  intro t
  induction t with
  | rl e u=>
    intro x q h;cases x with
    |none=>cases h
    | some p=>
      simp only[zN,kh] at h;split at h
      .cases h;rfl
      .cases h
  | pair a b iha ihb=>
    intro x q h;simp only[zN] at h;cases hf:BO a x.1 with
    | some p=>
      rw[hf] at h;cases j:zN u0 l a x.1 with
      |none=>rw[j] at h;cases h
      | some r=>
        obtain⟨a',x'⟩:=r;rw[j] at h;simp only[LL,aM6] at h;subst h;have:=iha j;simp only[Ty.cells] at this|-;omega
    | none=>
      rw[hf] at h;cases j:zN u0 l b x.2 with
      |none=>rw[j] at h;simp [LL] at h
      | some r=>
        obtain⟨b',y'⟩:=r;rw[j] at h;simp only[LL,aM6] at h;subst h;have:=ihb j;simp only[Ty.cells] at this|-;omega
  |_=>intro x q h;simp [zN] at h
theorem a6q {g:Gh}{w:pY}{k n:Nat}{u0:Ty}{l:List u0.den}(hk: ∀cs,FQ g (some (k,n)) cs->Rd g w (.list u0) l cs): ∀{t:Ty}{x:t.den}{cs:pU}{q: Σ t:Ty,t.den},BO t x=some (k,n)->zN u0 l t x=some q->Rd g w t x cs->Rd g w q.1 q.2 cs:=by
  intro t
  induction t with
  | rl e u=>
    intro x cs q hf h r;simp only[BO] at hf;subst hf;simp only[zN,kh] at h;split at h
    · cases h
      exact hk _ r
    .cases h
  | pair a b iha ihb=>
    intro x cs q hf h r;obtain⟨c1,c2,e,r1,r2⟩:=r;simp only[BO] at hf;simp only[zN] at h;cases D:BO a x.1 with
    | some p=>
      rw[D] at h hf;simp only[kg,aM6] at hf;subst hf;cases j:zN u0 l a x.1 with
      |none=>rw[j] at h;cases h
      | some z=>
        obtain⟨a',x'⟩:=z;rw[j] at h;simp only[LL,aM6] at h;subst h;exact⟨c1,c2,e,iha D j r1,r2⟩
    | none=>
      rw[D] at h hf;simp only[kg] at hf;cases j:zN u0 l b x.2 with
      |none=>rw[j] at h;simp [LL] at h
      | some z=>
        obtain⟨b',y'⟩:=z;rw[j] at h;simp only[LL,aM6] at h;subst h;exact⟨c1,c2,e,r1,ihb hf j r2⟩
  |_=>intro x cs q hf;simp [BO] at hf
theorem a6r {g:Gh}{w:pY}{H:sA}(hH:sL g w H) {k i:Nat}{e:TypeId}{t:Ty}{l:List t.den}{n:Nat}(hk:qT H k=some (.row e t l n)) {u:Ty}{x:u.den}{toks:pS}(hi:qT H i=some (.cells u x toks)) (hz:BO u x=some (k,n)) {q: Σ t:Ty,t.den}(hq:zN t l u x=some q):
    ∃ g',sL g' w (rJ [(i,qP.cells q.1 q.2 []),(k,qP.grow e t.cells (List.length l))] H)/\g'.J=g.J/\
      ∀side s rds v,IU rds=true->rY g' w s v->zR g w H ⟨side,s,[(i,qP.cells q.1 q.2 []),(k,qP.grow e t.cells (List.length l))],rds⟩ g' w v:=by
  obtain⟨K,v,xs,hv,F,hF,U,R⟩:=hH.blk k _ hk
  let g':Gh:={g with S:=λb o=>g.S b o\/(v.ownBlock=some b/\o<n*t.cells)}
  have le:Le g w g' w:=⟨λ_ _ h=> .inl h,λ_ _ _=>rfl,λ_ _ h=>h,λ_ _ _ h=>h⟩;have E: ∀b,v.ownBlock=some b->∀o,sB g k (.row e t l n) b o:=λb hb o=>⟨v,hv,hb⟩
  have V: ∀u,g.cur k n=some u->((u= .slice none 0 0/\n=0)\/∃b cap,u= .slice (some ⟨b,0,none⟩) n cap/\n<=cap)->sR g' w (.list t) l u:=by
    intro u X M;rw[hv] at X;obtain rfl:=aNa X;rcases M with⟨rfl,h0⟩ |⟨b,cap,rfl,he⟩
    · have:l=[]:=aND (by rw[K,h0])
      subst this;exact .inr ⟨rfl,none,0,rfl,aNt _,.inl rfl⟩
    refine .inr ⟨rfl,some ⟨b,0,none⟩,cap,by rw[K],by rw[K];exact he,.inr ⟨b,0,rfl,QV (CV (λ_ _ h=>xE le h) hF) (λj u X=>?_) (λj hj=>?_)⟩⟩
    · have:=F.cells (g:=b) rfl j u X
      rwa [aOg] at this
    right
    exact⟨rfl,by rw[K] at hj;omega⟩
  have hx:i≠k:=λe1=>by rw[e1,hk] at hi;cases hi
  obtain⟨p0,cs0,ha,hA,hc,O,hd,_⟩:=hH.blk i _ hi
  let b':qP:= .cells q.1 q.2 []
  let H':sA:=(i,b')::(k,qP.grow e t.cells (List.length l))::H
  have Q: ∀i' b,qT H' i'=some b->(i'=i/\b=b')\/(i'=k/\b= .grow e t.cells (List.length l))\/(i'≠k/\i'≠i/\qT H i'=some b):=by
    intro i' b hb;simp only[H',qT] at hb;split at hb
    .rename_i e1;exact .inl ⟨e1.symm,(aNa hb).symm⟩
    rename_i e1
    split at hb
    .rename_i e2;exact .inr (.inl ⟨e2.symm,(aNa hb).symm⟩)
    rename_i e2;exact .inr (.inr ⟨Ne.symm e2,Ne.symm e1,hb⟩)
  have D: ∀i' b bb o,qT H' i'=some b->sB g' i' b bb o->∃b0,qT H i'=some b0/\sB g i' b0 bb o:=by
    intro i' b bb o hb I;rcases Q i' b hb with⟨rfl,rfl⟩ |⟨rfl,rfl⟩ |⟨_,_,Y⟩
    · obtain⟨p,hp,e1,e2,e3⟩:=I
      rw[mw hq] at e3;exact⟨_,hi,p,hp,e1,e2,e3⟩
    · obtain⟨u,X,hh⟩:=I
      have Z:g.cur i' (List.length l)=some u:=X;rw[K] at Z;exact⟨_,hk,u,Z,hh⟩
    exact⟨b,Y,(zS (g':=g') (g:=g) rfl rfl).1 I⟩
  have G:sL g' w H':=by
    refine⟨λi' b hb=>?_,λi' j bi bj b o hy Y h2 o1 o2=>?_,λb o z=>?_,hH.tab.1,λi' b bb oo hb I=>by
      obtain⟨c1,k1,k2⟩:=D i' b bb oo hb I;exact hH.tab.2 i' c1 bb oo k1 k2⟩
    · rcases Q i' b hb with⟨rfl,rfl⟩ |⟨rfl,rfl⟩ |⟨ht,_,Y⟩
      · have hw: ∀cs,FQ g' (some (k,n)) cs->Rd g' w (.list t) l cs:=by
          rintro cs ⟨v1,z1,z2,z3⟩;rw[z2];exact B2 rfl (V v1 z1 z3)
        refine⟨p0,cs0,ha,a6q (n:=n) hw hz hq (xE le hA),hc,?_,?_,λ_ _ hm=>by cases hm⟩
        .rw[mw hq];exact⟨O.1,O.2⟩
        rw[mw hq]
        intro j hj z;rcases z with z|z
        .exact hd j hj z
        exact hH.dis i' k _ _ p0.1 (p0.2+j) hx hi hk ⟨p0,ha,rfl,pM,pM⟩ (E _ z.1 _)
      · refine⟨v,xs,by rw[K];exact hv,by rw[K];exact F,λm hm=>U m (by rw[K] at hm;exact hm),λb hb o z=>?_⟩
        rw[K];rcases z with z|z
        .exact absurd z (R b hb o)
        exact z.2
      exact QR (hH.blk i' b Y) le rfl rfl (λ_ _ _=>⟨rfl,rfl⟩) (λ_ _=>rfl) (λbb o I z=>by
         rcases z with z|z
         .exact z
         exact absurd (E bb z.1 o) (λh5=>hH.dis i' k b _ bb o ht Y hk I h5)) (λ_ _ _ _ h=>h)
    · obtain⟨c1,k1,k2⟩:=D i' bi b o Y o1
      obtain⟨c2,k3,k4⟩:=D j bj b o h2 o2;exact hH.dis i' j c1 c2 b o hy k1 k3 k2 k4
    rcases z with z|z
    .exact hH.sl b o z
    exact VD F z.1
  refine⟨g',G,rfl,λside s rds vv hn hs=>⟨le,hs,G,⟨rfl,rfl,rfl,aNt _,λ_ _ _=>rfl,λ_ _ _ _=>⟨rfl,rfl⟩,λb o z=>?_,λ_ _ h=> .inl h⟩,λi' blk b o hm hg I=>?_,λ_ _=>⟨rfl,rfl⟩,λh=>by rw[hn] at h;cases h⟩⟩
  · rcases z with z|z
    .exact .inl z
    exact .inr (.inr ⟨k,_,by simp [qV],hk,E b z.1 o⟩)
  obtain⟨b0,k1,k2⟩:=D i' blk b o hg I
  exact .inr ⟨i',b0,hm,k1,k2⟩
section
variable {P:Program}{o:Oper}{a:Act}{g:Gh}{w:pY}{H:sA}{T:sH}(hT:vX P T) (hH:sL g w H)
include hT hH
theorem QW {t:TypeId}{ti:TI}(D:sY P t ti) {x:ti.ty.den}{b off:Nat}{cs:pU}(E:w.rangeAt b off cs) (G:Rd g w ti.ty x cs):
    ∃v,(Instr.loadAt t (.pointer (some ⟨b,off,none⟩))).run P w= .ok v w/\sR g w ti.ty x v/\v.cells.toList=cs:=by
  obtain⟨d,O,j⟩:=VG D;obtain⟨i,hi,M,_⟩:=H4 D;have I:=sU G;by_cases hr:ti.ty.isRow=true
  .refine⟨.agg cs.toArray,run_loadAt_mid w b off t cs d E O (by rw[j,hr]) (by rw[hi,Option.map_some,M,I]),.inl ⟨hr,cs,rfl,G⟩,by simp [Value.cells]⟩
  have z:ti.ty.isRow=false:=by simpa using hr
  have R:ti.ty.cells=1:=by
    obtain⟨ty,el,by',ar,ls⟩:=ti;cases ty<;>first|rfl|(simp [Ty.isRow] at z)
  obtain⟨v,rfl⟩: ∃v,cs=[v]:=by rw[R] at I;exact aOm.1 I
  have K:=BQ G v pO;refine⟨v,?_,.inr ⟨z,G⟩,by cases v<;>first|rfl|(simp [Value.oneCell'] at K)⟩
  have Q:w.cell? ⟨b,off,none⟩=some v:=by simpa using E 0 v rfl
  have F:(isAgg t).run P w= .ok false w:=by
    unfold isAgg;rw[aNi,aNs O w];rw[z] at j;cases d<;>simp_all [TypeDesc.isRow]
  simp [Instr.loadAt,Instr.sureAddr,loadVar,aNi,F,Q]
theorem M0 {b off:Nat}{c1 c2 c3:pU}(h:w.rangeAt b off (c1++c2++c3)):w.rangeAt b (off+c1.length) c2:=λj v D=>by
  have:=h (c1.length+j) v (by
    have z:=(aNl.1 D).1;rw[aNd,aNg pM,aNM,aNo z];exact D)
  rw[aNN];exact this
theorem Cz {k n c:Nat}{i:Int}{o':Nat}{v:pZ}(O:zA g w (.elt k n c i o') v) {e:TypeId}{t:Ty}{l:List t.den}{m:Nat}(hk:qT H k=some (.row e t l m)) (D:n=m) (Q:c=t.cells):
    ∃ b cap xs c1 c2 c3,v= .pointer (some ⟨b,i.toNat*c+o',none⟩)/\g.cur k m=some (.slice (some ⟨b,0,none⟩) m cap)/\w.ownsRow 0 e t.cells (.slice (some ⟨b,0,none⟩) m cap) m xs/\uR (Rd g w t) t.cells l xs/\l.length=m/\i.toNat<l.length/\0<=i/\
      xs=c1++c2++c3/\c1.length=i.toNat*c/\c2.length=c/\Rd g w t (qH t l i) c2:=by
  subst D;subst Q;obtain⟨b,cap,M,K,R,hv⟩:=O;obtain⟨G,v0,xs,j,z,I,F,E⟩:=hH.blk k _ hk;rw[M] at j;obtain rfl:=aNa j;have hi:i.toNat<l.length:=by rw[G];omega
  obtain⟨c1,c2,c3,e1,e2,e3,e4⟩:=Cx I (Cy K hi);exact⟨b,cap,xs,c1,c2,c3,hv,M,z,I,G,hi,K,e1,e2,e3,e4⟩
theorem a6s {e:TypeId}{c n:Nat}{q cap:Nat}{xs:pU}(h:w.ownsRow 0 e c (.slice (some ⟨q,0,none⟩) n cap) n xs):w.rangeAt q 0 xs:=λj u z=>by
  have:=h.cells (g:=q) rfl j u z;rwa [aOg] at this
theorem a6t {t:TypeId}{ti:TI}(hst:s0 T t=some ti) {k n c:Nat}{i:Int}{o':Nat}{vx:pZ}(K:zA g w (.elt k n c i o') vx) {e:r9}(hr:V1 ti.ty k n c i o' (qT H k)=some e) (M: ∀p∈e.side,p):
    ∃v,(Instr.loadAt t vx).run P w= .ok v w/\rY g w e.slot v/\e.upd=[]:=by
  generalize hk:qT H k=ob at hr;unfold V1 at hr;split at hr
  · rename_i e' t' l m
    split at hr
    · rename_i O
      generalize G:rR ti.ty t' (qH t' l i) o'=oy at hr;cases oy with
      |none=>cases hr
      | some y=>
        cases hr;have F:=M _ (aNn.2 rfl);obtain⟨b,cap,xs,c1,c2,c3,hv,I,E,V,U,hi,h0,e1,e2,e3,e4⟩:=Cz hT hH K hk F O;obtain⟨d1,d2,d3,f1,f2,f3⟩:=DR e4 G;have D:=a6s hT hH E;rw[e1] at D;have z:=M0 hT hH D;rw[f1] at z;have j:=M0 hT hH z;rw[aNF,e2,f2] at j;obtain⟨v,R,Q,_⟩:=QW hT hH (t7 hT hst) j f3;exact⟨v,by rw[hv];exact R,⟨Q,trivial⟩,rfl⟩
    cases hr
  cases hr
theorem mz: ∀{toks:pS}{q k:Nat},xC toks q=some k->(q,k)∈toks
  |[],_,_,h=>by simp [xC] at h
  | (q',k')::r,q,k,h=>by
    simp only[xC] at h;split at h
    · rename_i e
      subst e;simp only[aM6] at h;subst h;simp
    exact aNp _ (mz h)
theorem Da {u v:Ty}: ∀{t:Ty}{x:t.den}{q:Nat}{l:List u.den}{y:v.den},rR (.list u) t x q=some l->rR v t x q=some y->v.isRow=false->∃h:v= .list u,uF h y=l:=by
  intro t
  induction t with
  | pair s t ihs iht=>
    intro x q l y j z hv
    have key: ∀q,(if q<s.cells then rR (.list u) s x.1 q else rR (.list u) t x.2 (q-s.cells))=some l->(if q<s.cells then rR v s x.1 q else rR v t x.2 (q-s.cells))=some y->∃h:v= .list u,uF h y=l:=by
      intro q j z;by_cases D:q<s.cells
      .rw[aM4 D] at j z;exact ihs j z hv
      rw[aM9 D] at j z;exact iht j z hv
    cases q with
    | zero=>
      have e1:Ty.pair s t≠.list u:=by intro h;cases h
      have e2:Ty.pair s t≠v:=by intro h;subst h;simp [Ty.isRow] at hv
      unfold rR at j z;rw[aOA e1] at j;rw[aOA e2] at z;exact key 0 aO5 aO6
    |succ q=>exact key (q+1) (by simpa[rR] using j) (by simpa[rR] using z)
  | _=>
    intro x q l y j z hv;cases q with
    | zero=>
      unfold rR at j z;split at j
      · rename_i e1
        split at z
        · rename_i e2
          first
          |(cases e1;done)
          | (subst e2
             injection e1 with e1'
             subst e1';simp only[uF,aM6] at j z;subst j;subst z;exact⟨rfl,rfl⟩)
        simp at z
      .simp at j
    |succ q=>simp [rR] at j
theorem a6u {t:TypeId}{ti:TI}(D:sY P t ti) (hr:ti.ty.isRow=false) {b off:Nat}{v:pZ}(F:w.cell? ⟨b,off,none⟩=some v):
    (Instr.loadAt t (.pointer (some ⟨b,off,none⟩))).run P w= .ok v w:=by
  obtain⟨d,E,j⟩:=VG D
  have z:(isAgg t).run P w= .ok false w:=by
    unfold isAgg;rw[aNi,aNs E w];rw[hr] at j;cases d<;>simp_all [TypeDesc.isRow]
  simp [Instr.loadAt,Instr.sureAddr,loadVar,aNi,z,F]
omit hT hH in
theorem Db {a b:Option r9}{e:r9}(h:Af a b=some e):a=some e\/b=some e:=by
  cases a with
  |some r=>exact .inl h
  |none=>exact .inr h
omit hT hH in
theorem Dc {H:List (Nat×qP)}{t:Ty}{i off:Nat}{b:Option qP}{x:Option r9}{e:r9}(h:Be H t i off b x=some e):x=some e\/(x=none/\J0 H t i off b=some e):=by
  cases x with
  |some r=>exact .inl h
  |none=>exact .inr ⟨rfl,h⟩
theorem a6v {t:TypeId}{ti:TI}{x:Operand}(O:o.op= .load t x) (M:s0 T t=some ti) {i off:Nat}(K:sR g w .ref (some (i,off)) (a.eval x)) {e:r9}(hr:YV i off ti (qT H i)=some e):rS P o a g w H e:=by
  have D:=t7 hT M;generalize hb:qT H i=ob at hr;unfold YV at hr;split at hr
  · rename_i u el _ _ _ v x' toks
    generalize G:rR (.rl el u) v x' off=oy at hr;unfold kf at hr;split at hr
    · rename_i k n
      cases hr;obtain⟨p,hp,hv⟩:=zB K;obtain⟨p',cs,j,R,F,_⟩:=hH.blk i _ hb;rw[hp] at j;obtain rfl:=aNa j;obtain⟨c1,c2,c3,rfl,rfl,I⟩:=DR R G;obtain⟨v0,z,rfl,E⟩:=I;have Q:w.cell? ⟨p.1,p.2+c1.length,none⟩=some v0:=by simpa using M0 hT hH F 0 _ rfl
      have U:=a6u (P:=P) hT hH D rfl Q;exact rS.value (v:=v0) (g':=g) (w':=w) (by simp only[execOp,O,hv,aNi,U,aNb,aNu]) (.pure hH ⟨⟨z,E⟩,trivial⟩)
    cases hr
  cases hr
theorem a6w {t:TypeId}{ti:TI}{x:Operand}(V:o.op= .load t x) (U:s0 T t=some ti) {i off:Nat}(R:sR g w .ref (some (i,off)) (a.eval x)) {e:r9}(hr:J0 H ti.ty i off (qT H i)=some e) (D: ∀p∈e.side,p):rS P o a g w H e:=by
  have G:=t7 hT U;generalize hb:qT H i=ob at hr;unfold J0 at hr;split at hr
  case h_2=>cases hr
  rename_i v z toks;generalize hf:BO v z=of at hr;cases of with
  |none=>cases hr
  | some kn=>
    obtain⟨k,n0⟩:=kn;simp only[YX] at hr;generalize hk:qT H k=ok at hr;unfold YW at hr;split at hr
    case h_2=>cases hr
    rename_i el u0 l m;generalize Q:zN u0 l v z=oq at hr;cases oq with
    |none=>cases hr
    |some q=>
    obtain⟨v',x'⟩:=q;simp only[kl] at hr;generalize M:rR ti.ty v' x' off=oy at hr;cases oy with
    |none=>cases hr
    | some y=>
      simp only[kj,aM6] at hr;subst hr;have K:n0=m:=D _ (aNn.2 rfl);subst K;obtain⟨g',j,Y,F⟩:=a6r hH hk hb hf Q;obtain⟨p,hp,hv⟩:=zB R;obtain⟨p',cs,E,X,I,_,_,_⟩:=j.blk i (.cells v' x' []) (by simp [rJ,qT]);rw[Y,hp] at E;obtain rfl:=aNa E;obtain⟨c1,c2,c3,rfl,rfl,O⟩:=DR X M;obtain⟨v0,h1,Z,_⟩:=QW hT j G (M0 hT j I) O;exact rS.valueW (v:=v0) (g':=g') (w':=w) (by simp only[execOp,V,hv,aNi,h1,aNb,aNu]) (F _ _ _ _ rfl ⟨Z,trivial⟩)
omit hT hH in
theorem Dd {t u:Ty}{x:u.den}{c:Nat}: ∀{m off:Nat}{l:List t.den},LM t u x off c m=some l->l.length=m/\∀k y,l[k]? =some y->rR t u x (off+k*c)=some y
  | 0,off,l,h=>by
    simp only[LM,aM6] at h;subst h;exact⟨rfl,λk y j=>by simp at j⟩
  | m+1,off,l,h=>by
    unfold LM at h;cases z:rR t u x off with
    |none=>rw[z] at h;simp [YY] at h
    | some a=>
      cases D:LM t u x (off+c) c m with
      |none=>rw[z,D] at h;simp [YY] at h
      | some r=>
        rw[z,D] at h;simp only[YY,aM6] at h;subst h;obtain⟨i1,i2⟩:=Dd D;refine⟨by simp [i1],λk y j=>?_⟩;cases k with
        |zero=>simp at j;subst j;simpa using z
        | succ k=>
          have:=i2 k y aO5;rw[aN0,show off+(k*c+c)=off+c+k*c from by omega];exact this
theorem a6x {t:TypeId}{x:Operand}(U:o.op= .load t x) {sx:qK}(M:rY g w sx (a.eval x)) {e:r9}(hr:YZ H (s0 T t) sx=some e) (F: ∀p∈e.side,p):rS P o a g w H e:=by
  generalize R:s0 T t=ot at hr;replace M:=M.1;unfold YZ at hr;split at hr
  · rename_i ti k n c i o' _
    obtain⟨v,O,G,V⟩:=a6t hT hH R M hr F;obtain⟨side,slot,upd,rds⟩:=e;simp only at G V;subst V;exact rS.value (v:=v) (g':=g) (w':=w) (by simp only[execOp,U,aNi,O,aNb,aNu]) (.pure hH G)
  · rename_i ti i off t m ix k
    split at hr
    · rename_i Q
      subst Q;have j:=t7 hT R;generalize hb:qT H i=ob at hr;unfold km at hr;split at hr
      · rename_i u z toks
        generalize I:LM ti.ty u z off ti.ty.cells m=ol at hr;cases ol with
        |none=>cases hr
        | some l=>
          cases hr;obtain⟨p,hp,k0,k1,hv⟩:=M;obtain⟨p',cs,E,X,D,_,_,Y⟩:=hH.blk i _ hb;rw[hp] at E;obtain rfl:=aNa E;obtain⟨hl,hc⟩:=Dd I;have he:ix.toNat<l.length:=by omega
          have hg:=hc ix.toNat _ (Cy k0 he);obtain⟨c1,c2,c3,rfl,e1,K⟩:=DR X hg;obtain⟨v,O,G,V⟩:=QW hT hH j (M0 hT hH D) K;rw[e1,<-aNN] at O;exact rS.value (v:=v) (g':=g) (w':=w) aO9 (.pure hH ⟨G,trivial⟩)
      cases hr
    cases hr
  · rename_i ti u y k
    split at hr
    · rename_i hu
      subst hu;cases hr;have j:=t7 hT R;obtain⟨b,off,cs,hv,D,hS,X⟩:=M;obtain⟨v,O,G,_⟩:=QW hT hH j D X;exact rS.pure hH (v:=v) aO9 G
    cases hr
  · rename_i ti i off k
    rcases Dc hr with hr|⟨_,hr⟩
    case inr=>exact a6w hT hH U R M hr F
    rcases Db hr with hr|hr
    case inr=>exact a6v hT hH U R M hr
    have j:=t7 hT R;generalize hb:qT H i=ob at hr;unfold V0 at hr;split at hr
    · rename_i u z toks
      generalize I:rR ti.ty u z off=oy at hr;cases oy with
      |none=>cases hr
      | some y=>
        cases hr;obtain⟨p,hp,hv⟩:=zB M;obtain⟨p',cs,E,X,D,_,_,Y⟩:=hH.blk i _ hb;rw[hp] at E;obtain rfl:=aNa E;obtain⟨c1,c2,c3,rfl,rfl,K⟩:=DR X I;obtain⟨v,O,G,V⟩:=QW hT hH j (M0 hT hH D) K;refine rS.value (v:=v) (g':=g) (w':=w) aO9 (.pure hH ⟨G,?_⟩);obtain⟨ty,el,by',ar,ls⟩:=ti;cases ty with
        | list u'=>
          simp only[FL];generalize Q:xC toks c1.length=ok;cases ok with
          |none=>trivial
          | some k=>
            obtain⟨u2,l,v',g1,g2,g3⟩:=Y _ _ (mz hT hH Q);obtain⟨heq,hl⟩:=Da hT hH g1 I rfl;injection heq with hd
            subst hd;have ha:=sU K;obtain⟨v2,rfl⟩:=aOm.1 ha
            have e2:v'=v2:=by
              have e:(c1++[v2]++c3)[c1.length]? =some v2:=by simp
              rw[e] at g2;exact(aNa g2).symm
            have e3:v=v2:=by
              have h4:=B2 rfl G;have Z:=BQ h4 v pO;have:v.cells= #[v]:=by cases v<;>first|rfl|(simp [Value.oneCell'] at Z)
              rw[this] at V;simpa using V
            subst e2;subst e3;have e4:(y:List u'.den)=l:=hl;subst e4;exact g3
        |_=>trivial
    cases hr
  cases hr
theorem QX {ρ:Operand->qK}{x:Option Operand}{n m:Int}(hρ: ∀y∈x.toList,rY g w (ρ y) (a.eval y)) (h:CH (wM ρ x) n=some m):(x=none/\m=n)\/∃y k,x=some y/\a.eval y= .int k m:=by
  cases x with
  |none=>simp only[wM,CH,aM6] at h;exact .inl ⟨rfl,h.symm⟩
  | some y=>
    have h0:=hρ y pO;simp only[wM] at h;unfold CH at h;split at h
    .cases ‹some _=none›
    · rename_i k q kk heq
      simp only[aM6] at heq h;rw[heq] at h0;subst h;exact .inr ⟨y,k,rfl,vF h0.1⟩
    cases h
theorem na {isSlice:Bool}{len cap:Nat}{lo hi:Option Operand}{m n:Int}(j:(lo=none/\m=0)\/∃y k,lo=some y/\a.eval y= .int k m) (D:(hi=none/\n=(len:Int))\/∃y k,hi=some y/\a.eval y= .int k n)
    (h0:0<=m) (G:m<=n) (K:n<=(len:Int)) (I:len<=cap):(Instr.sliceBounds isSlice len cap (lo.map a.eval) (hi.map a.eval) none).run P w= .ok (m.toNat,n.toNat,cap) w:=by
  have e1:(n.toNat:Int)=n:=Int.toNat_of_nonneg pM;rcases j with⟨rfl,rfl⟩ |⟨y,k,rfl,F⟩<;>rcases D with⟨rfl,rfl⟩ |⟨z,k',rfl,E⟩
  .simp [Instr.sliceBounds]
  .simp [Instr.sliceBounds,E,run_sliceBound,(by omega:0<=n),(by omega:n<=(cap:Int))]
  .simp [Instr.sliceBounds,F,run_sliceBound,h0,G]
  simp [Instr.sliceBounds,F,E,run_sliceBound,(by omega:0<=n),(by omega:n<=(cap:Int)),e1,h0,G]
theorem a6y {t:TypeId}{x:Operand}{lo hi:Option Operand}(Y:o.op= .slice t x lo hi none) {ρ:Operand->qK}(F:rY g w (ρ x) (a.eval x)) (G: ∀y∈lo.toList,rY g w (ρ y) (a.eval y)) (I: ∀y∈hi.toList,rY g w (ρ y) (a.eval y)) {e:r9}
    (hr:AU (jn (s0 T t) (ρ x) (wM ρ lo) (wM ρ hi))=some e) (X: ∀p∈e.side,p):rS P o a g w H e:=by
  obtain⟨q,j,rfl⟩:=J9 hr;replace F:=F.1;generalize hst:s0 T t=ot at j;generalize ha:ρ x=sx at j F;unfold jn at j;split at j
  · rename_i el by' ar ls_ l k
    generalize E:CH (wM ρ lo) 0=o1 at j;generalize D:CH (wM ρ hi) (List.length l)=o2 at j;unfold YE at j;split at j
    · rename_i m n
      cases j;obtain⟨k1,k2,k3⟩:=X _ (aNn.2 rfl);have M:=(t7 hT hst).2;simp only[xG] at M;have hv:=xO F;have z:=na (P:=P) (isSlice:=false) (cap:=List.length l) hT hH (QX hT hH G E) (QX hT hH I D) k1 k2 k3 (aNt _);refine rS.pure hH (v:= .string ⟨(s8 l m n).toArray⟩) ?_ (BR _ _ _);have Q:(⟨List.toArray l⟩:ByteArray).size=List.length l:=by simp [ByteArray.size]
      have K:(⟨List.toArray l⟩:ByteArray).extract m.toNat n.toNat=⟨(s8 l m n).toArray⟩:=by
        apply ByteArray.ext;apply aOe.1;simp [s8]
      simp only[execOp,Y,hv,Option.map_none,Instr.sliceAt,Instr.slice,aNi,aNs M,aNb,Option.isSome_none,aNJ,aOh,Q,z,K,aNu]
    cases j
  · rename_i u el by' ar ls_ t1 l k
    split at j
    · rename_i O
      subst O;generalize E:CH (wM ρ lo) 0=o1 at j;generalize D:CH (wM ρ hi) (List.length l)=o2 at j;unfold YE at j;split at j
      · rename_i m n
        cases j;obtain⟨k1,k2,k3⟩:=X _ (aNn.2 rfl);obtain⟨M,h3,_⟩:=(t7 hT hst).2;obtain⟨ei,U,V⟩:=aNh.1 h3;simp only[aNA] at V;obtain⟨ad,cap,hv,R,Z⟩:=EY F;have z:=na (P:=P) (isSlice:=true) (cap:=cap) hT hH (QX hT hH G E) (QX hT hH I D) k1 k2 k3 R;refine rS.pure hH (v:= .slice (if cap=m.toNat then ad else ad.map (·.add (m.toNat*t1.cells))) (n.toNat-m.toNat) (cap-m.toNat)) ?_ (.inr ⟨rfl,(if cap=m.toNat then ad else ad.map (·.add (m.toNat*t1.cells))),cap-m.toNat,?_,?_,?_⟩)
        .simp only[execOp,Y,hv,Option.map_none,Instr.sliceAt,Instr.slice,aNi,aNs M,aNb,z,sizeOf,typeInfo,aN1,U,V.1,aNu]
        .rw[mv k1 k2 k3]
        .rw[mv k1 k2 k3];omega
        rcases Z with rfl|⟨b,off,rfl,hL⟩
        .exact .inl (by simp [s8])
        by_cases hc:cap=m.toNat
        · left
          apply aND;rw[mv k1 k2 k3];omega
        right
        rw[aM9 hc];refine⟨b,off+m.toNat*t1.cells,by simp [aOg],?_⟩;exact Co _ (Cn _ hL pM)
      cases j
    cases j
  cases j
end
theorem nc {α:Type}{R:α->pU->Prop}{c:Nat}(j: ∀x cs,R x cs->∀v∈cs,v.oneCell'=true): ∀{l:List α}{cs:pU},uR R c l cs->∀v∈cs,v.oneCell'=true
 |[],_,h=>by rw[h];simp
 |_::_,_,⟨c1,c2,e,_,D,z⟩=>by
  subst e;intro v hv;rcases aNU.1 hv with h|h
  .exact j _ _ D v h
  exact nc j z v h
theorem ah {α:Type}{R:α->pU->Prop}{c:Nat}: ∀{l:List α}{cs cy:pU}{i:Nat}{y:α},uR R c l cs->R y cy->cy.length=c->i<l.length->
  ∃c1 c2 c3,cs=c1++c2++c3/\c1.length=i*c/\c2.length=c/\uR R c (l.set i y) (c1++cy++c3)
 |[],_,_,_,_,_,_,_,h=>by simp at h
 |_::l,_,cy,0,y,⟨c1,c2,e,j,_,E⟩,z,D,_=>⟨[],c1,c2,by simpa using e,by simp,j,⟨cy,c2,by simp,D,z,E⟩⟩
 |x::l,_,cy,i+1,y,⟨c1,c2,e,j,F,E⟩,z,D,hi=>by
  obtain⟨d1,d2,d3,e1,e2,e3,e4⟩:=ah E z D (by simpa using hi);refine⟨c1++d1,d2,d3,by rw[e,e1];simp,by rw[aM7,j,e2,aN0];omega,e3,⟨c1,d1++cy++d3,by simp,j,F,e4⟩⟩
theorem VI {α:Type}{R:α->pU->Prop}{w:pY}{S:Nat->Nat->Prop}{c b:Nat}: ∀{l:List α}{o:Nat},wA R w S c b o l->∃cs,uR R c l cs/\w.rangeAt b o cs/\∀j,j<l.length*c->S b (o+j)
 |[],o,_=>⟨[],rfl,λj v h=>by simp at h,λj h=>by simp at h⟩
 |x::l,o,⟨⟨c1,E,K,I,G⟩,F⟩=>by
  obtain⟨c2,k1,k2,k3⟩:=VI F;refine⟨c1++c2,⟨c1,c2,rfl,E,G,k1⟩,λj v hv=>?_,λj D=>?_⟩
  .by_cases D:j<c
   .exact K j v (by rwa [aNo pM] at hv)
   have:=k2 (j-c) v (by rw[aNg pM,E] at hv;exact hv);rwa [show o+c+(j-c)=o+j from by omega] at this
  by_cases z:j<c
  .exact I j z
  have:=k3 (j-c) (by rw[aM5,aN0] at D;omega);rwa [show o+c+(j-c)=o+j from by omega] at this
theorem De {g:Gh}{w:pY}{t:Ty}: ∀n,uR (Rd g w t) t.cells (DL t n) (List.flatten (List.replicate n (uN t)))
 |0=>rfl
 |n+1=>⟨uN t,_,rfl,sU (EW g w t),EW g w t,De n⟩
theorem Df (t:Ty): ∀n,(DL t n).length=n
 |0=>rfl
 |n+1=>by simp [DL,Df t n]
def Gh.tok (g:Gh) (k n:Nat) (v:pZ):Gh:={g with cur:=λk' n'=>if k'=k/\n'=n then some v else g.cur k' n'}
def Gh.var (g:Gh) (i b:Nat) (k:Option (TypeId×Nat)):Gh:={g with J:=λi'=>if i'=i then some ⟨b,0,k⟩ else g.J i'}
def Gh.shut (g:Gh) (b m:Nat):Gh:={g with S:=λb' o=>g.S b' o\/(b'=b/\o<m)}
section
variable {g:Gh}{w:pY}{H:sA}(hH:sL g w H)
include hH
theorem sC.nilTok {side:List Prop}{d:DV}{rds:pX}{base e c:Nat}{u:Ty}(M:d= .val (.list u) []) (hf: ∀n,g.cur base n=none):
  sC g w H ⟨side,(d,some base),[(base,.grow e c 0)],rds⟩ (g.tok base 0 (.slice none 0 0)) w (.slice none 0 0):=by
 have le:Le g w (g.tok base 0 (.slice none 0 0)) w:=⟨λ_ _ h=>h,λ_ _ _=>rfl,λ_ _ h=>h,λk n v h=>by
  show (if k=base/\n=0 then _ else _)=_;rw[aM9 (λ⟨e1,_⟩=>by rw[e1,hf] at h;cases h)];exact h⟩
 have fr:Fr (sX g H (qV [(base,qP.grow e c 0)])) w w g.S (g.tok base 0 (.slice none 0 0)).S:= .refl _ _ _;have gho: ∀i,i∉qV [(base,qP.grow e c 0)]->(g.tok base 0 (.slice none 0 0)).J i=g.J i/\(g.tok base 0 (.slice none 0 0)).cur i=g.cur i:=λi hi=>⟨rfl,by
  funext n;show (if i=base/\n=0 then _ else _)=_;rw[aM9 (λ⟨e1,_⟩=>hi aPa)]⟩
 have cur0:(g.tok base 0 (.slice none 0 0)).cur base 0=some (.slice none 0 0):=by simp [Gh.tok]
 have own: ∀i blk b o,i∈qV [(base,qP.grow e c 0)]->qT (rJ [(base,qP.grow e c 0)] H) i=some blk->¬sB (g.tok base 0 (.slice none 0 0)) i blk b o:=by
  intro i blk b o hi z K;simp only[qV,aNn] at hi;subst hi;simp only[rJ,qT,aOc,aM6] at z;subst z;obtain⟨v,hv,hb⟩:=K;rw[cur0] at hv;obtain rfl:=aNa hv;cases hb
 subst M;refine⟨le,⟨.inr ⟨rfl,none,0,rfl,aNt _,.inl rfl⟩,cur0⟩,hH.upd le fr (λi blk b o F E D=>absurd D (own i blk b o F E)) gho (λi blk hi z=>?_) (λi j bi bj b o hi U Q I R G O=>own i bi b o hi I G) hH.sl,fr,λi blk b o F E D=>absurd D (own i blk b o F E),gho,λi u' y us h=>by
  simp only[rJ,qT] at h;split at h
  .cases h
  exact .inl ⟨y,us,h⟩⟩
 simp only[qV,aNn] at hi;subst hi;simp only[rJ,qT,aOc,aM6] at z;subst z;refine⟨.slice none 0 0,[],cur0,World.ownsRow_nil w 0 e c,λm hm=>?_,λb hb=>by cases hb⟩;show (if i=i/\m=0 then _ else _)=_;rw[aM9 pM];exact hf m
theorem sC.row {side:List Prop}{rds:pX}{s:qK}{val:pZ}{k:Nat}{e:TypeId}{t:Ty}{l:List t.den}{n:Nat}{v:pZ}{xs:pU}{w':pY}
  (hl:l.length=n) (Y:w'.ownsRow 0 e t.cells v n xs) (hF:uR (Rd g w t) t.cells l xs) (Q: ∀m,n<m->g.cur k m=none) (Z: ∀u,g.cur k n=some u->u=v)
  (z:w.grownBy w' (v.ownBlock)\/∃q,w.grownBy w' q/\∀b,q=some b->∀o,sX g H [k] b o)
  (R: ∀b o,g.S b o->w'.cell? ⟨b,o,none⟩=w.cell? ⟨b,o,none⟩)
  (O: ∀b,v.ownBlock=some b->∀o,¬g.S b o)
  (D: ∀b,v.ownBlock=some b->w.heap.size<=b\/∀o,sX g H [k] b o)
  (M:rY (g.tok k n v) w' s val):sC g w H ⟨side,s,[(k,.row e t l n)],rds⟩ (g.tok k n v) w' val:=by
 have le:Le g w (g.tok k n v) w':=⟨λ_ _ h=>h,λb o h=>R b o h,λ_ _ h=>h,λk' n' v' h=>by
  show (if k'=k/\n'=n then _ else _)=_;by_cases hk:k'=k/\n'=n
  .obtain⟨rfl,rfl⟩:=hk;rw[aM4 ⟨rfl,rfl⟩,Z _ h]
  rw[aM9 hk];exact h⟩
 have cur1:(g.tok k n v).cur k n=some v:=by simp [Gh.tok]
 have ha: ∀b,b<w.heap.size->(∀o,¬sX g H (qV [(k,qP.row e t l n)]) b o)->w'.heap[b]? =w.heap[b]? :=by
  intro b hb E;rcases z with z|⟨q,z,V⟩
  .refine z.block b hb (λe1=>?_);rcases D b e1.symm with h|h
   .omega
   exact E 0 (h 0)
  exact z.block b hb (λe1=>E 0 (V b e1.symm 0))
 have F:w'.os=w.os/\w'.tape=w.tape/\w'.output=w.output/\w.heap.size<=w'.heap.size:=by
  rcases z with z|⟨q,z,_⟩
  .exact⟨z.os,z.tape,z.output,z.size⟩
  exact⟨z.os,z.tape,z.output,z.size⟩
 have hh: ∀b o,sX g H (qV [(k,qP.row e t l n)]) b o->True:=λ_ _ _=>trivial;have I: ∀b o,b<w.heap.size->¬sX g H (qV [(k,qP.row e t l n)]) b o->(w'.cell? ⟨b,o,none⟩=w.cell? ⟨b,o,none⟩/\w'.frozen? ⟨b,o,none⟩=w.frozen? ⟨b,o,none⟩):=by
  intro b o hb E;have:w'.heap[b]? =w.heap[b]? :=by
   rcases z with z|⟨q,z,V⟩
   .refine z.block b hb (λe1=>?_);rcases D b e1.symm with h|h
    .omega
    exact E (h o)
   exact z.block b hb (λe1=>E (V b e1.symm o))
  exact⟨aNx (a:=⟨b,o,none⟩) this,aNZ (a:=⟨b,o,none⟩) this⟩
 have G: ∀b s,w.shape? b=some s->w'.shape? b=some s\/∀o,sX g H (qV [(k,qP.row e t l n)]) b o:=by
  intro b s U;rcases z with z|⟨q,z,V⟩
  .by_cases e1:v.ownBlock=some b
   .rcases D b e1 with h|h
    .have:=EU U;omega
    exact .inr h
   exact .inl ((EV (z.block b (EU U) (λh=>e1 h.symm))).trans U)
  by_cases e1:q=some b
  .exact .inr (V b e1)
  exact .inl ((EV (z.block b (EU U) (λh=>e1 h.symm))).trans U)
 have fr:Fr (sX g H (qV [(k,qP.row e t l n)])) w w' g.S (g.tok k n v).S:=⟨F.1,F.2.1,F.2.2.1,F.2.2.2,ha,I,λb o h=> .inl h,G⟩;have gho: ∀i,i∉qV [(k,qP.row e t l n)]->(g.tok k n v).J i=g.J i/\(g.tok k n v).cur i=g.cur i:=λi hi=>⟨rfl,by
  funext n';show (if i=k/\n'=n then _ else _)=_;rw[aM9 (λ⟨e1,_⟩=>hi aPa)]⟩
 have get: ∀i blk,i∈qV [(k,qP.row e t l n)]->qT (rJ [(k,qP.row e t l n)] H) i=some blk->i=k/\blk= .row e t l n:=by
  intro i blk hi z;simp only[qV,aNn] at hi;subst hi;simp only[rJ,qT,aOc,aM6] at z;exact⟨rfl,z.symm⟩
 have perm: ∀i blk b o,i∈qV [(k,qP.row e t l n)]->qT (rJ [(k,qP.row e t l n)] H) i=some blk->sB (g.tok k n v) i blk b o->w.heap.size<=b\/sX g H (qV [(k,qP.row e t l n)]) b o:=by
  intro i blk b o hi K ho;obtain⟨rfl,rfl⟩:=get i blk hi K;obtain⟨v',X,hb⟩:=ho;rw[cur1] at X;obtain rfl:=aNa X;exact(D b hb).imp id (λh=>h o)
 refine⟨le,M,hH.upd le fr perm gho (λi blk hi K=>?_) (λi j bi bj b o hi hj hc he hd _ _=>hc ((get i bi hi he).1.trans (get j bj hj hd).1.symm)) (λb o h=>aNI (hH.sl b o h) F.2.2.2),fr,perm,gho,λi u' y us h=>by
  simp only[rJ,qT] at h;split at h
  .cases h
  exact .inl ⟨y,us,h⟩⟩
 obtain⟨rfl,rfl⟩:=get i blk hi K;refine⟨hl,v,xs,cur1,Y,CV (λ_ _ h=>xE le h) hF,λm hm=>?_,O⟩;show (if i=i/\m=n then _ else _)=_;rw[aM9 pM];exact Q m hm
theorem sC.cutRow {side:List Prop}{rds:pX}{k base:Nat}{e:TypeId}{t:Ty}{l l':List t.den}{n m:Nat}{v v':pZ}{xs:pU}(hk:qT H k=some (.row e t l n)) (hv:g.cur k n=some v) (hd:m<=n) (I:w.ownsRow 0 e t.cells v' m xs) (hF:uR (Rd g w t) t.cells l' xs) (hl:l'.length=m)
  (hJ:g.J base=none) (O: ∀j,g.cur base j=none) (G: ∀q,v'.ownBlock=some q->v.ownBlock=some q) (Q: ∀b,v.ownBlock=some b->∀o,¬g.S b o) (z:(v'= .slice none 0 0/\m=0)\/∃b cap,v'= .slice (some ⟨b,0,none⟩) m cap/\m<=cap):
  sC g w H ⟨side,(.own base m,none),[(k,.dead),(base,.row e t l' m)],rds⟩ (g.tok base m v') w v':=by
 have he:base≠k:=λh=>by have F:=O n;rw[h,hv] at F;cases F
 have le:Le g w (g.tok base m v') w:=⟨λ_ _ h=>h,λ_ _ _=>rfl,λ_ _ h=>h,λk' n' u h=>by
  show (if k'=base/\n'=m then _ else _)=_;rw[aM9 (λ⟨e1,_⟩=>by rw[e1,O] at h;cases h)];exact h⟩
 have cur1:(g.tok base m v').cur base m=some v':=by simp [Gh.tok]
 have ha:qV [(k,qP.dead),(base,qP.row e t l' m)]=[k,base]:=rfl;have fr:Fr (sX g H (qV [(k,qP.dead),(base,qP.row e t l' m)])) w w g.S (g.tok base m v').S:=⟨rfl,rfl,rfl,aNt _,λ_ _ _=>rfl,λ_ _ _ _=>⟨rfl,rfl⟩,λb o h=> .inl h,λb s h=> .inl h⟩;have gho: ∀i,i∉qV [(k,qP.dead),(base,qP.row e t l' m)]->(g.tok base m v').J i=g.J i/\(g.tok base m v').cur i=g.cur i:=λi hi=>⟨rfl,by
  funext n';show (if i=base/\n'=m then _ else _)=_;rw[aM9 (λ⟨e1,_⟩=>hi aPa)]⟩
 have get: ∀i blk,i∈qV [(k,qP.dead),(base,qP.row e t l' m)]->qT (rJ [(k,qP.dead),(base,qP.row e t l' m)] H) i=some blk->(i=k/\blk= .dead)\/(i=base/\blk= .row e t l' m):=by
  intro i blk hi E;simp only[rJ,qT] at E;by_cases M:k=i
  .rw[aM4 M] at E;exact .inl ⟨M.symm,(aNa E).symm⟩
  rw[aM9 M] at E;simp only[qV,aNk,aOq,or_false] at hi;have F:i=base:=hi.resolve_left (λh=>M h.symm);rw[aM4 F.symm] at E;exact .inr ⟨F,(aNa E).symm⟩
 have perm: ∀i blk b o,i∈qV [(k,qP.dead),(base,qP.row e t l' m)]->qT (rJ [(k,qP.dead),(base,qP.row e t l' m)] H) i=some blk->sB (g.tok base m v') i blk b o->w.heap.size<=b\/sX g H (qV [(k,qP.dead),(base,qP.row e t l' m)]) b o:=by
  intro i blk b o hi D K;rcases get i blk hi D with⟨rfl,rfl⟩ |⟨rfl,rfl⟩
  .exact K.elim
  obtain⟨u,Y,hb⟩:=K;rw[cur1] at Y;obtain rfl:=aNa Y;exact .inr ⟨k,_,by simp [qV],hk,v,hv,G b hb⟩
 refine⟨le,⟨⟨cur1,z⟩,trivial⟩,hH.upd le fr perm gho (λi blk hi D=>?_) (λi j bi bj b o hi Z U X V K R=>?_) (λb o h=>hH.sl b o h),fr,perm,gho,λi u' y us h=>?_⟩
 .rcases get i blk hi D with⟨rfl,rfl⟩ |⟨rfl,rfl⟩
  .trivial
  refine⟨hl,v',xs,cur1,I,CV (λ_ _ h=>xE le h) hF,λj Z=>?_,λb hb=>Q b (G b hb)⟩;show (if i=i/\j=m then _ else _)=_;rw[aM9 pM];exact O j
 .rcases get i bi hi X with⟨rfl,rfl⟩ |⟨rfl,rfl⟩
  .exact K.elim
  rcases get j bj Z V with⟨rfl,rfl⟩ |⟨rfl,rfl⟩
  .exact R.elim
  exact U rfl
 simp only[rJ,qT] at h;split at h
 .cases h
 split at h
 .cases h
 exact .inl ⟨y,us,h⟩
theorem sC.newVarJ {side:List Prop}{rds:pX}{base:Nat}{t:Ty}{x:t.den}{toks:pS}{cs:pU}{e:TypeId}(O:Rd (g.var base w.heap.size (some (e,cs.length))) w t x cs) (F:H3 g t x cs toks) (hf:g.J base=none) (R:g.cur base=λ_=>none):
  sC g w H ⟨side,(.val .ref (some (base,0)),none),[(base,.cells t x toks)],rds⟩ (g.var base w.heap.size (some (e,cs.length))) (w.alloc (.cells cs.toArray e)) (.pointer (some ⟨w.heap.size,0,none⟩)):=by
 have E:(g.var base w.heap.size (some (e,cs.length))).J base=some ⟨w.heap.size,0,some (e,cs.length)⟩:=by simp [Gh.var]
 have le:Le g w (g.var base w.heap.size (some (e,cs.length))) (w.alloc (.cells cs.toArray e)):=⟨λ_ _ h=>h,λb o h=>aNx (a:=⟨b,o,none⟩) (aNB _ _ _ (hH.sl b o h)),λi p h=>by
  show (if i=base then _ else _)=_;rw[aM9 (λe1=>by rw[e1,hf] at h;cases h)];exact h,λ_ _ _ h=>h⟩
 have le2:Le (g.var base w.heap.size (some (e,cs.length))) w (g.var base w.heap.size (some (e,cs.length))) (w.alloc (.cells cs.toArray e)):=⟨λ_ _ h=>h,λb o h=>aNx (a:=⟨b,o,none⟩) (aNB _ _ _ (hH.sl b o h)),λ_ _ h=>h,λ_ _ _ h=>h⟩;have fr:Fr (sX g H (qV [(base,qP.cells t x toks)])) w (w.alloc (.cells cs.toArray e)) g.S (g.var base w.heap.size (some (e,cs.length))).S:=
  ⟨rfl,rfl,rfl,by simp,λb hb _=>aNB _ _ _ hb,λb o hb _=>⟨aNx (a:=⟨b,o,none⟩) (aNB _ _ _ hb),aNZ (a:=⟨b,o,none⟩) (aNB _ _ _ hb)⟩,λb o h=> .inl h,λb s h=> .inl ((EV (aNB _ _ _ (EU h))).trans h)⟩
 have gho: ∀i,i∉qV [(base,qP.cells t x toks)]->(g.var base w.heap.size (some (e,cs.length))).J i=g.J i/\(g.var base w.heap.size (some (e,cs.length))).cur i=g.cur i:=λi hi=>⟨by
  show (if i=base then _ else _)=_;rw[aM9 (λe1=>hi aPa)],rfl⟩
 have get: ∀i blk,i∈qV [(base,qP.cells t x toks)]->qT (rJ [(base,qP.cells t x toks)] H) i=some blk->i=base/\blk= .cells t x toks:=by
  intro i blk hi z;simp only[qV,aNn] at hi;subst hi;simp only[rJ,qT,aOc,aM6] at z;exact⟨rfl,z.symm⟩
 have perm: ∀i blk b o,i∈qV [(base,qP.cells t x toks)]->qT (rJ [(base,qP.cells t x toks)] H) i=some blk->sB (g.var base w.heap.size (some (e,cs.length))) i blk b o->w.heap.size<=b\/sX g H (qV [(base,qP.cells t x toks)]) b o:=by
  intro i blk b o hi z Q;obtain⟨rfl,rfl⟩:=get i blk hi z;obtain⟨p,hp,U,_⟩:=Q;rw[E] at hp;obtain rfl:=aNa hp;exact .inl (aOv U.symm)
 have V:=sU O;refine⟨le,⟨.inr ⟨rfl,_,E,rfl⟩,trivial⟩,hH.upd le fr perm gho (λi blk hi z=>?_) (λi j bi bj b o hi M G K I _ _=>G ((get i bi hi K).1.trans (get j bj M I).1.symm)) (λb o h=>aNI (hH.sl b o h) pO),fr,perm,gho,λi u' y us h=>by
  simp only[rJ,qT] at h;split at h
  .rename_i e1;subst e1;exact .inr ⟨hf,λn=>by rw[R]⟩
  exact .inl ⟨y,us,h⟩⟩
 obtain⟨rfl,rfl⟩:=get i blk hi z;refine⟨_,cs,E,xE le2 O,λj v hv=>?_,⟨λj M=>?_,λ_ s D=>?_⟩,λj _ D=>aOB _ (hH.sl _ _ D),Cm le.cur F⟩
 .simp only[aNF];rw[aOo];simpa using hv
 .simp only[aNF];rw[aOo,World.frozen?_alloc_new];exact⟨by simp;omega,rfl⟩
 cases D;show (match (w.heap.push (.cells cs.toArray e))[w.heap.size]? with|some (.cells c elem _)=>some (elem,c.size) |_=>none)=_
 rw[aOR];simp only[aN3]
theorem sC.newVar {side:List Prop}{rds:pX}{base:Nat}{t:Ty}{x:t.den}{toks:pS}{cs:pU}{e:TypeId}(D:Rd g w t x cs) (j:H3 g t x cs toks) (hf:g.J base=none) (z:g.cur base=λ_=>none):
  sC g w H ⟨side,(.val .ref (some (base,0)),none),[(base,.cells t x toks)],rds⟩ (g.var base w.heap.size (some (e,cs.length))) (w.alloc (.cells cs.toArray e)) (.pointer (some ⟨w.heap.size,0,none⟩)):=
 sC.newVarJ hH (xE (g:=g) (g':=g.var base w.heap.size (some (e,cs.length))) (w:=w) (w':=w) ⟨λ_ _ h=>h,λ_ _ _=>rfl,λi p h=>by
  show (if i=base then _ else _)=_;rw[aM9 (λe1=>by rw[e1,hf] at h;cases h)];exact h,λ_ _ _ h=>h⟩ D) j hf z
end
theorem Dg {P:Program}(w:pY) (t ty e:TypeId) (i:TypeInfo) (z:pZ) (size bytes:Nat) (ht:P.underlying t=some (.slice e)) (hi:P.info? e=some i) (hz:i.zero=some z)
  (R:i.size=size) (hj:i.bytes=bytes) (hc:z.cells.size=size)
  (v:pZ) (n:Nat) (xs:pU) (E:w.ownsRow 0 e size v n xs)
  (a:Addr) (m c:Nat) (news:pU) (V:news.length=m*size) (G: ∀j u,news[j]? =some u->w.cell? (a.add j)=some u) (h1: ∀u∈news,u.oneCell'=true) (hm:0<m)
  (Y:n+m<=maxLen) (K:(n+m)*bytes<=140737488355328):
  ∃q cap w',(Builtin.append_ #[t,t] ty #[v,.slice (some a) m c]).run P w= .ok (.slice (some ⟨q,0,none⟩) (n+m) cap) w'/\w'.ownsRow 0 e size (.slice (some ⟨q,0,none⟩) (n+m) cap) (n+m) (xs++news)/\
   (q=w.heap.size\/v.ownBlock=some q)/\w.grownBy w' v.ownBlock/\n+m<=cap/\
   ∀b o,b<w.heap.size->(v.ownBlock=some b->o<n*size)->w'.cell? ⟨b,o,none⟩=w.cell? ⟨b,o,none⟩:=by
 subst R;subst hj;have ha:n+m<=9223372036854775807:=by simp only[maxLen] at Y;omega
 have I:(xs++news).length=(n+m)*i.size:=by rw[aM7,E.1,V,Nat.add_mul]
 have grown: ∀(old:Nat),old<n+m->∀(row:pW),
   (w.drew.alloc (.cells (xs.toArray++news.toArray++Builtin.zeroCells z.cells (grownCap w (n+m) old e- (n+m))) e)).ownsRow 0 e i.size
    (.slice (some ⟨w.heap.size,0,none⟩) (n+m) (grownCap w (n+m) old e)) (n+m) (xs++news)/\
   w.grownBy (w.drew.alloc (.cells (xs.toArray++news.toArray++Builtin.zeroCells z.cells (grownCap w (n+m) old e- (n+m))) e)) row/\n+m<=grownCap w (n+m) old e/\
   ∀b o,b<w.heap.size->(w.drew.alloc (.cells (xs.toArray++news.toArray++Builtin.zeroCells z.cells (grownCap w (n+m) old e- (n+m))) e)).cell? ⟨b,o,none⟩=w.cell? ⟨b,o,none⟩:=by
  intro old ho row;have X:=grownCap_ge w (n+m) old e;have O:grownCap w (n+m) old e<=maxLen:=grownCap_le_maxLen w (n+m) old e Y;refine⟨⟨I,.inr ⟨w.heap.size,_,_,rfl,aOz _,aO1 w.drew _,X,O,?_,?_⟩⟩,⟨rfl,rfl,rfl,by simp,λk hk _=>aNB w.drew _ k hk⟩,X,λb o hb=>aNx (w:=w) (a:=⟨b,o,none⟩) (aNB w.drew _ b hb)⟩
  .simp only[aOU,aN3,size_zeroCells,hc,E.1,V,<-Nat.add_mul];congr 1;omega
  simp only[Array.toList_append,aNd];rw[<-aNd,<-I];exact aOL
 rcases E.2 with⟨rfl,rfl⟩ |⟨g,cap,cur,rfl,hn,hg,hq,O,hh,Q⟩
 .have hx:xs=[]:=aND (by simpa using E.1);subst hx;have hr:=run_append_nil (P:=P) w t ty e i z ht hi hz a m c news V G pM pM (by have hb:=K;simp only[aNF] at hb;omega);have D:=grown 0 pM (Value.ownBlock (.slice none 0 0));simp only[aNF,List.nil_append,Array.empty_append] at D|-;exact⟨_,_,_,hr,D.1,.inl rfl,D.2.1,D.2.2.1,λb o hb _=>D.2.2.2 b o hb⟩
 by_cases F:n+m<=cap
 .have Z:n*i.size+news.length<=cur.size:=by rw[V,hh,<-Nat.add_mul];exact aOb _ F
  have hr:=run_append_room (P:=P) w t ty e i ht hi g n cap cur hg a m c news V G h1 F Z;refine⟨_,_,_,hr,⟨I,.inr ⟨g,cap,_,rfl,hn,setRow_heap w g cur _ e _ hg,F,O,?_,?_⟩⟩,.inr rfl,⟨rfl,rfl,rfl,by simp,λk _ hk=>aOV w g k _ (λe=>hk (by simp [Value.ownBlock,e]))⟩,F,λb o hb hd=>?_⟩
  .simp only[aN3,aM7,aNR,aNE,aN7];omega
  .rw[Q,<-I];exact aOL
  by_cases M:b=g
  .subst M;have ho:=hd rfl;rw[cell_setRow_same w b o cur _ e _ hg,cell_of_row w b o cur e (0,0) hg];have he:o<(cur.toList.take (n*i.size)).length:=by rw[aNR,aN7];omega
   rw[aNd,List.getElem?_toArray,aNo he,List.getElem?_take,aM4 ho,aOx]
  exact aNx (w:=w) (a:=⟨b,o,none⟩) (aOV w g b _ M)
 have U: ∀j u,xs[j]? =some u->w.cell? ((⟨g,0,none⟩:Addr).add j)=some u:=E.cells (g:=g) rfl;have hr:=run_append_grow (P:=P) w t ty e i z ht hi hz ⟨g,0,none⟩ n cap xs E.1 U a m c news V G pM pM (growslice_fits pM K);have D:=grown cap pM (Value.ownBlock (.slice (some ⟨g,0,none⟩) n cap));exact⟨_,_,_,hr,D.1,.inl rfl,D.2.1,D.2.2.1,λb o hb _=>D.2.2.2 b o hb⟩
theorem nd {w:pY}{e:TypeId}{c n:Nat}{q cap:Nat}{xs:pU}(h:w.ownsRow 0 e c (.slice (some ⟨q,0,none⟩) n cap) n xs):w.rangeAt q 0 xs:=λj u z=>by
 have:=h.cells (g:=q) rfl j u z;rwa [aOg] at this
theorem a6z (w:pY) (a:Addr) (v:pZ) (b:Nat):(w.setCell a v).shape? b=w.shape? b:=by
 unfold World.shape? World.setCell;simp only[aOy];by_cases h:a.block=b
 .rw[aM4 h];cases hb:w.heap[b]? with
  |none=>rfl
  |some x=>
   cases x with
   |cells c e f=>
    simp only[Option.map_some];split<;>simp
   |_=>rfl
 rw[aM9 h]
theorem VJ (b:Nat): ∀(l:pU) (o:Nat) (w:pY) (b':Nat),(w.setCells b o l).shape? b'=w.shape? b'
 |[],_,_,_=>rfl
 |v::l,o,w,b'=>by rw[World.setCells,VJ b l,a6z]
section
variable {g:Gh}{w:pY}{H:sA}(hH:sL g w H)
include hH
theorem sC.append {side:List Prop}{rds:pX}{k e c n:Nat}{u:Ty}{l r:List u.den}{w':pY}{q cap:Nat}{v:pZ}{xs news:pU}(hk:qT H k=some (.grow e c n)) (hc:c=u.cells)
  (hd:l.length=n) (hv:g.cur k n=some v) (ht:w.ownsRow 0 e c v n xs) (F: ∀m,n<m->g.cur k m=none) (E: ∀b,v.ownBlock=some b->∀o,g.S b o->o<n*c) (hl:uR (Rd g w u) c l xs) (hr:uR (Rd g w u) c r news) (hm:0<r.length)
  (X:w'.ownsRow 0 e c (.slice (some ⟨q,0,none⟩) (n+r.length) cap) (n+r.length) (xs++news)) (V:q=w.heap.size\/v.ownBlock=some q) (G:w.grownBy w' v.ownBlock) (U:n+r.length<=cap)
  (O: ∀b o,b<w.heap.size->(v.ownBlock=some b->o<n*c)->w'.cell? ⟨b,o,none⟩=w.cell? ⟨b,o,none⟩):
  sC g w H ⟨side,(.val (.list u) (l++r),some k),[(k,.grow e c (n+r.length))],rds⟩ ((g.tok k (n+r.length) (.slice (some ⟨q,0,none⟩) (n+r.length) cap)).shut q ((n+r.length)*c)) w' (.slice (some ⟨q,0,none⟩) (n+r.length) cap):=by
 have ha:=F (n+r.length) pM;have z: ∀o b,v.ownBlock=some b->sX g H (qV [(k,qP.grow e c (n+r.length))]) b o:=λo b hb=>⟨k,_,by simp [qV],hk,v,hv,hb⟩;have R:q<w'.heap.size:=(X.lt q rfl).2;have le:Le g w ((g.tok k (n+r.length) (.slice (some ⟨q,0,none⟩) (n+r.length) cap)).shut q ((n+r.length)*c)) w':=⟨λ_ _ h=> .inl h,λb o h=>O b o (hH.sl b o h) (λhb=>E b hb o h),λ_ _ h=>h,λk' n' v' h=>by
  show (if k'=k/\n'=n+r.length then _ else _)=_;rw[aM9 (λ⟨e1,e2⟩=>by rw[e1,e2,ha] at h;cases h)];exact h⟩
 have fr:Fr (sX g H (qV [(k,qP.grow e c (n+r.length))])) w w' g.S ((g.tok k (n+r.length) (.slice (some ⟨q,0,none⟩) (n+r.length) cap)).shut q ((n+r.length)*c)).S:=by
  have M: ∀b,b<w.heap.size->∀o,¬sX g H (qV [(k,qP.grow e c (n+r.length))]) b o->w'.heap[b]? =w.heap[b]? :=λb hb o D=>G.block b hb (λe1=>D (z o b e1.symm));refine⟨G.os,G.tape,G.output,G.size,λb hb D=>M b hb 0 (D 0),λb o hb D=>⟨aNx (a:=⟨b,o,none⟩) (M b hb o D),aNZ (a:=⟨b,o,none⟩) (M b hb o D)⟩,λb o h=>?_,λb s hs=>?_⟩
  rotate_left
  .by_cases e1:v.ownBlock=some b
   .exact .inr λo=>z o b e1
   exact .inl ((EV (G.block b (EU hs) (λh=>e1 h.symm))).trans hs)
  rcases h with h|⟨rfl,_⟩
  .exact .inl h
  rcases V with h|h
  .exact .inr (.inl (aOv h.symm))
  exact .inr (.inr (z o b h))
 have gho: ∀i,i∉qV [(k,qP.grow e c (n+r.length))]->((g.tok k (n+r.length) (.slice (some ⟨q,0,none⟩) (n+r.length) cap)).shut q ((n+r.length)*c)).J i=g.J i/\((g.tok k (n+r.length) (.slice (some ⟨q,0,none⟩) (n+r.length) cap)).shut q ((n+r.length)*c)).cur i=g.cur i:=λi hi=>⟨rfl,by
  funext n';show (if i=k/\n'=n+r.length then _ else _)=_;rw[aM9 (λ⟨e1,_⟩=>hi aPa)]⟩
 have cur1:((g.tok k (n+r.length) (.slice (some ⟨q,0,none⟩) (n+r.length) cap)).shut q ((n+r.length)*c)).cur k (n+r.length)=some (.slice (some ⟨q,0,none⟩) (n+r.length) cap):=by
  show (if k=k/\n+r.length=n+r.length then _ else _)=_;simp
 have get: ∀i blk,i∈qV [(k,qP.grow e c (n+r.length))]->qT (rJ [(k,qP.grow e c (n+r.length))] H) i=some blk->i=k/\blk= .grow e c (n+r.length):=by
  intro i blk hi G;simp only[qV,aNn] at hi;subst hi;simp only[rJ,qT,aOc,aM6] at G;exact⟨rfl,G.symm⟩
 have perm: ∀i blk b o,i∈qV [(k,qP.grow e c (n+r.length))]->qT (rJ [(k,qP.grow e c (n+r.length))] H) i=some blk->sB ((g.tok k (n+r.length) (.slice (some ⟨q,0,none⟩) (n+r.length) cap)).shut q ((n+r.length)*c)) i blk b o->w.heap.size<=b\/sX g H (qV [(k,qP.grow e c (n+r.length))]) b o:=by
  intro i blk b o hi K Z;obtain⟨rfl,rfl⟩:=get i blk hi K;obtain⟨v',Q,hb⟩:=Z;rw[cur1] at Q;obtain rfl:=aNa Q;cases hb;rcases V with h|h
  .exact .inl (aOv h.symm)
  exact .inr (z o _ h)
 have hF:uR (Rd ((g.tok k (n+r.length) (.slice (some ⟨q,0,none⟩) (n+r.length) cap)).shut q ((n+r.length)*c)) w' u) u.cells (l++r) (xs++news):=hc▸CV (λ_ _ h=>xE le h) (mc hl hr);have I:(l++r).length=n+r.length:=by rw[aM7,hd]
 refine⟨le,⟨.inr ⟨rfl,some ⟨q,0,none⟩,cap,by rw[I],by rw[I];exact U,.inr ⟨q,0,rfl,QV hF (nd X) (λj Y=>?_)⟩⟩,?_⟩,hH.upd le fr perm gho (λi blk hi K=>?_) (λi j bi bj b o hi Y he hn hh _ _=>he ((get i bi hi hn).1.trans (get j bj Y hh).1.symm)) (λb o h=>?_),fr,perm,gho,λi u' y us h=>by
  simp only[rJ,qT] at h;split at h
  .cases h
  exact .inl ⟨y,us,h⟩⟩
 .right;rw[I] at Y;exact⟨rfl,by rw[hc];omega⟩
 .show _=_;rw[I];exact cur1
 .obtain⟨rfl,rfl⟩:=get i blk hi K;refine⟨_,_,cur1,X,λm hu=>?_,λb hb o h=>?_⟩
  .show (if i=i/\m=n+r.length then _ else _)=_;rw[aM9 pM];exact F m pM
  cases hb;rcases h with h|⟨_,h⟩
  .rcases V with h2|h2
   .have:q<w.heap.size:=hH.sl _ _ h;omega
   have:=E _ h2 o h;rw[Nat.add_mul];omega
  exact h
 rcases h with h|⟨rfl,_⟩
 .exact aNI (hH.sl b o h) G.size
 exact R
theorem sC.lit {side:List Prop}{rds:pX}{base e c n:Nat}{u:Ty}{l:List u.den}{cs:pU}(V:c=u.cells) (z:l.length=n) (R:uR (Rd g w u) c l cs) (X:n<=maxLen) (hf: ∀m,g.cur base m=none):
  sC g w H ⟨side,(.val (.list u) l,some base),[(base,.grow e c n)],rds⟩ ((g.tok base n (.slice (some ⟨w.heap.size,0,none⟩) n n)).shut w.heap.size (n*c)) (w.alloc (.cells cs.toArray e)) (.slice (some ⟨w.heap.size,0,none⟩) n n):=by
 have D:=LY R;have le:Le g w ((g.tok base n (.slice (some ⟨w.heap.size,0,none⟩) n n)).shut w.heap.size (n*c)) (w.alloc (.cells cs.toArray e)):=⟨λ_ _ h=> .inl h,λb o h=>aNx (a:=⟨b,o,none⟩) (aNB _ _ _ (hH.sl b o h)),λ_ _ h=>h,λk' n' v' h=>by
  show (if k'=base/\n'=n then _ else _)=_;rw[aM9 (λ⟨e1,e2⟩=>by rw[e1,hf] at h;cases h)];exact h⟩
 have fr:Fr (sX g H (qV [(base,qP.grow e c n)])) w (w.alloc (.cells cs.toArray e)) g.S ((g.tok base n (.slice (some ⟨w.heap.size,0,none⟩) n n)).shut w.heap.size (n*c)).S:=
  ⟨rfl,rfl,rfl,by simp,λb hb _=>aNB _ _ _ hb,λb o hb _=>⟨aNx (a:=⟨b,o,none⟩) (aNB _ _ _ hb),aNZ (a:=⟨b,o,none⟩) (aNB _ _ _ hb)⟩,λb o h=>h.imp id λh=> .inl (aOv h.1.symm),λb s h=> .inl ((EV (aNB _ _ _ (EU h))).trans h)⟩
 have gho: ∀i,i∉qV [(base,qP.grow e c n)]->((g.tok base n (.slice (some ⟨w.heap.size,0,none⟩) n n)).shut w.heap.size (n*c)).J i=g.J i/\((g.tok base n (.slice (some ⟨w.heap.size,0,none⟩) n n)).shut w.heap.size (n*c)).cur i=g.cur i:=λi hi=>⟨rfl,by
  funext n';show (if i=base/\n'=n then _ else _)=_;rw[aM9 (λ⟨e1,_⟩=>hi aPa)]⟩
 have cur1:((g.tok base n (.slice (some ⟨w.heap.size,0,none⟩) n n)).shut w.heap.size (n*c)).cur base n=some (.slice (some ⟨w.heap.size,0,none⟩) n n):=by
  show (if base=base/\n=n then _ else _)=_;simp
 have get: ∀i blk,i∈qV [(base,qP.grow e c n)]->qT (rJ [(base,qP.grow e c n)] H) i=some blk->i=base/\blk= .grow e c n:=by
  intro i blk hi U;simp only[qV,aNn] at hi;subst hi;simp only[rJ,qT,aOc,aM6] at U;exact⟨rfl,U.symm⟩
 have perm: ∀i blk b o,i∈qV [(base,qP.grow e c n)]->qT (rJ [(base,qP.grow e c n)] H) i=some blk->sB ((g.tok base n (.slice (some ⟨w.heap.size,0,none⟩) n n)).shut w.heap.size (n*c)) i blk b o->w.heap.size<=b\/sX g H (qV [(base,qP.grow e c n)]) b o:=by
  intro i blk b o hi E K;obtain⟨rfl,rfl⟩:=get i blk hi E;obtain⟨v',F,hb⟩:=K;rw[cur1] at F;obtain rfl:=aNa F;cases hb;exact .inl (aNt _)
 have Y:uR (Rd ((g.tok base n (.slice (some ⟨w.heap.size,0,none⟩) n n)).shut w.heap.size (n*c)) (w.alloc (.cells cs.toArray e)) u) u.cells l cs:=V▸CV (λ_ _ h=>xE le h) R;have I:(w.alloc (.cells cs.toArray e)).rangeAt w.heap.size 0 cs:=λj v hv=>by
  rw[aNF,aOo];simpa using hv
 refine⟨le,⟨.inr ⟨rfl,some ⟨w.heap.size,0,none⟩,n,by rw[z],by rw[z];exact aNt _,.inr ⟨w.heap.size,0,rfl,QV Y I (λj G=>?_)⟩⟩,?_⟩,hH.upd le fr perm gho (λi blk hi E=>?_) (λi j bi bj b o hi G M Q O _ _=>M ((get i bi hi Q).1.trans (get j bj G O).1.symm)) (λb o h=>?_),fr,perm,gho,λi u' y us h=>by
  simp only[rJ,qT] at h;split at h
  .cases h
  exact .inl ⟨y,us,h⟩⟩
 .right;rw[z] at G;exact⟨rfl,by rw[V];omega⟩
 .show _=_;rw[z];exact cur1
 .obtain⟨rfl,rfl⟩:=get i blk hi E;refine⟨_,cs,cur1,⟨by rw[D,z],.inr ⟨w.heap.size,n,cs.toArray,rfl,aOz _,aO1 w _,aNt _,X,by simp [D,z],by simp [<-z,<-D]⟩⟩,λm Z=>?_,λb hb o h=>?_⟩
  .show (if i=i/\m=n then _ else _)=_;rw[aM9 pM];exact hf m
  cases hb;rcases h with h|⟨_,h⟩
  .exact absurd (hH.sl _ _ h) (aOB _)
  exact h
 rcases h with h|⟨rfl,_⟩
 .exact aNI (hH.sl b o h) pO
 simp
theorem ne: ∀{toks:pS}{off n q k:Nat},(q,k)∈vV toks off n->(q,k)∈toks/\¬(off<=q/\q<off+n)
 |[],_,_,_,_,h=>by simp [vV] at h
 |(q',k')::r,off,n,q,k,h=>by
  simp only[vV] at h;split at h
  .obtain⟨z,j⟩:=ne h;exact⟨aNp _ z,j⟩
  rename_i D;rcases aNk.1 h with h|h
  .cases h;exact⟨by simp,D⟩
  obtain⟨z,j⟩:=ne h;exact⟨aNp _ z,j⟩
theorem a6A {u:Ty}{y:u.den}: ∀{t:Ty}{x z:t.den}{o:Nat},u.isRow=false->sW u y t x o=some z->rR u t z o=some y:=by
 intro t
 induction t with
 |pair a b iha ihb=>
  intro x z o j h;have D:u≠.pair a b:=by intro e;rw[e] at j;cases j
  have key: ∀o,(if o<a.cells then(sW u y a x.1 o).map (λq=>(q,x.2)) else(sW u y b x.2 (o-a.cells)).map (λq=>(x.1,q)))=some z->
    (if o<a.cells then rR u a z.1 o else rR u b z.2 (o-a.cells))=some y:=by
   intro o h;by_cases F:o<a.cells
   .rw[aM4 F] at h|-;obtain⟨q,E,rfl⟩:=aNh.1 h;exact iha j E
   rw[aM9 F] at h|-;obtain⟨q,E,rfl⟩:=aNh.1 h;exact ihb j E
  cases o with
  |zero=>
   unfold sW at h;unfold rR;rw[aOA D] at h;rw[aOA (Ne.symm D)];have:=key 0 aO4;simpa using this
  |succ o=>
   have:=key (o+1) (by simpa[sW] using h);simpa[rR] using this
 |_=>
  intro x z o j h;cases o with
  |zero=>
   unfold sW at h;split at h
   .rename_i e;subst e;simp only[uF,aM6] at h
    try subst h
    unfold rR;simp [uF]
   .simp at h
  |succ o=>simp [sW] at h
theorem Dh {u v:Ty}{y:u.den}: ∀{t:Ty}{x z:t.den}{o q:Nat}{l:(Ty.list v).den},sW u y t x o=some z->rR (.list v) t x q=some l->¬(o<=q/\q<o+u.cells)->rR (.list v) t z q=some l:=by
 intro t
 induction t with
 |pair a b iha ihb=>
  intro x z o q l h g E;by_cases F:o=0/\u= .pair a b
  .obtain⟨rfl,rfl⟩:=F;exfalso;apply E;have: ∀(t:Ty) (x:t.den) (q:Nat) (l:(Ty.list v).den),rR (.list v) t x q=some l->q<t.cells:=by
    intro t
    induction t with
    |pair s t ihs iht=>
     intro x q l g;have key: ∀q,(if q<s.cells then rR (.list v) s x.1 q else rR (.list v) t x.2 (q-s.cells))=some l->q<s.cells+t.cells:=by
      intro q g;by_cases h:q<s.cells
      .omega
      rw[aM9 h] at g;have:=iht _ _ _ g;omega
     cases q with
     |zero=>
      unfold rR at g;rw[aOA aO7] at g;exact key 0 (by simpa using g)
     |succ q=>exact key (q+1) (by simpa[rR] using g)
    |_=>
     intro x q l g;cases q with
     |zero=>first|(simp [Ty.cells];done) |(unfold rR at g;simp at g)
     |succ q=>simp [rR] at g
   exact⟨aOz _,by simpa using this _ _ _ _ g⟩
  .have keyh:(if o<a.cells then(sW u y a x.1 o).map (λq=>(q,x.2)) else(sW u y b x.2 (o-a.cells)).map (λq=>(x.1,q)))=some z:=by
    cases o with
    |zero=>
     unfold sW at h;rw[aOA (λe=>F ⟨rfl,e⟩)] at h;simpa using h
    |succ o=>simpa[sW] using h
   have keyg: ∀x:(Ty.pair a b).den,rR (.list v) (.pair a b) x q=(if q<a.cells then rR (.list v) a x.1 q else rR (.list v) b x.2 (q-a.cells)):=by
    intro x;cases q with
    |zero=>
     conv=>lhs;unfold rR
     rw[aOA aO7,Nat.zero_sub]
    |succ q=>simp [rR]
   rw[keyg] at g|-;by_cases G:o<a.cells
   .rw[aM4 G] at keyh;obtain⟨z',D,rfl⟩:=aNh.1 keyh;by_cases j:q<a.cells
    .rw[aM4 j] at g|-;exact iha D g E
    rw[aM9 j] at g|-;exact g
   .rw[aM9 G] at keyh;obtain⟨z',D,rfl⟩:=aNh.1 keyh;by_cases j:q<a.cells
    .rw[aM4 j] at g|-;exact g
    .rw[aM9 j] at g|-;exact ihb D g pM
 |unit=>
  intro x z o q l h g E;cases q with
  |zero=>
   unfold rR at g;rw[aOA aO7] at g;cases g
  |succ q=>simp [rR] at g
 |_=>
  intro x z o q l h g E;cases o with
  |zero=>
   unfold sW at h;split at h
   .rename_i e;subst e;cases q with
    |zero=>exact absurd ⟨aNt _,by first|exact Nat.zero_lt_one|decide⟩ E
    |succ q=>simp [rR] at g
   .simp at h
  |succ o=>simp [sW] at h
theorem sC.store {side:List Prop}{rds:pX}{i:Nat}{u t:Ty}{x z:u.den}{y:t.den}{off:Nat}{toks:pS}{k:pW}{p:Pl}{cy:pU}{v:pZ}(hb:qT H i=some (.cells u x toks)) (hp:g.J i=some p)
  (I:sW t y u x off=some z) (hy:Rd g w t y cy) (hk:DP g t y v k) (hw: ∀a b,t= .pair a b->k=none) (hv:t.isRow=false->cy=[v]):
  sC g w H ⟨side,(.any,none),[(i,.cells u z (rJ (xT k off) (vV toks off t.cells)))],rds⟩ g (w.setCells p.1 (p.2+off) cy) undef/\w.there p.1 (p.2+off) cy.length:=by
 obtain⟨p',cs,hd,hR,hc,Q,he,ht⟩:=hH.blk i _ hb;rw[hp] at hd;obtain rfl:=aNa hd;obtain⟨c1,c2,c3,hF,hu,hl,hz⟩:=ab hy hR I;subst hF;subst hu;have hG:=sU hR;have Z:=sU hy;simp only[aM7] at hG;have D:w.there p.1 (p.2+c1.length) cy.length:=λj V=>by
  have:=Q.1 (c1.length+j) pM;rwa [<-aNN] at this
 have E: ∀b o,(b=p.1->o<p.2+c1.length\/p.2+c1.length+cy.length<=o)->(w.setCells p.1 (p.2+c1.length) cy).cell? ⟨b,o,none⟩=w.cell? ⟨b,o,none⟩:=λb o h=>World.cell?_setCells_out p.1 cy _ w ⟨b,o,none⟩ (λe _=>h e);have hn: ∀b o,b=p.1->p.2+c1.length<=o->o<p.2+c1.length+cy.length->sB g i (.cells u x toks) b o:=λb o e F G=>⟨p,hp,e,pM,pM⟩;have ha:(w.setCells p.1 (p.2+c1.length) cy).heap.size=w.heap.size:=by
  have: ∀(l:pU) (o:Nat) (w:pY),(w.setCells p.1 o l).heap.size=w.heap.size:=by
   intro l
   induction l with
   |nil=>intro o w;rfl
   |cons v l ih=>intro o w;rw[World.setCells,ih];simp [World.setCell]
  exact this _ _ _
 have hI: ∀b,b≠p.1->(w.setCells p.1 (p.2+c1.length) cy).heap[b]? =w.heap[b]? :=by
  intro b hb;have: ∀(l:pU) (o:Nat) (w:pY),(w.setCells p.1 o l).heap[b]? =w.heap[b]? :=by
   intro l
   induction l with
   |nil=>intro o w;rfl
   |cons v l ih=>intro o w;rw[World.setCells,ih];exact Below.heap_setCell _ _ _ _ hb
  exact this _ _ _
 have R:(w.setCells p.1 (p.2+c1.length) cy).os=w.os/\(w.setCells p.1 (p.2+c1.length) cy).tape=w.tape/\(w.setCells p.1 (p.2+c1.length) cy).output=w.output:=by
  have: ∀(l:pU) (o:Nat) (w:pY),(w.setCells p.1 o l).os=w.os/\(w.setCells p.1 o l).tape=w.tape/\(w.setCells p.1 o l).output=w.output:=by
   intro l
   induction l with
   |nil=>intro o w;exact⟨rfl,rfl,rfl⟩
   |cons v l ih=>intro o w;rw[World.setCells];exact ih _ _
  exact this _ _ _
 have hA: ∀b o,g.S b o->¬(b=p.1/\p.2<=o/\o<p.2+u.cells):=λb o Y ⟨e,F,G⟩=>he (o-p.2) pM (by rw[show p.2+(o-p.2)=o from by omega,<-e];exact Y);have le:Le g w g (w.setCells p.1 (p.2+c1.length) cy):=⟨λ_ _ h=>h,λb o h=>E b o (λe=>by
  have:=hA b o h;rcases aOi o (p.2+c1.length) with F|F
  .exact .inl F
  rcases aOi o (p.2+c1.length+cy.length) with G|G
  .exact absurd ⟨e,pM,pM⟩ this
  exact .inr G),λ_ _ h=>h,λ_ _ _ h=>h⟩
 have K: ∀b o,sB g i (.cells u x toks) b o->sX g H (qV [(i,qP.cells u z (rJ (xT k c1.length) (vV toks c1.length t.cells)))]) b o:=λb o h=>⟨i,_,by simp [qV],hb,h⟩;have fr:Fr (sX g H (qV [(i,qP.cells u z (rJ (xT k c1.length) (vV toks c1.length t.cells)))])) w (w.setCells p.1 (p.2+c1.length) cy) g.S g.S:=by
  refine⟨R.1,R.2.1,R.2.2,aOv ha.symm,λb hJ U=>?_,λb o hJ U=>⟨E b o (λe=>?_),World.frozen?_setCells _ _ _ _ _⟩,λb o h=> .inl h,λb s Y=> .inl ((VJ _ _ _ _ _).trans Y)⟩
  .by_cases e:b=p.1
   .cases hD:cy with
    |nil=>rfl
    |cons q l=>exact absurd (K b (p.2+c1.length) (hn b _ e (aNt _) (by rw[hD];simp))) (U _)
   exact hI b e
  rcases aOi o (p.2+c1.length) with F|F
  .exact .inl F
  rcases aOi o (p.2+c1.length+cy.length) with G|G
  .exact absurd (K b o (hn b o e F G)) U
  exact .inr G
 have gho: ∀j,j∉qV [(i,qP.cells u z (rJ (xT k c1.length) (vV toks c1.length t.cells)))]->g.J j=g.J j/\g.cur j=g.cur j:=λ_ _=>⟨rfl,rfl⟩;have get: ∀j blk,j∈qV [(i,qP.cells u z (rJ (xT k c1.length) (vV toks c1.length t.cells)))]->qT (rJ [(i,qP.cells u z (rJ (xT k c1.length) (vV toks c1.length t.cells)))] H) j=some blk->j=i/\blk= .cells u z (rJ (xT k c1.length) (vV toks c1.length t.cells)):=by
  intro j blk hi X;simp only[qV,aNn] at hi;subst hi;simp only[rJ,qT,aOc,aM6] at X;exact⟨rfl,X.symm⟩
 have perm: ∀j blk b o,j∈qV [(i,qP.cells u z (rJ (xT k c1.length) (vV toks c1.length t.cells)))]->qT (rJ [(i,qP.cells u z (rJ (xT k c1.length) (vV toks c1.length t.cells)))] H) j=some blk->sB g j blk b o->w.heap.size<=b\/sX g H (qV [(i,qP.cells u z (rJ (xT k c1.length) (vV toks c1.length t.cells)))]) b o:=by
  intro j blk b o hi X ho;obtain⟨rfl,rfl⟩:=get j blk hi X;exact .inr (K b o ho)
 refine⟨⟨le,⟨trivial,trivial⟩,hH.upd le fr perm gho (λj blk hi X=>?_) (λi j bi bj b o hi V hx hC hB _ _=>hx ((get i bi hi hC).1.trans (get j bj V hB).1.symm)) (λb o h=>by rw[ha];exact hH.sl b o h),fr,perm,gho,λj u' y' us h=>by
  simp only[rJ,qT] at h;split at h
  .rename_i e1;subst e1;simp only[aM6,qP.cells.injEq] at h;obtain⟨rfl,_⟩:=h;exact .inl ⟨x,toks,hb⟩
  exact .inl ⟨y',us,h⟩⟩,D⟩
 obtain⟨rfl,rfl⟩:=get j blk hi X;refine⟨p,_,hp,xE le hz,λq v M=>?_,⟨λq M=>?_,λh0 s Y=>(VJ _ _ _ _ _).trans (Q.2 h0 s Y)⟩,he,?_⟩
 .by_cases F:q<c1.length
  .rw[E _ _ (λ_=> .inl pM)];refine hc q v ?_;rw[aNd,aNo F] at M|-;exact M
  by_cases G:q<c1.length+cy.length
  .have:=aOr p.1 cy (p.2+c1.length) w (λj V=>(D j V).1) (q-c1.length) pM;rw[show p.2+c1.length+(q-c1.length)=p.2+q from by omega] at this;rw[this];rw[aNd,aNg pM,aNo pM] at M;rw[<-M,aNe pM]
  rw[E _ _ (λ_=> .inr pM)];refine hc q v ?_;rw[aNd,aNg pM,aNg pM] at M|-;rw[hl];rw[Z] at M;exact M
 .have hh:=Q.1 q M;refine⟨?_,by rw[World.frozen?_setCells];exact hh.2⟩;by_cases F:q<c1.length\/c1.length+cy.length<=q
  .rw[E _ _ (λ_=>by omega)];exact hh.1
  have:=aOr p.1 cy (p.2+c1.length) w (λj V=>(D j V).1) (q-c1.length) pM;rw[show p.2+c1.length+(q-c1.length)=p.2+q from by omega] at this;rw[this];rfl
 intro q kk hm;have O:(q,kk)∈xT k c1.length\/(q,kk)∈vV toks c1.length t.cells:=by
  cases k with
  |none=>exact .inr (by simpa[xT,rJ] using hm)
  |some k=>
   simp only[xT,rJ,aNk] at hm;rcases hm with hm|hm
   .exact .inl (by simp [xT,hm])
   exact .inr hm
 rcases O with hm|hm
 .cases k with
  |none=>simp [xT] at hm
  |some k=>
   simp only[xT,aNn,aNA] at hm;obtain⟨rfl,rfl⟩:=hm;cases t with
   |list t=>
    obtain rfl:=hv rfl;exact⟨t,y,v,a6A hH rfl I,by simp,hk⟩
   |pair a b=>cases hw a b rfl
   |_=>exact hk.elim
 obtain⟨F,G⟩:=ne hH hm;obtain⟨v',l,v1,g1,g2,g3⟩:=ht q kk F;refine⟨v',l,v1,Dh hH I g1 G,?_,g3⟩;rcases aOi q c1.length with h3|h3
 .rw[aNd,aNo h3] at g2|-;exact g2
 have h4:c1.length+t.cells<=q:=by omega
 rw[aNd,aNg pM,aNg pM] at g2|-;rw[Z];rw[hl] at g2;exact g2
theorem zR.openS {side:List Prop}{rds:pX}{i:Nat}{u u0:Ty}{el:Nat}{kn:pV}{x:u.den}{z: Σ t:Ty,t.den}{off:Nat}{toks:pS}{p:Pl}{cy:pU}(hb:qT H i=some (.cells u x toks)) (hp:g.J i=some p)
  (O:yH el u0 kn u x off=some z) (hy:FQ g kn cy) (hl:cy.length=1) (hn:IU rds=true):
  zR g w H ⟨side,(.any,none),[(i,.cells z.1 z.2 [])],rds⟩ g (w.setCells p.1 (p.2+off) cy) undef/\w.there p.1 (p.2+off) cy.length:=by
 obtain⟨p',cs,hc,hR,ha,Q,hd,hJ⟩:=hH.blk i _ hb;rw[hp] at hc;obtain rfl:=aNa hc;obtain⟨c1,c2,c3,hD,hu,ht,hz⟩:=a5W hy hR O;subst hD;subst hu;have hF:=sU hR;have M:=a5V O;simp only[aM7] at hF;have D:w.there p.1 (p.2+c1.length) cy.length:=λj V=>by
  have:=Q.1 (c1.length+j) pM;rwa [<-aNN] at this
 have E: ∀b o,(b=p.1->o<p.2+c1.length\/p.2+c1.length+cy.length<=o)->(w.setCells p.1 (p.2+c1.length) cy).cell? ⟨b,o,none⟩=w.cell? ⟨b,o,none⟩:=λb o h=>World.cell?_setCells_out p.1 cy _ w ⟨b,o,none⟩ (λe _=>h e);have he: ∀b o,b=p.1->p.2+c1.length<=o->o<p.2+c1.length+cy.length->sB g i (.cells u x toks) b o:=λb o e G K=>⟨p,hp,e,pM,pM⟩;have Z:(w.setCells p.1 (p.2+c1.length) cy).heap.size=w.heap.size:=by
  have: ∀(l:pU) (o:Nat) (w:pY),(w.setCells p.1 o l).heap.size=w.heap.size:=by
   intro l
   induction l with
   |nil=>intro o w;rfl
   |cons v l ih=>intro o w;rw[World.setCells,ih];simp [World.setCell]
  exact this _ _ _
 have hG: ∀b,b≠p.1->(w.setCells p.1 (p.2+c1.length) cy).heap[b]? =w.heap[b]? :=by
  intro b hb;have: ∀(l:pU) (o:Nat) (w:pY),(w.setCells p.1 o l).heap[b]? =w.heap[b]? :=by
   intro l
   induction l with
   |nil=>intro o w;rfl
   |cons v l ih=>intro o w;rw[World.setCells,ih];exact Below.heap_setCell _ _ _ _ hb
  exact this _ _ _
 have R:(w.setCells p.1 (p.2+c1.length) cy).os=w.os/\(w.setCells p.1 (p.2+c1.length) cy).tape=w.tape/\(w.setCells p.1 (p.2+c1.length) cy).output=w.output:=by
  have: ∀(l:pU) (o:Nat) (w:pY),(w.setCells p.1 o l).os=w.os/\(w.setCells p.1 o l).tape=w.tape/\(w.setCells p.1 o l).output=w.output:=by
   intro l
   induction l with
   |nil=>intro o w;exact⟨rfl,rfl,rfl⟩
   |cons v l ih=>intro o w;rw[World.setCells];exact ih _ _
  exact this _ _ _
 have hx: ∀b o,g.S b o->¬(b=p.1/\p.2<=o/\o<p.2+u.cells):=λb o Y ⟨e,G,K⟩=>hd (o-p.2) pM (by rw[show p.2+(o-p.2)=o from by omega,<-e];exact Y);have le:Le g w g (w.setCells p.1 (p.2+c1.length) cy):=⟨λ_ _ h=>h,λb o h=>E b o (λe=>by
  have:=hx b o h;rcases aOi o (p.2+c1.length) with G|G
  .exact .inl G
  rcases aOi o (p.2+c1.length+cy.length) with K|K
  .exact absurd ⟨e,pM,pM⟩ this
  exact .inr K),λ_ _ h=>h,λ_ _ _ h=>h⟩
 have I: ∀b o,sB g i (.cells u x toks) b o->sX g H (qV [(i,qP.cells z.1 z.2 [])]) b o:=λb o h=>⟨i,_,by simp [qV],hb,h⟩;have fr:Fr (sX g H (qV [(i,qP.cells z.1 z.2 [])])) w (w.setCells p.1 (p.2+c1.length) cy) g.S g.S:=by
  refine⟨R.1,R.2.1,R.2.2,aOv Z.symm,λb hI U=>?_,λb o hI U=>⟨E b o (λe=>?_),World.frozen?_setCells _ _ _ _ _⟩,λb o h=> .inl h,λb s Y=> .inl ((VJ _ _ _ _ _).trans Y)⟩
  .by_cases e:b=p.1
   .cases hC:cy with
    |nil=>rfl
    |cons q l=>exact absurd (I b (p.2+c1.length) (he b _ e (aNt _) (by rw[hC];simp))) (U _)
   exact hG b e
  rcases aOi o (p.2+c1.length) with G|G
  .exact .inl G
  rcases aOi o (p.2+c1.length+cy.length) with K|K
  .exact absurd (I b o (he b o e G K)) U
  exact .inr K
 have gho: ∀j,j∉qV [(i,qP.cells z.1 z.2 [])]->g.J j=g.J j/\g.cur j=g.cur j:=λ_ _=>⟨rfl,rfl⟩;have get: ∀j blk,j∈qV [(i,qP.cells z.1 z.2 [])]->qT (rJ [(i,qP.cells z.1 z.2 [])] H) j=some blk->j=i/\blk= .cells z.1 z.2 []:=by
  intro j blk hi X;simp only[qV,aNn] at hi;subst hi;simp only[rJ,qT,aOc,aM6] at X;exact⟨rfl,X.symm⟩
 have perm: ∀j blk b o,j∈qV [(i,qP.cells z.1 z.2 [])]->qT (rJ [(i,qP.cells z.1 z.2 [])] H) j=some blk->sB g j blk b o->w.heap.size<=b\/sX g H (qV [(i,qP.cells z.1 z.2 [])]) b o:=by
  intro j blk b o hi X ho;obtain⟨rfl,rfl⟩:=get j blk hi X;obtain⟨q,F,e1,e2,e3⟩:=ho;rw[M] at e3;exact .inr (I b o ⟨q,F,e1,e2,e3⟩)
 refine⟨⟨le,⟨trivial,trivial⟩,hH.upd le fr perm gho (λj blk hi X=>?_) (λi j bi bj b o hi V hw hB hA _ _=>hw ((get i bi hi hB).1.trans (get j bj V hA).1.symm)) (λb o h=>by rw[Z];exact hH.sl b o h),fr,perm,gho,λh=>by rw[hn] at h;cases h⟩,D⟩;obtain⟨rfl,rfl⟩:=get j blk hi X;refine⟨p,_,hp,xE le hz,λq v F=>?_,⟨λq F=>?_,λh0 s Y=>(VJ _ _ _ _ _).trans (Q.2 (by rw[<-M];exact h0) s Y)⟩,λq F=>hd q (by rw[<-M];exact F),λ_ _ hm=>by cases hm⟩
 .by_cases G:q<c1.length
  .rw[E _ _ (λ_=> .inl pM)];refine ha q v ?_;rw[aNd,aNo G] at F|-;exact F
  by_cases K:q<c1.length+cy.length
  .have:=aOr p.1 cy (p.2+c1.length) w (λj V=>(D j V).1) (q-c1.length) pM;rw[show p.2+c1.length+(q-c1.length)=p.2+q from by omega] at this;rw[this];rw[aNd,aNg pM,aNo pM] at F;rw[<-F,aNe pM]
  rw[E _ _ (λ_=> .inr pM)];refine ha q v ?_;rw[aNd,aNg pM,aNg pM] at F|-;rw[ht];rw[hl] at F;exact F
 have hh:=Q.1 q (by rw[<-M];exact F);refine⟨?_,by rw[World.frozen?_setCells];exact hh.2⟩;by_cases G:q<c1.length\/c1.length+cy.length<=q
 .rw[E _ _ (λ_=>by omega)];exact hh.1
 have:=aOr p.1 cy (p.2+c1.length) w (λj V=>(D j V).1) (q-c1.length) pM;rw[show p.2+c1.length+(q-c1.length)=p.2+q from by omega] at this;rw[this];rfl
end
def yU (g:Gh) (base:Nat) (e:r9):Prop:= ∀i,i∈qV e.upd->base<=i->g.J i=none/\∀n,g.cur i n=none
section
variable {P:Program}{o:Oper}{a:Act}{g:Gh}{w:pY}{H:sA}{T:sH}(hT:vX P T) (hH:sL g w H)
include hT hH
theorem Di {x:Operand}(D:o.op= .move x\/o.op= .assign x) {sx:qK}(E:rY g w sx (a.eval x)) {base:Nat}{e:r9}(hr:jt base (s0 T o.type) sx=some e) (hf:yU g base e):rS P o a g w H e:=by
 have j:(execOp a.eval o).run P w= .ok (.value (a.eval x)) w:=by rcases D with D|D<;>simp [execOp,D]
 generalize hst:s0 T o.type=ot at hr;unfold jt at hr;split at hr
 .cases hr;have hv:a.eval x= .slice none 0 0:=E.1;have z:=(hf base aPb (aNt _)).2;refine rS.value (v:= .slice none 0 0) (by rw[j,hv]) (sC.row (v:= .slice none 0 0) (xs:=[]) hH rfl (World.ownsRow_nil w 0 _ _) rfl (λm _=>z m) (λu F=>by rw[z] at F;cases F) (.inl ⟨rfl,rfl,rfl,aNt _,λ_ _ _=>rfl⟩) (λ_ _ _=>rfl) (λb hb=>by cases hb) (λb hb=>by cases hb) ⟨⟨by simp [Gh.tok],.inl ⟨rfl,rfl⟩⟩,trivial⟩)
 .cases hr;have hv:a.eval x= .slice none 0 0:=E.1;refine rS.value (v:= .slice none 0 0) (by rw[j,hv]) (sC.nilTok hH rfl (hf base aPb (aNt _)).2)
 .cases hr
 cases hr;exact rS.value j (.pure hH E)
theorem a6B {u:Ty}{y:List u.den}{k:pW}{v:pZ}{cs:pU}(h:DP g (.list u) y v k) (j:cs=[v]):H3 g (.list u) y cs (xT k 0):=by
 intro q kk hm;cases k with
 |none=>simp [xT] at hm
 |some k=>
  simp only[xT,aNn,aNA] at hm;obtain⟨rfl,rfl⟩:=hm;exact⟨u,y,v,by unfold rR;simp [uF],by rw[j];rfl,h⟩
omit hT hH in
theorem QY {α:Type}: ∀(l m n:List α),rJ (rJ l m) n=rJ l (rJ m n)
 |[],_,_=>rfl
 |x::l,m,n=>by simp only[rJ,QY l m n]
omit hT hH in
theorem EZ {i:Nat}: ∀{l m:List (Nat×qP)},i∈qV (rJ l m)↔i∈qV l\/i∈qV m
 |[],m=>by simp [rJ,qV]
 |(k,b)::l,m=>by simp only[rJ,qV,aNk,EZ (l:=l),or_assoc]
omit hT hH in
theorem sC.trans {H:sA}{e1 e2:r9}{g1 g2:Gh}{w1 w2:pY}{v1 v2:pZ}{side:List Prop}{rds:pX}(h:sC g w H e1 g1 w1 v1) (k:sC g1 w1 (rJ e1.upd H) e2 g2 w2 v2):sC g w H ⟨side,e2.slot,rJ e2.upd e1.upd,rds⟩ g2 w2 v2:=by
 have Q: ∀b o,sX g1 (rJ e1.upd H) (qV e2.upd) b o->w.heap.size<=b\/sX g H (qV (rJ e2.upd e1.upd)) b o:=by
  rintro b o ⟨i,blk,hi,z,D⟩;by_cases E:i∈qV e1.upd
  .refine(h.perm i blk b o E z D).imp id λ⟨j,bj,I,q⟩=>⟨j,bj,EZ.2 (.inr I),q⟩
  exact .inr ⟨i,blk,EZ.2 (.inl hi),(CW E).symm.trans z,(zS (h.gho i E).1 (h.gho i E).2).1 D⟩
 have mono: ∀b o,sX g H (qV e1.upd) b o->sX g H (qV (rJ e2.upd e1.upd)) b o:=λb o ⟨j,bj,I,q⟩=>⟨j,bj,EZ.2 (.inr I),q⟩;refine⟨h.le.trans k.le,k.slot,by simp only[QY];exact k.heap,?_,λi blk b o hi z D=>?_,λi hi=>?_,λi u y us z=>?_⟩
 .have E:Fr (sX g H (qV (rJ e2.upd e1.upd))) w w1 g.S g1.S:=⟨h.fr.os,h.fr.tape,h.fr.output,h.fr.size,λb hb M=>h.fr.blk b hb (λo D=>M o (mono b o D)),λb o hb M=>h.fr.cell b o hb (λD=>M (mono b o D)),λb o K=>(h.fr.new b o K).imp id (Or.imp id (mono b o)),λb s K=>(h.fr.shape b s K).imp id λh o=>mono b o (h o)⟩;exact E.trans k.fr Q
 .simp only[QY] at z;by_cases G:i∈qV e2.upd
  .rcases k.perm i blk b o G z D with F|F
   .exact .inl (aNK h.fr.size F)
   exact Q b o F
  have O:i∈qV e1.upd:=(EZ.1 hi).resolve_left G;rw[CW G] at z;exact(h.perm i blk b o O z ((zS (k.gho i G).1 (k.gho i G).2).1 D)).imp id (mono b o)
 .have G:i∉qV e2.upd:=λq=>hi (EZ.2 (.inl q));have E:i∉qV e1.upd:=λq=>hi (EZ.2 (.inr q));exact⟨(k.gho i G).1.trans (h.gho i E).1,(k.gho i G).2.trans (h.gho i E).2⟩
 simp only[QY] at z;rcases k.ty i u y us z with⟨x,ts,F⟩ |⟨F,R⟩
 .exact h.ty i u x ts F
 right;refine⟨?_,λn=>?_⟩
 .cases I:g.J i with
  |none=>rfl
  |some p=>rw[h.le.J i p I] at F;cases F
 cases I:g.cur i n with
 |none=>rfl
 |some p=>rw[<-R n,h.le.cur i n p I]
omit hT hH in
theorem sC.congrH {H H':sA}{e:r9}{g':Gh}{w':pY}{v:pZ}(h:sC g w H e g' w' v) (hH:H=H'):sC g w H' e g' w' v:=hH▸h
omit hT hH in
theorem nf {w:pY}: ∀(ls:List (Nat×TypeId×Nat)) (i:Nat) (g:Gh) (H:sA),sL g w H->(∀j,i<=j->j<i+ls.length->∀n,g.cur j n=none)->
  ∃g1,sC g w H ⟨[],(.any,none),ET ls i,[]⟩ g1 w undef/\g1.J=g.J/\(∀o k,(o,k)∈CP ls i->g1.cur k 0=some (.slice none 0 0))/\(∀k,k<i->g1.cur k=g.cur k)
 |[],i,g,H,hH,_=>⟨g,.pure hH ⟨trivial,trivial⟩,rfl,λ_ _ h=>by simp [CP] at h,λ_ _=>rfl⟩
 |(o,e,c)::r,i,g,H,hH,hf=>by
  have e1:=sC.nilTok (side:=[]) (d:= .val (.list .bool) []) (rds:=[]) (base:=i) (e:=e) (c:=c) (u:= .bool) hH rfl (hf i (aNt _) pO);have z: ∀k n,k≠i->(g.tok i 0 (.slice none 0 0)).cur k n=g.cur k n:=λk n hk=>by
   show (if k=i/\n=0 then _ else _)=_;rw[aM9 (λh=>hk h.1)]
  obtain⟨g1,k1,k2,k3,k4⟩:=nf r (i+1) (g.tok i 0 (.slice none 0 0)) (rJ [(i,qP.grow e c 0)] H) e1.heap (λj E D n=>by rw[z j n pM];exact hf j pM aPc n);refine⟨g1,e1.trans k1,k2.trans rfl,λo' k hm=>?_,λk hk=>?_⟩
  .simp only[CP,aNk,aNA] at hm;rcases hm with⟨rfl,rfl⟩ |hm
   .rw[k4 _ pM];show (if k=k/\0=0 then _ else _)=_;simp
   exact k3 o' k hm
  rw[k4 k pM];funext n;exact z k n pM
omit hT hH in
theorem nh: ∀{ls:List (Nat×TypeId×Nat)}{i o k:Nat},(o,k)∈CP ls i->∃q∈ls,q.1=o
 |[],_,_,_,h=>by simp [CP] at h
 |(o',e,c)::r,i,o,k,h=>by
  simp only[CP,aNk,aNA] at h;rcases h with⟨j,_⟩ |h
  .exact⟨(o',e,c),by simp,j.symm⟩
  obtain⟨q,j,z⟩:=nh h;exact⟨q,by simp [j],z⟩
omit hT hH in
theorem ni {t:Ty}: ∀{ls:List (Nat×TypeId×Nat)},FO t ls=true->∀q∈ls,FN t q.1=true
 |[],_,_,h=>by cases h
 |(o,e,c)::r,h,q,j=>by
  simp only[FO,aNf] at h;rcases aNk.1 j with rfl|j
  .exact h.1
  exact ni h.2 q j
omit hT hH in
theorem VK: ∀(ls:List (Nat×TypeId×Nat)) (i j:Nat),j∈qV (ET ls i)↔i<=j/\j<i+ls.length
 |[],i,j=>by simp only[ET,qV,aOq,aM8,false_iff];omega
 |(o,e,c)::r,i,j=>by
  simp only[ET,EZ,VK r (i+1) j,qV,aNn,aM5];omega
omit hT hH in
theorem Dj {w:pY}: ∀(R:List (Nat×Nat×Ty)) (i:Nat) (g:Gh) (H:sA),sL g w H->(∀j,i<=j->j<i+R.length->∀n,g.cur j n=none)->
  ∃g1,sC g w H ⟨[],(.any,none),LJ R i,[]⟩ g1 w undef/\g1.J=g.J/\(∀j,j<R.length->g1.cur (i+j) 0=some (.slice none 0 0))/\(∀k,k<i->g1.cur k=g.cur k)
 |[],i,g,H,hH,_=>⟨g,.pure hH ⟨trivial,trivial⟩,rfl,λ_ h=>by simp at h,λ_ _=>rfl⟩
 |(o,e,u)::r,i,g,H,hH,hf=>by
  have z:=hf i (aNt _) pO;have e1:=sC.row (side:=[]) (rds:=[]) (k:=i) (e:=e) (t:=u) (l:=[]) (n:=0) (s:=(.any,none)) (val:=undef) (v:= .slice none 0 0) (xs:=[]) hH rfl (World.ownsRow_nil w 0 _ _) rfl (λm _=>z m) (λu E=>by rw[z] at E;cases E) (.inl ⟨rfl,rfl,rfl,aNt _,λ_ _ _=>rfl⟩) (λ_ _ _=>rfl) (λb hb=>by cases hb) (λb hb=>by cases hb) ⟨trivial,trivial⟩;have D: ∀k n,k≠i->(g.tok i 0 (.slice none 0 0)).cur k n=g.cur k n:=λk n hk=>by
   show (if k=i/\n=0 then _ else _)=_;rw[aM9 (λh=>hk h.1)]
  obtain⟨g1,k1,k2,k3,k4⟩:=Dj r (i+1) (g.tok i 0 (.slice none 0 0)) (rJ [(i,qP.row e u [] 0)] H) e1.heap (λj I G n=>by rw[D j n pM];exact hf j pM aPc n);refine⟨g1,e1.trans k1,k2.trans rfl,λj F=>?_,λk hk=>?_⟩
  .cases j with
   |zero=>
    rw[aOd,k4 _ pM];show (if i=i/\0=0 then _ else _)=_;simp
   |succ j=>
    have:=k3 j aPd;rwa [show i+1+j=i+(j+1) by omega] at this
  rw[k4 k pM];funext n;exact D k n pM
omit hT hH in
theorem Dk: ∀(R:List (Nat×Nat×Ty)) (i j:Nat),j∈qV (LJ R i)↔i<=j/\j<i+R.length
 |[],i,j=>by simp only[LJ,qV,aOq,aM8,false_iff];omega
 |(o,e,c)::r,i,j=>by
  simp only[LJ,EZ,Dk r (i+1) j,qV,aNn,aM5];omega
omit hT hH in
theorem nj {α:Type}: ∀l:List α,UY l=l.length
 |[]=>rfl
 |_::l=>by simp only[UY,nj l,aM5]
omit hT hH in
theorem VL {α:Type}{x:α}: ∀{l m:List α},x∈rJ l m↔x∈l\/x∈m
 |[],m=>by simp [rJ]
 |y::l,m=>by simp only[rJ,aNk,VL (l:=l),or_assoc]
omit hT hH in
theorem a6C {g:Gh}{w:pY}: ∀{t:Ty}{x:t.den}{cs:pU}{o:Nat},Rd g w t x cs->∀q∈FP t x o,o<=q.1/\cs[q.1-o]? =some (.slice none 0 0):=by
 intro t
 induction t with
 |pair a b iha ihb=>
  intro x cs o r q j;obtain⟨c1,c2,rfl,r1,r2⟩:=r;simp only[FP,VL] at j;have F:=sU r1;rcases j with j|j
  .obtain⟨E,D⟩:=iha r1 q j;exact⟨E,by rw[aNo (aNl.1 D).1];exact D⟩
  .obtain⟨E,D⟩:=ihb r2 q j;refine⟨pM,?_⟩;rw[aNg pM,F,show q.1-o-a.cells=q.1- (o+a.cells) by omega];exact D
 |rl e u=>
  intro x cs o r q j;cases x with
  |none=>
   simp only[FP,jv,aNn] at j;subst j;refine⟨aNt _,?_⟩;rw[show cs=[.slice none 0 0] from r];simp
  |some z=>simp [FP,jv] at j
 |_=>intro x cs o r q j;simp [FP] at j
omit hT hH in
theorem a6D {g:Gh}{w:pY}: ∀{t:Ty}{x:t.den}{cs:pU}{o:Nat},Rd g w t x cs->∀q∈GX t x o,o<=q/\cs[q-o]? =some (.pointer none):=by
 intro t
 induction t with
 |pair a b iha ihb=>
  intro x cs o r q j;obtain⟨c1,c2,rfl,r1,r2⟩:=r;simp only[GX,VL] at j;have F:=sU r1;rcases j with j|j
  .obtain⟨E,D⟩:=iha r1 q j;exact⟨E,by rw[aNo (aNl.1 D).1];exact D⟩
  .obtain⟨E,D⟩:=ihb r2 q j;refine⟨pM,?_⟩;rw[aNg pM,F,show q-o-a.cells=q- (o+a.cells) by omega];exact D
 |mref=>
  intro x cs o r q j;cases x with
  |none=>
   simp only[GX,jw,aNn] at j;subst j;refine⟨aNt _,?_⟩;rw[show cs=[.pointer none] from r];simp
  |some z=>simp [GX,jw] at j
 |_=>intro x cs o r q j;simp [GX] at j
omit hT hH in
theorem Dl {g:Gh}{w:pY}{t u:Ty}{x z:t.den}{y:u.den}{cs:pU}{o:Nat}{v:pZ}(h:sW u y t x o=some z) (j:Rd g w u y [v]) (F:Rd g w t x cs) (hv:cs[o]? =some v):Rd g w t z cs:=by
 obtain⟨c1,c2,c3,rfl,rfl,E,G⟩:=ab j F h;have D:=sU j;simp only[List.length_singleton] at D;rw[<-D] at E;obtain⟨v',rfl⟩:=aOm.1 E;have:(c1++[v']++c3)[c1.length]? =some v':=by simp
 rw[this] at hv;obtain rfl:=aNa hv;exact G
omit hT hH in
theorem Dm {g:Gh}{w:pY}{t:Ty}{cs:pU}: ∀{R:List (Nat×Nat×Ty)}{i:Nat}{x z:t.den},LI t i R (some x)=some z->Rd g w t x cs->(∀q∈R,cs[q.1]? =some (.slice none 0 0))->(∀j,j<R.length->g.cur (i+j) 0=some (.slice none 0 0))->Rd g w t z cs
 |[],i,x,z,h,E,_,_=>by simp only[LI,aM6] at h;exact h▸E
 |(o,e,u)::r,i,x,z,h,E,G,F=>by
  simp only[LI] at h;cases D:sW (.rl e u) (some (i,0)) t x o with
  |none=>rw[D] at h;cases r<;>simp [LI] at h
  |some x'=>
   rw[D] at h;refine Dm h (Dl (v:= .slice none 0 0) D ⟨_,by simpa using F 0 pO,rfl,.inl ⟨rfl,rfl⟩⟩ E (G _ aNq)) (λq I=>G q (aNp _ I)) (λj K=>?_);have:=F (j+1) (by simpa using K);rwa [show i+(j+1)=i+1+j by omega] at this
omit hT hH in
theorem Dn {g:Gh}{w:pY}{t:Ty}{cs:pU}{i:Nat}{p:Pl}(hp:g.J i=some p) (j:p.2=0): ∀{M:pX}{x z:t.den},IZ t i M (some x)=some z->Rd g w t x cs->(∀q∈M,cs[q]? =some (.pointer none)/\lz p.3 q)->Rd g w t z cs
 |[],x,z,h,F,_=>by simp only[IZ,aM6] at h;exact h▸F
 |q::r,x,z,h,F,E=>by
  simp only[IZ] at h;cases D:sW .mref (some (i,q)) t x q with
  |none=>rw[D] at h;cases r<;>simp [IZ] at h
  |some x'=>
   rw[D] at h;exact Dn hp j h (Dl (v:= .pointer none) D ⟨p,hp,by rw[j,aNF];exact(E _ aNq).2,.inl rfl⟩ F (E _ aNq).1) (λq G=>E q (aNp _ G))
omit hT hH in
theorem ai {k:Nat}: ∀{ls:List (Nat×TypeId×Nat)}{q:Nat×TypeId×Nat},q∈CQ k ls->q.1+1≠k
 |[],_,h=>by cases h
 |(o,e,c)::r,q,h=>by
  simp only[CQ] at h;split at h
  .exact ai h
  rename_i j;rcases aNk.1 h with rfl|h
  .exact j
  exact ai h
omit hT in
theorem Do {t:Ty}{y:t.den}{ls:List (Nat×TypeId×Nat)}{base:Nat}{e:r9}{cs:pU}{el:TypeId}(hr:YR base el t y ls (FO t ls)=some e) (hf:yU g base e) (X:Rd g w t y cs) (hn: ∀q∈ls,∃k,y5 k t 0 cs/\q.1+1≠k):
  ∃g',sC g w H e g' (w.alloc (.cells cs.toArray el)) (.pointer (some ⟨w.heap.size,0,none⟩)):=by
 cases O:FO t ls with
 |false=>rw[O] at hr;cases hr
 |true=>
  rw[O] at hr;simp only[YR,nj] at hr;have cR:=λq D=>a6C (o:=0) X q D;have cM: ∀q∈YQ el t y,cs[q]? =some (.pointer none)/\lz (some (el,cs.length)) q:=by
   intro q D;unfold YQ at D;split at D
   .rename_i hb;have h0:=λq D=>a6D (o:=0) X q D;have O:=sU X;generalize GX t y 0=M at D h0;rw[<-O] at D;unfold Ax at D;split at D
    .rename_i E;simp only[aNn] at D;subst D;exact⟨by simpa using(h0 0 pO).2,rfl,el,hb,by rw[E]⟩
    cases D
   cases D
  generalize FP t y 0=R at hr cR;generalize YQ el t y=M at hr cM;cases G:LI t (base+1+ls.length) R (some y) with
  |none=>
   rw[G] at hr;have:IZ t base M none=none:=by cases M<;>rfl
   rw[this] at hr;cases hr
  |some z1=>
   rw[G] at hr;cases F:IZ t base M (some z1) with
   |none=>rw[F] at hr;cases hr
   |some z=>
    rw[F] at hr;simp only[Ay,nj] at hr;obtain rfl:=(aNa hr);have Q: ∀j,base+1<=j->j<base+1+ls.length+R.length->g.J j=none/\∀n,g.cur j n=none:=λj K E=>hf j (by
     simp only[qV,aNk];right;rw[EZ];by_cases h3:j<base+1+ls.length
     .exact .inr ((VK ls (base+1) j).2 ⟨K,h3⟩)
     exact .inl ((Dk R (base+1+ls.length) j).2 ⟨pM,E⟩)) pM
    have I:=hf base aPb (aNt _);obtain⟨g1,k1,k2,k3,k4⟩:=nf ls (base+1) g H hH (λj K E=>(Q j K pM).2);have V: ∀j,base+1+ls.length<=j->j<base+1+ls.length+R.length->∀n,g1.cur j n=none:=by
     intro j K E n;have:=(k1.gho j (by simp only;rw[VK];omega)).2;rw[this];exact(Q j pM E).2 n
    obtain⟨g2,m1,m2,m3,m4⟩:=Dj R (base+1+ls.length) g1 _ k1.heap V;have hJ:(g2.var base w.heap.size (some (el,cs.length))).J base=some ⟨w.heap.size,0,some (el,cs.length)⟩:=by simp [Gh.var]
    have ha:Le g w (g2.var base w.heap.size (some (el,cs.length))) w:=by
     refine((k1.le.trans m1.le).trans ⟨λ_ _ h=>h,λ_ _ _=>rfl,λi p h=>?_,λ_ _ _ h=>h⟩);show (if i=base then _ else _)=_;rw[aM9 (λe1=>by rw[e1,m2,k2,I.1] at h;cases h)];exact h
    have U:Rd (g2.var base w.heap.size (some (el,cs.length))) w t z cs:=Dn hJ rfl F (Dm G (xE ha X) (λq D=>by simpa using(cR q D).2) (λj hj=>m3 j hj)) cM;have Z:H3 g2 t z cs (CP ls (base+1)):=by
     intro o k hm;obtain⟨q,D,rfl⟩:=nh hm;obtain⟨kx,Y,hc⟩:=hn q D;obtain⟨u,K,E⟩:=Ct Y U (ni O q D) pM;exact⟨u,[],_,K,E,m1.le.cur _ _ _ (k3 _ _ hm)⟩
    have e3:=sC.newVarJ (side:=[]) (rds:=[]) (base:=base) (toks:=CP ls (base+1)) (e:=el) m1.heap U Z (by rw[m2,k2];exact I.1) (by rw[m4 base pM,k4 base pM];exact funext I.2);have e4:=sC.trans (side:=[]) (rds:=[]) k1 m1;exact⟨_,sC.trans (side:=[]) (rds:=[]) e4 (e3.congrH (H':=rJ (rJ (LJ R (base+1+ls.length)) (ET ls (base+1))) H) (by simp only[QY]))⟩
theorem nk {t:Ty}{y:t.den}{k:pW}{v:pZ}(h:rY g w (.val t y,k) v):sR g w t y v/\DP g t y v k:=by
 refine⟨h.1,?_⟩;cases k with
 |none=>trivial
 |some k=>exact h.2
theorem a6E {t:TypeId}{x:Operand}(K:o.op= .box t x) {sx:qK}(G:rY g w sx (a.eval x)) {base:Nat}{e:r9}(hr:jx base t (s0 T t) sx=some e) (hf:yU g base e):rS P o a g w H e:=by
 generalize hst:s0 T t=ot at hr;have z:(execOp a.eval o).run P w= .ok (.value (.pointer (some ⟨w.heap.size,0,none⟩))) (w.alloc (.cells (a.eval x).cells.toList.toArray t)):=by
  unfold execOp;rw[K];simp only[Instr.box,Go.newVar,newRow,aNi,run_newObj,aNb,aNu,aOk];rfl
 have one: ∀{u:Ty}{y:u.den},sR g w u y (a.eval x)->u.isRow=false->(a.eval x).cells.toList=[a.eval x]:=λhv D=>by
  have F:=BQ (B2 D hv) _ (aNn.2 rfl);cases h:a.eval x<;>first|rfl|(rw[h] at F;simp [Value.oneCell'] at F)
 unfold jx at hr;split at hr
 .rename_i ti u y k;split at hr
  .obtain⟨hv,hk⟩:=nk hT hH G;have E:=EX hv;unfold Az at hr;split at hr
   .rename_i a' b' y' k' _;have M:y5 k' (.pair a' b') 0 (a.eval x).cells.toList:=hk;obtain⟨g',h⟩:=Do (el:=t) hH hr hf E (λq I=>⟨k',M,ai I⟩);exact rS.value z h
   .rename_i u' y' k';cases hr;have j:=hf base aPb (aNt _);exact rS.value z (sC.newVar hH E (a6B hT hH hk (one hv rfl)) j.1 (funext j.2))
   cases hr;have j:=hf base aPb (aNt _);exact rS.value z (sC.newVar hH E (λq k hm=>by cases hm) j.1 (funext j.2))
  cases hr
 cases hr
theorem Dp {t:TypeId}(run: ∀ti,s0 T t=some ti->(execOp a.eval o).run P w= .ok (.value (.pointer (some ⟨w.heap.size,0,none⟩))) (w.alloc (.cells (uN ti.ty).toArray t))) {base:Nat}{e:r9}(hr:UZ base t (s0 T t)=some e) (hf:yU g base e):rS P o a g w H e:=by
 generalize hst:s0 T t=ot at hr;unfold UZ at hr;split at hr
 .rename_i u el by' ar ls_;cases hr;have j:=hf base aPb (aNt _);have D:=hf (base+1) aPb pM;have F:=t7 hT hst;have e1:=sC.nilTok (side:=[]) (d:= .val (.list u) []) (rds:=[]) (base:=base+1) (e:=el) (c:=u.cells) (u:=u) hH rfl D.2;have E:=e1.heap;have z:H3 (g.tok (base+1) 0 (.slice none 0 0)) (.list u) [] [.slice none 0 0] [(0,base+1)]:=by
   intro q kk hm;simp only[aNn,aNA] at hm;obtain⟨rfl,rfl⟩:=hm;exact⟨u,[],.slice none 0 0,by unfold rR;simp [uF],rfl,by simp [Gh.tok]⟩
  have e2:=sC.newVar (side:=[]) (rds:=[]) (base:=base) (toks:=[(0,base+1)]) (e:=t) E (EW (g.tok (base+1) 0 (.slice none 0 0)) w (.list u)) z j.1 (by
   funext n;show (if base=base+1/\n=0 then _ else _)=_;rw[aM9 pM];exact j.2 n)
  exact rS.value (run _ hst) (sC.trans (side:=[]) (rds:=[]) e1 e2)
 .rename_i ti G;obtain⟨g',h⟩:=Do (el:=t) hH hr hf (EW g w ti.ty) (λq _=>⟨0,ae _ _,pM⟩);exact rS.value (run _ hst) h
 cases hr
theorem a6F {t:TypeId}(D:o.op= .alloc t) {base:Nat}{e:r9}(hr:UZ base t (s0 T t)=some e) (hf:yU g base e):rS P o a g w H e:=by
 have run: ∀ti,s0 T t=some ti->(execOp a.eval o).run P w= .ok (.value (.pointer (some ⟨w.heap.size,0,none⟩))) (w.alloc (.cells (uN ti.ty).toArray t)):=by
  intro ti j;obtain⟨i,hi,F,z⟩:=H4 (t7 hT j);have E:(y6 ti.ty).cells=(uN ti.ty).toArray:=by
   have:=EX (LZ g w ti.ty);unfold y6;cases h:ti.ty<;>simp [Ty.isRow,uN,Value.cells]
  unfold execOp;rw[D];simp only[Instr.alloc,zeroValue,typeInfo,Go.newVar,newRow,aNi,aN1,hi,z,E,run_newObj,aNb,aNu];rfl
 exact Dp hT hH run hr hf
theorem a6G {t:TypeId}{x:Operand}(D:o.op= .box t x) {sx:qK}(E:rY g w sx (a.eval x)) (z: ∀ti:Option TI,rY g w (Q7 ti sx) (a.eval x)) {base:Nat}{e:r9}(hr:jy base t (s0 T t) sx=some e) (hf:yU g base e):rS P o a g w H e:=by
 generalize hst:s0 T t=ot at hr;unfold jy at hr;split at hr
 .rename_i u el by' ar ls_ k;rw[<-hst] at hr;refine Dp hT hH (λti j=>?_) hr hf;rw[hst] at j;cases j;have hv:a.eval x= .slice none 0 0:=E.1;unfold execOp;rw[D];simp only[Instr.box,Go.newVar,newRow,aNi,run_newObj,aNb,aNu,hv];rfl
 rw[<-hst] at hr;exact a6E hT hH D (z _) hr hf
omit hT hH in
theorem a6H {t:Ty}{y:t.den}{k:pW}{v:pZ}(h:DP g t y v k):DP g t y v (FL t k):=by
 cases t with
 |list u=>exact h
 |_=>trivial
omit hT hH in
theorem Dq {off:Nat}: ∀{l:pS}{o k:Nat},(o,k)∈QE off l->∃q,o=off+q/\(q,k)∈l
 |[],_,_,h=>by cases h
 |(q,k')::r,o,k,h=>by
  simp only[QE,aNk,aNA] at h;rcases h with⟨rfl,rfl⟩ |h
  .exact⟨q,rfl,aNq⟩
  obtain⟨q',z,j⟩:=Dq h;exact⟨q',z,aNp _ j⟩
omit hT hH in
theorem Dr {v t:Ty}{y:t.den}: ∀{u:Ty}{x z:u.den}{o q:Nat}{l:(Ty.list v).den},sW t y u x o=some z->rR (.list v) t y q=some l->q<t.cells->rR (.list v) u z (o+q)=some l:=by
 intro u
 induction u with
 |pair a b iha ihb=>
  intro x z o q l h g E;by_cases F:o=0/\t= .pair a b
  .obtain⟨rfl,rfl⟩:=F;unfold sW at h;rw[aOS rfl] at h;simp only[uF,aM6] at h;subst h;simpa using g
  .have keyh:(if o<a.cells then(sW t y a x.1 o).map (λq=>(q,x.2)) else(sW t y b x.2 (o-a.cells)).map (λq=>(x.1,q)))=some z:=by
    cases o with
    |zero=>
     unfold sW at h;rw[aOA (λe=>F ⟨rfl,e⟩)] at h;simpa using h
    |succ o=>simpa[sW] using h
   have keyg: ∀m,rR (.list v) (.pair a b) z m=(if m<a.cells then rR (.list v) a z.1 m else rR (.list v) b z.2 (m-a.cells)):=by
    intro m;cases m with
    |zero=>
     conv=>lhs;unfold rR
     rw[aOA aO7,Nat.zero_sub]
    |succ m=>simp [rR]
   rw[keyg];by_cases D:o<a.cells
   .rw[aM4 D] at keyh;obtain⟨z',j,rfl⟩:=aNh.1 keyh;have G:o+t.cells<=a.cells:=by
     have: ∀{u:Ty}{x z:u.den}{o:Nat},sW t y u x o=some z->o+t.cells<=u.cells:=by
      intro u
      induction u with
      |pair a b iha ihb=>
       intro x z o h;have key: ∀o,(if o<a.cells then(sW t y a x.1 o).map (λq=>(q,x.2)) else(sW t y b x.2 (o-a.cells)).map (λq=>(x.1,q)))=some z->o+t.cells<=a.cells+b.cells:=by
        intro o h;by_cases D:o<a.cells
        .rw[aM4 D] at h;obtain⟨z',j,_⟩:=aNh.1 h;have:=iha j;omega
        rw[aM9 D] at h;obtain⟨z',j,_⟩:=aNh.1 h;have:=ihb j;omega
       cases o with
       |zero=>
        unfold sW at h;split at h
        .rename_i e;subst e;simp
        .exact key 0 aO4
       |succ o=>exact key (o+1) (by simpa[sW] using h)
      |_=>
       intro x z o h;cases o with
       |zero=>
        unfold sW at h;split at h
        .rename_i e;subst e;simp
        .simp at h
       |succ o=>simp [sW] at h
     exact this j
    rw[aM4 pM];exact iha j g E
   .rw[aM9 D] at keyh;obtain⟨z',j,rfl⟩:=aNh.1 keyh;rw[aM9 pM,show o+q-a.cells=o-a.cells+q from by omega];exact ihb j g E
 |_=>
  intro x z o q l h g E;cases o with
  |zero=>
   unfold sW at h;split at h
   .rename_i e;subst e;simp only[uF,aM6] at h
    try subst h
    simpa using g
   .simp at h
  |succ o=>simp [sW] at h
omit hT hH in
theorem Ds {v:Ty}: ∀{t:Ty}{x:t.den}{q:Nat}{l:(Ty.list v).den},rR (.list v) t x q=some l->q<t.cells:=by
 intro t
 induction t with
 |pair s t ihs iht=>
  intro x q l g;have key: ∀q,(if q<s.cells then rR (.list v) s x.1 q else rR (.list v) t x.2 (q-s.cells))=some l->q<s.cells+t.cells:=by
   intro q g;by_cases h:q<s.cells
   .omega
   rw[aM9 h] at g;have:=iht g;omega
  cases q with
  |zero=>
   unfold rR at g;rw[aOA aO7] at g;exact key 0 (by simpa using g)
  |succ q=>exact key (q+1) (by simpa[rR] using g)
 |unit=>
  intro x q l g;cases q with
  |zero=>unfold rR at g;rw[aOA aO7] at g;cases g
  |succ q=>simp [rR] at g
 |_=>
  intro x q l g;cases q with
  |zero=>simp [Ty.cells]
  |succ q=>simp [rR] at g
omit hT in
theorem sC.retok {i:Nat}{u:Ty}{z:u.den}{toks nt:pS}{p:Pl}(hb:qT H i=some (.cells u z toks)) (hp:g.J i=some p)
  (V: ∀cs,Rd g w u z cs->w.rangeAt p.1 p.2 cs->H3 g u z cs nt):sC g w H ⟨[],(.any,none),[(i,.cells u z (rJ nt toks))],[]⟩ g w undef:=by
 obtain⟨p',cs,F,R,E,I,K,G⟩:=hH.blk i _ hb;rw[hp] at F;obtain rfl:=aNa F;have get: ∀j blk,j∈qV [(i,qP.cells u z (rJ nt toks))]->qT (rJ [(i,qP.cells u z (rJ nt toks))] H) j=some blk->j=i/\blk= .cells u z (rJ nt toks):=by
  intro j blk hi D;simp only[qV,aNn] at hi;subst hi;simp only[rJ,qT,aOc,aM6] at D;exact⟨rfl,D.symm⟩
 have perm: ∀j blk b o,j∈qV [(i,qP.cells u z (rJ nt toks))]->qT (rJ [(i,qP.cells u z (rJ nt toks))] H) j=some blk->sB g j blk b o->w.heap.size<=b\/sX g H (qV [(i,qP.cells u z (rJ nt toks))]) b o:=by
  intro j blk b o hi D U;obtain⟨rfl,rfl⟩:=get j blk hi D;exact .inr ⟨j,_,hi,hb,U⟩
 have le:Le g w g w:=⟨λ_ _ h=>h,λ_ _ _=>rfl,λ_ _ h=>h,λ_ _ _ h=>h⟩;have fr:Fr (sX g H (qV [(i,qP.cells u z (rJ nt toks))])) w w g.S g.S:=⟨rfl,rfl,rfl,aNt _,λ_ _ _=>rfl,λ_ _ _ _=>⟨rfl,rfl⟩,λ_ _ h=> .inl h,λ_ _ h=> .inl h⟩;refine⟨le,⟨trivial,trivial⟩,hH.upd le fr perm (λ_ _=>⟨rfl,rfl⟩) (λj blk hi D=>?_) (λi j bi bj b o hi X M Q O _ _=>M ((get i bi hi Q).1.trans (get j bj X O).1.symm)) (λb o h=>hH.sl b o h),fr,perm,λ_ _=>⟨rfl,rfl⟩,λj u' y' us h=>?_⟩
 .obtain⟨rfl,rfl⟩:=get j blk hi D;refine⟨p,cs,hp,R,E,I,K,λq kk hm=>?_⟩;rcases(VL.1 hm) with hm|hm
  .exact V cs R E q kk hm
  exact G q kk hm
 simp only[rJ,qT] at h;split at h
 .rename_i e1;subst e1;simp only[aM6,qP.cells.injEq] at h;obtain⟨rfl,_⟩:=h;exact .inl ⟨z,toks,hb⟩
 exact .inl ⟨y',us,h⟩
omit hT hH in
theorem a6I {g:Gh}{t a b:Ty}{y:t.den}{v:pZ}{k:pW}(h:k.isSome=true) (j:t= .pair a b) (hk:DP g t y v k): ∃m,k=some m/\y5 m t 0 v.cells.toList:=by
 subst j;cases k with
 |none=>cases h
 |some k=>exact⟨k,rfl,hk⟩
omit hT hH in
theorem a6J {base i off:Nat}{b:Option qP}{ls:List (Nat×TypeId×Nat)}{t:Ty}{y:t.den}{k:pW}{e:r9}(h:Z3 base i off b ls t y k=some e):
  (∃(s:Ty) (x:s.den) (toks:pS) (z:s.den),b=some (.cells s x toks)/\sW t y s x off=some z/\k.isSome=true/\(∃a c,t= .pair a c)/\∃m,k=some m/\FO t (CQ m ls)=true/\
   e=⟨[],(.any,none),(i,.cells s z (rJ (QE off (CP (CQ m ls) base)) (vV toks off t.cells)))::rJ (ET (CQ m ls) base) [(i,.cells s z (vV toks off t.cells))],[i]⟩)\/Z1 t y k i off b=some e:=by
 unfold Z3 at h;split at h
 .rename_i q r a c y' k';cases D:FO (.pair a c) (CQ k' (q::r)) with
  |false=>rw[D] at h;unfold Z2 at h;split at h<;>first|cases h|(rename_i E;cases E)
  |true=>
   rw[D] at h;unfold Z2 at h;split at h
   .rename_i s x toks _;cases j:sW (.pair a c) y' s x off with
    |none=>rw[j] at h;cases h
    |some z=>
     rw[j] at h;exact .inl ⟨s,x,toks,z,rfl,j,rfl,⟨a,c,rfl⟩,_,rfl,D,(aNa h).symm⟩
   cases h
 exact .inr h
omit hT hH in
theorem Dt {i off k n el:Nat}{u v:Ty}{x:v.den}{y:Option r9}{e:r9}(h:Bi i off k n el u v x y=some e):y=some e\/kv i (yH el u (some (k,n)) v x off)=some e:=by
 cases y with
 |some r=>exact .inl h
 |none=>exact .inr h
theorem a6K {t:TypeId}{x y:Operand}(ho:o.op= .store t x y) {sx sy:qK}(hx:rY g w sx (a.eval x)) (hy:rY g w sy (a.eval y)) {base:Nat}{e:r9}(hr:Z5 base H (s0 T t) sx sy=some e) (hV: ∀p∈e.side,p) (hf:yU g base e):rS P o a g w H e:=by
 generalize hst:s0 T t=ot at hr;unfold Z5 at hr;split at hr
 .rename_i ti i off k kk n k2;generalize hb:qT H i=ob at hr;unfold kw at hr;split at hr
  .rename_i u el _ _ _ v x' toks;rcases Dt hr with hr|hr
   case inr=>
    generalize F:yH el u (some (kk,n)) v x' off=oz at hr;cases oz with
    |none=>cases hr
    |some z'=>
     cases hr;have O:=t7 hT hst;obtain⟨p,hp,hv⟩:=zB hx.1;obtain⟨V,M⟩:=hy.1;have K:Rd g w (.rl el u) (some (kk,n)) [a.eval y]:=⟨_,V,rfl,M⟩;obtain⟨I,G⟩:=zR.openS (side:=[]) (rds:=[1000000000,i]) hH hb hp F K rfl rfl;have X:(a.eval y).cells= #[a.eval y]:=by rcases M with⟨M,_⟩ |⟨_,_,M,_⟩<;>(rw[M];rfl)
     refine rS.skipW (w':=w.setCells p.1 (p.2+off) [a.eval y]) ?_ I;obtain⟨inf,hi,Q,_⟩:=H4 O;have E:=run_storeCells_cells (P:=P) p.1 (p.2+off) [a.eval y] 0 w (λj U=>by simpa using(G j U).1) (λj U=>by simpa using(G j U).2) (λv hv=>BQ K v hv);simp only[aOd] at E;have R:(a.eval y).cells.size=inf.size:=by rw[Q,X];rfl
     have hN:(a.eval y).cells.toList=[a.eval y]:=by rw[X]
     simp only[execOp,ho,hv,Instr.storeAt,Instr.sureAddr,storeVar,aNi,aNu,aNb,sizeOf,typeInfo,aN1,hi,R,ne_eq,not_true_eq_false,aOh,hN,E]
   generalize F:sW (.rl el u) (some (kk,n)) v x' off=oz at hr;cases oz with
   |none=>cases hr
   |some z'=>
    cases hr;have O:=t7 hT hst;obtain⟨p,hp,hv⟩:=zB hx.1;obtain⟨V,M⟩:=hy.1;have K:Rd g w (.rl el u) (some (kk,n)) [a.eval y]:=⟨_,V,rfl,M⟩;obtain⟨I,G⟩:=sC.store (side:=[]) (rds:=[i]) (k:=none) (v:=a.eval y) hH hb hp F K trivial (λ_ _ _=>rfl) (λ_=>rfl);have X:(a.eval y).cells= #[a.eval y]:=by rcases M with⟨M,_⟩ |⟨_,_,M,_⟩<;>(rw[M];rfl)
    refine rS.skip (w':=w.setCells p.1 (p.2+off) [a.eval y]) ?_ I;obtain⟨inf,hi,Q,_⟩:=H4 O;have E:=run_storeCells_cells (P:=P) p.1 (p.2+off) [a.eval y] 0 w (λj U=>by simpa using(G j U).1) (λj U=>by simpa using(G j U).2) (λv hv=>BQ K v hv);simp only[aOd] at E;have R:(a.eval y).cells.size=inf.size:=by rw[Q,X];rfl
    have hN:(a.eval y).cells.toList=[a.eval y]:=by rw[X]
    simp only[execOp,ho,hv,Instr.storeAt,Instr.sureAddr,storeVar,aNi,aNu,aNb,sizeOf,typeInfo,aN1,hi,R,ne_eq,not_true_eq_false,aOh,hN,E]
  cases hr
 .rename_i ti k n c i o' _ u z kk;split at hr
  .rename_i hu;subst hu;generalize hk:qT H k=ob at hr;unfold Z4 at hr;split at hr
   .rename_i e' t' l m;split at hr
    .rename_i hc;generalize F:sW ti.ty z t' (qH t' l i) o'=oz at hr;cases oz with
     |none=>cases hr
     |some z'=>
      cases hr;have kn:=hV _ (aNn.2 rfl);obtain⟨b,cap,xs,c1,c2,c3,hv,ha,hK,hF,hl,hi,h0,e1,e2,e3,e4⟩:=Cz hT hH hx.1 hk kn hc;subst kn;have O:=t7 hT hst;obtain⟨hB,hM⟩:=nk hT hH hy;have K:=EX hB;have kp:=sU K;obtain⟨d1,d2,d3,f1,f2,f3,f4⟩:=ab K e4 F;obtain⟨_,_,_,_,hY,vt,_,hX,hs⟩: ∃(_:True) (_:True) (v0:pZ) (xs0:pU),g.cur k n=some v0/\w.ownsRow 0 e' t'.cells v0 n xs0/\uR (Rd g w t') t'.cells l xs0/\(∀m,n<m->g.cur k m=none)/\∀b,v0.ownBlock=some b->∀o,¬g.S b o:=by
       obtain⟨_,v0,xs0,q1,q2,q3,q4,q5⟩:=hH.blk k _ hk;exact⟨trivial,trivial,v0,xs0,q1,q2,q3,q4,q5⟩
      rw[ha] at hY;obtain rfl:=aNa hY;rcases hK.2 with⟨h5,_⟩ |⟨q,cap',cur,h5,_,hg,q0,va,q9,hQ⟩
      .cases h5
      simp only[aOn,aM6,Addr.mk.injEq,and_true,true_and] at h5;obtain⟨rfl,rfl⟩:=h5;have k6:=hK.1;have kx:=sU f4;simp only[aM7] at kx;have k5:c2.length=t'.cells:=by rw[e3,hc]
      have hd:d1.length+d2.length+d3.length=t'.cells:=by rw[<-k5,f1];simp only[aM7]
      have k7:c1.length+c2.length+c3.length=n*t'.cells:=by rw[<-k6,e1];simp only[aM7]
      have hh:cur.toList=(c1++(d1++d2++d3)++c3)++cur.toList.drop (n*t'.cells):=by
       conv=>lhs;rw[<-aOK (n*t'.cells) cur.toList,hQ,e1,f1]
      obtain⟨D,hD⟩: ∃D,D=cur.toList.drop (n*t'.cells):=⟨_,rfl⟩;rw[<-hD] at hh;have hz:cur.toList=(c1++d1)++(d2++(d3++c3++D)):=by rw[hh];simp only[aNd]
      have hJ:i.toNat*c+o'=(c1++d1).length:=by rw[aM7,e2,f2]
      have kq:(a.eval y).cells.toList.length=d2.length:=by rw[kp,f3]
      have k0:i.toNat*c+o'+0+(a.eval y).cells.toList.length<=cur.size:=by
       have:cur.size=cur.toList.length:=by simp
       rw[this,hz,aOd,hJ,kq];simp only[aM7];omega
      have hG:=run_storeCells_at P b (i.toNat*c+o') e' (a.eval y).cells.toList 0 cur w hg k0 (λv hv=>BQ K v hv);have Z:cur.toList.take (i.toNat*c+o'+0)++(a.eval y).cells.toList++cur.toList.drop (i.toNat*c+o'+0+(a.eval y).cells.toList.length)=(c1++(d1++(a.eval y).cells.toList++d3)++c3)++D:=by
       rw[aOd,hJ,kq,hz,aOL,List.drop_append,List.drop_of_length_le pM,List.nil_append,aNM,List.drop_left];simp only[aNd]
      rw[Z] at hG;obtain⟨inf,ky,Q,_⟩:=H4 O;have R:(a.eval y).cells.size=inf.size:=by rw[Q,<-kp,aN7]
      have hA:((c1++(d1++(a.eval y).cells.toList++d3)++c3)++D).length=cur.size:=by
       have:cur.size=cur.toList.length:=by simp
       rw[this,hh];simp only[aM7];omega
      have hC:(c1++(d1++(a.eval y).cells.toList++d3)++c3).length=n*t'.cells:=by
       rw[<-k7];simp only[aM7];rw[f1];simp only[aM7];omega
      have hW:(w.setRow b ((c1++(d1++(a.eval y).cells.toList++d3)++c3)++D).toArray).ownsRow 0 e' t'.cells (.slice (some ⟨b,0,none⟩) n cap) n (c1++(d1++(a.eval y).cells.toList++d3)++c3):=
       ⟨hC,.inr ⟨b,cap,_,rfl,aOz _,setRow_heap w b cur _ e' _ hg,q0,va,by rw[aN3,hA,q9],by rw[<-hC];exact aOL⟩⟩
      have vr:uR (Rd g w t') t'.cells (l.set i.toNat z') (c1++(d1++(a.eval y).cells.toList++d3)++c3):=by
       obtain⟨q1,q2,q3,r1,r2,r3,r4⟩:=ah hF f4 (sU f4) hi;have s1:q1=c1/\q2=c2/\q3=c3:=by
        have h6:q1++(q2++q3)=c1++(c2++c3):=by rw[<-aNd,<-r1,e1,aNd]
        obtain⟨h7,h8⟩:=aOT h6 (by rw[r2,e2,hc]);obtain⟨h9,vs⟩:=aOT h8 (by rw[r3,e3,hc]);exact⟨h7,h9,vs⟩
       obtain⟨rfl,rfl,rfl⟩:=s1;exact r4
      have hw: ∀o,sX g H [k] b o:=λo=>⟨k,_,by simp,hk,_,ha,rfl⟩;refine rS.skip (w':=w.setRow b ((c1++(d1++(a.eval y).cells.toList++d3)++c3)++D).toArray) ?_ (sC.row (v:= .slice (some ⟨b,0,none⟩) n cap) hH (by rw[List.length_set];exact hl) hW vr hX (λu hu=>by rw[ha] at hu;exact(aNa hu).symm)
       (.inr ⟨some b,⟨rfl,rfl,rfl,by simp,λq _ hq=>aOV w b q _ (λe=>hq (by rw[e]))⟩,λb' Y o=>by cases Y;exact hw o⟩) (λb' o hS=>?_) hs (λb' Y=>by cases Y;exact .inr hw) ⟨trivial,trivial⟩)
      .simp only[execOp,ho,hv,Instr.storeAt,Instr.sureAddr,storeVar,aNi,aNu,aNb,sizeOf,typeInfo,aN1,ky,R,ne_eq,not_true_eq_false,aOh,hG]
      have qs:b'≠b:=λe=>hs b rfl o (e▸hS);exact aNx (a:=⟨b',o,none⟩) (aOV w b b' _ qs)
    cases hr
   cases hr
  cases hr
 .rename_i ti i off k u z kk;split at hr
  .rename_i hu;subst hu;generalize hb:qT H i=ob at hr;have O:=t7 hT hst;obtain⟨p,hp,hv⟩:=zB hx.1;obtain⟨hB,hM⟩:=nk hT hH hy;have K:=EX hB;have kt:ti.ty.isRow=false->(a.eval y).cells.toList=[a.eval y]:=λZ=>by
    have V:=BQ (B2 Z hB) _ (aNn.2 rfl);cases h:a.eval y<;>first|rfl|(rw[h] at V;simp [Value.oneCell'] at V)
   have hI:w.there p.1 (p.2+off) (a.eval y).cells.toList.length->(execOp a.eval o).run P w= .ok .skip (w.setCells p.1 (p.2+off) (a.eval y).cells.toList):=by
    intro G;obtain⟨inf,hi,Q,_⟩:=H4 O;have hL:=sU K;have E:=run_storeCells_cells (P:=P) p.1 (p.2+off) (a.eval y).cells.toList 0 w (λj U=>by simpa using(G j U).1) (λj U=>by simpa using(G j U).2) (λv hv=>BQ K v hv);simp only[aOd] at E;have R:(a.eval y).cells.size=inf.size:=by rw[Q,<-hL,aN7]
    simp only[execOp,ho,hv,Instr.storeAt,Instr.sureAddr,storeVar,aNi,aNu,aNb,sizeOf,typeInfo,aN1,hi,R,ne_eq,not_true_eq_false,aOh,E]
   rcases a6J hr with⟨s,x',toks,z',Y,F,hU,⟨pa,pb,ht⟩,mk_,q6,ki,rfl⟩ |hr
   .rw[Y] at hb;have hn:y5 mk_ ti.ty 0 (a.eval y).cells.toList:=by
     obtain⟨m',e1,e2⟩:=a6I hU ht hM;rw[q6] at e1;obtain rfl:=aNa e1;exact e2
    have ko:=λq hq=>ai (k:=mk_) (ls:=ti.ls) (q:=q) hq;generalize CQ mk_ ti.ls=lsm at hf ki ko|-;obtain⟨I,G⟩:=sC.store (side:=[]) (rds:=[i]) (k:=none) (v:=undef) hH hb hp F K trivial (λ_ _ _=>rfl) (λh=>by rw[ht] at h;cases h);have q8: ∀j,base<=j->j<base+lsm.length->∀n,g.cur j n=none:=λj V M=>(hf j (by
     simp only[qV,aNk];right;rw[EZ];exact .inl ((VK _ base j).2 ⟨V,M⟩)) V).2
    obtain⟨g1,k1,k2,k3,k4⟩:=nf lsm base g _ I.heap q8;have e2:=sC.trans (side:=[]) (rds:=[]) I k1;have vy:i<base:=by
     rcases aOi i base with h|h
     .exact h
     have:=(hf i aPb h).1;rw[hp] at this;cases this
    have q7:i∉qV (ET lsm base):=λh=>by
     have:=(VK _ base i).1 h;omega
    have vb:qT (rJ (rJ (ET lsm base) [(i,qP.cells s z' (vV toks off ti.ty.cells))]) H) i=some (.cells s z' (vV toks off ti.ty.cells)):=by
     rw[QY,CW q7];simp [rJ,qT]
    have vv:=sU K;have e3:=sC.retok (p:=p) (nt:=QE off (CP lsm base)) e2.heap vb (by rw[k2];exact hp) (λcs vl k9 o k hm=>by
     obtain⟨q,rfl,hq⟩:=Dq hm;obtain⟨en,he,rfl⟩:=nh hq;obtain⟨u,V,M⟩:=Ct hn K (ni ki en he) (by have:=ko en he;omega);have kd:en.1<(a.eval y).cells.toList.length:=(aNl.1 M).1;have h3:=Dr F V pM;refine⟨u,[],.slice none 0 0,h3,?_,k3 _ _ hq⟩;have hL:=sU vl;have vx:=Ds h3;have hc:cs[off+en.1]? =some cs[off+en.1]:=aNe pM;have kb:=k9 _ _ hc;have h4:=aOr p.1 (a.eval y).cells.toList (p.2+off) w (λj U=>(G j U).1) en.1 kd;rw[aNN] at h4;rw[h4] at kb;rw[hc,<-kb,<-M,aNe kd])
    exact rS.skip (w':=w.setCells p.1 (p.2+off) (a.eval y).cells.toList) (hI G) (sC.trans (side:=[]) (rds:=[i]) e2 e3)
   unfold Z1 at hr;split at hr
   .rename_i s q toks _;generalize F:sW ti.ty z s q off=oz at hr;cases oz with
    |none=>cases hr
    |some z'=>
     cases hr;obtain⟨I,G⟩:=sC.store (side:=[]) (rds:=[i]) hH hb hp F K (a6H hM) (λa b e=>by rw[e];rfl) kt;exact rS.skip (w':=w.setCells p.1 (p.2+off) (a.eval y).cells.toList) (hI G) I
   cases hr
  cases hr
 cases hr
theorem nl {t:Ty}{n:Nat}{ev:Operand->pZ}{ρ:Operand->qK}: ∀(ps:List (Nat×Operand)) (l z:List t.den) (cs:pU),uR (Rd g w t) t.cells l cs->l.length=n->(∀q∈ps,rY g w (ρ q.2) (ev q.2))->BK t n (some l) (uQ ρ ps)=some z->
  ∃cs',Instr.fill (λi=>some (i*t.cells,t.cells)) cs.toArray (ps.map λq=>(q.1,ev q.2))=some cs'.toArray/\uR (Rd g w t) t.cells z cs'/\z.length=n
 |[],l,z,cs,r,F,_,h=>by
  simp only[uQ,BK,aM6] at h;subst h;exact⟨cs,rfl,r,F⟩
 |(i,q)::ps,l,z,cs,r,F,G,h=>by
  have h0:=G (i,q) pO;generalize Q:ρ q=s at h0;simp only[uQ,Q] at h;obtain⟨d,k⟩:=s;cases d with
  |val u y=>
   simp only[BK,Am] at h;by_cases I:u=t/\i<n
   .rw[aOS I] at h;obtain⟨rfl,hi⟩:=I;simp only[uF] at h;have j:=EX h0.1;obtain⟨c1,c2,c3,rfl,O,M,K⟩:=ah (i:=i) r j (sU j) pM;obtain⟨cs',k1,k2,k3⟩:=nl ps (l.set i y) z _ K aPd (λq E=>G q (by simp [E])) h;refine⟨cs',?_,k2,k3⟩;simp only[aN8];rw[mn rfl (by have:=sU j;simpa using this) (c1:=c1) (c2:=c2) (c3:=c3) pO O M];exact k1
   .rw[aOA I] at h;unfold Al at h;by_cases D:(u=sM/\Ty.part=t)/\i<n
    .rw[aOS D] at h;obtain⟨⟨rfl,rfl⟩,hi⟩:=D;simp only[uF] at h;have j:Rd g w .part (qF.of y) (ev q).cells.toList:=a5U (EX h0.1);obtain⟨c1,c2,c3,rfl,O,M,K⟩:=ah (i:=i) r j (sU j) pM;obtain⟨cs',k1,k2,k3⟩:=nl ps (l.set i (qF.of y)) z _ K aPd (λq E=>G q (by simp [E])) h;refine⟨cs',?_,k2,k3⟩;simp only[aN8];rw[mn rfl (by have:=sU j;simpa using this) (c1:=c1) (c2:=c2) (c3:=c3) pO O M];exact k1
    rw[aOA D] at h;cases ps with
    |nil=>simp [uQ,BK] at h
    |cons p ps=>simp [uQ,BK] at h
  |_=>simp [BK] at h
theorem nn {t:TypeId}{n:Nat}{ps:Array (Nat×Operand)}(U:o.op= .buildSlice t n ps) {ρ:Operand->qK}(hρ: ∀q∈ps.toList,rY g w (ρ q.2) (a.eval q.2)) {u:Ty}{el:TypeId}{by':Nat}{ar:Bool}{ls:List (Nat×TypeId×Nat)}(hst:s0 T t=some ⟨.list u,el,by',ar,ls⟩) {l:List u.den}
  (hb:BK u n (some (DL u n)) (uQ ρ ps.toList)=some l) (X:n<=16777216/\n*u.cells<=16777216):
  ∃cs':pU,uR (Rd g w u) u.cells l cs'/\l.length=n/\(execOp a.eval o).run P w= .ok (.value (.slice (some ⟨w.heap.size,0,none⟩) n n)) (w.alloc (.cells cs'.toArray el)):=by
    obtain⟨V,Y,_⟩:=(t7 hT hst).2;obtain⟨ei,K,O⟩:=aNh.1 Y;simp only[aNA] at O;obtain⟨cs',k1,k2,k3⟩:=nl hT hH ps.toList (DL u n) l _ (De n) (Df u n) hρ hb;refine⟨cs',k2,k3,?_⟩;have Q:(y6 u).cells=(uN u).toArray:=by
     unfold y6;cases h:u<;>simp [Ty.isRow,uN,Value.cells]
    have F:(ps.map fun(q:Nat×Operand)=>(q.1,a.eval q.2)).toList=ps.toList.map λq=>(q.1,a.eval q.2):=by simp
    have D:(uN u).length=u.cells:=sU (EW g w u);have E: ∀z:Array pZ,(n*u.cells≠0->z=(uN u).toArray)->(Array.range (n*u.cells)).map (λi=>z[i%z.size]!)=(List.flatten (List.replicate n (uN u))).toArray:=by
     intro z R;by_cases h0:n*u.cells=0
     .rw[h0];have:List.flatten (List.replicate n (uN u))=[]:=aND (by simp [D,h0]);rw[this];simp
     rw[R h0];have M:0<u.cells:=Nat.pos_of_ne_zero (λh=>h0 (by rw[h];simp));apply aOe.1;apply List.ext_getElem?;intro j;have key: ∀(m j:Nat),j<m*u.cells->(List.flatten (List.replicate m (uN u)))[j]? =(uN u)[j%u.cells]? :=by
      intro m
      induction m with
      |zero=>intro j h;simp at h
      |succ m ih=>
       intro j h;rw[List.replicate_succ,aNQ];by_cases I:j<u.cells
       .rw[aNo pM,Nat.mod_eq_of_lt I]
       rw[aNg pM,D,ih (j-u.cells) (by rw[aN0] at h;omega)];congr 1
       conv=>rhs;rw[<-Nat.sub_add_cancel (Nat.le_of_not_lt I),Nat.add_mod_right]
     by_cases I:j<n*u.cells
     .have hm:j%u.cells<(uN u).length:=by rw[D];exact Nat.mod_lt _ M
      simp only[Array.toList_map,Array.toList_range,List.getElem?_map,List.getElem?_range I,Option.map_some,aN3,D];rw[key n j I,aNe hm];simp [getElem!_pos,hm]
     rw[aOj pP,aOj (by simp [D];omega)]
    have G: ¬(n*u.cells>2^24):=by have:=X.2;omega
    by_cases h0:n*u.cells=0
    .simp only[execOp,U,Instr.buildSlice,aNi,aNs V,aNb,sizeOf,typeInfo,aN1,K,O.1,aNu,aM9 G,aM4 h0];rw[E #[] (λh=>absurd h0 h),F,k1];simp only[newRow,aNi,run_newObj,aNb,aNu];rfl
    simp only[execOp,U,Instr.buildSlice,aNi,aNs V,aNb,sizeOf,typeInfo,aN1,K,O.1,aNu,aM9 G,aM9 h0,zeroValue,O.2.2,Q];rw[E (uN u).toArray (λ_=>rfl),F,k1];simp only[newRow,aNi,run_newObj,aNb,aNu];rfl
theorem a6L {t:TypeId}{n:Nat}{ps:Array (Nat×Operand)}(G:o.op= .buildSlice t n ps) {ρ:Operand->qK}(hρ: ∀q∈ps.toList,rY g w (ρ q.2) (a.eval q.2)) {base:Nat}{e:r9}(hr:ke base n (uQ ρ ps.toList) (s0 T t)=some e) (hf:yU g base e):rS P o a g w H e:=by
 generalize hst:s0 T t=ot at hr;unfold ke at hr;split at hr
 .rename_i u el by' ls_;split at hr
  .rename_i I;generalize hb:BK u n (some (DL u n)) (uQ ρ ps.toList)=ol at hr;cases ol with
   |none=>cases hr
   |some l=>
    simp only[Ba] at hr;split at hr
    .rename_i E;cases hr;obtain⟨cs',k2,k3,j⟩:=nn hT hH G hρ hst hb E.2;have z:=(hf base aPb (aNt _)).2;have D:=LY k2;have F:(w.alloc (.cells cs'.toArray el)).ownsRow 0 el u.cells (.slice (some ⟨w.heap.size,0,none⟩) n n) n cs':=⟨by rw[D,k3],.inr ⟨w.heap.size,n,cs'.toArray,rfl,aOz _,aO1 w _,aNt _,by unfold maxLen;omega,by simp [D,k3],by simp [<-k3,<-D]⟩⟩;refine rS.value j (sC.row (v:= .slice (some ⟨w.heap.size,0,none⟩) n n) (xs:=cs') hH k3 F k2 (λm _=>z m) (λu K=>by rw[z] at K;cases K) (.inl (World.grownBy_alloc w _ _)) (λb o h=>aNx (a:=⟨b,o,none⟩) (aNB _ _ _ (hH.sl b o h))) (λb hb o M=>?_) (λb hb=>?_) ⟨⟨by simp [Gh.tok],.inr ⟨_,_,rfl,aNt _⟩⟩,trivial⟩)
     .cases hb;exact aOB _ (hH.sl _ _ M)
     cases hb;exact .inl (aNt _)
    cases hr
  rename_i I;generalize hb:BK u n (some (DL u n)) (uQ ρ ps.toList)=ol at hr;cases ol with
  |none=>cases hr
  |some l=>
   simp only[YU] at hr;split at hr
   .rename_i E;cases hr;obtain⟨cs',k2,k3,j⟩:=nn hT hH G hρ hst hb E;have z:=hf base aPb (aNt _);exact rS.value (v:= .slice (some ⟨w.heap.size,0,none⟩) n n) (w':=w.alloc (.cells cs'.toArray el)) j (sC.lit hH rfl k3 k2 (by unfold maxLen;omega) z.2)
   cases hr
 .rename_i u el by' ls_;generalize hb:BK u n (some (DL u n)) (uQ ρ ps.toList)=ol at hr;cases ol with
  |none=>cases hr
  |some l=>
   simp only[YU] at hr;split at hr
   .rename_i E;cases hr;obtain⟨cs',k2,k3,j⟩:=nn hT hH G hρ hst hb E;have z:=hf base aPb (aNt _);exact rS.value (v:= .slice (some ⟨w.heap.size,0,none⟩) n n) (w':=w.alloc (.cells cs'.toArray el)) j (sC.lit hH rfl k3 k2 (by unfold maxLen;omega) z.2)
   cases hr
 cases hr
theorem a6M {args:Array Operand}{tys:Array TypeId}(ho:o.op= .call ⟨.builtin .append,args,tys⟩) {ρ:Operand->qK}(hρ: ∀x∈args.toList,rY g w (ρ x) (a.eval x)) {e:r9}
  {t:TypeId}(h4:tys= #[t,t]) (hr:ZC H (s0 T t) (vW ρ args.toList)=some e) (hs: ∀p∈e.side,p):rS P o a g w H e:=by
 subst h4;generalize hst:s0 T t=ot at hr;generalize hM:vW ρ args.toList=ss at hr;unfold ZC at hr;split at hr
 .rename_i u el by' ar ls_ k n _ b1 r _;split at hr
  .rename_i kd;subst kd;generalize hk:qT H k=ob at hr;unfold ZB at hr;split at hr
   .rename_i e' t' l m;split at hr
    .rename_i ki;subst ki;split at hr
     .rename_i hC;obtain⟨rfl,hV,hG⟩:=hC;simp only[uF] at hr;cases hr;have h7:=hs _ (by simp:(n=m)∈_);subst h7;have hD:=hs _ (by simp:((n+List.length r)*by'<=140737488355328)∈_);obtain⟨v,vr,hv,Z,hy⟩:=ag hT hH hρ hM;obtain⟨h2,h3,_⟩:=(t7 hT hst).2;obtain⟨ei,hc,hz⟩:=aNh.1 h3;simp only[aNA] at hz;obtain⟨cs,hx⟩:=H5 (a:=a) hT hH ho;obtain⟨hl,v0,xs,V,z,hd,F,E⟩:=hH.blk k _ hk;obtain⟨K,U⟩:=Z.1;rw[V] at K;obtain rfl:=aNa K;obtain⟨adr,capr,X,hW,ha⟩:=EY hy.1;have Q:(l++r).length=n+List.length r:=by rw[aM7,hl]
      rw[Q];have M: ∀q,v0.ownBlock=some q->∀o,sX g H [k] q o:=λq hq o=>⟨k,_,by simp,hk,v0,V,hq⟩;by_cases hm:List.length r=0
      .obtain rfl:r=[]:=aND hm;refine rS.value (v:=v0) (w':=w) ?_ (sC.row (v:=v0) (xs:=xs) hH Q z (by rw[List.append_nil];exact hd) F (λu hu=>by
        have h5:g.cur k n=some u:=hu;rw[V] at h5;exact(aNa h5).symm) (.inl ⟨rfl,rfl,rfl,aNt _,λ_ _ _=>rfl⟩) (λ_ _ _=>rfl) E (λq hq=> .inr (M q hq)) ⟨⟨by simp [Gh.tok],U⟩,trivial⟩)
       obtain⟨adl,capl,Y,hh⟩: ∃adl capl,v0= .slice adl n capl/\n<=capl:=by
        rcases U with⟨h,rfl⟩ |⟨b,cap,h,h'⟩
        .exact⟨_,_,h,aNt _⟩
        exact⟨_,_,h,h'⟩
       rw[hx,hv,X,Y];have hJ:(#[Value.slice adl n capl,Value.slice adr (List.length ([]:List b1.den)) capr]:Array pZ)[0]? =some (.slice adl n capl):=rfl;have hI:(#[Value.slice adl n capl,Value.slice adr (List.length ([]:List b1.den)) capr]:Array pZ)[1]? =some (.slice adr 0 capr):=rfl;have hw:(#[t,t]:Array TypeId)[0]? =some t:=rfl;have ht:(#[t,t]:Array TypeId)[1]? =some t:=rfl;simp only[builtin,Builtin.append_,hw,ht,hJ,hI,aNi,aNs h2,aNb,aNu,sizeOf,typeInfo,aN1,hc];cases adr<;>cases adl<;>simp [Builtin.lenOf,Builtin.firstCells,loadCells,loadCellsFrom,storeCells,hh]
      obtain⟨b,off,rfl,hL⟩: ∃b o,adr=some ⟨b,o,none⟩/\wA (Rd g w b1) w g.S b1.cells b o r:=by
       rcases ha with rfl|h
       .exact absurd rfl hm
       exact h
      obtain⟨news,hF,hA,_⟩:=VI hL;obtain⟨q,cap,w',he,O,hq,hg,hn,R⟩:=Dg (P:=P) w t o.type e' ei (y6 b1) b1.cells by' h2 hc hz.2.2 hz.1 hz.2.1 (by
       have:=sU (EX (LZ g w b1));simpa using this) v0 n xs z ⟨b,off,none⟩ (List.length r) capr news (LY hF) (λj u hu=>by rw[aOg];exact hA j u hu) (nc (λ_ _ h=>BQ h) hF) pM
       (by
        have:=Nat.mul_le_mul_left (n+List.length r) hG;unfold maxLen;omega) hD
      refine rS.value (v:= .slice (some ⟨q,0,none⟩) (n+List.length r) cap) (w':=w') ?_ (sC.row (v:= .slice (some ⟨q,0,none⟩) (n+List.length r) cap) (xs:=xs++news) hH Q O (mc hd hF) (λm ko=>F m pM) (λu hu=>by
       rw[F _ pM] at hu;cases hu) (.inr ⟨v0.ownBlock,hg,λb hb o=>M b hb o⟩) (λb o hS=>R b o (hH.sl b o hS) (λhb=>absurd hS (E b hb o))) (λb hb o hS=>?_) (λb hb=>?_) ⟨⟨by simp [Gh.tok],.inr ⟨q,cap,rfl,hn⟩⟩,trivial⟩)
      .rw[hx,hv,X];simp only[builtin,aNi,he,aNb,aNu]
      .cases hb;rcases hq with h|h
       .rw[h] at hS;exact aOB _ (hH.sl _ _ hS)
       exact E _ h o hS
      cases hb;rcases hq with h|h
      .exact .inl (aOv h.symm)
      exact .inr (M _ h)
     cases hr
    cases hr
   cases hr
  cases hr
 .rename_i u el by' ar ls_ a1 l k b1 r k2;split at hr
  .rename_i kk;obtain⟨rfl,rfl⟩:=kk;simp only[uF] at hr;generalize hk:qT H k=ob at hr;unfold ZA at hr;split at hr
   .rename_i e' c n;split at hr
    .rename_i hC;obtain⟨rfl,I,hV,hG⟩:=hC;cases hr;rw[aM7];have D:=hs _ (by simp:(List.length l=n)∈_);have hD:=hs _ (by simp:((List.length l+List.length r)*by'<=140737488355328)∈_);obtain⟨v,vr,hv,Z,hy⟩:=ag hT hH hρ hM;obtain⟨h2,h3,_⟩:=(t7 hT hst).2;obtain⟨ei,hc,hz⟩:=aNh.1 h3;simp only[aNA] at hz;obtain⟨cs,hx⟩:=H5 (a:=a) hT hH ho;obtain⟨v0,xs,V,z,F,E⟩:=hH.blk k _ hk;have K:g.cur k (List.length l)=some v:=Z.2;rw[D,V] at K;obtain rfl:=aNa K;obtain⟨adr,capr,X,hW,ha⟩:=EY hy.1;obtain⟨adl,capl,Y,hh,h9⟩:=EY Z.1;by_cases hm:List.length r=0
     ·
      obtain rfl:r=[]:=aND hm;have ha:List.length l+List.length ([]:List b1.den)=n:=by rw[D];rfl
      have G: ∀i,qT (rJ [(k,qP.grow e' c (List.length l+List.length ([]:List b1.den)))] H) i=qT H i:=by
       intro i;simp only[rJ,qT];by_cases hi:k=i
       .subst hi;rw[aM4 rfl,ha];exact hk.symm
       rw[aM9 hi]
      have hK:sC g w H ⟨[List.length l=n,(List.length l+List.length ([]:List b1.den))*by'<=140737488355328],(.val (.list b1) (l++[]),some k),[(k,.grow e' c (List.length l+List.length ([]:List b1.den)))],[k]⟩ g w v0:=by
       refine⟨.refl _ _,?_,⟨λi b h=>hH.blk i b ((G i).symm.trans h),λi j bi bj b o' kb h1 h2=>hH.dis i j bi bj b o' kb ((G i).symm.trans h1) ((G j).symm.trans h2),hH.sl,hH.tab.1,λi blk b o' h hB=>hH.tab.2 i blk b o' ((G i).symm.trans h) hB⟩,.refl _ _ _,λi blk b o' hi hg hB=> .inr ⟨i,blk,hi,(G i).symm.trans hg,hB⟩,λ_ _=>⟨rfl,rfl⟩,λi u' y us h=> .inl ⟨y,us,(G i).symm.trans h⟩⟩;rw[List.append_nil];exact Z
      refine rS.value (v:=v0) (w':=w) ?_ hK;rw[hx,hv,X,Y];have hJ:(#[Value.slice adl (List.length l) capl,Value.slice adr (List.length ([]:List b1.den)) capr]:Array pZ)[0]? =some (.slice adl (List.length l) capl):=rfl;have hI:(#[Value.slice adl (List.length l) capl,Value.slice adr (List.length ([]:List b1.den)) capr]:Array pZ)[1]? =some (.slice adr 0 capr):=rfl;have hw:(#[t,t]:Array TypeId)[0]? =some t:=rfl;have ht:(#[t,t]:Array TypeId)[1]? =some t:=rfl;simp only[builtin,Builtin.append_,hw,ht,hJ,hI,aNi,aNs h2,aNb,aNu,sizeOf,typeInfo,aN1,hc];cases adr<;>cases adl<;>simp [Builtin.lenOf,Builtin.firstCells,loadCells,loadCellsFrom,storeCells,hh]
     obtain⟨b,off,rfl,hL⟩: ∃b o,adr=some ⟨b,o,none⟩/\wA (Rd g w b1) w g.S b1.cells b o r:=by
      rcases ha with rfl|h
      .exact absurd rfl hm
      exact h
     obtain⟨news,hF,hA,_⟩:=VI hL;have hX:uR (Rd g w b1) b1.cells l xs:=by
      by_cases h0:List.length l=0
      .obtain rfl:l=[]:=aND h0;have:xs=[]:=aND (by rw[z.1,<-D];simp);exact this
      rcases h9 with rfl|⟨b0,off0,rfl,kn⟩
      .exact absurd rfl h0
      obtain⟨ls,hd,hU,_⟩:=VI kn;rcases z.2 with⟨e1,e2⟩ |⟨q,cap,cur,e1,e2⟩
      .exact absurd (D.trans e2) h0
      rw[Y] at e1;simp only[aOn,aM6,Addr.mk.injEq] at e1;obtain⟨⟨rfl,rfl,_⟩,_,rfl⟩:=e1;have hY:v0= .slice (some ⟨b0,0,none⟩) n capl:=by rw[Y,D]
      have h6:=nd (hY▸z);have:ls=xs:=by
       have hQ:=LY hd;have hN:=z.1;apply List.ext_getElem?;intro j;by_cases hj:j<ls.length
       .have h1:=hU j ls[j] (aNe hj);have hR:j<xs.length:=by rw[hN,I,<-D,<-hQ];exact hj
        have h2:=h6 j xs[j] (aNe hR);rw[h1] at h2;rw[aNe hj,aNe hR,aNa h2]
       rw[aOj pM,aOj (by rw[hN,I,<-D,<-hQ];omega)]
      rw[<-this];exact hd
     obtain⟨q,cap,w',he,O,hq,hg,hn,R⟩:=Dg (P:=P) w t o.type e' ei (y6 b1) c by' h2 hc hz.2.2 (by rw[hz.1,I]) hz.2.1 (by
      have:=sU (EX (LZ g w b1));rw[I];simpa using this) v0 n xs z ⟨b,off,none⟩ (List.length r) capr news (by rw[LY hF,I]) (λj u hu=>by rw[aOg];exact hA j u hu) (nc (λ_ _ h=>BQ h) hF) pM
      (by
       have:=Nat.mul_le_mul_left (List.length l+List.length r) hG;unfold maxLen;omega) (by rw[<-D];exact hD)
     refine rS.value (v:= .slice (some ⟨q,0,none⟩) (n+List.length r) cap) (w':=w') ?_ (by
      have:=sC.append (side:=[List.length l=n,(List.length l+List.length r)*by'<=140737488355328]) (rds:=[k]) hH hk I D V z F E (I▸hX) (I▸hF) pM O hq hg hn R;rw[D];rw[D] at this;exact this)
     rw[hx,hv,X];simp only[builtin,aNi,he,aNb,aNu]
    cases hr
   cases hr
  cases hr
 cases hr
theorem Du {α:Type}{R:α->pU->Prop}{c:Nat}: ∀{l:List α}{cs:pU}(n:Nat),uR R c l cs->n<=l.length->uR R c (l.take n) (cs.take (n*c))
 |_,_,0,_,_=>by simp [uR]
 |[],_,n+1,_,h=>by simp at h
 |x::l,_,n+1,⟨c1,c2,e,j,D,z⟩,h=>by
  subst e;refine⟨c1,c2.take (n*c),?_,j,D,Du n z aO4⟩;rw[aN0,List.take_append,j,List.take_of_length_le pM,show n*c+c-c=n*c from by omega]
theorem a6N {t:TypeId}{x:Operand}{lo hi:Option Operand}(ho:o.op= .slice t x lo hi none) {ρ:Operand->qK}(hx:rY g w (ρ x) (a.eval x)) (R: ∀y∈lo.toList,rY g w (ρ y) (a.eval y)) (U: ∀y∈hi.toList,rY g w (ρ y) (a.eval y)) {base:Nat}{e:r9}
  (hr:ZN base H (s0 T t) (ρ x) (wM ρ lo) (wM ρ hi)=some e) (hs: ∀p∈e.side,p) (hf:yU g base e):rS P o a g w H e:=by
 unfold ZN at hr;split at hr
 case h_2=>exact a6y hT hH ho hx R U hr hs
 rename_i u el by' ar ls_ k n kk hst hn;generalize Z:wM ρ lo=olo at hr;generalize ha:wM ρ hi=ohi at hr;generalize hb:qT H k=ob at hr;unfold lw at hr;split at hr
 .rename_i ki b _ e' t' l m;cases hr;have hu:=hs (n=m) (aNq ..);obtain⟨M,K⟩:=hs _ (aNp _ (aNq ..));subst hu;obtain⟨z,I⟩: ∃z:Int,z=b:=⟨_,rfl⟩;replace M:(0:Int)<=z:=by rw[I];exact M
  replace K:z<=(n:Int):=by rw[I];exact K
  subst I;have he:CH (wM ρ lo) 0=some 0:=by rw[Z];rfl
  have hd:CH (wM ρ hi) (n:Int)=some z:=by rw[ha];rfl
  obtain⟨h2,h3,_⟩:=(t7 hT hst).2;obtain⟨ei,hw,hz⟩:=aNh.1 h3;simp only[aNA] at hz;rw[hn] at hx;obtain⟨G,E⟩:=hx.1;obtain⟨hl,v,xs,hv,Y,hF,hA,hq⟩:=hH.blk k _ hb;rw[G] at hv;obtain rfl:=aNa hv;have V:=hf base aPb (aNt _);obtain⟨ad,cap,j,hc,hB⟩: ∃ad cap,a.eval x= .slice ad n cap/\n<=cap/\(ad=none->n=0/\cap=0):=by
   rcases E with⟨h,F⟩ |⟨q,cap,h,F⟩
   .exact⟨none,0,by rw[h,F],pM,λ_=>⟨F,rfl⟩⟩
   exact⟨_,cap,h,F,λh=>by cases h⟩
  have hg:ad.map (·.add 0)=ad:=by cases ad<;>simp [Addr.add]
  have D:z.toNat<=n:=by omega
  have X:(execOp a.eval o).run P w= .ok (.value (.slice ad z.toNat cap)) w:=by
   have hy:=na (P:=P) (isSlice:=true) (cap:=cap) hT hH (QX hT hH R he) (QX hT hH U hd) (aN2 0) M K hc;simp only[execOp,ho,j,Option.map_none,Instr.sliceAt,Instr.slice,aNi,aNs h2,aNb,hy,sizeOf,typeInfo,aN1,hw,hz.1,aNu,Int.toNat_zero,Nat.zero_mul,hg,Nat.sub_zero,ite_self]
  have Q:w.ownsRow 0 e' t'.cells (.slice ad z.toNat cap) z.toNat (xs.take (z.toNat*t'.cells)):=by
   obtain⟨hj,hh⟩:=Y;refine⟨by rw[aNR,hj];exact Nat.min_eq_left (aOb _ D),?_⟩;rcases hh with⟨h,F⟩ |⟨q,cp,cu,h4,h5,h6,h7,h8,h9,O⟩
   .rw[j] at h;simp only[aOn] at h;left;exact⟨by rw[h.1,h.2.2,show z.toNat=0 by omega],pM⟩
   rw[j] at h4;simp only[aOn] at h4;right;refine⟨q,cp,cu,by rw[h4.1,h4.2.2],h5,h6,aNK D h7,h8,h9,?_⟩
   first
    |(rw[<-O,List.take_take,Nat.min_eq_left (aOb _ D)];done)
    |skip
   all_goals first|exact⟨by rw[<-O.1,List.take_take,Nat.min_eq_left (aOb _ D)],O.2⟩ |skip
  have ht: ∀q,(Value.slice ad z.toNat cap).ownBlock=some q->(a.eval x).ownBlock=some q:=λq h=>by
   rw[j];cases ad<;>exact h
  exact rS.value X (sC.cutRow hH hb G D Q (by rw[<-hl] at D;exact Du hT hH _ hF D) (by simp [hl,D]) V.1 V.2 ht hq (by
   rcases E with⟨h,F⟩ |⟨q,cp,h,F⟩
   .rw[j] at h;simp only[aOn] at h;exact .inl ⟨by rw[h.1,h.2.2,show z.toNat=0 by omega],pM⟩
   rw[j] at h;simp only[aOn] at h;exact .inr ⟨q,cp,by rw[h.1,h.2.2],aNK D F⟩))
 cases hr
end
section
variable {P:Program}{g:Gh}{w:pY}
def a6O (P:Program) (g:Gh) (w:pY) (d:Nat) (ty:Ty) (x y:ty.den):mf->Prop
 | .ty t=> ∀vx vy,sR g w ty x vx->sR g w ty y vy->∃b,zK ty x y=some b/\(Op.equalIn (d+1) t vx vy).run P w= .ok b w
 | .fs o l=> ∀px py cx cy,px.length=o->py.length=o->Rd g w ty x cx->Rd g w ty y cy->∃b,zK ty x y=some b/\(Op.eqFields (d+1) (px++cx).toArray (py++cy).toArray l).run P w= .ok b w
 | .el e i m=> ∀px py cx cy,px.length=i*P.cellsOf e->py.length=i*P.cellsOf e->Rd g w ty x cx->Rd g w ty y cy->∃b,zK ty x y=some b/\(Op.eqItems (d+1) e (P.cellsOf e) (px++cx).toArray (py++cy).toArray (List.range' i m)).run P w= .ok b w
theorem a6P {e:TypeId}{n:Nat}(h:(P.info? e).map (·.size)=some n):P.cellsOf e=n:=by
 obtain⟨i,z,j⟩:=aNh.1 h;simp [Program.cellsOf,z,j]
theorem wY.run {n:Nat}{ix:mf}{ty:Ty}(h:wY P n ix ty): ∀(d:Nat),n<=d->∀x y:ty.den,a6O P g w d ty x y ix:=by
 induction h with
 |bool F=>
  intro d _ x y vx vy I G;obtain rfl:=vO I;obtain rfl:=vO G;exact⟨_,rfl,run_equalIn_bool' w d _ _ _ F⟩
 |int F=>
  intro d _ x y vx vy I G;obtain rfl:=vF I;obtain rfl:=vF G;refine⟨_,rfl,(run_equalIn_int w d _ _ _ _ _ F).trans ?_⟩;congr 1
 |str F=>
  intro d _ x y vx vy I G;obtain rfl:=xO I;obtain rfl:=xO G;refine⟨_,rfl,(run_equalIn_string w d _ _ _ F).trans ?_⟩;congr 1;rw[ByteArray.toList_eq,ByteArray.toList_eq];exact VF _ _
 | @struct h0 t0 fs0 ty0 hr F U _ ih=>
  intro d K x y vx vy I G;obtain⟨cx,rfl,rx⟩:=DS hr I;obtain⟨cy,rfl,ry⟩:=DS hr G;obtain⟨d,rfl⟩: ∃d',d=d'+1:=⟨d-1,pM⟩;obtain⟨b,O,M⟩:=ih d pM x y [] [] cx cy rfl rfl rx ry;refine⟨b,O,?_⟩;have hf:P.fieldsOf t0=fs0:=by unfold Program.fieldsOf;rw[F]
  rw[run_equalIn_struct w _ _ _ _ (by rw[hf];exact F) U,hf];simpa using M
 |arr hr F hi _ ih=>
  intro d K x y vx vy I G;obtain⟨cx,rfl,rx⟩:=DS hr I;obtain⟨cy,rfl,ry⟩:=DS hr G;obtain⟨d,rfl⟩: ∃d',d=d'+1:=⟨d-1,pM⟩;obtain⟨b,O,M⟩:=ih d pM x y [] [] cx cy pO pO rx ry;refine⟨b,O,?_⟩;obtain⟨i,hi⟩:=aNT.1 hi;rw[run_equalIn_array w _ _ _ F hi,List.range_eq_range'];simpa using M
 |nil=>
  intro d _ x y px py cx cy _ _ _ _;exact⟨true,rfl,by simp [Op.eqFields]⟩
 |anil=>
  intro d _ x y px py cx cy _ _ _ _;exact⟨true,rfl,by simp [Op.eqItems]⟩
 | @cons h o f r a b V Q z j _ _ iha ihb=>
  intro d K x y px py cx cy E D ⟨x1,x2,ex,rx1,rx2⟩ ⟨y1,y2,ey,ry1,ry2⟩;subst ex;subst ey;obtain⟨vx,p1,v1⟩:=QU (P:=P) (c1:=px) (c3:=x2) z j rx1;obtain⟨vy,p2,v2⟩:=QU (P:=P) (c1:=py) (c3:=y2) z j ry1;obtain⟨b1,e1,r1⟩:=iha d K x.1 y.1 vx vy v1 v2;obtain⟨b2,e2,r2⟩:=ihb d K x.2 y.2 (px++x1) (py++y1) x2 y2 (by rw[aM7,E,sU rx1]) (by rw[aM7,D,sU ry1]) rx2 ry2;refine⟨b1&&b2,by simp only[zK,e1,e2,zK.eqAnd],?_⟩;rw[aNd] at p1 p2 r2;rw[aNd] at r2;rw[E,<-Q] at p1;rw[D,<-Q] at p2;simp only[Op.eqFields,aM4 V,aNi,p1,p2,aNb,r1];cases b1
  .simp
  .simpa using r2
 | @acons h e i m a b z j _ _ iha ihb=>
  intro d K x y px py cx cy E D ⟨x1,x2,ex,rx1,rx2⟩ ⟨y1,y2,ey,ry1,ry2⟩;subst ex;subst ey;have R:=a6P z;obtain⟨vx,p1,v1⟩:=QU (P:=P) (c1:=px) (c3:=x2) z j rx1;obtain⟨vy,p2,v2⟩:=QU (P:=P) (c1:=py) (c3:=y2) z j ry1;obtain⟨b1,e1,r1⟩:=iha d K x.1 y.1 vx vy v1 v2;obtain⟨b2,e2,r2⟩:=ihb d K x.2 y.2 (px++x1) (py++y1) x2 y2 (by rw[aM7,E,sU rx1,R,aN0]) (by rw[aM7,D,sU ry1,R,aN0]) rx2 ry2;refine⟨b1&&b2,by simp only[zK,e1,e2,zK.eqAnd],?_⟩;rw[aNd] at p1 p2 r2;rw[aNd] at r2;rw[E] at p1;rw[D] at p2;simp only[aOX,Op.eqItems,aNi,p1,p2,aNb,r1];cases b1
  .simp
  simpa using r2
end
end Go.Proofs.YtedimeeleabhnaaGreatDoor.Vc
