/- Packed by a program of mine (wip/tools/pack.py): the same texts with short names and few blanks. -/
import Derived.Below
import Derived.Calls
import Derived.Deep.MidRow
import Derived.Deep.Upon
import Derived.Laws.AppendOwn
import Derived.Laws.BitsLemmas
import Derived.Laws.OwnMore
import Derived.MapKept
import Derived.Shelf.Unicode.DecodeSlow
import Derived.Still
import Derived.WalkKit
set_option linter.unusedVariables false
set_option linter.unusedSimpArgs false
set_option linter.unusedSectionVars false
namespace Go.Proofs.YtbbpilohihldiaaGreatDoor.Vc
def NG:Nat:=6
def a6t:Nat:=106
def a6u:List (Nat×Nat×Value):=[(5,15,.int .u8 4)]
def aFc (w:World):Prop:= ∀x∈a6u,x.1<NG∧w.cell? ⟨x.1,x.2.1,none⟩=some x.2.2
def Tabs (w:World):Prop:=NG≤w.heap.size∧Lib.Utf8Tabs 1 2 w∧(∃m,w.cell? ⟨0,0,none⟩=some (.int .i64 m))∧aFc w
theorem KK {w w':World}(h:Tabs w) (hs:w.heap.size≤w'.heap.size) (hb: ∀b,b<NG→w'.heap[b]? =w.heap[b]?):Tabs w':=by
 obtain⟨h0,⟨h1,h2⟩,⟨m,h3⟩,h4⟩:=h
 have hc: ∀b o,b<NG→w'.cell? ⟨b,o,none⟩=w.cell? ⟨b,o,none⟩:=fun b o h=>World.cell?_of_block (a:=⟨b,o,none⟩) (hb b h)
 refine⟨Nat.le_trans h0 hs,⟨fun c hc'=> ?_,fun i hi=>⟨?_,?_⟩⟩,⟨m,?_⟩,fun x hx=>⟨(h4 x hx).1,(hc _ _ (h4 x hx).1).trans (h4 x hx).2⟩⟩
 ·rw[hc _ _ (by decide)];exact h1 c hc'
 ·rw[hc _ _ (by decide)];exact(h2 i hi).1
 ·rw[hc _ _ (by decide)];exact(h2 i hi).2
 ·rw[hc _ _ (by decide)];exact h3
end Go.Proofs.YtbbpilohihldiaaGreatDoor.Vc
namespace Go.Proofs.YtbbpilohihldiaaGreatDoor.Vc
attribute [go_sem] a6t
inductive Ty where
 |bool|int (k:IntKind) |str|list (t:Ty) |unit|pair (a b:Ty) |ref|clo|mp|rl (e:Nat) (t:Ty) |mref|fn
 deriving DecidableEq
@[reducible] def Ty.den:Ty→Type
 | .bool=>Bool
 | .int _=>Int
 | .str=>List UInt8
 | .list t=>List t.den
 | .unit=>Unit
 | .pair a b=>a.den×b.den
 | .ref=>Option (Nat×Nat)
 | .clo=>Option (Nat×List (Nat×Nat))
 | .mp=>Option Nat
 | .rl _ _=>Option (Nat×Nat)
 | .fn=>Option Nat
 | .mref=>Option (Nat×Nat)
@[go_sem] def Ty.cells:Ty→Nat
 | .unit=>0
 | .pair a b=>a.cells+b.cells
 | .bool| .int _| .str| .list _| .ref| .clo| .mp| .rl _ _| .mref| .fn=>1
@[go_sem] def Ty.zero:(t:Ty)→t.den
 | .bool=>false
 | .int _=>(0:Int)
 | .str=>[]
 | .list _=>[]
 | .unit=>()
 | .pair a b=>(a.zero,b.zero)
 | .ref=>none
 | .clo=>none
 | .mp=>none
 | .rl _ _=>none
 | .fn=>none
 | .mref=>none
@[go_sem] def Ty.isRow:Ty→Bool
 | .unit| .pair _ _=>true
 | .bool| .int _| .str| .list _| .ref| .clo| .mp| .rl _ _| .mref| .fn=>false
@[go_sem] def Ty.pure:Ty→Bool
 | .ref| .clo| .mp| .rl _ _| .mref=>false
 | .list t=>t.pure
 | .pair a b=>a.pure&&b.pure
 | .bool| .int _| .str| .unit| .fn=>true
def pG (t:Ty) (l:List t.den) (i:Int):t.den:=l.getD i.toNat t.zero
def pD (l:List UInt8) (i:Int):Int:=((l.getD i.toNat 0).toNat:Int)
def rU {t u:Ty}(h:t=u) (x:t.den):u.den:=h▸x
@[go_sem] theorem HT {t:Ty}(x:t.den):rU (rfl:t=t) x=x:=rfl
@[go_sem] def pM (u:Ty):(t:Ty)→t.den→Nat→Option u.den
 |t,x,0=>if h:t=u then some (rU h x) else match t,x with
  | .pair a b,x=>if 0<a.cells then pM u a x.1 0 else pM u b x.2 0
  |_,_=>none
 | .pair a b,x,o+1=>if o+1<a.cells then pM u a x.1 (o+1) else pM u b x.2 (o+1-a.cells)
 |_,_,_=>none
@[go_sem] def qQ (u:Ty) (y:u.den):(t:Ty)→t.den→Nat→Option t.den
 |t,x,0=>if h:u=t then some (rU h y) else match t,x with
  | .pair a b,x=>if 0<a.cells then(qQ u y a x.1 0).map (fun z=>(z,x.2)) else(qQ u y b x.2 0).map (fun z=>(x.1,z))
  |_,_=>none
 | .pair a b,x,o+1=>if o+1<a.cells then(qQ u y a x.1 (o+1)).map (fun z=>(z,x.2)) else(qQ u y b x.2 (o+1-a.cells)).map (fun z=>(x.1,z))
 |_,_,_=>none
@[go_sem] def Ty.proj:(t:Ty)→t.den→Nat→Option (Σ u:Ty,u.den)
 | .pair a _,x,0=>some ⟨a,x.1⟩
 | .pair _ b,x,i+1=>b.proj x.2 i
 |_,_,_=>none
@[go_sem] def Ty.offs:Ty→Nat→Option Nat
 | .pair _ _,0=>some 0
 | .pair a b,i+1=>(b.offs i).map fun o=>a.cells+o
 |_,_=>none
@[go_sem] def Ty.fld:Ty→Nat→Option Ty
 | .pair a _,0=>some a
 | .pair _ b,i+1=>b.fld i
 |_,_=>none
@[go_sem] def Ty.setPart (u:Ty) (y:u.den):(t:Ty)→t.den→Nat→Option t.den
 | .pair a b,x,0=>if h:u=a then some (rU h y,x.2) else none
 | .pair a b,x,i+1=>(Ty.setPart u y b x.2 i).map fun z=>(x.1,z)
 |_,_,_=>none
inductive DV where
 |any
 |nilS
 |val (t:Ty) (x:t.den)
 |at (t:Ty) (x:t.den)
 |tup (l:List ((Σ t:Ty,t.den)×Option Nat))
 |cond (p:Bool) (d:DV)
 |flag (p q:Prop)
 |own (k n:Nat)
 |elt (k n c:Nat) (i:Int) (o:Nat)
 |nxt (b:Bool) (p c:Int)
abbrev Slot:=DV×Option Nat
inductive Blk where
 |cells (t:Ty) (x:t.den) (toks:List (Nat×Nat))
 |grow (e:TypeId) (c:Nat) (n:Nat)
 |row (e:TypeId) (t:Ty) (l:List t.den) (n:Nat)
 |map (k v:Ty) (l:List (k.den×v.den))
 |iter (s:List UInt8) (p:Nat)
 |dead
structure St where
 env:List (Nat×Slot)
 H:List (Nat×Blk)
 nb:Nat
 N:Nat
 np:Nat:=0
@[go_sem] def lk:List (Nat×Slot)→Nat→Slot
 |[],_=>(.any,none)
 |(k,s)::r,t=>if k=t then s else lk r t
@[go_sem] def getH:List (Nat×Blk)→Nat→Option Blk
 |[],_=>none
 |(k,s)::r,t=>if k=t then some s else getH r t
structure TI where
 ty:Ty
 elem:TypeId:=0
 bytes:Nat:=0
 arr:Bool:=false
 ls:List (Nat×TypeId×Nat):=[]
abbrev Types:=List (Nat×TI)
@[go_sem] def q6:Types→TypeId→Option TI
 |[],_=>none
 |(k,s)::r,t=>if k=t then some s else q6 r t
inductive PK where
 |v|own|p (t:Ty) (os:List Nat) |m|r|f (ks:List (Ty×List Nat))
structure Ret where
 side:List Prop
 ret:List Slot
 H:List Blk
structure Sig where
 ps:List PK
 C:List Slot→List Blk→Option Ret
 gs:List (Nat×Nat×PK):=[]
 same:List Nat:=[]
 row:Option ((t:Ty)→List t.den→Option (List t.den)):=none
abbrev Ctx:=Nat→Option Sig
structure Eff where
 side:List Prop
 slot:Slot
 upd:List (Nat×Blk)
 rds:List Nat
@[go_sem] def fS:Option Eff→Option Eff→Option Eff
 |some r,_=>some r
 |none,r=>r
@[go_sem] def xV:Option (List Prop×DV)→Option Eff
 |some (p,d)=>some ⟨p,(d,none),[],[]⟩
 |none=>none
@[go_sem] def TW:Value→DV
 | .bool b=> .val .bool b
 | .int k n=> .val (.int k) n
 | .string s=> .val .str s.data.toList
 | .slice none 0 0=> .nilS
 | .pointer none=> .val .ref none
 | .nilFunc=> .val .clo none
 | .map none=> .val .mp none
 |_=> .any
@[go_sem] def rQ (env:List (Nat×Slot)):Operand→Slot
 | .tmp t=>lk env t
 | .const v=>(TW v,none)
 | .func f=>(.val .clo (some (f,[])),none)
 | .global _=>(.any,none)
@[go_sem] def KL:Option TI→Slot→Slot
 |some ⟨.list t,_,_,_,_⟩,(.nilS,_)=>(.val (.list t) [],none)
 |_,s=>s
@[go_sem] def FN:IntKind→Int→List Prop×DV
 | .i64,n=>([-9223372036854775808≤n∧n≤9223372036854775807],.val (.int .i64) n)
 |k,n=>([],.val (.int k) (k.wrap n))
@[go_sem] def app {α:Type}:List α→List α→List α
 |[],m=>m
 |x::l,m=>x::app l m
@[go_sem] def yG:(t:Ty)→t.den→t.den→Option Bool
 | .bool,a,b=>some (a==b)
 | .int _,a,b=>some (decide ((a:Int)=b))
 | .str,a,b=>some (decide ((a:List UInt8)=b))
 | .unit,_,_=>some true
 | .pair s t,a,b=>eqAnd (yG s a.1 b.1) (yG t a.2 b.2)
 |_,_,_=>none
where
 eqAnd:Option Bool→Option Bool→Option Bool
  |some x,some y=>some (x&&y)
  |_,_=>none
attribute [go_sem] yG.eqAnd
@[go_sem] def TX (k:IntKind) (a b:Int):BinOp→Option (List Prop×DV)
 | .add=>some (FN k (a+b))
 | .sub=>some (FN k (a-b))
 | .mul=>some (FN k (a*b))
 | .eql=>some ([],.val .bool (decide (a=b)))
 | .neq=>some ([],.val .bool (!decide (a=b)))
 | .lss=>some ([],.val .bool (decide (a<b)))
 | .leq=>some ([],.val .bool (decide (a≤b)))
 | .gtr=>some ([],.val .bool (decide (b<a)))
 | .geq=>some ([],.val .bool (decide (b≤a)))
 | .quo=>some ([b≠0],.val (.int k) (k.wrap (Int.tdiv a b)))
 | .rem=>some ([b≠0],.val (.int k) (Int.tmod a b))
 | .and=>some ([],.val (.int k) (bits .and k a b))
 | .or=>some ([],.val (.int k) (bits .or k a b))
 | .xor=>some ([],.val (.int k) (bits .xor k a b))
 | .andNot=>some ([],.val (.int k) (bits .andNot k a b))
 |_=>none
def TY (k:IntKind) (a b:Int):Int:=k.wrap (a*2^min b.toNat k.bits)
def uY (k:IntKind) (a b:Int):Int:=a.fdiv (2^min b.toNat k.bits)
@[go_sem] def a6w (k:IntKind) (a:Int) (k':IntKind) (b:Int):BinOp→Option (List Prop×DV)
 | .shl=>some ([0≤b],.val (.int k) (TY k a b))
 | .shr=>some ([0≤b],.val (.int k) (uY k a b))
 |op=>if k=k' then TX k a b op else none
@[go_sem] def TZ (a b:List UInt8):BinOp→Option (List Prop×DV)
 | .add=>some ([((a++b).length:Int)≤9223372036854775807],.val .str (a++b))
 | .eql=>some ([],.val .bool (decide (a=b)))
 | .neq=>some ([],.val .bool (!decide (a=b)))
 | .lss=>some ([],.val .bool (Op.bytesLess a b))
 | .leq=>some ([],.val .bool (Op.bytesLess a b||decide (a=b)))
 | .gtr=>some ([],.val .bool (!(Op.bytesLess a b||decide (a=b))))
 | .geq=>some ([],.val .bool (!Op.bytesLess a b))
 |_=>none
@[go_sem] def a6x:BinOp→Option Bool→Option (List Prop×DV)
 | .eql,some r=>some ([],.val .bool r)
 | .neq,some r=>some ([],.val .bool (!r))
 |_,_=>none
@[go_sem] def OF (op:BinOp):Slot→Slot→Option (List Prop×DV)
 |(.val (.int k) a,_),(.val (.int k') b,_)=>a6w k a k' b op
 |(.val .str a,_),(.val .str b,_)=>TZ a b op
 |_,_=>none
@[go_sem] def a6y (u:Ty) (b:Nat) (op:BinOp) (t t':Ty) (x:t.den) (y:t'.den):Option (List Prop×DV):=
 if h:t'=t then(if t=u∧(t= .bool∨(t.isRow=true∧b=1)) then a6x op (yG t x (rU h y)) else none) else none
@[go_sem] def OG {α:Type}(l:List α):BinOp→Option (List Prop×DV)
 | .eql=>some ([],.flag (l=[]) True)
 | .neq=>some ([],.flag True (l=[]))
 |_=>none
@[go_sem] def U0:Option TI→BinOp→Slot→Slot→Option (List Prop×DV)
 |some ⟨.list _,_,_,_,_⟩,op,(.val (.list _) l,_),(.nilS,_)=>OG l op
 |some ⟨.list _,_,_,_,_⟩,op,(.nilS,_),(.val (.list _) l,_)=>OG l op
 |some ⟨u,_,b,_,_⟩,op,(.val t x,_),(.val t' y,_)=>a6y u b op t t' x y
 |_,_,_,_=>none
@[go_sem] def a6z:Option (List Prop×DV)→Option (List Prop×DV)→Option (List Prop×DV)
 |some r,_=>some r
 |none,r=>r
@[go_sem] def U1:UnOp→Slot→Option (List Prop×DV)
 | .not,(.val .bool b,_)=>some ([],.val .bool (!b))
 | .neg,(.val (.int k) n,_)=>some (FN k (-(n:Int)))
 |_,_=>none
def qR (l:List Int):List UInt8:=l.map fun n=>UInt8.ofNat n.toNat
def qJ (s:List UInt8):List Int:=s.map fun b=>(b.toNat:Int)
@[go_sem] def OH:Option TI→Option TI→Slot→Option (List Prop×DV)
 |some _,some ⟨.int k,_,_,_,_⟩,(.val (.int _) n,_)=>some ([],.val (.int k) (k.wrap n))
 |some _,some ⟨.str,_,_,_,_⟩,(.val .str s,_)=>some ([],.val .str s)
 |_,_,_=>none
@[go_sem] def a6A (l:List Int):Option TI→Option (List Prop×DV)
 |some ⟨.int .u8,_,_,_,_⟩=>some ([],.val .str (qR l))
 |_=>none
@[go_sem] def U2 (T:Types):Option TI→Option TI→Slot→Option (List Prop×DV)
 |some ⟨.list (.int .u8),e,_,_,_⟩,some ⟨.str,_,_,_,_⟩,(.val (.list (.int .u8)) l,_)=>a6A l (q6 T e)
 |_,_,_=>none
def pC {α:Type}(l:List α) (lo hi:Int):List α:=(l.drop lo.toNat).take (hi.toNat-lo.toNat)
@[go_sem] def zW:Option Slot→Int→Option Int
 |none,d=>some d
 |some (.val (.int _) n,_),_=>some n
 |_,_=>none
@[go_sem] def OI (t:Ty) (n:Nat) (f:Int→Int→t.den):Option Int→Option Int→Option (List Prop×DV)
 |some a,some b=>some ([0≤a∧a≤b∧b≤(n:Int)],.val t (f a b))
 |_,_=>none
@[go_sem] def U3:Option TI→Slot→Option Slot→Option Slot→Option (List Prop×DV)
 |some ⟨.str,_,_,_,_⟩,(.val .str l,_),lo,hi=>OI .str (List.length l) (pC l) (zW lo 0) (zW hi (List.length l))
 |some ⟨.list u,_,_,_,_⟩,(.val (.list t) l,_),lo,hi=>if t=u then OI (.list t) (List.length l) (pC l) (zW lo 0) (zW hi (List.length l)) else none
 |_,_,_,_=>none
@[go_sem] def OJ (t:Ty) (x:t.den) (i:Nat):Option Ty→Option t.den
 |some (.list u)=>Ty.setPart (.list u) [] t x i
 |_=>none
@[go_sem] def xD (t:Ty):Option t.den→List (Nat×Slot)→Option t.den
 |some x,[]=>some x
 |some x,(i,(.val u y,_))::r=>xD t (Ty.setPart u y t x i) r
 |some x,(i,(.nilS,_))::r=>xD t (OJ t x i (t.fld i)) r
 |_,_=>none
@[go_sem] def zD (t:Ty):Nat→List t.den
 |0=>[]
 |n+1=>t.zero::zD t n
@[go_sem] def a6B (t:Ty) (n:Nat) (l:List t.den) (i:Nat) (u:Ty) (y:u.den):Option (List t.den):=if h:u=t∧i<n then some (l.set i (rU h.1 y)) else none
@[go_sem] def xW (t:Ty) (n:Nat):Option (List t.den)→List (Nat×Slot)→Option (List t.den)
 |some l,[]=>some l
 |some l,(i,(.val u y,_))::r=>xW t n (a6B t n l i u y) r
 |_,_=>none
attribute [go_sem] List.set_cons_zero List.set_cons_succ
@[go_sem] def FO:List Slot→Option (List (Nat×Nat))
 |[]=>some []
 |(.val .ref (some p),_)::r=>(FO r).map (p:: ·)
 |_=>none
@[go_sem] def uE:List (Nat×Nat)→Nat→Option Nat
 |[],_=>none
 |(o,k)::r,a=>if o=a then some k else uE r a
@[go_sem] def uL:Option Nat→Nat→List (Nat×Nat)
 |some k,o=>[(o,k)]
 |none,_=>[]
@[go_sem] def sU:List (Nat×Nat)→Nat→Nat→List (Nat×Nat)
 |[],_,_=>[]
 |(q,k)::r,o,n=>if o≤q∧q<o+n then sU r o n else(q,k)::sU r o n
@[go_sem] def C8:Ty→Option Nat→Option Nat
 | .list _,k=>k
 |_,_=>none
@[go_sem] def w8 {α:Type}:List α→List α→List α
 |[],acc=>acc
 |x::l,acc=>w8 l (x::acc)
inductive Whence where
 |box (id:Nat) (u:Ty) (x:u.den) (toks:List (Nat×Nat)) (o:Nat)
 |tok (id:Nat)
@[go_sem] def Whence.id:Whence→Nat
 | .box i _ _ _ _=>i
 | .tok k=>k
@[go_sem] def zE:Nat→List Nat→Bool
 |_,[]=>false
 |i,j::r=>if i=j then true else zE i r
@[go_sem] def wsIds:List Whence→List Nat
 |[]=>[]
 |w::r=>w.id::wsIds r
structure Pass where
 args:List Slot
 H:List Blk
 ws:List Whence
 n:Nat
@[go_sem] def FP:List Nat→Nat→List (Nat×Nat)
 |[],_=>[]
 |q::qs,n=>(q,n)::FP qs (n+1)
@[go_sem] def yH (k:Nat):Option Blk→Option Pass→Option Pass
 |some (.grow e c m),some a=>if zE k (wsIds a.ws)=true then none else some ⟨a.args,.grow e c m::a.H,.tok k::a.ws,a.n+1⟩
 |_,_=>none
@[go_sem] def w9 (H:List (Nat×Blk)):Option Nat→Option Pass→Option Pass
 |some k,a=>yH k (getH H k) a
 |none,_=>none
@[go_sem] def vG (H:List (Nat×Blk)) (toks:List (Nat×Nat)) (o:Nat):List Nat→Option Pass→Option Pass
 |[],a=>a
 |q::qs,a=>vG H toks o qs (w9 H (uE toks (o+q)) a)
@[go_sem] def HU (n:Nat):List Nat→Bool
 |[]=>true
 |q::qs=>decide (q<n)&&HU n qs
@[go_sem] def AY (H:List (Nat×Blk)) (t:Ty) (os:List Nat) (i o:Nat) (u:Ty) (x:u.den) (toks:List (Nat×Nat)) (a:Pass):Option t.den→Option Pass
 |some y=>if (HU t.cells os&& !zE i (wsIds a.ws))=true then vG H toks o os (some ⟨(.val .ref (some (a.n,0)),none)::a.args,.cells t y (FP os (a.n+1))::a.H,.box i u x toks o::a.ws,a.n+1⟩) else none
 |none=>none
@[go_sem] def t6 (H:List (Nat×Blk)) (t:Ty) (os:List Nat) (i o:Nat) (a:Pass):Option Blk→Option Pass
 |some (.cells u x toks)=>AY H t os i o u x toks a (pM t u x o)
 |_=>none
@[go_sem] def yI (t:Ty) (x:t.den) (k:Nat) (a:Pass):Option Blk→Option Pass
 |some (.grow e c m)=>if (t.pure&& !zE k (wsIds a.ws))=true then some ⟨(.val t x,some a.n)::a.args,.grow e c m::a.H,.tok k::a.ws,a.n+1⟩ else none
 |_=>none
@[go_sem] def OK (t:Ty) (x:t.den) (a:Pass):Option Pass:=
 if t.pure=true then some ⟨(.val t x,none)::a.args,a.H,a.ws,a.n⟩ else none
@[go_sem] def OL (f:FuncId) (a:Pass):Option Pass:=some ⟨(.val .clo (some (f,[])),none)::a.args,a.H,a.ws,a.n⟩
@[go_sem] def yJ (i:Nat) (a:Pass):Option Blk→Option Pass
 |some (.map k v l)=>if (k.pure&&v.pure&& !zE i (wsIds a.ws))=true then some ⟨(.val .mp (some a.n),none)::a.args,.map k v l::a.H,.tok i::a.ws,a.n+1⟩ else none
 |_=>none
@[go_sem] def yK (k n:Nat) (a:Pass):Option Blk→Option Pass
 |some (.row e t l m)=>if (t.pure&& !zE k (wsIds a.ws))=true then some ⟨(.own a.n n,none)::a.args,.row e t l m::a.H,.tok k::a.ws,a.n+1⟩ else none
 |_=>none
@[go_sem] def uM (H:List (Nat×Blk)) (f:FuncId) (args:List Slot):List (Ty×List Nat)→List (Nat×Nat)→List (Nat×Nat)→Option Pass→Option Pass
 |[],[],ids,some a=>some ⟨(.val .clo (some (f,w8 ids [])),none)::args,a.H,a.ws,a.n⟩
 |(t,os)::ks,(i,o)::cs,ids,some a=>uM H f args ks cs ((a.n,0)::ids) (t6 H t os i o a (getH H i))
 |_,_,_,_=>none
@[go_sem] def uZ (H:List (Nat×Blk)) (a:Pass):PK→Slot→Option Pass
 | .v,(.val .clo (some (f,[])),_)=>OL f a
 | .v,(.val t x,_)=>OK t x a
 | .own,(.val t x,some k)=>yI t x k a (getH H k)
 | .p t os,(.val .ref (some (i,o)),_)=>t6 H t os i o a (getH H i)
 | .m,(.val .mp (some i),_)=>yJ i a (getH H i)
 | .r,(.own k n,_)=>yK k n a (getH H k)
 | .f ks,(.val .clo (some (f,cs)),_)=>uM H f a.args ks cs [] (some a)
 |_,_=>none
@[go_sem] def uN (H:List (Nat×Blk)):List PK→List Slot→Option Pass→Option Pass
 |_,_,none=>none
 |[],[],some a=>some a
 |p::ps,s::ss,some a=>uN H ps ss (uZ H a p s)
 |_,_,some _=>none
@[go_sem] def aFd:Option (Option (Nat×Nat))→Slot
 |some (some p)=>(.val .ref (some p),none)
 |_=>(.any,none)
@[go_sem] def aFe:Option (Option Nat)→Slot
 |some (some i)=>(.val .mp (some i),none)
 |_=>(.any,none)
@[go_sem] def aFf:Option (Option (Nat×Nat))→Slot
 |some (some (k,n))=>(.own k n,none)
 |_=>(.any,none)
@[go_sem] def C9:(t:Ty)→t.den→Nat→Option (Option (Nat×Nat))
 | .rl _ _,x,0=>some x
 | .pair a b,x,o=>if o<a.cells then C9 a x.1 o else C9 b x.2 (o-a.cells)
 |_,_,_=>none
@[go_sem] def FQ (q:Nat):PK→Option Blk→Slot
 | .r,some (.cells t y _)=>aFf (C9 t y q)
 | .p _ _,some (.cells t y _)=>aFd (pM .ref t y q)
 | .m,some (.cells t y _)=>aFe (pM .mp t y q)
 |_,_=>(.any,none)
@[go_sem] def DR:List Blk→Nat→Option Blk
 |[],_=>none
 |b::_,0=>some b
 |_::r,n+1=>DR r n
@[go_sem] def HV (l:List Slot):Option Pass→Option Pass
 |some a=>some ⟨l,a.H,a.ws,a.n⟩
 |none=>none
@[go_sem] def xX (H:List (Nat×Blk)):List (Nat×Nat×PK)→Option Pass→Option Pass
 |_,none=>none
 |[],some a=>some a
 |(c,q,pk)::r,some a=>xX H r (HV a.args (uZ H a pk (FQ q pk (DR a.H (a.n-1-c)))))
@[go_sem] def CA (i o:Nat):List Whence→Nat→Option (Nat×Nat)
 |[],_=>none
 | .box j _ _ _ oc::r,c=>if j=i∧oc≤o then some (c,o-oc) else CA i o r (c+1)
 | .tok _::r,c=>CA i o r (c+1)
@[go_sem] def tG (i:Nat):List Whence→Nat→Option Nat
 |[],_=>none
 | .tok j::r,c=>if j=i then some c else tG i r (c+1)
 | .box _ _ _ _ _::r,c=>tG i r (c+1)
@[go_sem] def FR {α β:Type}:Option α→Option β→Option (α×β)
 |some a,some b=>some (a,b)
 |_,_=>none
@[go_sem] def OM (W:List Whence):Option (Nat×Nat)→Option (Option (Nat×Nat))
 |none=>some none
 |some (i,o)=>(CA i o W 0).map some
@[go_sem] def a6C (W:List Whence):Option Nat→Option (Option Nat)
 |none=>some none
 |some i=>(tG i W 0).map some
@[go_sem] def a6D (W:List Whence):Option (Nat×Nat)→Option (Option (Nat×Nat))
 |none=>some none
 |some (k,n)=>(tG k W 0).map fun c=>some (c,n)
@[go_sem] def KM:Option (Nat×List (Nat×Nat))→Option (Option (Nat×List (Nat×Nat)))
 |none=>some none
 |some (f,[])=>some (some (f,[]))
 |_=>none
@[go_sem] def zF (W:List Whence):(t:Ty)→t.den→Option t.den
 | .ref,x=>OM W x
 | .clo,x=>KM x
 | .mp,x=>a6C W x
 | .pair a b,x=>FR (if a.pure=true then some x.1 else zF W a x.1) (if b.pure=true then some x.2 else zF W b x.2)
 | .list t,x=>if t.pure=true then some x else none
 | .bool,x=>some x
 | .int _,x=>some x
 | .str,x=>some x
 | .unit,x=>some x
 | .rl _ _,x=>a6D W x
 | .fn,x=>some x
 | .mref,x=>OM W x
@[go_sem] def U4:Option Blk→Option (List Blk)→Option (List Blk)
 |some b,some l=>some (b::l)
 |_,_=>none
@[go_sem] def aFg (t:Ty) (ts:List (Nat×Nat)):Option t.den→Option Blk
 |some y=>some (.cells t y ts)
 |none=>none
@[go_sem] def ON (W:List Whence):Blk→Option Blk
 | .cells t y ts=>if t.pure=true then some (.cells t y ts) else aFg t ts (zF W t y)
 |b=>some b
@[go_sem] def DS (W:List Whence):List Blk→Option (List Blk)
 |[]=>some []
 |b::r=>U4 (ON W b) (DS W r)
@[go_sem] def xE:List Whence→Nat→Option Whence
 |[],_=>none
 |w::_,0=>some w
 |_::r,n+1=>xE r n
@[go_sem] def HW (n:Nat) (c:Nat):Option Whence→Bool
 |some _=>false
 |none=>decide (c<n)
@[go_sem] def xF (base n c:Nat):Option Whence→Option Nat
 |some (.box _ _ _ _ _)=>none
 |some (.tok k)=>some k
 |none=>if c<n then some (base+c) else none
@[go_sem] def a6E (base n c o:Nat):Option Whence→Slot
 |some (.box i _ _ _ o')=>(.val .ref (some (i,o'+o)),none)
 |wh=>if HW n c wh=true then(.val .ref (some (base+c,o)),none) else(.any,none)
@[go_sem] def FS (base n:Nat) (W:List Whence):Option Nat→Option Nat
 |some c=>xF base n c (xE W c)
 |none=>none
@[go_sem] def aFh (m:Nat):Option Nat→Slot
 |some k=>(.own k m,none)
 |none=>(.any,none)
@[go_sem] def aFi:Option Nat→Slot
 |some k=>(.val .mp (some k),none)
 |none=>(.any,none)
@[go_sem] def U5 (base n c o:Nat):Option Whence→Option (Nat×Nat)
 |some (.box i _ _ _ o')=>some (i,o'+o)
 |wh=>if HW n c wh=true then some (base+c,o) else none
@[go_sem] def aFj:Option (Nat×Nat)→Option (List (Nat×Nat))→Option (List (Nat×Nat))
 |some p,some l=>some (p::l)
 |_,_=>none
@[go_sem] def HX (base n:Nat) (W:List Whence):List (Nat×Nat)→Option (List (Nat×Nat))
 |[]=>some []
 |(c,o)::r=>aFj (U5 base n c o (xE W c)) (HX base n W r)
@[go_sem] def aFk (f:Nat):Option (List (Nat×Nat))→Slot
 |some l=>(.val .clo (some (f,l)),none)
 |none=>(.any,none)
@[go_sem] def OO (base n:Nat) (W:List Whence):Slot→Slot
 |(.own c m,_)=>aFh m (FS base n W (some c))
 |(.val .ref (some (c,o)),_)=>a6E base n c o (xE W c)
 |(.val .ref none,_)=>(.val .ref none,none)
 |(.val .mp (some c),_)=>aFi (FS base n W (some c))
 |(.val .clo (some (f,cs)),_)=>aFk f (HX base n W cs)
 |(.val t x,k)=>if t.pure=true then(.val t x,FS base n W (C8 t k)) else(.any,none)
 |_=>(.any,none)
@[go_sem] def aFl (q:Nat):Option Nat→List (Nat×Nat)→List (Nat×Nat)
 |some k,r=>(q,k)::r
 |none,r=>r
@[go_sem] def zX (base n:Nat) (W:List Whence) (o:Nat):List (Nat×Nat)→List (Nat×Nat)
 |[]=>[]
 |(q,c)::r=>aFl (o+q) (xF base n c (xE W c)) (zX base n W o r)
@[go_sem] def FT (base n:Nat) (W:List Whence):Option (Nat×Nat)→Option (Option (Nat×Nat))
 |none=>some none
 |some (c,o)=>back2 c o (xE W c)
where
 back2 (c o:Nat):Option Whence→Option (Option (Nat×Nat))
  |some (.box i _ _ _ o')=>some (some (i,o'+o))
  |wh=>if HW n c wh=true then some (some (base+c,o)) else none
attribute [go_sem] FT.back2
@[go_sem] def a6F (base n:Nat) (W:List Whence):Option Nat→Option (Option Nat)
 |none=>some none
 |some c=>(xF base n c (xE W c)).map some
@[go_sem] def a6G (base n:Nat) (W:List Whence):Option (Nat×Nat)→Option (Option (Nat×Nat))
 |none=>some none
 |some (c,q)=>(xF base n c (xE W c)).map fun k=>some (k,q)
@[go_sem] def yM (base n:Nat) (W:List Whence):(t:Ty)→t.den→Option t.den
 | .ref,x=>FT base n W x
 | .clo,x=>KM x
 | .mp,x=>a6F base n W x
 | .pair a b,x=>FR (if a.pure=true then some x.1 else yM base n W a x.1) (if b.pure=true then some x.2 else yM base n W b x.2)
 | .list t,x=>if t.pure=true then some x else none
 | .bool,x=>some x
 | .int _,x=>some x
 | .str,x=>some x
 | .unit,x=>some x
 | .rl _ _,x=>a6G base n W x
 | .fn,x=>some x
 | .mref,x=>FT base n W x
@[go_sem] def OP (i o:Nat) (u t:Ty) (toks ts:List (Nat×Nat)):Option u.den→Option (Nat×Blk)
 |some z=>some (i,.cells u z (app ts (sU toks o t.cells)))
 |none=>none
@[go_sem] def a6H (i:Nat) (t:Ty) (ts:List (Nat×Nat)):Option t.den→Option (Nat×Blk)
 |some y=>some (i,.cells t y ts)
 |none=>none
@[go_sem] def zY (base n c:Nat) (W:List Whence):Blk→Option (Nat×Blk)
 | .cells t y ts=>if t.pure=true then some (base+c,.cells t y (zX base n W 0 ts)) else a6H (base+c) t (zX base n W 0 ts) (yM base n W t y)
 | .grow e m k=>some (base+c,.grow e m k)
 | .row e t l n=>if t.pure=true then some (base+c,.row e t l n) else none
 | .map k v l=>if (k.pure&&v.pure)=true then some (base+c,.map k v l) else none
 | .iter _ _=>none
 | .dead=>some (base+c,.dead)
@[go_sem] def wO (k:Nat):Blk→Option (Nat×Blk)
 | .cells _ _ _=>none
 | .grow e m n=>some (k,.grow e m n)
 | .row e t l n=>if t.pure=true then some (k,.row e t l n) else none
 | .map s v l=>if (s.pure&&v.pure)=true then some (k,.map s v l) else none
 | .iter _ _=>none
 | .dead=>some (k,.dead)
@[go_sem] def a6I (i o:Nat) (u t:Ty) (toks ts:List (Nat×Nat)) (x:u.den):Option t.den→Option (Nat×Blk)
 |some y=>OP i o u t toks ts (qQ t y u x o)
 |none=>none
@[go_sem] def uO (base n i o:Nat) (W:List Whence) (u:Ty) (x:u.den) (toks:List (Nat×Nat)):Blk→Option (Nat×Blk)
 | .cells t y ts=>if t.pure=true then OP i o u t toks (zX base n W o ts) (qQ t y u x o) else a6I i o u t toks (zX base n W o ts) x (yM base n W t y)
 | .dead=>some (i,.dead)
 | .grow _ _ _=>none
 | .row _ _ _ _=>none
 | .map _ _ _=>none
 | .iter _ _=>none
@[go_sem] def KN:Option (Nat×Blk)→Option (List (Nat×Blk))→Option (List (Nat×Blk))
 |some q,some r=>some (q::r)
 |_,_=>none
@[go_sem] def xY (base n:Nat) (W:List Whence):Nat→List Whence→List Blk→Option (List (Nat×Blk))
 |_,[],[]=>some []
 |c,[],b::L=>KN (zY base n c W b) (xY base n W (c+1) [] L)
 |c,.box i u x toks o::ws,b::L=>KN (uO base n i o W u x toks b) (xY base n W (c+1) ws L)
 |c,.tok k::ws,b::L=>KN (wO k b) (xY base n W (c+1) ws L)
 |_,_::_,[]=>none
@[go_sem] def FU:List Slot→Option (List ((Σ t:Ty,t.den)×Option Nat))
 |[]=>some []
 |(.val t x,k)::r=>(FU r).map ((⟨t,x⟩,k):: ·)
 |_=>none
@[go_sem] def aFm:Option (List ((Σ t:Ty,t.den)×Option Nat))→Slot
 |some q=>(.tup q,none)
 |none=>(.any,none)
@[go_sem] def HY:List Slot→Option Slot
 |[]=>some (.tup [],none)
 |[s]=>some s
 |s::s'::l=>some (aFm (FU (s::s'::l)))
@[go_sem] def U6 (W:List Whence):List Nat→List Nat
 |[]=>[]
 |c::r=>sameId (xE W c) (U6 W r)
where
 sameId:Option Whence→List Nat→List Nat
  |some w,r=>w.id::r
  |none,r=>r
attribute [go_sem] U6.sameId
@[go_sem] def KO (side:List Prop) (rds:List Nat):Option (List (Nat×Blk))→Option Slot→Option Eff
 |some H,some s=>some ⟨side,s,H,rds⟩
 |_,_=>none
@[go_sem] def KP (base n:Nat) (W:List Whence):List Slot→List Slot
 |[]=>[]
 |s::r=>OO base n W s::KP base n W r
@[go_sem] def pF:List Blk→Nat
 |[]=>0
 |_::r=>pF r+1
@[go_sem] def OQ (base:Nat) (W:List Whence) (sm:List Nat):Option Ret→Option Eff
 |some r=>KO r.side (app (wsIds W) (U6 W sm)) (xY base (pF r.H) W 0 W r.H) (HY (KP base (pF r.H) W r.ret))
 |none=>none
@[go_sem] def OR (C:List Slot→List Blk→Option Ret) (sm:List Nat) (base:Nat) (W:List Whence) (args:List Slot):Option (List Blk)→Option Eff
 |some L=>OQ base W sm (C args L)
 |none=>none
@[go_sem] def KQ (C:List Slot→List Blk→Option Ret) (sm:List Nat) (base:Nat):Option Pass→Option Eff
 |some a=>OR C sm base (w8 a.ws []) (w8 a.args []) (DS (w8 a.ws []) (w8 a.H []))
 |none=>none
@[go_sem] def CB (H:List (Nat×Blk)) (base:Nat) (args:List Slot):Option Sig→Option Eff
 |some g=>KQ g.C g.same base (xX H g.gs (uN H g.ps args (some ⟨[],[],[],0⟩)))
 |none=>none
@[go_sem] def KR:List PK→List Slot→Option Nat
 | .r::ps,_::ss=>KR ps ss
 |_::_,(.own k _,_)::_=>some k
 |_::ps,_::ss=>KR ps ss
 |_,_=>none
@[go_sem] def a6J (k:Nat) (t:Ty) (l:List t.den):Slot→Slot
 |(.own j m,x)=>if j=k then(.val (.list t) l,none) else(.own j m,x)
 |s=>s
@[go_sem] def KS (k:Nat) (t:Ty) (l:List t.den):List Slot→List Slot
 |[]=>[]
 |s::r=>a6J k t l s::KS k t l r
@[go_sem] def FV (k n:Nat):List Slot→List Prop
 |[]=>[]
 |(.own j m,_)::r=>(j=k→m=n)::FV k n r
 |_::r=>FV k n r
@[go_sem] def DT:Ty→Bool
 | .list _=>false
 | .pair a b=>DT a&&DT b
 | .bool| .int _| .str| .unit| .fn=>true
 | .ref| .clo| .mp| .rl _ _| .mref=>false
@[go_sem] def idsOf:List (Nat×Blk)→List Nat
 |[]=>[]
 |(i,_)::r=>i::idsOf r
@[go_sem] def HZ:List (Nat×Blk)→Bool
 |[]=>true
 |(_,.cells t _ [])::r=>DT t&&HZ r
 |_=>false
@[go_sem] def U7 (sd:List Prop) (k:Nat):Option Eff→Option Eff
 |some ⟨side,(.val t x,_),U,rds⟩=>if (DT t&&HZ U&& !zE k (idsOf U))=true then some ⟨app sd side,(.val t x,none),U,k::rds⟩ else none
 |_=>none
@[go_sem] def KT (H:List (Nat×Blk)) (base:Nat) (args:List Slot) (g:Sig) (k:Nat):Option Blk→Option Eff
 |some (.row _ t l m)=>U7 (FV k m args) k (CB ((k,.dead)::H) base (KS k t l args) (some g))
 |_=>none
@[go_sem] def a6K (H:List (Nat×Blk)) (base:Nat) (args:List Slot) (g:Sig):Option Nat→Option Eff
 |some k=>KT H base args g k (getH H k)
 |none=>CB H base args (some g)
@[go_sem] def a6L (k n m e:Nat) (t:Ty):Option (List t.den)→Option Eff
 |some l=>some ⟨[n=m,m<4611686018427387904],(.tup [],none),[(k,.row e t l m)],[k]⟩
 |none=>none
@[go_sem] def U8 (F:(t:Ty)→List t.den→Option (List t.den)) (k n:Nat):Option Blk→Option Eff
 |some (.row e t l m)=>a6L k n m e t (F t l)
 |_=>none
@[go_sem] def OS (H:List (Nat×Blk)) (F:(t:Ty)→List t.den→Option (List t.den)):List Slot→Option Eff
 |[(.own k n,_)]=>U8 F k n (getH H k)
 |_=>none
@[go_sem] def U9 (base:Nat):Option TI→Slot→Option Eff
 |some ⟨.list u,e,_,true,_⟩,(.nilS,_)=>some ⟨[],(.own base 0,none),[(base,.row e u [] 0)],[]⟩
 |some ⟨.list u,e,_,false,_⟩,(.nilS,_)=>some ⟨[],(.val (.list u) [],some base),[(base,.grow e u.cells 0)],[]⟩
 |_,(.nilS,_)=>none
 |_,s=>some ⟨[],s,[],[]⟩
@[go_sem] def AZ:Ty→Nat→Bool
 | .list _,0=>true
 | .pair a b,o=>if o<a.cells then AZ a o else AZ b (o-a.cells)
 |_,_=>false
@[go_sem] def B0 (t:Ty):List (Nat×TypeId×Nat)→Bool
 |[]=>true
 |(o,_,_)::r=>AZ t o&&B0 t r
@[go_sem] def yN:List (Nat×TypeId×Nat)→Nat→List (Nat×Nat)
 |[],_=>[]
 |(o,_,_)::r,i=>(o,i)::yN r (i+1)
@[go_sem] def zZ:List (Nat×TypeId×Nat)→Nat→List (Nat×Blk)
 |[],_=>[]
 |(_,e,c)::r,i=>app (zZ r (i+1)) [(i,.grow e c 0)]
@[go_sem] def UA (e:Nat):Bool:=if e=84 then true else if e=a6t then true else false
@[go_sem] def UB (e:Nat) (u:Ty) (o:Nat):Option (Nat×Nat)→List (Nat×Nat×Ty)
 |none=>[(o,e,u)]
 |some _=>[]
@[go_sem] def B1:(t:Ty)→t.den→Nat→List (Nat×Nat×Ty)
 | .rl e u,x,o=>UB e u o x
 | .pair a b,x,o=>app (B1 a x.1 o) (B1 b x.2 (o+a.cells))
 |_,_,_=>[]
@[go_sem] def UC (o:Nat):Option (Nat×Nat)→List Nat
 |none=>[o]
 |some _=>[]
@[go_sem] def CC:(t:Ty)→t.den→Nat→List Nat
 | .mref,x,o=>UC o x
 | .pair a b,x,o=>app (CC a x.1 o) (CC b x.2 (o+a.cells))
 |_,_,_=>[]
@[go_sem] def a6M:Nat→List Nat→List Nat
 |2,[0]=>[0]
 |_,_=>[]
@[go_sem] def OT (el:Nat) (t:Ty) (y:t.den):List Nat:=if UA el=true then a6M t.cells (CC t y 0) else[]
@[go_sem] def FW (t:Ty):Nat→List (Nat×Nat×Ty)→Option t.den→Option t.den
 |_,[],x=>x
 |i,(o,e,u)::r,some x=>FW t (i+1) r (qQ (.rl e u) (some (i,0)) t x o)
 |_,_::_,none=>none
@[go_sem] def DU (t:Ty) (i:Nat):List Nat→Option t.den→Option t.den
 |[],x=>x
 |q::r,some x=>DU t i r (qQ .mref (some (i,q)) t x q)
 |_::_,none=>none
@[go_sem] def FX:List (Nat×Nat×Ty)→Nat→List (Nat×Blk)
 |[],_=>[]
 |(_,e,u)::r,i=>app (FX r (i+1)) [(i,.row e u [] 0)]
@[go_sem] def KU {α:Type}:List α→Nat
 |[]=>0
 |_::r=>KU r+1
@[go_sem] def a6N (base:Nat) (t:Ty) (ls:List (Nat×TypeId×Nat)) (R:List (Nat×Nat×Ty)):Option t.den→Option Eff
 |some z=>some ⟨[],(.val .ref (some (base,0)),none),(base,.cells t z (yN ls (base+1)))::app (FX R (base+1+KU ls)) (zZ ls (base+1)),[]⟩
 |none=>none
@[go_sem] def OU (base el:Nat) (t:Ty) (y:t.den) (ls:List (Nat×TypeId×Nat)):Bool→Option Eff
 |true=>a6N base t ls (B1 t y 0) (DU t base (OT el t y) (FW t (base+1+KU ls) (B1 t y 0) (some y)))
 |false=>none
@[go_sem] def a6O (base el:Nat) (ls:List (Nat×TypeId×Nat)):(t:Ty)→t.den→Option Nat→Option Eff
 | .pair a b,y,some _=>OU base el (.pair a b) y ls (B0 (.pair a b) ls)
 | .list u,y,k=>some ⟨[],(.val .ref (some (base,0)),none),[(base,.cells (.list u) y (uL k 0))],[]⟩
 |t,y,_=>some ⟨[],(.val .ref (some (base,0)),none),[(base,.cells t y [])],[]⟩
@[go_sem] def UD (base el:Nat):Option TI→Option Eff
 |some ⟨.list u,e,_,_,_⟩=>some ⟨[],(.val .ref (some (base,0)),none),[(base,.cells (.list u) [] [(0,base+1)]),(base+1,.grow e u.cells 0)],[]⟩
 |some ti=>OU base el ti.ty ti.ty.zero ti.ls (B0 ti.ty ti.ls)
 |none=>none
@[go_sem] def UE (base el:Nat):Option TI→Slot→Option Eff
 |some ti,(.val t y,k)=>if t=ti.ty then a6O base el ti.ls t y k else none
 |_,_=>none
@[go_sem] def I0:Ty→Bool
 | .list _=>true
 | .pair a b=>I0 a||I0 b
 | .bool| .int _| .str| .unit| .ref| .clo| .mp| .rl _ _| .mref| .fn=>false
@[go_sem] def xZ:List (Nat×Slot)→Bool
 |[]=>true
 |(_,(.nilS,_))::r=>xZ r
 |(_,(.val u _,_))::r=> !I0 u&&xZ r
 |_=>false
@[go_sem] def UF:Ty→Bool→Option Nat
 | .pair _ _,true=>some 0
 |_,_=>none
@[go_sem] def aFn (t:Ty) (k:Option Nat):Option t.den→Option Eff
 |some x=>some ⟨[],(.val t x,k),[],[]⟩
 |none=>none
@[go_sem] def UG (sl:List (Nat×Slot)):Option TI→Option Eff
 |some ti=>if ti.ty.isRow=true then aFn ti.ty (UF ti.ty (xZ sl)) (xD ti.ty (some ti.ty.zero) sl) else none
 |none=>none
@[go_sem] def OV (base e c n:Nat) (t:Ty):Option (List t.den)→Option Eff
 |some l=>if n≤16777216∧n*c≤16777216 then some ⟨[],(.val (.list t) l,some base),[(base,.grow e c n)],[]⟩ else none
 |none=>none
@[go_sem] def a6P (base e n:Nat) (t:Ty):Option (List t.den)→Option Eff
 |some l=>if t.pure=true∧n≤16777216∧n*t.cells≤16777216 then some ⟨[],(.own base n,none),[(base,.row e t l n)],[]⟩ else none
 |none=>none
@[go_sem] def UH (base n:Nat) (sl:List (Nat×Slot)):Option TI→Option Eff
 |some ⟨.list u,e,_,true,_⟩=>if n=0 then a6P base e n u (xW u n (some (zD u n)) sl) else OV base e u.cells n u (xW u n (some (zD u n)) sl)
 |some ⟨.list u,e,_,false,_⟩=>OV base e u.cells n u (xW u n (some (zD u n)) sl)
 |_=>none
@[go_sem] def a6Q (t:Ty) (k:Option Nat) (i:Nat):Option t.den→Option Eff
 |some y=>some ⟨[],(.val t y,k),[],[i]⟩
 |none=>none
@[go_sem] def KV (t:Ty) (i off:Nat):Option Blk→Option Eff
 |some (.cells u x toks)=>a6Q t (C8 t (uE toks off)) i (pM t u x off)
 |_=>none
@[go_sem] def a6R (u:Ty) (k n m:Nat):Option u.den→Option Eff
 |some y=>some ⟨[n=m],(.val u y,none),[],[k]⟩
 |none=>none
@[go_sem] def KW (u:Ty) (k n c:Nat) (i:Int) (o:Nat):Option Blk→Option Eff
 |some (.row _ t l m)=>if c=t.cells then a6R u k n m (pM u t (pG t l i) o) else none
 |_=>none
@[go_sem] def UI (i:Nat):Option (Option (Nat×Nat))→Option Eff
 |some (some (k,n))=>some ⟨[],(.own k n,none),[],[i]⟩
 |_=>none
@[go_sem] def OW (i off:Nat):TI→Option Blk→Option Eff
 |⟨.list u,e,_,_,_⟩,some (.cells v x _)=>UI i (pM (.rl e u) v x off)
 |_,_=>none
@[go_sem] def OX (H:List (Nat×Blk)):Option TI→Slot→Option Eff
 |some ti,(.elt k n c i o,_)=>KW ti.ty k n c i o (getH H k)
 |some ti,(.at u x,_)=>if u=ti.ty then some ⟨[],(.val u x,none),[],[]⟩ else none
 |some ti,(.val .ref (some (i,off)),_)=>fS (KV ti.ty i off (getH H i)) (OW i off ti (getH H i))
 |_,_=>none
@[go_sem] def OY (u:Ty) (i:Nat) (toks:List (Nat×Nat)):Option u.den→Option Eff
 |some z=>some ⟨[],(.any,none),[(i,.cells u z toks)],[i]⟩
 |none=>none
@[go_sem] def OZ (t:Ty) (y:t.den) (k:Option Nat) (i off:Nat):Option Blk→Option Eff
 |some (.cells u x toks)=>OY u i (app (uL (C8 t k) off) (sU toks off t.cells)) (qQ t y u x off)
 |_=>none
@[go_sem] def I1 (off:Nat):List (Nat×Nat)→List (Nat×Nat)
 |[]=>[]
 |(o,k)::r=>(off+o,k)::I1 off r
@[go_sem] def a6S (u:Ty) (i:Nat) (nt toks:List (Nat×Nat)) (bs:List (Nat×Blk)):Option u.den→Option Eff
 |some z=>some ⟨[],(.any,none),(i,.cells u z (app nt toks))::app bs [(i,.cells u z toks)],[i]⟩
 |none=>none
@[go_sem] def P0 (t:Ty) (y:t.den) (ls:List (Nat×TypeId×Nat)) (base i off:Nat):Option Blk→Bool→Option Eff
 |some (.cells u x toks),true=>a6S u i (I1 off (yN ls base)) (sU toks off t.cells) (zZ ls base) (qQ t y u x off)
 |_,_=>none
@[go_sem] def P1 (base i off:Nat) (b:Option Blk):List (Nat×TypeId×Nat)→(t:Ty)→t.den→Option Nat→Option Eff
 |q::r,.pair a c,y,some _=>P0 (.pair a c) y (q::r) base i off b (B0 (.pair a c) (q::r))
 |_,t,y,k=>OZ t y k i off b
@[go_sem] def a6T (k n m:Nat) (e:TypeId) (t:Ty) (l:List t.den) (i:Int):Option t.den→Option Eff
 |some z=>some ⟨[n=m],(.any,none),[(k,.row e t (l.set i.toNat z) m)],[k]⟩
 |none=>none
@[go_sem] def P2 (u:Ty) (y:u.den) (k n c:Nat) (i:Int) (o:Nat):Option Blk→Option Eff
 |some (.row e t l m)=>if c=t.cells then a6T k n m e t l i (qQ u y t (pG t l i) o) else none
 |_=>none
@[go_sem] def UJ (i off k n:Nat):TI→Option Blk→Option Eff
 |⟨.list u,e,_,_,_⟩,some (.cells v x toks)=>OY v i (sU toks off 1) (qQ (.rl e u) (some (k,n)) v x off)
 |_,_=>none
@[go_sem] def P3 (base:Nat) (H:List (Nat×Blk)):Option TI→Slot→Slot→Option Eff
 |some ti,(.val .ref (some (i,off)),_),(.own k n,_)=>UJ i off k n ti (getH H i)
 |some ti,(.elt k n c i o,_),(.val t y,_)=>if t=ti.ty then P2 t y k n c i o (getH H k) else none
 |some ti,(.val .ref (some (i,off)),_),(.val t y,k)=>if t=ti.ty then P1 base i off (getH H i) ti.ls t y k else none
 |_,_,_=>none
@[go_sem] def UK:Slot→Option Eff
 |(.val .ref (some p),_)=>some ⟨[],(.val .ref (some p),none),[],[]⟩
 |(.at t x,_)=>some ⟨[],(.at t x,none),[],[]⟩
 |(.elt k n c i o,_)=>some ⟨[],(.elt k n c i o,none),[],[]⟩
 |_=>none
@[go_sem] def a6U (f:FuncId):Option (List (Nat×Nat))→Option Eff
 |some l=>some ⟨[],(.val .clo (some (f,l)),none),[],[]⟩
 |none=>none
@[go_sem] def aFo (f:FuncId) (l:Option (List (Nat×Nat))):List Operand→Option Eff
 |[]=>a6U f l
 |_=>none
@[go_sem] def P4 (side:List Prop):Option (Σ t:Ty,t.den)→Option Eff
 |some ⟨t,x⟩=>if 0<t.cells then some ⟨side,(.at t x,none),[],[]⟩ else none
 |none=>none
@[go_sem] def P5 (side:List Prop) (i off:Nat):Option Nat→Option Ty→Option Eff
 |some o,some u=>if 0<u.cells then some ⟨side,(.val .ref (some (i,off+o)),none),[],[]⟩ else none
 |_,_=>none
@[go_sem] def a6V (k n c:Nat) (i:Int) (o:Nat):Option Nat→Option Ty→Option Eff
 |some q,some u=>if 0<u.cells then some ⟨[],(.elt k n c i (o+q),none),[],[]⟩ else none
 |_,_=>none
@[go_sem] def UL (f:Nat):Option TI→Slot→Option Eff
 |some ⟨t,_,_,false,_⟩,(.elt k n c i o,_)=>a6V k n c i o (t.offs f) (t.fld f)
 |some ⟨t,_,_,false,_⟩,(.at u y,_)=>if u=t then P4 [] (u.proj y f) else none
 |some ⟨t,_,_,false,_⟩,(.val .ref (some (i,off)),_)=>P5 [] i off (t.offs f) (t.fld f)
 |_,_=>none
@[go_sem] def aFp:Option (Σ t:Ty,t.den)→Option Eff
 |some ⟨t,x⟩=>some ⟨[],(.val t x,none),[],[]⟩
 |none=>none
@[go_sem] def UM (f:Nat):Option TI→Slot→Option Eff
 |some ⟨t,_,_,false,_⟩,(.val u y,_)=>if u=t then aFp (u.proj y f) else none
 |_,_=>none
@[go_sem] def UN:Option TI→Slot→Slot→Option Eff
 |some ⟨.list t',_,_,_,_⟩,(.own k n,_),(.val (.int _) i,_)=>if 0<t'.cells then some ⟨[0≤i∧i<(n:Int)],(.elt k n t'.cells i 0,none),[],[]⟩ else none
 |some ⟨.list t',_,_,_,_⟩,(.val (.list t) l,_),(.val (.int _) i,_)=>if t=t' then some ⟨[0≤i∧i<(List.length l:Int)],(.at t (pG t l i),none),[],[]⟩ else none
 |some ⟨.pair a b,_,_,true,_⟩,(.val .ref (some (i,off)),_),(.val (.int _) n,_)=>P5 [(0:Int)≤n] i off ((Ty.pair a b).offs (Int.toNat n)) ((Ty.pair a b).fld (Int.toNat n))
 |some ⟨.pair a b,_,_,true,_⟩,(.at u x,_),(.val (.int _) n,_)=>if u= .pair a b then P4 [(0:Int)≤n] (u.proj x (Int.toNat n)) else none
 |_,_,_=>none
@[go_sem] def UO:Option TI→Slot→Slot→Option Eff
 |some ⟨.str,_,_,_,_⟩,(.val .str l,_),(.val (.int _) i,_)=>some ⟨[0≤i∧i<(List.length l:Int)],(.val (.int .u8) (pD l i),none),[],[]⟩
 |_,_,_=>none
@[go_sem] def P6:List ((Σ t:Ty,t.den)×Option Nat)→Nat→Option Eff
 |[],_=>none
 |(⟨t,x⟩,k)::_,0=>some ⟨[],(.val t x,k),[],[]⟩
 |_::r,n+1=>P6 r n
@[go_sem] def a6W (b:Bool) (p c:Int):Nat→Option Eff
 |0=>some ⟨[],(.val .bool b,none),[],[]⟩
 |1=>some ⟨[b=true],(.val (.int .i64) p,none),[],[]⟩
 |2=>some ⟨[b=true],(.val (.int .i32) c,none),[],[]⟩
 |_=>none
@[go_sem] def UP (i:Nat):Slot→Option Eff
 |(.tup l,_)=>P6 l i
 |(.nxt b p c,_)=>a6W b p c i
 |_=>none
@[go_sem] def P7 (i:Nat):Option Blk→Option Eff
 |some (.map _ _ l)=>some ⟨[],(.val (.int .i64) (List.length l:Int),none),[],[i]⟩
 |_=>none
@[go_sem] def UQ (H:List (Nat×Blk)):Option TI→List Slot→Option Eff
 |some ⟨.mp,_,_,_,_⟩,[(.val .mp (some i),_)]=>P7 i (getH H i)
 |some ⟨.str,_,_,_,_⟩,[(.val .str l,_)]=>some ⟨[],(.val (.int .i64) (List.length l:Int),none),[],[]⟩
 |some ⟨.list _,_,_,_,_⟩,[(.val (.list _) l,_)]=>some ⟨[],(.val (.int .i64) (List.length l:Int),none),[],[]⟩
 |some ⟨.list _,_,_,_,_⟩,[(.own _ n,_)]=>some ⟨[],(.val (.int .i64) (n:Int),none),[],[]⟩
 |_,_=>none
@[go_sem] def P8 (a:Ty) (l r:List a.den) (k e' by':Nat):Option Blk→Option Eff
 |some (.grow e c n)=>if e=e'∧c=a.cells∧0<c∧0<by' then some ⟨[List.length l=n,(List.length l+List.length r)*by'≤140737488355328],(.val (.list a) (l++r),some k),[(k,.grow e c (List.length (l++r)))],[k]⟩ else none
 |_=>none
@[go_sem] def P9 (b:Ty) (r:List b.den) (k n e' by':Nat):Option Blk→Option Eff
 |some (.row e t l m)=>if h:b=t then(if e=e'∧0<t.cells∧0<by' then some ⟨[n=m,(n+List.length r)*by'≤140737488355328],(.own k (List.length (l++rU (t:= .list b) (u:= .list t) (by rw[h]) r)),none),[(k,.row e t (l++rU (t:= .list b) (u:= .list t) (by rw[h]) r) (List.length (l++rU (t:= .list b) (u:= .list t) (by rw[h]) r)))],[k]⟩ else none) else none
 |_=>none
@[go_sem] def PA (H:List (Nat×Blk)):Option TI→List Slot→Option Eff
 |some ⟨.list u,e,by',_,_⟩,[(.own k n,_),(.val (.list b) r,_)]=>if b=u then P9 b r k n e by' (getH H k) else none
 |some ⟨.list u,e,by',_,_⟩,[(.val (.list a) l,some k),(.val (.list b) r,_)]=>if h:b=a∧a=u then P8 a l (rU (t:= .list b) (u:= .list a) (by rw[h.1]) r) k e by' (getH H k) else none
 |_,_=>none
@[go_sem] def PB (mx:Bool):List Slot→Option (List Prop×DV)
 |[(.val (.int k) a,_),(.val (.int k') b,_)]=>if k=k' then some ([],.val (.int k) (if mx then max (a:Int) b else min (a:Int) b)) else none
 |_=>none
@[go_sem] def UR:List (Nat×Nat)→List Slot
 |[]=>[]
 |c::r=>(.val .ref (some c),none)::UR r
@[go_sem] def PC (H:List (Nat×Blk)) (base:Nat) (args:List Slot) (g:Sig):Option ((t:Ty)→List t.den→Option (List t.den))→Option Eff
 |some F=>OS H F args
 |none=>a6K H base args g (KR g.ps args)
@[go_sem] def FY (H:List (Nat×Blk)) (base:Nat) (args:List Slot):Option Sig→Option Eff
 |some g=>PC H base args g g.row
 |none=>none
@[go_sem] def I2 (Γ:Ctx) (H:List (Nat×Blk)) (base:Nat) (args:List Slot):Slot→Option Eff
 |(.val .clo (some (f,caps)),_)=>FY H base (args++UR caps) (Γ f)
 |(.val .fn (some f),_)=>FY H base args (Γ f)
 |_=>none
@[go_sem] def CD (T:Types) (ρ:Operand→Slot):List Operand→List TypeId→List Slot
 |x::xs,t::ts=>KL (q6 T t) (ρ x)::CD T ρ xs ts
 |_,_=>[]
@[go_sem] def sV (ρ:Operand→Slot):List Operand→List Slot
 |[]=>[]
 |x::xs=>ρ x::sV ρ xs
@[go_sem] def rY (ρ:Operand→Slot):List (Nat×Operand)→List (Nat×Slot)
 |[]=>[]
 |(i,x)::xs=>(i,ρ x)::rY ρ xs
@[go_sem] def wA (ρ:Operand→Slot):Option Operand→Option Slot
 |some x=>some (ρ x)
 |none=>none
@[go_sem] def PD (T:Types) (H:List (Nat×Blk)) (ss:List Slot):List TypeId→Option Eff
 |t::_=>UQ H (q6 T t) ss
 |[]=>none
@[go_sem] def PE (l:List Int) (s:List UInt8) (k e':Nat):Option Blk→Option Eff
 |some (.grow e c n)=>if e=e'∧c=1 then some ⟨[List.length l=n,List.length l+List.length s≤140737488355328],(.val (.list (.int .u8)) (l++qJ s),some k),[(k,.grow e c (List.length (l++qJ s)))],[k]⟩ else none
 |_=>none
@[go_sem] def US (H:List (Nat×Blk)):Option TI→Option TI→List Slot→Option Eff
 |some ⟨.list (.int .u8),e,1,_,_⟩,some ⟨.str,_,_,_,_⟩,[(.val (.list (.int .u8)) l,some k),(.val .str s,_)]=>PE l s k e (getH H k)
 |_,_,_=>none
@[go_sem] def PF (T:Types) (H:List (Nat×Blk)) (ss:List Slot):List TypeId→Option Eff
 |[t,u]=>if t=u then PA H (q6 T t) ss else US H (q6 T t) (q6 T u) ss
 |_=>none
@[go_sem] def FZ:List Operand→List TypeId→Bool
 |[],[]=>true
 |_::xs,_::ts=>FZ xs ts
 |_,_=>false
@[go_sem] def UT (T:Types) (Γ:Ctx) (ρ:Operand→Slot) (base:Nat) (H:List (Nat×Blk)) (args:List Operand) (tys:List TypeId) (f:Slot):Bool→Option Eff
 |true=>I2 Γ H base (CD T ρ args tys) f
 |false=>none
@[go_sem] def G0 (T:Types) (Γ:Ctx) (ρ:Operand→Slot) (base:Nat) (H:List (Nat×Blk)) (args:Array Operand) (tys:Array TypeId):Callee→Option Eff
 | .builtin .len=>PD T H (sV ρ args.toList) tys.toList
 | .builtin .append=>PF T H (sV ρ args.toList) tys.toList
 | .builtin .max=>xV (PB true (sV ρ args.toList))
 | .builtin .min=>xV (PB false (sV ρ args.toList))
 | .value f=>UT T Γ ρ base H args.toList tys.toList (ρ f) (FZ args.toList tys.toList)
 |_=>none
@[go_sem] def B2:Ty→Bool
 | .int _| .str| .bool=>true
 |_=>false
def CE:(k:Ty)→k.den→k.den→Bool
 | .int _,a,b=>decide ((a:Int)=b)
 | .str,a,b=>decide ((a:List UInt8)=b)
 | .bool,a,b=>a==b
 |_,_,_=>false
def qK (k v:Ty):List (k.den×v.den)→k.den→v.den
 |[],_=>v.zero
 |(x,y)::r,a=>if CE k a x=true then y else qK k v r a
def v6 (k v:Ty):List (k.den×v.den)→k.den→Bool
 |[],_=>false
 |(x,_)::r,a=>if CE k a x=true then true else v6 k v r a
def r8 (k v:Ty) (a:k.den) (b:v.den):List (k.den×v.den)→List (k.den×v.den)
 |[]=>[(a,b)]
 |(x,y)::r=>if CE k a x=true then(a,b)::r else(x,y)::r8 k v a b r
@[go_sem] def a6X (base:Nat):Option TI→Option TI→Option Eff
 |some k,some v=>if B2 k.ty=true then some ⟨[],(.val .mp (some base),none),[(base,.map k.ty v.ty [])],[]⟩ else none
 |_,_=>none
@[go_sem] def UU (T:Types) (base:Nat):Option TI→Option Operand→Option Eff
 |some ⟨.mp,e,f,_,_⟩,none=>a6X base (q6 T e) (q6 T f)
 |_,_=>none
@[go_sem] def PG (k:Ty) (a:k.den) (u:Ty) (i:Nat) (ok:Bool):Option Blk→Option Eff
 |some (.map k' v l)=>if h:k=k'∧v=u then(if B2 k=true then(match ok with
   |true=>some ⟨[],(.tup [(⟨v,qK k' v l (rU h.1 a)⟩,none),(⟨.bool,v6 k' v l (rU h.1 a)⟩,none)],none),[],[i]⟩
   |false=>some ⟨[],(.val v (qK k' v l (rU h.1 a)),none),[],[i]⟩) else none) else none
 |_=>none
@[go_sem] def UV (H:List (Nat×Blk)) (ok:Bool) (i:Nat):Option TI→Option TI→Slot→Option Eff
 |some kt,some vt,(.val k a,_)=>if k=kt.ty then PG k a vt.ty i ok (getH H i) else none
 |_,_,_=>none
@[go_sem] def PH (T:Types) (H:List (Nat×Blk)) (ok:Bool):Option TI→Slot→Slot→Option Eff
 |some ⟨.mp,e,f,_,_⟩,(.val .mp (some i),_),s=>UV H ok i (q6 T e) (q6 T f) s
 |_,_,_=>none
@[go_sem] def I3 (k:Ty) (a:k.den) (u:Ty) (b:u.den) (i:Nat):Option Blk→Option Eff
 |some (.map k' v l)=>if h:k=k'∧u=v then(if B2 k=true then some ⟨[],(.any,none),[(i,.map k' v (r8 k' v (rU h.1 a) (rU h.2 b) l))],[i]⟩ else none) else none
 |_=>none
@[go_sem] def PI (H:List (Nat×Blk)) (i:Nat):Option TI→Slot→Slot→Option Eff
 |some kt,(.val k a,_),(.val u b,_)=>if k=kt.ty then I3 k a u b i (getH H i) else none
 |_,_,_=>none
@[go_sem] def a6Y:Option TI→Slot→Slot
 |some ⟨.fn,_,_,_,_⟩,(.val .clo (some (f,[])),_)=>(.val .fn (some f),none)
 |_,s=>s
@[go_sem] def PJ (T:Types):Option TI→Slot→Slot
 |some ⟨.mp,_,f,_,_⟩,s=>a6Y (q6 T f) s
 |_,s=>s
@[go_sem] def I4 (T:Types) (H:List (Nat×Blk)):Option TI→Slot→Slot→Slot→Option Eff
 |some ⟨.mp,e,_,_,_⟩,(.val .mp (some i),_),s,x=>PI H i (q6 T e) s x
 |_,_,_,_=>none
def sH (s:List UInt8) (p:Nat):Int:=((Utf8.decode ⟨s.toArray⟩ p).1:Int)
def UW (s:List UInt8) (p:Nat):Nat:=(Utf8.decode ⟨s.toArray⟩ p).2
def wP (s:List UInt8) (p:Nat):Nat:=if p<s.length then p+UW s p else p
@[go_sem] def UX (base:Nat):Option TI→Slot→Option Eff
 |some ⟨.str,_,_,_,_⟩,(.val .str s,_)=>some ⟨[],(.val .ref (some (base,0)),none),[(base,.iter s 0)],[]⟩
 |_,_=>none
@[go_sem] def UY (i:Nat):Option Blk→Option Eff
 |some (.iter s p)=>some ⟨[],(.nxt (decide (p<List.length s)) ((p:Nat):Int) (sH s p),none),[(i,.iter s (wP s p))],[i]⟩
 |_=>none
@[go_sem] def PL (H:List (Nat×Blk)):Bool→Slot→Option Eff
 |true,(.val .ref (some (i,0)),_)=>UY i (getH H i)
 |_,_=>none
@[go_sem] def rV (T:Types) (Γ:Ctx) (ty:TypeId) (ρ:Operand→Slot) (base:Nat) (H:List (Nat×Blk)):Op→Option Eff
 | .move x| .assign x=>U9 base (q6 T ty) (ρ x)
 | .alloc e=>UD base e (q6 T e)
 | .box e x=>UE base e (q6 T e) (KL (q6 T e) (ρ x))
 | .build t ps=>UG (rY ρ ps.toList) (q6 T t)
 | .buildSlice t n ps=>UH base n (rY ρ ps.toList) (q6 T t)
 | .load t a=>OX H (q6 T t) (ρ a)
 | .store t a x=>P3 base H (q6 T t) (ρ a) (KL (q6 T t) (ρ x))
 | .nilCheck x=>UK (ρ x)
 | .binOp op t x y _=>xV (a6z (OF op (ρ x) (ρ y)) (U0 (q6 T t) op (ρ x) (ρ y)))
 | .unOp op _ x=>xV (U1 op (ρ x))
 | .convert src dst x=>xV (a6z (OH (q6 T src) (q6 T dst) (ρ x)) (U2 T (q6 T src) (q6 T dst) (ρ x)))
 | .makeFunc (.func f) first caps=>aFo f (FO (sV ρ caps.toList)) first.toList
 | .slice t x lo hi none=>xV (U3 (q6 T t) (ρ x) (wA ρ lo) (wA ρ hi))
 | .fieldAddr t x f=>UL f (q6 T t) (ρ x)
 | .field t x f=>UM f (q6 T t) (ρ x)
 | .indexAddr t x ix=>UN (q6 T t) (ρ x) (ρ ix)
 | .index t x ix=>UO (q6 T t) (ρ x) (ρ ix)
 | .extract x i=>UP i (ρ x)
 | .makeMap t r=>UU T base (q6 T t) r
 | .range t x=>UX base (q6 T t) (ρ x)
 | .next x b=>PL H b (ρ x)
 | .lookup t x i ok=>PH T H ok (q6 T t) (ρ x) (ρ i)
 | .mapUpdate t m k x=>I4 T H (q6 T t) (ρ m) (ρ k) (PJ T (q6 T t) (ρ x))
 | .insert t m k x=>I4 T H (q6 T t) (ρ m) (ρ k) (PJ T (q6 T t) (ρ x))
 | .call c=>G0 T Γ ρ base H c.args c.argTypes c.callee
 |_=>none
@[go_sem] def uP:Slot→Slot
 |(.cond _ d,_)=>(d,none)
 |s=>s
@[go_sem] def vP (G:Bool):List Slot→List Prop
 |[]=>[]
 |(.cond p _,_)::r=>(G=true→p=true)::vP G r
 |_::r=>vP G r
@[go_sem] def a6Z (b:Bool):Slot→Option Bool
 |(.val .bool c,_)=>some (c==b)
 |(.cond p (.val .bool c),_)=>some (p&&(c==b))
 |_=>none
@[go_sem] def A0:List Oper→Nat→Option Tmp
 |[],_=>none
 |o::_,0=>o.dst
 |_::r,n+1=>A0 r n
@[go_sem] def CF (env:List (Nat×Slot)) (b:Bool):Option Tmp→Option Bool
 |some t=>a6Z b (lk env t)
 |none=>none
@[go_sem] theorem aMK (x y:Bool):cond x y false=(x&&y):=by cases x<;>rfl
@[go_sem] theorem aML (x y:Bool):cond x true y=(x||y):=by cases x<;>rfl
@[go_sem] def a60 (x:Bool):Slot→Slot→Option Eff
 |(.val .bool y,_),(.val .bool z,_)=>some ⟨[],(.val .bool (cond x y z),none),[],[]⟩
 |(.cond p (.val .bool y),_),(.val .bool z,_)=>some ⟨[x=true→p=true],(.val .bool (cond x y z),none),[],[]⟩
 |(.val .bool y,_),(.cond p (.val .bool z),_)=>some ⟨[x=false→p=true],(.val .bool (cond x y z),none),[],[]⟩
 |(.cond q (.val .bool y),_),(.cond p (.val .bool z),_)=>some ⟨[x=true→q=true,x=false→p=true],(.val .bool (cond x y z),none),[],[]⟩
 |_,_=>none
@[go_sem] def KX:Slot→Slot→Slot→Option Eff
 |(.val .bool x,_),a,b=>a60 x a b
 |_,_,_=>none
@[go_sem] def qM:Op→List Operand
 | .move x| .assign x| .box _ x| .load _ x| .nilCheck x| .unOp _ _ x| .convert _ _ x| .fieldAddr _ x _| .field _ x _| .extract x _=>[x]
 | .build _ ps| .buildSlice _ _ ps=>parts ps.toList
 | .store _ a v| .binOp _ _ a v _| .indexAddr _ a v| .index _ a v=>[a,v]
 | .lookup _ a v _=>[a,v]
 | .range _ x| .next x _=>[x]
 | .mapUpdate _ m k x=>[m,k,x]
 | .insert _ m k x=>[m,k,x]
 | .makeFunc _ _ caps=>caps.toList
 | .slice _ x l h _=>x::app (opt l) (opt h)
 | .call ⟨.value f,args,_⟩=>f::args.toList
 | .call ⟨_,args,_⟩=>args.toList
 |_=>[]
where
 parts:List (Nat×Operand)→List Operand
  |[]=>[]
  |(_,x)::r=>x::parts r
 opt:Option Operand→List Operand
  |some x=>[x]
  |none=>[]
attribute [go_sem] qM.parts qM.opt
@[go_sem] def I5 (l:List Prop):Option Eff→Option Eff
 |some e=>some ⟨app l e.side,e.slot,e.upd,e.rds⟩
 |none=>none
@[go_sem] def KY (G:Bool):List Prop→List Prop
 |[]=>[]
 |p::r=>(G=true→p)::KY G r
@[go_sem] def DW (G:Bool) (l:List Prop):Option Eff→Option Eff
 |some ⟨side,(d,_),[],rds⟩=>some ⟨app l (KY G side),(.cond G d,none),[],rds⟩
 |some ⟨side,s,u::us,rds⟩=>some ⟨(G=true)::app l (KY G side),s,u::us,rds⟩
 |none=>none
@[go_sem] def yO (env:List (Nat×Slot)):List Operand→List Slot
 |[]=>[]
 |x::r=>rQ env x::yO env r
@[go_sem] def I6 (T:Types) (Γ:Ctx) (o:Oper) (s:St):Option Bool→Op→Option Eff
 |some G,.pick c a b=>DW G (vP G [rQ s.env c]) (KX (uP (rQ s.env c)) (rQ s.env a) (rQ s.env b))
 |some G,op=>DW G (vP G (yO s.env (qM op))) (rV T Γ o.type (fun x=>uP (rQ s.env x)) s.nb s.H op)
 |none,_=>none
@[go_sem] def I7 (T:Types) (Γ:Ctx) (o:Oper) (s:St):Op→Option Eff
 | .pick c a b=>KX (rQ s.env c) (rQ s.env a) (rQ s.env b)
 |op=>I5 (vP true (yO s.env (qM op))) (rV T Γ o.type (fun x=>uP (rQ s.env x)) s.nb s.H op)
@[go_sem] def evOp (T:Types) (Γ:Ctx) (ops:List Oper) (o:Oper) (s:St):Option Eff:=
 match o.guard with
 |none=>I7 T Γ o s o.op
 |some (j,b)=>I6 T Γ o s (CF s.env b (A0 ops j)) o.op
@[go_sem] def rH:Option Tmp→Slot→List (Nat×Slot)→List (Nat×Slot)
 |some d,s,env=>(d,s)::env
 |none,_,env=>env
structure Acc where
 s:St
 side:List Prop
 es:List Eff
@[go_sem] def dstOk (N:Nat):Option Tmp→Bool
 |some d=>decide (d<N)
 |none=>true
@[go_sem] def idsLt (n:Nat):List (Nat×Blk)→Bool
 |[]=>true
 |(i,_)::r=>decide (i<n)&&idsLt n r
@[go_sem] def A1 (i:Nat):List Nat→Bool
 |[]=>false
 |j::r=>if j=i then zE i r else A1 i r
@[go_sem] def G1 (H U:List (Nat×Blk)) (rds:List Nat):List (Nat×Blk)→List Prop
 |[]=>[]
 |(i,_)::r=>if A1 i rds=true then(getH U i=getH H i)::G1 H U rds r else G1 H U rds r
@[go_sem] def I8 (rds:List Nat):List (Nat×Blk)→List (Nat×Blk)
 |[]=>[]
 |(i,b)::r=>if A1 i rds=true then I8 rds r else(i,b)::I8 rds r
@[go_sem] def wrOf (e:Eff):List (Nat×Blk):=I8 e.rds e.upd
@[go_sem] def UZ (o:Oper) (a:Acc):Option Eff→Option Acc
 |some e=>if (dstOk a.s.N o.dst&&idsLt (a.s.nb+32) e.upd)=true then some ⟨⟨rH o.dst e.slot a.s.env,app e.upd a.s.H,a.s.nb+32,a.s.N,a.s.np⟩,app a.side (app (G1 a.s.H e.upd e.rds e.upd) e.side),e::a.es⟩ else none
 |none=>none
@[go_sem] def tH (T:Types) (Γ:Ctx) (ops:List Oper):List Oper→Option Acc→Option Acc
 |[],a=>a
 |o::r,some a=>tH T Γ ops r (UZ o a (evOp T Γ ops o a.s))
 |_::_,none=>none
@[go_sem] def KZ:List (Nat×Blk)→List Nat→Bool
 |[],_=>false
 |(i,_)::r,l=>l.contains i||KZ r l
@[go_sem] def CG (a b:Eff):Bool:= !KZ (wrOf a) (app b.rds (idsOf b.upd))&& !KZ (wrOf b) a.rds
def G2 (lo:Nat):List (Nat×Blk)→Bool
 |[]=>true
 |(i,_)::r=>(decide (i<lo)||decide (lo+32≤i))&&G2 lo r
def PM (ops:Array Oper) (bs:List Nat) (nb i:Nat) (o:Oper) (e:Eff):List Oper→List Eff→Nat→Bool
 |p::ps,f::fs,j=>((bs.getD j 0).testBit i||(o.apart ops p&&CG e f&&G2 (nb+32*i) f.upd))&&PM ops bs nb i o e ps fs (j+1)
 |_,_,_=>true
def PN (ops:Array Oper) (bs:List Nat) (nb:Nat):List Oper→List Eff→Nat→Bool
 |o::os,e::es,i=>PM ops bs nb i o e os es (i+1)&&PN ops bs nb os es (i+1)
 |_,_,_=>true
def PO:List Oper→Nat→Bool
 |[],_=>true
 |o::r,i=>o.after.toList.all (fun e=> !Region.binds .any e||decide (e.on<i))&&PO r (i+1)
def B3 (ops:Array Oper) (nb:Nat) (es:List Eff):Bool:=PO ops.toList 0&&PN ops (Region.before ops).toList nb ops.toList es 0
@[go_sem] def a61 (ops:Array Oper) (nb:Nat):Option Acc→Option Acc
 |some a=>if B3 ops nb a.es.reverse then some a else none
 |none=>none
@[go_sem] def L1 (T:Types) (Γ:Ctx) (ops:Array Oper) (s:St):Bool→Option Acc
 |true=>a61 ops s.nb (tH T Γ ops.toList ops.toList (some ⟨s,[],[]⟩))
 |false=>tH T Γ ops.toList ops.toList (some ⟨s,[],[]⟩)
inductive Ex where
 |normal|exit (id:Nat) |ret
structure Keep where
 slots:List Nat
 ids:List (Nat×Nat):=[]
@[go_sem] def tU:List (Nat×Nat)→Nat→Option Nat
 |[],_=>none
 |(n,o)::r,k=>if o=k then some n else tU r k
@[go_sem] def a62 (m:List (Nat×Nat)):Option (Nat×Nat)→Option (Nat×Nat)
 |some (i,o)=>(tU m i).map fun j=>(j,o)
 |none=>none
@[go_sem] def yP (m:List (Nat×Nat)):List (Nat×Nat)→Option (List (Nat×Nat))
 |[]=>some []
 |(i,o)::r=>renCons (tU m i) o (yP m r)
where
 renCons:Option Nat→Nat→Option (List (Nat×Nat))→Option (List (Nat×Nat))
  |some j,o,some r=>some ((j,o)::r)
  |_,_,_=>none
attribute [go_sem] yP.renCons
@[go_sem] def a63 (m:List (Nat×Nat)):Option Nat→Option Nat
 |some k=>tU m k
 |none=>none
@[go_sem] def aFq (n:Nat):Option Nat→Slot
 |some k=>(.own k n,none)
 |none=>(.any,none)
@[go_sem] def a64 (m:List (Nat×Nat)):Option (Nat×List (Nat×Nat))→Option (Option (Nat×List (Nat×Nat)))
 |none=>some none
 |some (f,l)=>(yP m l).map fun l'=>some (f,l')
@[go_sem] def PP (m:List (Nat×Nat)):Option (Nat×Nat)→Option (Option (Nat×Nat))
 |none=>some none
 |some (i,o)=>(tU m i).map fun j=>some (j,o)
@[go_sem] def a65 (m:List (Nat×Nat)):Option Nat→Option (Option Nat)
 |none=>some none
 |some i=>(tU m i).map some
@[go_sem] def a66 (m:List (Nat×Nat)):Option (Nat×Nat)→Option (Option (Nat×Nat))
 |none=>some none
 |some (k,n)=>(tU m k).map fun j=>some (j,n)
@[go_sem] def wB (m:List (Nat×Nat)):(t:Ty)→t.den→Option t.den
 | .ref,x=>PP m x
 | .clo,x=>a64 m x
 | .mp,x=>a65 m x
 | .pair a b,x=>FR (if a.pure=true then some x.1 else wB m a x.1) (if b.pure=true then some x.2 else wB m b x.2)
 | .list t,x=>if t.pure=true then some x else none
 | .bool,x=>some x
 | .int _,x=>some x
 | .str,x=>some x
 | .unit,x=>some x
 | .rl _ _,x=>a66 m x
 | .fn,x=>some x
 | .mref,x=>PP m x
@[go_sem] def wQ (m:List (Nat×Nat)):Slot→Slot
 |(.own k n,_)=>aFq n (tU m k)
 |(.val .ref none,_)=>(.val .ref none,none)
 |(.val .ref (some p),_)=>refSlot (a62 m (some p))
 |(.val .clo (some (f,l)),_)=>cloSlot f (yP m l)
 |(.val .mp (some i),_)=>mpSlot (tU m i)
 |(.val t x,k)=>if t.pure then(.val t x,a63 m (C8 t k)) else valSlot t (wB m t x)
 |(.at t x,_)=>if t.pure then(.at t x,none) else(.any,none)
 |_=>(.any,none)
where
 refSlot:Option (Nat×Nat)→Slot
  |some p=>(.val .ref (some p),none)
  |none=>(.any,none)
 cloSlot (f:Nat):Option (List (Nat×Nat))→Slot
  |some l=>(.val .clo (some (f,l)),none)
  |none=>(.any,none)
 valSlot (t:Ty):Option t.den→Slot
  |some y=>(.val t y,none)
  |none=>(.any,none)
 mpSlot:Option Nat→Slot
  |some j=>(.val .mp (some j),none)
  |none=>(.any,none)
attribute [go_sem] wQ.refSlot wQ.cloSlot wQ.mpSlot wQ.valSlot
@[go_sem] def PQ (q j:Nat):List (Nat×Nat)→List (Nat×Nat)
 |[]=>[(q,j)]
 |(a,b)::r=>if q≤a then(q,j)::(a,b)::r else(a,b)::PQ q j r
@[go_sem] def G3 (m:List (Nat×Nat)):List (Nat×Nat)→List (Nat×Nat)
 |[]=>[]
 |(q,k)::r=>renTok1 q (tU m k) (G3 m r)
where
 renTok1 (q:Nat):Option Nat→List (Nat×Nat)→List (Nat×Nat)
  |some j,r=>PQ q j r
  |none,r=>r
attribute [go_sem] G3.renTok1
@[go_sem] def V0 (t:Ty) (toks:List (Nat×Nat)):Option t.den→Blk
 |some y=> .cells t y toks
 |none=> .dead
@[go_sem] def DX (m:List (Nat×Nat)):Option Blk→Blk
 |some (.cells t x toks)=>if t.pure then .cells t x (G3 m toks) else V0 t (G3 m toks) (wB m t x)
 |some (.grow e c n)=> .grow e c n
 |some (.row e t l n)=>if t.pure then .row e t l n else .dead
 |some (.map k v l)=>if k.pure&&v.pure then .map k v l else .dead
 |some (.iter s p)=> .iter s p
 |_=> .dead
@[go_sem] def L2 (m:List (Nat×Nat)) (env:List (Nat×Slot)):List Nat→List (Nat×Slot)
 |[]=>[]
 |t::r=>(t,wQ m (lk env t))::L2 m env r
@[go_sem] def PR (m:List (Nat×Nat)) (H:List (Nat×Blk)):List (Nat×Nat)→List (Nat×Blk)
 |[]=>[]
 |(n,o)::r=>(n,DX m (getH H o))::PR m H r
@[go_sem] def PS:List (Nat×Nat)→Nat
 |[]=>0
 |(n,_)::r=>max (n+1) (PS r)
@[go_sem] def I9 (n o:Nat):List (Nat×Nat)→Bool
 |[]=>false
 |(n',o')::r=>decide (n'=n)||decide (o'=o)||I9 n o r
@[go_sem] def uQ (np:Nat):List (Nat×Nat)→Bool
 |[]=>true
 |(n,o)::r=>(decide (np≤n)||decide (n=o))&& !I9 n o r&&uQ np r
@[go_sem] def L3 (s:St) (k:Keep):Bool→St
 |true=>⟨L2 k.ids s.env k.slots,PR k.ids s.H k.ids,max s.np (PS k.ids),s.N,s.np⟩
 |false=>⟨[],[],s.nb,s.N,s.np⟩
@[go_sem] def St.keep (s:St) (k:Keep):St:=L3 s k (uQ s.np k.ids)
@[go_sem] def pN:List Prop→Prop
 |[]=>True
 |[p]=>p
 |p::q::r=>p∧pN (q::r)
@[go_sem] def a67 (Q:Ex→St→Prop):Option Acc→Prop
 |some a=>pN a.side∧Q .normal a.s
 |none=>False
@[go_sem] def a68 (A B:Prop):Slot→Prop
 |(.val .bool x,_)=>(x=true→A)∧(x=false→B)
 |(.flag p q,_)=>(p→A)∧(q→B)
 |_=>False
@[go_sem] def L4 (f:St→Prop) (Q:Ex→St→Prop):Ex→St→Prop
 | .normal,s=>f s
 | .exit j,s=>Q (.exit j) s
 | .ret,s=>Q .ret s
@[go_sem] def G4 (id:Nat) (Q:Ex→St→Prop):Ex→St→Prop
 | .normal,s=>Q .normal s
 | .exit j,s=>if j=id then Q .normal s else Q (.exit j) s
 | .ret,s=>Q .ret s
@[go_sem] def aFr (I:St→Prop) (μ:St→Nat) (m:Nat) (Q:Ex→St→Prop):Ex→St→Prop
 | .normal,s=> ∃k:Keep,I (s.keep k)∧μ (s.keep k)<m
 | .exit j,s=>Q (.exit j) s
 | .ret,s=>Q .ret s
def tI (T:Types) (Γ:Ctx):Code→St→(Ex→St→Prop)→Prop
 | .skip,s,Q=>Q .normal s
 | .label _,s,Q=>Q .normal s
 | .region _ ops draw,s,Q=>a67 Q (L1 T Γ ops s draw)
 | .seq a b,s,Q=>tI T Γ a s (L4 (fun s'=>tI T Γ b s' Q) Q)
 | .cond c a b,s,Q=>a68 (tI T Γ a s Q) (tI T Γ b s Q) (rQ s.env c)
 | .block id c,s,Q=>tI T Γ c s (G4 id Q)
 | .loop c,s,Q=> ∃(k:Keep) (I:St→Prop) (μ:St→Nat),I (s.keep k)∧∀s,I s→tI T Γ c s (aFr I μ (μ s) Q)
 | .exit id,s,Q=>Q (.exit id) s
 | .ret,s,Q=>Q .ret s
 |_,_,_=>False
attribute [go_sem] Ty.list.injEq Ty.pair.injEq Ty.int.injEq
section
variable {T:Types}{Γ:Ctx}{s:St}{Q:Ex→St→Prop}
theorem aFs {id:Nat}{ops:Array Oper}{a:Acc}(h:tH T Γ ops.toList ops.toList (some ⟨s,[],[]⟩)=some a) (hp:pN a.side) (hq:Q .normal a.s):tI T Γ (.region id ops false) s Q:=by
 unfold tI L1
 rw[h]
 exact⟨hp,hq⟩
theorem aFt {id:Nat}{ops:Array Oper}{a:Acc}(h:tH T Γ ops.toList ops.toList (some ⟨s,[],[]⟩)=some a) (hf:B3 ops s.nb a.es.reverse=true) (hp:pN a.side) (hq:Q .normal a.s):tI T Γ (.region id ops true) s Q:=by
 unfold tI L1
 rw[h]
 show a67 Q (if B3 ops s.nb a.es.reverse=true then some a else none)
 rw[if_pos hf]
 exact⟨hp,hq⟩
end
end Go.Proofs.YtbbpilohihldiaaGreatDoor.Vc
namespace Go.Proofs.YtbbpilohihldiaaGreatDoor.Vc
open Go.RowKit
abbrev Heap:=List (Nat×Blk)
structure Pl where
 b:Nat
 o:Nat
 k:Option (TypeId×Nat):=none
structure Gh where
 S:Nat→Nat→Prop
 J:Nat→Option Pl
 cur:Nat→Nat→Option Value
def vH {α:Type}(R:α→List Value→Prop) (w:World) (S:Nat→Nat→Prop) (c b:Nat):Nat→List α→Prop
 |_,[]=>True
 |o,x::xs=>(∃cs,cs.length=c∧w.rangeAt b o cs∧(∀j,j<c→S b (o+j))∧R x cs)∧vH R w S c b (o+c) xs
def v7 (g:Gh):List (Nat×Nat)→List Value→Prop
 |[],vs=>vs=[]
 |(i,o)::l,vs=> ∃p vs',g.J i=some p∧vs= .pointer (some ⟨p.1,p.2+o,none⟩)::vs'∧v7 g l vs'
def L5 (g:Gh):Option (Nat×Nat)→List Value→Prop
 |none,cs=>cs=[.pointer none]
 |some (i,o),cs=> ∃p,g.J i=some p∧cs=[.pointer (some ⟨p.1,p.2+o,none⟩)]
def L6 (g:Gh):Option (Nat×List (Nat×Nat))→List Value→Prop
 |none,cs=>cs=[.nilFunc]
 |some (f,l),cs=> ∃vs,v7 g l vs∧cs=[.func (.func f) #[] vs.toArray]
def IA (g:Gh):Option Nat→List Value→Prop
 |none,cs=>cs=[.map none]
 |some i,cs=> ∃p,g.J i=some p∧cs=[.map (some p.1)]
def V1 (k:Option (TypeId×Nat)) (o:Nat):Prop:=o=0∧∃e,UA e=true∧k=some (e,2)
def DY (g:Gh):Option (Nat×Nat)→List Value→Prop
 |none,cs=>cs=[.slice none 0 0]
 |some (k,n),cs=> ∃v,g.cur k n=some v∧cs=[v]∧((v= .slice none 0 0∧n=0)∨∃b cap,v= .slice (some ⟨b,0,none⟩) n cap∧n≤cap)
def L7 (g:Gh):Option (Nat×Nat)→List Value→Prop
 |none,cs=>cs=[.pointer none]
 |some (i,o),cs=> ∃p,g.J i=some p∧V1 p.3 (p.2+o)∧(cs=[.pointer none]∨cs=[.pointer (some ⟨p.1,p.2+o,none⟩)])
def a69:Option Nat→List Value→Prop
 |none,cs=>cs=[.nilFunc]
 |some f,cs=>cs=[.func (.func f) #[] #[]]
def Rd (g:Gh) (w:World):(t:Ty)→t.den→List Value→Prop
 | .bool,x,cs=>cs=[.bool x]
 | .int k,n,cs=>cs=[.int k n]
 | .str,l,cs=>cs=[.string ⟨List.toArray l⟩]
 | .list t,l,cs=> ∃a cap,cs=[.slice a (List.length l) cap]∧List.length l≤cap∧(l=[]∨∃b o,a=some ⟨b,o,none⟩∧vH (Rd g w t) w g.S t.cells b o l)
 | .unit,_,cs=>cs=[]
 | .pair s t,x,cs=> ∃c1 c2,cs=c1++c2∧Rd g w s x.1 c1∧Rd g w t x.2 c2
 | .ref,x,cs=>L5 g x cs
 | .clo,x,cs=>L6 g x cs
 | .mp,x,cs=>IA g x cs
 | .rl _ _,x,cs=>DY g x cs
 | .fn,x,cs=>a69 x cs
 | .mref,x,cs=>L7 g x cs
def r7 (g:Gh) (w:World) (t:Ty) (x:t.den) (v:Value):Prop:=
 (t.isRow=true∧∃cs:List Value,v= .agg cs.toArray∧Rd g w t x cs)∨(t.isRow=false∧Rd g w t x [v])
def uR:Ty→List Value→Prop
 | .list _,cs=>cs=[.slice none 0 0]
 | .pair a b,cs=> ∃c1 c2,cs=c1++c2∧c1.length=a.cells∧uR a c1∧uR b c2
 |_,_=>True
def zG (g:Gh) (t:Ty) (x:t.den) (v:Value):Option Nat→Prop
 |none=>True
 |some k=>match t,x with
  | .list _,l=>g.cur k (List.length l)=some v
  | .pair a b,_=>uR (.pair a b) v.cells.toList
  |_,_=>False
def IB (g:Gh) (w:World):List ((Σ t:Ty,t.den)×Option Nat)→List Value→Prop
 |[],vs=>vs=[]
 |(⟨t,x⟩,k)::l,vs=> ∃v vs',vs=v::vs'∧r7 g w t x v∧zG g t x v k∧IB g w l vs'
def wR (g:Gh) (w:World):DV→Value→Prop
 | .any,_=>True
 | .nilS,v=>v= .slice none 0 0
 | .val t x,v=>r7 g w t x v
 | .at t x,v=> ∃b o cs,v= .pointer (some ⟨b,o,none⟩)∧w.rangeAt b o cs∧(∀j,j<t.cells→g.S b (o+j))∧Rd g w t x cs
 | .tup l,v=> ∃vs:List Value,v= .tuple vs.toArray∧IB g w l vs
 | .cond p d,v=>(p=true→wR g w d v)∧(p=false→v=undef)
 | .flag p q,v=> ∃b,v= .bool b∧(b=true→p)∧(b=false→q)
 | .own k n,v=>g.cur k n=some v∧((v= .slice none 0 0∧n=0)∨∃b cap,v= .slice (some ⟨b,0,none⟩) n cap∧n≤cap)
 | .nxt b p c,v=>(b=true→v= .tuple #[.bool true,.int .i64 p,.int .i32 c])∧(b=false→v= .tuple #[.bool false])
 | .elt k n c i o,v=> ∃b cap,g.cur k n=some (.slice (some ⟨b,0,none⟩) n cap)∧0≤i∧i<(n:Int)∧v= .pointer (some ⟨b,i.toNat*c+o,none⟩)
def RdS (g:Gh) (w:World) (s:Slot) (v:Value):Prop:=
 wR g w s.1 v∧match s with
  |(_,none)=>True
  |(.val t x,some k)=>zG g t x v (some k)
  |(_,some _)=>False
structure Le (g:Gh) (w:World) (g':Gh) (w':World):Prop where
 S: ∀b o,g.S b o→g'.S b o
 cell: ∀b o,g.S b o→w'.cell? ⟨b,o,none⟩=w.cell? ⟨b,o,none⟩
 J: ∀i p,g.J i=some p→g'.J i=some p
 cur: ∀k n v,g.cur k n=some v→g'.cur k n=some v
theorem Le.refl (g:Gh) (w:World):Le g w g w:=⟨fun _ _ h=>h,fun _ _ _=>rfl,fun _ _ h=>h,fun _ _ _ h=>h⟩
theorem Le.trans {g g' g'':Gh}{w w' w'':World}(h:Le g w g' w') (k:Le g' w' g'' w''):Le g w g'' w'':=
 ⟨fun b o x=>k.S b o (h.S b o x),fun b o x=>(k.cell b o (h.S b o x)).trans (h.cell b o x),fun i p x=>k.J i p (h.J i p x),fun i n v x=>k.cur i n v (h.cur i n v x)⟩
theorem V2 {g g':Gh}(hJ: ∀i p,g.J i=some p→g'.J i=some p): ∀{l:List (Nat×Nat)}{vs:List Value},v7 g l vs→v7 g' l vs
 |[],_,h=>h
 |(_,_)::_,_,⟨p,vs',h1,h2,h3⟩=>⟨p,vs',hJ _ _ h1,h2,V2 hJ h3⟩
theorem aFu {g g':Gh}(hJ: ∀i p,g.J i=some p→g'.J i=some p): ∀{x:Option (Nat×Nat)}{cs:List Value},L5 g x cs→L5 g' x cs
 |none,_,h=>h
 |some (_,_),_,⟨p,h1,h2⟩=>⟨p,hJ _ _ h1,h2⟩
theorem aFv {g g':Gh}(hJ: ∀i p,g.J i=some p→g'.J i=some p): ∀{x:Option (Nat×List (Nat×Nat))}{cs:List Value},L6 g x cs→L6 g' x cs
 |none,_,h=>h
 |some (_,_),_,⟨vs,h1,h2⟩=>⟨vs,V2 hJ h1,h2⟩
theorem aFw {g g':Gh}(hJ: ∀i p,g.J i=some p→g'.J i=some p): ∀{x:Option Nat}{cs:List Value},IA g x cs→IA g' x cs
 |none,_,h=>h
 |some _,_,⟨p,h1,h2⟩=>⟨p,hJ _ _ h1,h2⟩
theorem aFx {g g':Gh}(hc: ∀k n v,g.cur k n=some v→g'.cur k n=some v): ∀{x:Option (Nat×Nat)}{cs:List Value},DY g x cs→DY g' x cs
 |none,_,h=>h
 |some (_,_),_,⟨v,h1,h2⟩=>⟨v,hc _ _ _ h1,h2⟩
theorem aFy {g g':Gh}(hJ: ∀i p,g.J i=some p→g'.J i=some p): ∀{x:Option (Nat×Nat)}{cs:List Value},L7 g x cs→L7 g' x cs
 |none,_,h=>h
 |some (_,_),_,⟨p,h1,h2⟩=>⟨p,hJ _ _ h1,h2⟩
theorem V3 {α:Type}{R R':α→List Value→Prop}{w w':World}{S S':Nat→Nat→Prop}{c b:Nat}(hR: ∀x cs,R x cs→R' x cs) (hS: ∀o,S b o→S' b o)
  (hc: ∀o,S b o→w'.cell? ⟨b,o,none⟩=w.cell? ⟨b,o,none⟩): ∀{l:List α}{o:Nat},vH R w S c b o l→vH R' w' S' c b o l
 |[],_,_=>trivial
 |_::_,o,⟨⟨cs,h1,h2,h3,h4⟩,h5⟩=>⟨⟨cs,h1,fun j v hv=>by
   have hj:j<c:=h1▸(List.getElem?_eq_some_iff.1 hv).1
   rw[hc _ (h3 j hj)];exact h2 j v hv,fun j hj=>hS _ (h3 j hj),hR _ _ h4⟩,V3 hR hS hc h5⟩
theorem uS {g g':Gh}{w w':World}(h:Le g w g' w'): ∀{t:Ty}{x:t.den}{cs:List Value},Rd g w t x cs→Rd g' w' t x cs
 | .bool,_,_,r=>r
 | .int _,_,_,r=>r
 | .str,_,_,r=>r
 | .unit,_,_,r=>r
 | .ref,_,_,r=>aFu h.J r
 | .clo,_,_,r=>aFv h.J r
 | .mp,_,_,r=>aFw h.J r
 | .rl _ _,_,_,r=>aFx h.cur r
 | .fn,_,_,r=>r
 | .mref,_,_,r=>aFy h.J r
 | .pair _ _,_,_,⟨c1,c2,e,r1,r2⟩=>⟨c1,c2,e,uS h r1,uS h r2⟩
 | .list _,_,_,⟨a,cap,e,hle,hl⟩=>⟨a,cap,e,hle,hl.imp id fun⟨b,o,ea,hr⟩=>⟨b,o,ea,V3 (fun _ _=>uS h) (fun _=>h.S _ _) (fun _=>h.cell _ _) hr⟩⟩
theorem qU {g:Gh}{w:World}: ∀{t:Ty}{x:t.den}{cs:List Value},Rd g w t x cs→cs.length=t.cells
 | .bool,_,_,r=>by cases r;rfl
 | .int _,_,_,r=>by cases r;rfl
 | .str,_,_,r=>by cases r;rfl
 | .unit,_,_,r=>by cases r;rfl
 | .ref,none,_,r=>by cases r;rfl
 | .ref,some (_,_),_,⟨_,_,e⟩=>by cases e;rfl
 | .clo,none,_,r=>by cases r;rfl
 | .clo,some (_,_),_,⟨_,_,e⟩=>by cases e;rfl
 | .mp,none,_,r=>by cases r;rfl
 | .mp,some _,_,⟨_,_,e⟩=>by cases e;rfl
 | .fn,none,_,r=>by cases r;rfl
 | .fn,some _,_,r=>by cases r;rfl
 | .rl _ _,none,_,r=>by cases r;rfl
 | .rl _ _,some (_,_),_,⟨_,_,e,_⟩=>by cases e;rfl
 | .mref,none,_,r=>by cases r;rfl
 | .mref,some (_,_),_,⟨_,_,_,e⟩=>by rcases e with e|e<;>(cases e;rfl)
 | .pair _ _,_,_,⟨c1,c2,e,r1,r2⟩=>by rw[e,List.length_append,qU r1,qU r2];rfl
 | .list _,_,_,⟨_,_,e,_,_⟩=>by cases e;rfl
theorem PT {g g':Gh}{w w':World}(h:Le g w g' w') {t:Ty}{x:t.den}{v:Value}(r:r7 g w t x v):r7 g' w' t x v:=
 r.imp (fun⟨a,cs,e,q⟩=>⟨a,cs,e,uS h q⟩) (fun⟨a,q⟩=>⟨a,uS h q⟩)
theorem a7a {g g':Gh}{w w':World}(h:Le g w g' w') {t:Ty}{x:t.den}{v:Value}{k:Option Nat}(r:zG g t x v k):zG g' t x v k:=by
 cases k with
 |none=>trivial
 |some k=>
  cases t with
  |list u=>exact h.cur _ _ _ r
  |pair a b=>exact r
  |_=>exact r.elim
theorem a7b {g g':Gh}{w w':World}(h:Le g w g' w'): ∀{l:List ((Σ t:Ty,t.den)×Option Nat)}{vs:List Value},IB g w l vs→IB g' w' l vs
 |[],_,r=>r
 |(⟨_,_⟩,_)::_,_,⟨v,vs',e,r1,r2,r3⟩=>⟨v,vs',e,PT h r1,a7a h r2,a7b h r3⟩
theorem a7c {g g':Gh}{w w':World}(h:Le g w g' w'): ∀{d:DV}{v:Value},wR g w d v→wR g' w' d v
 | .any,_,r=>r
 | .nilS,_,r=>r
 | .val _ _,_,r=>PT h r
 | .at t _,_,⟨b,o,cs,e,h1,h2,h3⟩=>⟨b,o,cs,e,fun j v hv=>by
   by_cases hj:j<t.cells
   ·rw[h.cell _ _ (h2 j hj)];exact h1 j v hv
   ·exact absurd (List.getElem?_eq_some_iff.1 hv).1 (by rw[qU h3];exact hj),fun j hj=>h.S _ _ (h2 j hj),uS h h3⟩
 | .tup _,_,⟨vs,e,r⟩=>⟨vs,e,a7b h r⟩
 | .cond _ _,_,⟨r1,r2⟩=>⟨fun p=>a7c h (r1 p),r2⟩
 | .flag _ _,_,r=>r
 | .own _ _,_,⟨h1,h2⟩=>⟨h.cur _ _ _ h1,h2⟩
 | .nxt _ _ _,_,r=>r
 | .elt _ _ _ _ _,_,⟨b,cap,h1,h2⟩=>⟨b,cap,h.cur _ _ _ h1,h2⟩
theorem y3 {g g':Gh}{w w':World}(h:Le g w g' w') {s:Slot}{v:Value}(r:RdS g w s v):RdS g' w' s v:=by
 obtain⟨d,k⟩:=s
 refine⟨a7c h r.1,?_⟩
 have r2:=r.2
 cases k with
 |none=>trivial
 |some k=>
  cases d with
  |val t x=>exact a7a h r2
  |_=>exact r2.elim
theorem y4 {g:Gh}{w:World}: ∀{t:Ty}{x:t.den}{cs:List Value},Rd g w t x cs→∀v∈cs,v.oneCell'=true
 | .bool,_,_,r=>by cases r;intro v hv;simp at hv;subst hv;rfl
 | .int _,_,_,r=>by cases r;intro v hv;simp at hv;subst hv;rfl
 | .str,_,_,r=>by cases r;intro v hv;simp at hv;subst hv;rfl
 | .unit,_,_,r=>by cases r;intro v hv;simp at hv
 | .ref,none,_,r=>by cases r;intro v hv;simp at hv;subst hv;rfl
 | .ref,some (_,_),_,⟨_,_,e⟩=>by cases e;intro v hv;simp at hv;subst hv;rfl
 | .clo,none,_,r=>by cases r;intro v hv;simp at hv;subst hv;rfl
 | .clo,some (_,_),_,⟨_,_,e⟩=>by cases e;intro v hv;simp at hv;subst hv;rfl
 | .mp,none,_,r=>by cases r;intro v hv;simp at hv;subst hv;rfl
 | .mp,some _,_,⟨_,_,e⟩=>by cases e;intro v hv;simp at hv;subst hv;rfl
 | .fn,none,_,r=>by cases r;intro v hv;simp at hv;subst hv;rfl
 | .fn,some _,_,r=>by cases r;intro v hv;simp at hv;subst hv;rfl
 | .rl _ _,none,_,r=>by cases r;intro v hv;simp at hv;subst hv;rfl
 | .rl _ _,some (_,_),_,⟨_,_,e,hs⟩=>by
  cases e;intro v hv;simp at hv;subst hv
  rcases hs with⟨rfl,_⟩ |⟨_,_,rfl,_⟩<;>rfl
 | .mref,none,_,r=>by cases r;intro v hv;simp at hv;subst hv;rfl
 | .mref,some (_,_),_,⟨_,_,_,e⟩=>by rcases e with e|e<;>(cases e;intro v hv;simp at hv;subst hv;rfl)
 | .pair _ _,_,_,⟨c1,c2,e,r1,r2⟩=>by
  subst e
  intro v hv
  rcases List.mem_append.1 hv with h|h
  ·exact y4 r1 v h
  ·exact y4 r2 v h
 | .list _,_,_,⟨_,_,e,_,_⟩=>by cases e;intro v hv;simp at hv;subst hv;rfl
theorem t7 {g g':Gh}{w:World}(hS:g'.S=g.S): ∀{t:Ty}{x:t.den}{cs:List Value},t.pure=true→Rd g w t x cs→Rd g' w t x cs
 | .bool,_,_,_,r=>r
 | .int _,_,_,_,r=>r
 | .str,_,_,_,r=>r
 | .unit,_,_,_,r=>r
 | .ref,_,_,h,_=>by simp [Ty.pure] at h
 | .clo,_,_,h,_=>by simp [Ty.pure] at h
 | .mp,_,_,h,_=>by simp [Ty.pure] at h
 | .rl _ _,_,_,h,_=>by simp [Ty.pure] at h
 | .fn,_,_,_,r=>r
 | .mref,_,_,h,_=>by simp [Ty.pure] at h
 | .pair _ _,_,_,h,⟨c1,c2,e,r1,r2⟩=>by
  simp only[Ty.pure,Bool.and_eq_true] at h
  exact⟨c1,c2,e,t7 hS h.1 r1,t7 hS h.2 r2⟩
 | .list _,_,_,h,⟨a,cap,e,hle,hl⟩=>by
  simp only[Ty.pure] at h
  exact⟨a,cap,e,hle,hl.imp id fun⟨b,o,ea,hr⟩=>⟨b,o,ea,V3 (fun _ _ r=>t7 hS h r) (fun _ q=>by rw[hS];exact q) (fun _ _=>rfl) hr⟩⟩
def A2 (g:Gh) (w:World) (k v:Ty):List (k.den×v.den)→List MapEntry→Prop
 |[],es=>es=[]
 |(a,b)::l,es=> ∃e es',es=e::es'∧r7 g w k a e.key∧r7 g w v b e.val∧A2 g w k v l es'
theorem V4 {g g':Gh}{w w':World}(h:Le g w g' w') {k v:Ty}: ∀{l:List (k.den×v.den)}{es:List MapEntry},A2 g w k v l es→A2 g' w' k v l es
 |[],_,r=>r
 |_::_,_,⟨e,es',h1,h2,h3,h4⟩=>⟨e,es',h1,PT h h2,PT h h3,V4 h h4⟩
theorem a7d {g g':Gh}{w:World}(hS:g'.S=g.S) {t:Ty}{x:t.den}{v:Value}(hp:t.pure=true) (r:r7 g w t x v):r7 g' w t x v:=
 r.imp (fun⟨a,cs,e,q⟩=>⟨a,cs,e,t7 hS hp q⟩) (fun⟨a,q⟩=>⟨a,t7 hS hp q⟩)
theorem L8 {g g':Gh}{w:World}(hS:g'.S=g.S) {k v:Ty}(hk:k.pure=true) (hv:v.pure=true): ∀{l:List (k.den×v.den)}{es:List MapEntry},A2 g w k v l es→A2 g' w k v l es
 |[],_,r=>r
 |_::_,_,⟨e,es',h1,h2,h3,h4⟩=>⟨e,es',h1,a7d hS hk h2,a7d hS hv h3,L8 hS hk hv h4⟩
def rC {α:Type}(R:α→List Value→Prop) (c:Nat):List α→List Value→Prop
 |[],cs=>cs=[]
 |x::xs,cs=> ∃c1 c2,cs=c1++c2∧c1.length=c∧R x c1∧rC R c xs c2
theorem DZ {α:Type}{R:α→List Value→Prop}{c:Nat}: ∀{l:List α}{cs:List Value},rC R c l cs→cs.length=l.length*c
 |[],_,h=>by rw[h];simp
 |_::l,_,⟨c1,c2,e,h1,_,h3⟩=>by rw[e,List.length_append,h1,DZ h3,List.length_cons,Nat.succ_mul];omega
theorem L9 {α:Type}{R:α→List Value→Prop}{c:Nat}: ∀{l m:List α}{cs ds:List Value},rC R c l cs→rC R c m ds→rC R c (l++m) (cs++ds)
 |[],_,_,_,h,k=>by rw[h];exact k
 |_::_,_,_,_,⟨c1,c2,e,h1,h2,h3⟩,k=>⟨c1,c2++_,by rw[e,List.append_assoc],h1,h2,L9 h3 k⟩
theorem zH {α:Type}{R R':α→List Value→Prop}{c:Nat}(hR: ∀x cs,R x cs→R' x cs): ∀{l:List α}{cs:List Value},rC R c l cs→rC R' c l cs
 |[],_,h=>h
 |_::_,_,⟨c1,c2,e,h1,h2,h3⟩=>⟨c1,c2,e,h1,hR _ _ h2,zH hR h3⟩
theorem B4 {g:Gh}{w:World}{u:Ty}: ∀{t:Ty}{x:t.den}{cs:List Value}{o:Nat}{y:u.den},Rd g w t x cs→pM u t x o=some y→
  ∃c1 c2 c3,cs=c1++c2++c3∧c1.length=o∧Rd g w u y c2:=by
 intro t
 induction t with
 |pair a b iha ihb=>
  intro x cs o y r h
  obtain⟨c1,c2,e,r1,r2⟩:=r
  have key: ∀o,(if o<a.cells then pM u a x.1 o else pM u b x.2 (o-a.cells))=some y→∃d1 d2 d3,cs=d1++d2++d3∧d1.length=o∧Rd g w u y d2:=by
   intro o h
   by_cases ho:o<a.cells
   ·rw[if_pos ho] at h
    obtain⟨d1,d2,d3,e',hl,hr⟩:=iha r1 h
    exact⟨d1,d2,d3++c2,by rw[e,e'];simp,hl,hr⟩
   ·rw[if_neg ho] at h
    obtain⟨d1,d2,d3,e',hl,hr⟩:=ihb r2 h
    refine⟨c1++d1,d2,d3,by rw[e,e'];simp,?_,hr⟩
    rw[List.length_append,hl,qU r1];omega
  cases o with
  |zero=>
   unfold pM at h
   by_cases hu:Ty.pair a b=u
   ·rw[dif_pos hu] at h
    subst hu
    simp only[rU,Option.some.injEq] at h
    subst h
    exact⟨[],cs,[],by simp,rfl,⟨c1,c2,e,r1,r2⟩⟩
   ·rw[dif_neg hu] at h
    refine key 0 ?_
    simpa using h
  |succ o=>exact key (o+1) (by simpa[pM] using h)
 |_=>
  intro x cs o y r h
  cases o with
  |zero=>
   unfold pM at h
   split at h
   ·rename_i hu
    subst hu
    simp only[rU,Option.some.injEq] at h
    try subst h
    exact⟨[],cs,[],by simp,rfl,r⟩
   ·simp at h
  |succ o=>simp [pM] at h
theorem PU {g:Gh}{w:World}{u:Ty}{y:u.den}{cy:List Value}(hy:Rd g w u y cy): ∀{t:Ty}{x z:t.den}{cs:List Value}{o:Nat},Rd g w t x cs→qQ u y t x o=some z→
  ∃c1 c2 c3,cs=c1++c2++c3∧c1.length=o∧c2.length=u.cells∧Rd g w t z (c1++cy++c3):=by
 intro t
 induction t with
 |pair a b iha ihb=>
  intro x z cs o r h
  obtain⟨c1,c2,e,r1,r2⟩:=r
  have key: ∀o,(if o<a.cells then(qQ u y a x.1 o).map (fun q=>(q,x.2)) else(qQ u y b x.2 (o-a.cells)).map (fun q=>(x.1,q)))=some z→
    ∃d1 d2 d3,cs=d1++d2++d3∧d1.length=o∧d2.length=u.cells∧Rd g w (.pair a b) z (d1++cy++d3):=by
   intro o h
   by_cases ho:o<a.cells
   ·rw[if_pos ho] at h
    obtain⟨q,hq,rfl⟩:=Option.map_eq_some_iff.1 h
    obtain⟨d1,d2,d3,e',hl,hl2,hr⟩:=iha r1 hq
    exact⟨d1,d2,d3++c2,by rw[e,e'];simp,hl,hl2,⟨d1++cy++d3,c2,by simp,hr,r2⟩⟩
   ·rw[if_neg ho] at h
    obtain⟨q,hq,rfl⟩:=Option.map_eq_some_iff.1 h
    obtain⟨d1,d2,d3,e',hl,hl2,hr⟩:=ihb r2 hq
    refine⟨c1++d1,d2,d3,by rw[e,e'];simp,?_,hl2,⟨c1,d1++cy++d3,by simp,r1,hr⟩⟩
    rw[List.length_append,hl,qU r1];omega
  cases o with
  |zero=>
   unfold qQ at h
   by_cases hu:u=Ty.pair a b
   ·rw[dif_pos hu] at h
    subst hu
    simp only[rU,Option.some.injEq] at h
    subst h
    exact⟨[],cs,[],by simp,rfl,qU (t:= .pair a b) (x:=x) ⟨c1,c2,e,r1,r2⟩,by simpa using hy⟩
   ·rw[dif_neg hu] at h
    refine key 0 ?_
    simpa using h
  |succ o=>exact key (o+1) (by simpa[qQ] using h)
 |_=>
  intro x z cs o r h
  cases o with
  |zero=>
   unfold qQ at h
   split at h
   ·rename_i hu
    subst hu
    simp only[rU,Option.some.injEq] at h
    try subst h
    exact⟨[],cs,[],by simp,rfl,qU r,by simpa using hy⟩
   ·simp at h
  |succ o=>simp [qQ] at h
end Go.Proofs.YtbbpilohihldiaaGreatDoor.Vc
namespace Go.Proofs.YtbbpilohihldiaaGreatDoor.Vc
open Go.RowKit
def CH (g:Gh) (t:Ty) (x:t.den) (cs:List Value) (toks:List (Nat×Nat)):Prop:=
 ∀o k,(o,k)∈toks→∃(u:Ty) (l:List u.den) (v:Value),pM (.list u) t x o=some l∧cs[o]? =some v∧g.cur k l.length=some v
def aFz (w:World) (p:Pl) (n:Nat):Prop:=w.there p.1 p.2 n∧(0<n→∀s,p.3=some s→w.shape? p.1=some s)
theorem A3 {w:World}{b:Nat}{s:TypeId×Nat}(h:w.shape? b=some s):b<w.heap.size:=by
 unfold World.shape? at h
 cases hb:w.heap[b]? with
 |none=>rw[hb] at h;cases h
 |some x=>exact(Array.getElem?_eq_some_iff.1 hb).1
theorem A4 {w w':World}{b:Nat}(h:w'.heap[b]? =w.heap[b]?):w'.shape? b=w.shape? b:=by
 unfold World.shape?
 rw[h]
def BlkOk (g:Gh) (w:World) (i:Nat):Blk→Prop
 | .cells t x toks=> ∃p cs,g.J i=some p∧Rd g w t x cs∧w.rangeAt p.1 p.2 cs∧aFz w p t.cells∧(∀j,j<t.cells→¬g.S p.1 (p.2+j))∧CH g t x cs toks
 | .grow e c n=> ∃v xs,g.cur i n=some v∧w.ownsRow 0 e c v n xs∧(∀m,n<m→g.cur i m=none)∧∀b,v.ownBlock=some b→∀o,g.S b o→o<n*c
 | .row e t l n=>l.length=n∧∃v xs,g.cur i n=some v∧w.ownsRow 0 e t.cells v n xs∧rC (Rd g w t) t.cells l xs∧(∀m,n<m→g.cur i m=none)∧∀b,v.ownBlock=some b→∀o,¬g.S b o
 | .map k v l=> ∃p es clock,g.J i=some p∧p.2=0∧w.heap[p.1]? =some (.map es clock)∧A2 g w k v l es.toList∧∀o,¬g.S p.1 o
 | .iter s n=> ∃p,g.J i=some p∧p.2=0∧w.heap[p.1]? =some (.stringIter ⟨s.toArray⟩ n)∧∀o,¬g.S p.1 o
 | .dead=>True
def owns (g:Gh) (i:Nat):Blk→Nat→Nat→Prop
 | .cells t _ _,b,o=> ∃p,g.J i=some p∧b=p.1∧p.2≤o∧o<p.2+t.cells
 | .grow _ _ n,b,_=> ∃v,g.cur i n=some v∧v.ownBlock=some b
 | .row _ _ _ n,b,_=> ∃v,g.cur i n=some v∧v.ownBlock=some b
 | .map _ _ _,b,_=> ∃p,g.J i=some p∧b=p.1
 | .iter _ _,b,_=> ∃p,g.J i=some p∧b=p.1
 | .dead,_,_=>False
structure HeapOk (g:Gh) (w:World) (H:Heap):Prop where
 blk: ∀i b,getH H i=some b→BlkOk g w i b
 dis: ∀i j bi bj b o,i≠j→getH H i=some bi→getH H j=some bj→owns g i bi b o→owns g j bj b o→False
 sl: ∀b o,g.S b o→b<w.heap.size
 tab:Tabs w∧∀i blk b o,getH H i=some blk→owns g i blk b o→NG≤b
def ownsIn (g:Gh) (H:Heap) (ids:List Nat) (b o:Nat):Prop:= ∃i blk,i∈ids∧getH H i=some blk∧owns g i blk b o
structure Fr (A:Nat→Nat→Prop) (w w':World) (S S':Nat→Nat→Prop):Prop where
 os:w'.os=w.os
 tape:w'.tape=w.tape
 output:w'.output=w.output
 size:w.heap.size≤w'.heap.size
 blk: ∀b,b<w.heap.size→(∀o,¬A b o)→w'.heap[b]? =w.heap[b]?
 cell: ∀b o,b<w.heap.size→¬A b o→w'.cell? ⟨b,o,none⟩=w.cell? ⟨b,o,none⟩∧w'.frozen? ⟨b,o,none⟩=w.frozen? ⟨b,o,none⟩
 new: ∀b o,S' b o→S b o∨w.heap.size≤b∨A b o
 shape: ∀b s,w.shape? b=some s→w'.shape? b=some s∨∀o,A b o
theorem Fr.refl (A:Nat→Nat→Prop) (w:World) (S:Nat→Nat→Prop):Fr A w w S S:=
 ⟨rfl,rfl,rfl,Nat.le_refl _,fun _ _ _=>rfl,fun _ _ _ _=>⟨rfl,rfl⟩,fun _ _ h=> .inl h,fun _ _ h=> .inl h⟩
theorem Fr.trans {A B:Nat→Nat→Prop}{w w' w'':World}{S S' S'':Nat→Nat→Prop}(h:Fr A w w' S S') (k:Fr B w' w'' S' S'') (hB: ∀b o,B b o→w.heap.size≤b∨A b o):Fr A w w'' S S'':=by
 refine⟨k.os.trans h.os,k.tape.trans h.tape,k.output.trans h.output,Nat.le_trans h.size k.size,fun b hb hA=> ?_,fun b o hb hA=> ?_,fun b o hs=> ?_,fun b s hs=> ?_⟩
 ·refine(k.blk b (Nat.lt_of_lt_of_le hb h.size) fun o ho=> ?_).trans (h.blk b hb hA)
  rcases hB b o ho with h1|h1
  ·omega
  ·exact hA o h1
 ·have h1:=h.cell b o hb hA
  have h2:=k.cell b o (Nat.lt_of_lt_of_le hb h.size) (fun ho=>by
   rcases hB b o ho with h1|h1
   ·omega
   ·exact hA h1)
  exact⟨h2.1.trans h1.1,h2.2.trans h1.2⟩
 ·rcases k.new b o hs with h1|h1|h1
  ·exact h.new b o h1
  ·exact .inr (.inl (Nat.le_trans h.size h1))
  ·exact .inr (hB b o h1)
 ·rcases h.shape b s hs with h1|h1
  ·rcases k.shape b s h1 with h2|h2
   ·exact .inl h2
   ·refine .inr fun o=>(hB b o (h2 o)).resolve_left ?_
    have:=A3 hs
    omega
  ·exact .inr h1
structure EffOk (g:Gh) (w:World) (H:Heap) (e:Eff) (g':Gh) (w':World) (v:Value):Prop where
 le:Le g w g' w'
 slot:RdS g' w' e.slot v
 heap:HeapOk g' w' (app e.upd H)
 fr:Fr (ownsIn g H (idsOf e.upd)) w w' g.S g'.S
 perm: ∀i blk b o,i∈idsOf e.upd→getH (app e.upd H) i=some blk→owns g' i blk b o→w.heap.size≤b∨ownsIn g H (idsOf e.upd) b o
 gho: ∀i,i∉idsOf e.upd→g'.J i=g.J i∧g'.cur i=g.cur i
 ty: ∀i u y us,getH (app e.upd H) i=some (.cells u y us)→(∃x ts,getH H i=some (.cells u x ts))∨(g.J i=none∧∀n,g.cur i n=none)
theorem LA {w:World}{B:Nat}{e:TypeId}{c n:Nat}{v:Value}{xs:List Value}(h:w.ownsRow B e c v n xs) {b:Nat}(hb:v.ownBlock=some b):b<w.heap.size:=(h.lt b hb).2
theorem PV {w:World}{b o:Nat}{v:Value}(h:w.cell? ⟨b,o,none⟩=some v):b<w.heap.size:=by
 have:=World.block_lt_of_cell? w ⟨b,o,none⟩ h
 exact this
theorem LB {g:Gh}{w:World}{i:Nat}{blk:Blk}(h:BlkOk g w i blk) {b o:Nat}(ho:owns g i blk b o):b<w.heap.size:=by
 cases blk with
 |cells t x toks=>
  obtain⟨p,cs,hp,_,_,ht,_⟩:=h
  obtain⟨q,hq,rfl,h1,h2⟩:=ho
  rw[hp] at hq
  obtain rfl:=Option.some.inj hq
  have:=(ht.1 (o-p.2) (by omega)).1
  obtain⟨v,hv⟩:=Option.isSome_iff_exists.1 this
  exact PV hv
 |grow e c n=>
  obtain⟨v,xs,hv,hr,_⟩:=h
  obtain⟨v',hv',hb⟩:=ho
  rw[hv] at hv'
  obtain rfl:=Option.some.inj hv'
  exact LA hr hb
 |row e t l n=>
  obtain⟨_,v,xs,hv,hr,_⟩:=h
  obtain⟨v',hv',hb⟩:=ho
  rw[hv] at hv'
  obtain rfl:=Option.some.inj hv'
  exact LA hr hb
 |map k v l=>
  obtain⟨p,es,cl,hp,_,hh,_,_⟩:=h
  obtain⟨q,hq,rfl⟩:=ho
  rw[hp] at hq
  obtain rfl:=Option.some.inj hq
  exact(Array.getElem?_eq_some_iff.1 hh).1
 |iter s n=>
  obtain⟨p,hp,_,hh,_⟩:=h
  obtain⟨q,hq,rfl⟩:=ho
  rw[hp] at hq
  obtain rfl:=Option.some.inj hq
  exact(Array.getElem?_eq_some_iff.1 hh).1
 |dead=>exact ho.elim
theorem a7e {g g':Gh}(hc: ∀k n v,g.cur k n=some v→g'.cur k n=some v) {t:Ty}{x:t.den}{cs:List Value}{toks:List (Nat×Nat)}(h:CH g t x cs toks):CH g' t x cs toks:=
 fun o k hm=>let ⟨u,l,v,h1,h2,h3⟩:=h o k hm;⟨u,l,v,h1,h2,hc _ _ _ h3⟩
theorem IC {g g':Gh}{w w':World}{i:Nat}{blk:Blk}(h:BlkOk g w i blk) (le:Le g w g' w') (hJ:g'.J i=g.J i) (hcur:g'.cur i=g.cur i)
  (hc: ∀b o,owns g i blk b o→w'.cell? ⟨b,o,none⟩=w.cell? ⟨b,o,none⟩∧w'.frozen? ⟨b,o,none⟩=w.frozen? ⟨b,o,none⟩)
  (hb: ∀b,(∀o,owns g i blk b o)→w'.heap[b]? =w.heap[b]?) (hS: ∀b o,owns g i blk b o→g'.S b o→g.S b o) (hsh: ∀b o s,owns g i blk b o→w.shape? b=some s→w'.shape? b=some s):BlkOk g' w' i blk:=by
 cases blk with
 |cells t x toks=>
  obtain⟨p,cs,hp,hr,hra,ht,hs,htk⟩:=h
  have ho: ∀j,j<t.cells→owns g i (.cells t x toks) p.1 (p.2+j):=fun j hj=>⟨p,hp,rfl,by omega,by omega⟩
  refine⟨p,cs,hJ.trans hp,uS le hr,fun j v hv=> ?_,⟨fun j hj=> ?_,fun h0 s hs3=>hsh _ _ _ (ho 0 h0) (ht.2 h0 s hs3)⟩,fun j hj hs'=>hs j hj (hS _ _ (ho j hj) hs'),a7e le.cur htk⟩
  ·have hj:j<t.cells:=qU hr▸(List.getElem?_eq_some_iff.1 hv).1
   rw[(hc _ _ (ho j hj)).1];exact hra j v hv
  ·rw[(hc _ _ (ho j hj)).1,(hc _ _ (ho j hj)).2];exact ht.1 j hj
 |grow e c n=>
  obtain⟨v,xs,hv,hr,hn,hs⟩:=h
  have hbl: ∀b,v.ownBlock=some b→∀o,owns g i (.grow e c n) b o:=fun b hb o=>⟨v,hv,hb⟩
  refine⟨v,xs,by rw[hcur];exact hv,⟨hr.1,?_⟩,fun m hm=>by rw[hcur];exact hn m hm,fun b hvb o hs'=>hs b hvb o (hS _ _ (hbl b hvb o) hs')⟩
  rcases hr.2 with h0|⟨q,cap,cur,e1,e2,e3,e4⟩
  ·exact .inl h0
  ·subst e1
   exact .inr ⟨q,cap,cur,rfl,e2,by rw[hb q (hbl q rfl)];exact e3,e4⟩
 |row e t l n=>
  obtain⟨hl,v,xs,hv,hr,hF,hn,hs⟩:=h
  have hbl: ∀b,v.ownBlock=some b→∀o,owns g i (.row e t l n) b o:=fun b hb o=>⟨v,hv,hb⟩
  refine⟨hl,v,xs,by rw[hcur];exact hv,⟨hr.1,?_⟩,zH (fun _ _ h=>uS le h) hF,fun m hm=>by rw[hcur];exact hn m hm,fun b hvb o hs'=>hs b hvb o (hS _ _ (hbl b hvb o) hs')⟩
  rcases hr.2 with h0|⟨q,cap,cur,e1,e2,e3,e4⟩
  ·exact .inl h0
  ·subst e1
   exact .inr ⟨q,cap,cur,rfl,e2,by rw[hb q (hbl q rfl)];exact e3,e4⟩
 |map k v l=>
  obtain⟨p,es,cl,hp,h0,hh,hM,hs⟩:=h
  have hbl: ∀o,owns g i (.map k v l) p.1 o:=fun o=>⟨p,hp,rfl⟩
  exact⟨p,es,cl,hJ.trans hp,h0,(hb _ hbl).trans hh,V4 le hM,fun o hs'=>hs o (hS _ _ (hbl o) hs')⟩
 |iter s n=>
  obtain⟨p,hp,h0,hh,hs⟩:=h
  have hbl: ∀o,owns g i (.iter s n) p.1 o:=fun o=>⟨p,hp,rfl⟩
  exact⟨p,hJ.trans hp,h0,(hb _ hbl).trans hh,fun o hs'=>hs o (hS _ _ (hbl o) hs')⟩
 |dead=>trivial
theorem wC {g g':Gh}{i:Nat}{blk:Blk}(hJ:g'.J i=g.J i) (hcur:g'.cur i=g.cur i) {b o:Nat}:owns g' i blk b o↔owns g i blk b o:=by
 cases blk<;>simp [owns,hJ,hcur]
theorem yQ {i:Nat}: ∀{u:List (Nat×Blk)}{H:Heap},i∉idsOf u→getH (app u H) i=getH H i
 |[],_,_=>rfl
 |(k,b)::r,H,h=>by
  simp only[idsOf,List.mem_cons,not_or] at h
  simp only[app,getH]
  rw[if_neg (Ne.symm h.1)]
  exact yQ h.2
theorem HeapOk.upd {g g':Gh}{w w':World}{H:Heap}{u:List (Nat×Blk)}(h:HeapOk g w H) (le:Le g w g' w') (fr:Fr (ownsIn g H (idsOf u)) w w' g.S g'.S)
  (perm: ∀i blk b o,i∈idsOf u→getH (app u H) i=some blk→owns g' i blk b o→w.heap.size≤b∨ownsIn g H (idsOf u) b o)
  (gho: ∀i,i∉idsOf u→g'.J i=g.J i∧g'.cur i=g.cur i)
  (hb: ∀i blk,i∈idsOf u→getH (app u H) i=some blk→BlkOk g' w' i blk)
  (hd: ∀i j bi bj b o,i∈idsOf u→j∈idsOf u→i≠j→getH (app u H) i=some bi→getH (app u H) j=some bj→owns g' i bi b o→owns g' j bj b o→False)
  (sl: ∀b o,g'.S b o→b<w'.heap.size):HeapOk g' w' (app u H):=by
 have out: ∀i blk,i∉idsOf u→getH H i=some blk→∀b o,owns g i blk b o→b<w.heap.size∧¬ownsIn g H (idsOf u) b o:=fun i blk hi hg b o ho=>
  ⟨LB (h.blk i blk hg) ho,fun⟨j,bj,hj,hgj,hoj⟩=>h.dis i j blk bj b o (fun e=>hi (e▸hj)) hg hgj ho hoj⟩
 refine⟨fun i blk hg=> ?_,fun i j bi bj b o hij hgi hgj hoi hoj=> ?_,sl,KK h.tab.1 fr.size (fun b hb=>fr.blk b (Nat.lt_of_lt_of_le hb h.tab.1.1) (fun o ⟨j,bj,_,k1,k2⟩=>Nat.not_lt.2 (h.tab.2 j bj b o k1 k2) hb)),fun i blk b o hg ho=> ?_⟩
 rotate_right
 ·by_cases hi:i∈idsOf u
  ·rcases perm i blk b o hi hg ho with h1|⟨j,bj,_,k1,k2⟩
   ·exact Nat.le_trans h.tab.1.1 h1
   ·exact h.tab.2 j bj b o k1 k2
  ·exact h.tab.2 i blk b o ((yQ hi).symm.trans hg) ((wC (gho i hi).1 (gho i hi).2).1 ho)
 ·by_cases hi:i∈idsOf u
  ·exact hb i blk hi hg
  ·have hg0:=(yQ hi).symm.trans hg
   have hk:=gho i hi
   refine IC (h.blk i blk hg0) le hk.1 hk.2 (fun b o ho=> ?_) (fun b ho=> ?_) (fun b o ho hs=> ?_) (fun b o s ho hs=>(fr.shape b s hs).resolve_right fun h1=>(out i blk hi hg0 b o ho).2 (h1 o))
   ·exact fr.cell b o (out i blk hi hg0 b o ho).1 (out i blk hi hg0 b o ho).2
   ·exact fr.blk b (out i blk hi hg0 b 0 (ho 0)).1 (fun o=>(out i blk hi hg0 b o (ho o)).2)
   ·rcases fr.new b o hs with h1|h1|h1
    ·exact h1
    ·have:=(out i blk hi hg0 b o ho).1;omega
    ·exact absurd h1 (out i blk hi hg0 b o ho).2
 ·by_cases hi:i∈idsOf u<;>by_cases hj:j∈idsOf u
  ·exact hd i j bi bj b o hi hj hij hgi hgj hoi hoj
  ·have hg0:=(yQ hj).symm.trans hgj
   have ho0:=(wC (gho j hj).1 (gho j hj).2).1 hoj
   rcases perm i bi b o hi hgi hoi with h1|h1
   ·have:=(out j bj hj hg0 b o ho0).1;omega
   ·exact(out j bj hj hg0 b o ho0).2 h1
  ·have hg0:=(yQ hi).symm.trans hgi
   have ho0:=(wC (gho i hi).1 (gho i hi).2).1 hoi
   rcases perm j bj b o hj hgj hoj with h1|h1
   ·have:=(out i bi hi hg0 b o ho0).1;omega
   ·exact(out i bi hi hg0 b o ho0).2 h1
  ·exact h.dis i j bi bj b o hij ((yQ hi).symm.trans hgi) ((yQ hj).symm.trans hgj) ((wC (gho i hi).1 (gho i hi).2).1 hoi) ((wC (gho j hj).1 (gho j hj).2).1 hoj)
theorem EffOk.pure {g:Gh}{w:World}{H:Heap}{side:List Prop}{s:Slot}{rds:List Nat}{v:Value}(h:HeapOk g w H) (hs:RdS g w s v):EffOk g w H ⟨side,s,[],rds⟩ g w v:=
 ⟨.refl _ _,hs,h,.refl _ _ _,fun _ _ _ _ hi=>(by cases hi),fun _ _=>⟨rfl,rfl⟩,fun _ _ y us h=> .inl ⟨y,us,h⟩⟩
end Go.Proofs.YtbbpilohihldiaaGreatDoor.Vc
namespace Go.Proofs.YtbbpilohihldiaaGreatDoor.Vc
open Go.RowKit
def rI:Ty→List Value
 | .bool=>[.bool false]
 | .int k=>[.int k 0]
 | .str=>[.string ⟨#[]⟩]
 | .list _=>[.slice none 0 0]
 | .unit=>[]
 | .pair a b=>rI a++rI b
 | .ref=>[.pointer none]
 | .clo=>[.nilFunc]
 | .mp=>[.map none]
 | .rl _ _=>[.slice none 0 0]
 | .fn=>[.nilFunc]
 | .mref=>[.pointer none]
def uF (t:Ty):Value:=if t.isRow then .agg (rI t).toArray else(rI t).headD undef
def ID (P:Program):Ty→Nat→List Field→Prop
 | .unit,_,[]=>True
 | .pair a b,o,f::r=>f.offset=o∧(P.info? f.type).map (·.size)=some a.cells∧(P.underlying f.type).map (·.isRow)=some a.isRow∧ID P b (o+a.cells) r
 |_,_,_=>False
def LC (P:Program) (e:TypeId):Ty→Nat→Prop
 | .unit,0=>True
 | .pair a b,n+1=>(P.info? e).map (·.size)=some a.cells∧(P.underlying e).map (·.isRow)=some a.isRow∧LC P e b n
 |_,_=>False
inductive EqIx where
 |ty (t:TypeId) |fs (o:Nat) (l:List Field) |el (e:TypeId) (i m:Nat)
inductive EqT (P:Program):Nat→EqIx→Ty→Prop
 |bool {h t}:P.underlying t=some .bool→EqT P h (.ty t) .bool
 |int {h t k}:P.underlying t=some (.int k)→EqT P h (.ty t) (.int k)
 |str {h t}:P.underlying t=some .string→EqT P h (.ty t) .str
 |struct {h t fs ty}:ty.isRow=true→P.underlying t=some (.struct fs)→P.stoodInHeld t=false→EqT P h (.fs 0 fs.toList) ty→EqT P (h+1) (.ty t) ty
 |arr {h t e n ty}:ty.isRow=true→P.underlying t=some (.array n e)→(P.info? e).isSome=true→EqT P h (.el e 0 n) ty→EqT P (h+1) (.ty t) ty
 |nil {h o}:EqT P h (.fs o []) .unit
 |cons {h o}{f:Field}{r a b}:f.name≠ "_" →f.offset=o→(P.info? f.type).map (·.size)=some a.cells→(P.underlying f.type).map (·.isRow)=some a.isRow→EqT P h (.ty f.type) a→EqT P h (.fs (o+a.cells) r) b→EqT P h (.fs o (f::r)) (.pair a b)
 |anil {h e i}:EqT P h (.el e i 0) .unit
 |acons {h e i m a b}:(P.info? e).map (·.size)=some a.cells→(P.underlying e).map (·.isRow)=some a.isRow→EqT P h (.ty e) a→EqT P h (.el e (i+1) m) b→EqT P h (.el e i (m+1)) (.pair a b)
def vI (P:Program) (t:TypeId) (ti:TI):Prop:=
 match ti.ty with
 | .bool=>P.underlying t=some .bool
 | .int k=>P.underlying t=some (.int k)
 | .str=>P.underlying t=some .string
 | .ref=> ∃e,P.underlying t=some (.pointer e)
 | .clo=> ∃a b c,P.underlying t=some (.func a b c)
 | .mp=>P.underlying t=some (.map ti.elem ti.bytes)
 | .rl _ _=> ∃e,P.underlying t=some (.slice e)
 | .fn=> ∃a b c,P.underlying t=some (.func a b c)
 | .mref=> ∃e,P.underlying t=some (.pointer e)
 | .list u=>P.underlying t=some (.slice ti.elem)∧(P.info? ti.elem).map (fun i=>(i.size,i.bytes,i.zero))=some (u.cells,ti.bytes,some (uF u))∧(P.underlying ti.elem).map (·.isRow)=some u.isRow
 |ty=>((ti.arr=false∧∃fs,P.underlying t=some (.struct fs)∧ID P ty 0 fs.toList)∨(ti.arr=true∧∃n e,P.underlying t=some (.array n e)∧LC P e ty n∧(P.info? e).isSome=true))∧(ti.bytes=1→P.eqGuardType P.depth t=false∧∃h,h<9000∧EqT P h (.ty t) ty)
def rE (P:Program) (t:TypeId) (ti:TI):Prop:=(P.info? t).map (fun i=>(i.size,i.zero))=some (ti.ty.cells,some (uF ti.ty))∧vI P t ti
def TypesOk (P:Program):Types→Prop
 |[]=>True
 |(t,ti)::r=>rE P t ti∧TypesOk P r
theorem qY {P:Program}: ∀{T:Types},TypesOk P T→∀{t:TypeId}{ti:TI},q6 T t=some ti→rE P t ti
 |[],_,_,_,h=>by simp [q6] at h
 |(k,ti)::r,hT,t,ti',h=>by
  simp only[q6] at h
  by_cases hk:k=t
  ·rw[if_pos hk] at h
   subst hk
   rw[←Option.some.inj h]
   exact hT.1
  ·rw[if_neg hk] at h
   exact qY hT.2 h
theorem A5 (g:Gh) (w:World): ∀t:Ty,Rd g w t t.zero (rI t)
 | .bool=>rfl
 | .int _=>rfl
 | .str=>rfl
 | .list _=>⟨none,0,rfl,Nat.le_refl _,.inl rfl⟩
 | .unit=>rfl
 | .pair a b=>⟨_,_,rfl,A5 g w a,A5 g w b⟩
 | .ref=>rfl
 | .clo=>rfl
 | .mp=>rfl
 | .rl _ _=>rfl
 | .fn=>rfl
 | .mref=>rfl
theorem LD (g:Gh) (w:World) (t:Ty):r7 g w t t.zero (uF t):=by
 unfold r7 uF
 by_cases h:t.isRow=true
 ·left;rw[if_pos h];exact⟨h,_,rfl,A5 g w t⟩
 ·right
  rw[if_neg h]
  refine⟨by simpa using h,?_⟩
  cases t<;>first|exact A5 g w _|(simp [Ty.isRow] at h)
theorem B5 {g:Gh}{w:World}{t:Ty}{x:t.den}{v:Value}(h:r7 g w t x v):Rd g w t x v.cells.toList:=by
 rcases h with⟨_,cs,rfl,r⟩ |⟨hr,r⟩
 ·simpa[Value.cells] using r
 ·have h1:=y4 r v (by simp)
  have:v.cells= #[v]:=by cases v<;>first|rfl|(simp [Value.oneCell'] at h1)
  rw[this];exact r
theorem yR {g:Gh}{w:World}{t:Ty}{x:t.den}{v:Value}(hr:t.isRow=false) (h:r7 g w t x v):Rd g w t x [v]:=by
 rcases h with⟨h1,_⟩ |⟨_,r⟩
 ·rw[hr] at h1;cases h1
 ·exact r
theorem tC {g:Gh}{w:World}{k:IntKind}{n:Int}{v:Value}(h:r7 g w (.int k) n v):v= .int k n:=by
 have:=yR rfl h;simp only[Rd,List.cons.injEq,and_true] at this;exact this
theorem uG {g:Gh}{w:World}{n:Bool}{v:Value}(h:r7 g w .bool n v):v= .bool n:=by
 have:=yR rfl h;simp only[Rd,List.cons.injEq,and_true] at this;exact this
theorem vQ {g:Gh}{w:World}{l:List UInt8}{v:Value}(h:r7 g w .str l v):v= .string ⟨l.toArray⟩:=by
 have:=yR rfl h;simp only[Rd,List.cons.injEq,and_true] at this;exact this
theorem A6 {g:Gh}{w:World}{t:Ty}{l:List t.den}{v:Value}(h:r7 g w (.list t) l v): ∃a cap,v= .slice a l.length cap∧l.length≤cap∧(l=[]∨∃b o,a=some ⟨b,o,none⟩∧vH (Rd g w t) w g.S t.cells b o l):=by
 have:=yR rfl h
 obtain⟨a,cap,e,h1,h2⟩:=this
 simp only[List.cons.injEq,and_true] at e
 exact⟨a,cap,e,h1,h2⟩
theorem xG {g:Gh}{w:World}{i o:Nat}{v:Value}(h:r7 g w .ref (some (i,o)) v): ∃p,g.J i=some p∧v= .pointer (some ⟨p.1,p.2+o,none⟩):=by
 have:=yR rfl h
 obtain⟨p,h1,e⟩:=this
 simp only[List.cons.injEq,and_true] at e
 exact⟨p,h1,e⟩
theorem G5 {g:Gh}{w:World}{t:Ty}{x:t.den}{v:Value}(hr:t.isRow=true) (h:r7 g w t x v): ∃cs:List Value,v= .agg cs.toArray∧Rd g w t x cs:=by
 rcases h with⟨_,r⟩ |⟨h1,_⟩
 ·exact r
 ·rw[hr] at h1;cases h1
theorem tV (g:Gh) (w:World) (k:IntKind) (n:Int):r7 g w (.int k) n (.int k n):= .inr ⟨rfl,rfl⟩
theorem tP (g:Gh) (w:World) (b:Bool):r7 g w .bool b (.bool b):= .inr ⟨rfl,rfl⟩
theorem B6 (g:Gh) (w:World) (l:List UInt8):r7 g w .str l (.string ⟨l.toArray⟩):= .inr ⟨rfl,rfl⟩
def pT (P:Program) (o:Oper) (a:Act) (g:Gh) (w:World) (H:Heap) (e:Eff):Prop:=
 ∀(K:Act→World→Prop) (Q:Exit→Act→World→Prop),(∀g' w' v,EffOk g w H e g' w' v→K (a.put o.dst v) w')→o.wp P a w K Q
theorem pT.value {P:Program}{o:Oper}{a:Act}{g g':Gh}{w w':World}{H:Heap}{e:Eff}{v:Value}(hr:(execOp a.eval o).run P w= .ok (.value v) w') (h:EffOk g w H e g' w' v):pT P o a g w H e:=by
 intro K Q hK
 unfold Oper.wp
 rw[hr]
 exact hK g' w' v h
theorem pT.skip {P:Program}{o:Oper}{a:Act}{g g':Gh}{w w':World}{H:Heap}{e:Eff}(hr:(execOp a.eval o).run P w= .ok .skip w') (h:EffOk g w H e g' w' undef):pT P o a g w H e:=by
 intro K Q hK
 unfold Oper.wp
 rw[hr]
 exact hK g' w' undef h
theorem pT.pure {P:Program}{o:Oper}{a:Act}{g:Gh}{w:World}{H:Heap}{side:List Prop}{d:DV}{rds:List Nat}{v:Value}(hH:HeapOk g w H) (hr:(execOp a.eval o).run P w= .ok (.value v) w) (h:wR g w d v):
  pT P o a g w H ⟨side,(d,none),[],rds⟩:= .value hr (.pure hH ⟨h,trivial⟩)
section
variable {P:Program}{o:Oper}{a:Act}{g:Gh}{w:World}{H:Heap}
theorem PW {g:Gh}{w:World}{k:IntKind}(q:Int) (hq: ∀p∈(FN k q).1,p):wR g w (FN k q).2 (.int k (k.wrap q)):=by
 cases k<;>simp only[FN] at hq⊢ <;>first|exact tV _ _ _ _|skip
 have h0:=hq _ (List.mem_singleton.2 rfl)
 rw[show IntKind.i64.wrap q=q from IntWalk.i64_in q (by omega)]
 exact tV _ _ _ _
theorem aFA (g:Gh) {op:BinOp}{xt:TypeId}{x y:Operand}{k:IntKind}{m n:Int}{r:List Prop×DV}(hr:TX k m n op=some r) (hs: ∀p∈r.1,p):
  ∃v,(do eqGuard op xt x y (.int k m) (.int k n);Go.binOp op xt (.int k m) (.int k n):Sem Value).run P w= .ok v w∧wR g w r.2 v:=by
 cases op<;>simp only[TX,Option.some.injEq,reduceCtorEq] at hr
 all_goals subst hr
 case add=>exact⟨.int k (k.wrap _),by simp [eqGuard,Go.binOp,Op.intArith],PW _ hs⟩
 case sub=>exact⟨.int k (k.wrap _),by simp [eqGuard,Go.binOp,Op.intArith],PW _ hs⟩
 case mul=>exact⟨.int k (k.wrap _),by simp [eqGuard,Go.binOp,Op.intArith],PW _ hs⟩
 case eql=>exact⟨.bool (decide (m=n)),by simp [eqGuard,Go.binOp,Op.intCmp];rfl,tP _ _ _⟩
 case neq=>exact⟨.bool (!decide (m=n)),by simp [eqGuard,Go.binOp,Op.intCmp,bne];rfl,tP _ _ _⟩
 case lss=>exact⟨.bool (decide _),by simp [eqGuard,Go.binOp,Op.intCmp],tP _ _ _⟩
 case leq=>exact⟨.bool (decide _),by simp [eqGuard,Go.binOp,Op.intCmp],tP _ _ _⟩
 case gtr=>exact⟨.bool (decide (n<m)),by simp [eqGuard,Go.binOp,Op.intCmp],tP _ _ _⟩
 case geq=>exact⟨.bool (decide (n≤m)),by simp [eqGuard,Go.binOp,Op.intCmp],tP _ _ _⟩
 case quo=>
  have h0:=hs _ (List.mem_singleton.2 rfl)
  exact⟨.int k (k.wrap (Int.tdiv m n)),by simp [eqGuard,Go.binOp,Op.intDiv,h0],tV _ _ _ _⟩
 case rem=>
  have h0:=hs _ (List.mem_singleton.2 rfl)
  exact⟨.int k (Int.tmod m n),by simp [eqGuard,Go.binOp,Op.intDiv,h0],tV _ _ _ _⟩
 case and=>exact⟨.int k (bits .and k m n),by simp [eqGuard,Go.binOp,intBits_and],tV _ _ _ _⟩
 case or=>exact⟨.int k (bits .or k m n),by simp [eqGuard,Go.binOp,intBits_or],tV _ _ _ _⟩
 case xor=>exact⟨.int k (bits .xor k m n),by simp [eqGuard,Go.binOp,intBits_xor],tV _ _ _ _⟩
 case andNot=>exact⟨.int k (bits .andNot k m n),by simp [eqGuard,Go.binOp,intBits_andNot],tV _ _ _ _⟩
theorem LE (m n:List UInt8):(m==n)=decide (m=n):=by rw[Bool.eq_iff_iff];simp
theorem aFB (g:Gh) {op:BinOp}{xt:TypeId}{x y:Operand}{m n:List UInt8}{r:List Prop×DV}(hr:TZ m n op=some r) (hs: ∀p∈r.1,p):
  ∃v,(do eqGuard op xt x y (.string ⟨m.toArray⟩) (.string ⟨n.toArray⟩);Go.binOp op xt (.string ⟨m.toArray⟩) (.string ⟨n.toArray⟩):Sem Value).run P w= .ok v w∧wR g w r.2 v:=by
 have hl: ∀l:List UInt8,(⟨l.toArray⟩:ByteArray).size=l.length:=fun l=>by simp [ByteArray.size]
 cases op<;>simp only[TZ,Option.some.injEq,reduceCtorEq] at hr
 all_goals subst hr
 case add=>
  have h0:=hs _ (List.mem_singleton.2 rfl)
  refine⟨.string ⟨(m++n).toArray⟩,?_,B6 _ _ _⟩
  rw[List.length_append] at h0
  have h1: ¬(((⟨m.toArray⟩:ByteArray).size+(⟨n.toArray⟩:ByteArray).size:Nat):Int) >IntKind.i64.max:=by rw[hl,hl,show IntKind.i64.max=9223372036854775807 from by decide];omega
  simp only[eqGuard,Go.binOp,Op.stringOp,Sem.run_bind,if_neg h1]
  simp
  rfl
 case eql=>exact⟨.bool (decide (m=n)),by simp [eqGuard,Go.binOp,Op.stringOp,LE],tP _ _ _⟩
 case neq=>exact⟨.bool (!decide (m=n)),by simp [eqGuard,Go.binOp,Op.stringOp,LE],tP _ _ _⟩
 case lss=>exact⟨.bool (Op.bytesLess m n),by simp [eqGuard,Go.binOp,Op.stringOp],tP _ _ _⟩
 case leq=>exact⟨.bool (Op.bytesLess m n||decide (m=n)),by simp [eqGuard,Go.binOp,Op.stringOp,LE],tP _ _ _⟩
 case gtr=>exact⟨.bool (!(Op.bytesLess m n||decide (m=n))),by simp [eqGuard,Go.binOp,Op.stringOp,LE],tP _ _ _⟩
 case geq=>exact⟨.bool (!Op.bytesLess m n),by simp [eqGuard,Go.binOp,Op.stringOp],tP _ _ _⟩
theorem G6 {r:Option (List Prop×DV)}{e:Eff}(h:xV r=some e): ∃q,r=some q∧e=⟨q.1,(q.2,none),[],[]⟩:=by
 cases r with
 |none=>cases h
 |some q=>obtain⟨p,d⟩:=q;exact⟨(p,d),rfl,(Option.some.inj h).symm⟩
theorem aFC (hH:HeapOk g w H) {op:BinOp}{xt yt:TypeId}{x y:Operand}(ho:o.op= .binOp op xt x y yt) {sx sy:Slot}(hx:RdS g w sx (a.eval x)) (hy:RdS g w sy (a.eval y)) {e:Eff}
  (hr:xV (OF op sx sy)=some e) (hs: ∀p∈e.side,p):pT P o a g w H e:=by
 obtain⟨q,hq,rfl⟩:=G6 hr
 have go: ∀{u v:Value},a.eval x=u→a.eval y=v→(∃z,(do eqGuard op xt x y u v;Go.binOp op xt u v:Sem Value).run P w= .ok z w∧wR g w q.2 z)→pT P o a g w H ⟨q.1,(q.2,none),[],[]⟩:=by
  rintro u v rfl rfl ⟨z,hz,hd⟩
  refine pT.pure hH (v:=z) ?_ hd
  unfold execOp
  rw[ho]
  simp only[Sem.run_bind,Sem.run_pure] at hz⊢
  rw[hz]
  rfl
 obtain⟨dx,kx⟩:=sx
 obtain⟨dy,ky⟩:=sy
 replace hx:=hx.1
 replace hy:=hy.1
 unfold OF at hq
 split at hq
 ·rename_i k m k1 k' n k2 e1 e2
  simp only[Prod.mk.injEq] at e1 e2
  obtain⟨rfl,-⟩:=e1
  obtain⟨rfl,-⟩:=e2
  unfold a6w at hq
  split at hq
  ·cases hq
   have h0:=hs _ (List.mem_singleton.2 rfl)
   exact go (tC hx) (tC hy) ⟨.int k (TY k m n),by simp [eqGuard,Go.binOp,Op.shift,TY,Int.not_lt.2 h0],tV _ _ _ _⟩
  ·cases hq
   have h0:=hs _ (List.mem_singleton.2 rfl)
   exact go (tC hx) (tC hy) ⟨.int k (uY k m n),by simp [eqGuard,Go.binOp,Op.shift,uY,Int.not_lt.2 h0],tV _ _ _ _⟩
  ·by_cases hk:k=k'
   ·subst hk
    rw[if_pos rfl] at hq
    exact go (tC hx) (tC hy) (aFA g hq hs)
   ·rw[if_neg hk] at hq;cases hq
 ·rename_i m k1 n k2 e1 e2
  simp only[Prod.mk.injEq] at e1 e2
  obtain⟨rfl,-⟩:=e1
  obtain⟨rfl,-⟩:=e2
  exact go (vQ hx) (vQ hy) (aFB g hq hs)
 ·cases hq
theorem aFD (hH:HeapOk g w H) {op:UnOp}{xt:TypeId}{x:Operand}(ho:o.op= .unOp op xt x) {sx:Slot}(hx:RdS g w sx (a.eval x)) {e:Eff}
  (hr:xV (U1 op sx)=some e) (hs: ∀p∈e.side,p):pT P o a g w H e:=by
 obtain⟨q,hq,rfl⟩:=G6 hr
 replace hx:=hx.1
 unfold U1 at hq
 split at hq
 ·have:=uG hx
  cases hq
  refine pT.pure hH (v:= .bool _) ?_ (tP _ _ _)
  simp [execOp,ho,this,Op.unary]
 ·rename_i k n _
  have:=tC hx
  cases hq
  refine pT.pure hH (v:= .int k (k.wrap (-n))) ?_ (PW _ hs)
  simp [execOp,ho,this,Op.unary,Op.intArith]
 ·cases hq
theorem PX {t:TypeId}{ti:TI}(h:rE P t ti): ∃d,P.underlying t=some d∧d.isRow=ti.ty.isRow:=by
 have h2:=h.2
 unfold vI at h2
 obtain⟨ty,el,by',ar,ls⟩:=ti
 cases ty<;>simp only at h2
 case bool=>exact⟨_,h2,rfl⟩
 case int=>exact⟨_,h2,rfl⟩
 case str=>exact⟨_,h2,rfl⟩
 case list=>exact⟨_,h2.1,rfl⟩
 case ref=>obtain⟨e,h⟩:=h2;exact⟨_,h,rfl⟩
 case clo=>obtain⟨a,b,c,h⟩:=h2;exact⟨_,h,rfl⟩
 case mp=>exact⟨_,h2,rfl⟩
 case rl=>obtain⟨e,h⟩:=h2;exact⟨_,h,rfl⟩
 case fn=>obtain⟨a,b,c,h⟩:=h2;exact⟨_,h,rfl⟩
 case mref=>obtain⟨e,h⟩:=h2;exact⟨_,h,rfl⟩
 all_goals
  rcases h2.1 with⟨_,fs,h,_⟩ |⟨_,n,e,h,_⟩
  ·exact⟨_,h,rfl⟩
  ·exact⟨_,h,rfl⟩
theorem CI {t:TypeId}{ti:TI}(h:rE P t ti): ∃i,P.info? t=some i∧i.size=ti.ty.cells∧i.zero=some (uF ti.ty):=by
 obtain⟨i,hi,he⟩:=Option.map_eq_some_iff.1 h.1
 simp only[Prod.mk.injEq] at he
 exact⟨i,hi,he.1,he.2⟩
theorem aFE {T:Types}(hT:TypesOk P T) (hH:HeapOk g w H) {st dt:TypeId}{x:Operand}(ho:o.op= .convert st dt x) {sx:Slot}(hx:RdS g w sx (a.eval x)) {e:Eff}
  (hr:xV (OH (q6 T st) (q6 T dt) sx)=some e):pT P o a g w H e:=by
 obtain⟨q,hq,rfl⟩:=G6 hr
 replace hx:=hx.1
 generalize hs:q6 T st=os at hq
 generalize hd:q6 T dt=od at hq
 unfold OH at hq
 split at hq
 ·rename_i k' k _ _ _ _ k0 n _
  obtain⟨d,hd1,_⟩:=PX (qY hT hs)
  have hd2:=(qY hT hd).2
  simp only[vI] at hd2
  have:=tC hx
  cases hq
  refine pT.pure hH (v:= .int k (k.wrap n)) ?_ (tV _ _ _ _)
  simp [execOp,ho,this,Go.convert,run_underlying hd1,run_underlying hd2,Conv.intToInt]
 ·rename_i k' _ _ _ _ s _
  obtain⟨d,hd1,_⟩:=PX (qY hT hs)
  have hd2:=(qY hT hd).2
  simp only[vI] at hd2
  have:=vQ hx
  cases hq
  refine pT.pure hH (v:= .string ⟨List.toArray s⟩) ?_ (B6 _ _ _)
  simp [execOp,ho,this,Go.convert,run_underlying hd1,run_underlying hd2]
 ·cases hq
theorem PY {α:Type}{R:α→List Value→Prop}{w:World}{S:Nat→Nat→Prop}{c b:Nat}: ∀{l:List α}{o i:Nat}{x:α},vH R w S c b o l→l[i]? =some x→
  ∃cs,cs.length=c∧w.rangeAt b (o+i*c) cs∧(∀j,j<c→S b (o+i*c+j))∧R x cs
 |y::l,o,0,x,⟨⟨cs,h1,h2,h3,h4⟩,_⟩,h=>by
  simp only[List.getElem?_cons_zero,Option.some.injEq] at h
  subst h
  exact⟨cs,h1,by simpa using h2,by simpa using h3,h4⟩
 |y::l,o,i+1,x,⟨_,h5⟩,h=>by
  simp only[List.getElem?_cons_succ] at h
  obtain⟨cs,h1,h2,h3,h4⟩:=PY h5 h
  have e:o+c+i*c=o+(i+1)*c:=by rw[Nat.succ_mul];omega
  exact⟨cs,h1,by rw[←e];exact h2,by rw[←e];exact h3,h4⟩
theorem a7f {α:Type}{R:α→List Value→Prop}{w:World}{S:Nat→Nat→Prop}{c b:Nat}: ∀{l:List α}{o:Nat}(i:Nat),vH R w S c b o l→i≤l.length→vH R w S c b (o+i*c) (l.drop i)
 |_,o,0,h,_=>by simpa using h
 |[],o,i+1,_,h=>by simp at h
 |y::l,o,i+1,⟨_,h5⟩,h=>by
  have:=a7f i h5 (by simpa using h)
  have e:o+c+i*c=o+(i+1)*c:=by rw[Nat.succ_mul];omega
  rw[←e];simpa using this
theorem a7g {α:Type}{R:α→List Value→Prop}{w:World}{S:Nat→Nat→Prop}{c b:Nat}: ∀{l:List α}{o:Nat}(i:Nat),vH R w S c b o l→vH R w S c b o (l.take i)
 |_,_,0,_=>by simp [vH]
 |[],_,_+1,_=>by simp [vH]
 |_::_,_,i+1,⟨h,h5⟩=>by simpa[vH] using⟨h,a7g i h5⟩
theorem V5 {g:Gh}{w:World}: ∀{t:Ty}{x:t.den}{cs:List Value}{f:Nat}{u:Ty}{y:u.den},Rd g w t x cs→t.proj x f=some ⟨u,y⟩→
  ∃o c1 c2 c3,t.offs f=some o∧t.fld f=some u∧cs=c1++c2++c3∧c1.length=o∧Rd g w u y c2:=by
 intro t
 induction t with
 |pair a b _ ihb=>
  intro x cs f u y r h
  obtain⟨c1,c2,e,r1,r2⟩:=r
  cases f with
  |zero=>
   simp only[Ty.proj,Option.some.injEq,Sigma.mk.injEq] at h
   obtain⟨rfl,h2⟩:=h
   obtain rfl:=eq_of_heq h2
   exact⟨0,[],c1,c2,rfl,rfl,by simpa using e,rfl,r1⟩
  |succ f=>
   simp only[Ty.proj] at h
   obtain⟨o,d1,d2,d3,h1,h2,h3,h4,h5⟩:=ihb r2 h
   refine⟨a.cells+o,c1++d1,d2,d3,by simp [Ty.offs,h1],by simpa[Ty.fld] using h2,by rw[e,h3];simp,?_,h5⟩
   rw[List.length_append,h4,qU r1]
 |_=>intro x cs f u y r h;cases f<;>simp [Ty.proj] at h
theorem V6 {P:Program}: ∀{ty:Ty}{off:Nat}{fs:List Field}{f o:Nat}{u:Ty},ID P ty off fs→ty.offs f=some o→ty.fld f=some u→
  ∃fd,fs[f]? =some fd∧fd.offset=off+o∧(P.info? fd.type).map (·.size)=some u.cells∧(P.underlying fd.type).map (·.isRow)=some u.isRow:=by
 intro ty
 induction ty with
 |pair a b _ ihb=>
  intro off fs f o u h ho hu
  cases fs with
  |nil=>exact h.elim
  |cons fd fs=>
   obtain⟨h1,h2,h3,h4⟩:=h
   cases f with
   |zero=>
    simp only[Ty.offs,Option.some.injEq] at ho
    simp only[Ty.fld,Option.some.injEq] at hu
    subst ho
    subst hu
    exact⟨fd,rfl,by omega,h2,h3⟩
   |succ f=>
    simp only[Ty.offs,Option.map_eq_some_iff] at ho
    obtain⟨o',ho',rfl⟩:=ho
    obtain⟨fd',k1,k2,k3,k4⟩:=ihb h4 ho' hu
    exact⟨fd',by simpa using k1,by omega,k3,k4⟩
 |_=>intro off fs f o u h ho hu;cases f<;>simp [Ty.offs] at ho
theorem V7 {P:Program}{e:TypeId}: ∀{ty:Ty}{n f o:Nat}{u:Ty},LC P e ty n→ty.offs f=some o→ty.fld f=some u→
  f<n∧(P.info? e).map (·.size)=some u.cells∧(P.underlying e).map (·.isRow)=some u.isRow∧o=f*u.cells:=by
 intro ty
 induction ty with
 |pair a b _ ihb=>
  intro n f o u h ho hu
  cases n with
  |zero=>exact h.elim
  |succ n=>
   obtain⟨h2,h3,h4⟩:=h
   cases f with
   |zero=>
    simp only[Ty.offs,Option.some.injEq] at ho
    simp only[Ty.fld,Option.some.injEq] at hu
    subst ho
    subst hu
    exact⟨by omega,h2,h3,by simp⟩
   |succ f=>
    simp only[Ty.offs,Option.map_eq_some_iff] at ho
    obtain⟨o',ho',rfl⟩:=ho
    obtain⟨k1,k2,k3,k4⟩:=ihb h4 ho' hu
    rw[h2] at k2
    have hc:a.cells=u.cells:=Option.some.inj k2
    exact⟨by omega,by rw[h2,hc],k3,by rw[k4,hc,Nat.succ_mul];omega⟩
 |_=>intro n f o u h ho hu;cases f<;>simp [Ty.offs] at ho
theorem LF {t:TypeId}{u:Ty}(hi:(P.info? t).map (·.size)=some u.cells) (hr:(P.underlying t).map (·.isRow)=some u.isRow) {y:u.den}{c1 c2 c3:List Value}(h:Rd g w u y c2):
  ∃v,(part t (c1++c2++c3).toArray c1.length).run P w= .ok v w∧r7 g w u y v:=by
 obtain⟨i,hi,hsz⟩:=Option.map_eq_some_iff.1 hi
 obtain⟨d,hd,hrow⟩:=Option.map_eq_some_iff.1 hr
 have hl:=qU h
 by_cases hu:u.isRow=true
 ·refine⟨.agg c2.toArray,?_,.inl ⟨hu,c2,rfl,h⟩⟩
  have hagg:(isAgg t).run P w= .ok true w:=by
   unfold isAgg
   rw[Sem.run_bind,run_underlying hd w]
   rw[hu] at hrow
   cases d<;>simp_all [TypeDesc.isRow]
  simp only[part,Sem.run_bind,hagg,Result.andThen_ok,if_true,sizeOf,typeInfo,run_program,hi,hsz,Sem.run_pure]
  congr 2
  apply Array.toList_inj.1
  simp [←hl]
 ·have hu':u.isRow=false:=by simpa using hu
  have h1:u.cells=1:=by cases u<;>first|rfl|(simp [Ty.isRow] at hu')
  obtain⟨v,rfl⟩: ∃v,c2=[v]:=by
   rw[h1] at hl
   exact List.length_eq_one_iff.1 hl
  refine⟨v,?_,.inr ⟨hu',h⟩⟩
  have hagg:(isAgg t).run P w= .ok false w:=by
   unfold isAgg
   rw[Sem.run_bind,run_underlying hd w]
   rw[hu'] at hrow
   cases d<;>simp_all [TypeDesc.isRow]
  simp only[part,Sem.run_bind,hagg,Result.andThen_ok]
  simp
theorem V8 {t:TypeId}{ti:TI}(h:rE P t ti) (hr:ti.ty.isRow=true):
  (ti.arr=false∧∃fs,P.underlying t=some (.struct fs)∧ID P ti.ty 0 fs.toList)∨(ti.arr=true∧∃n e,P.underlying t=some (.array n e)∧LC P e ti.ty n∧(P.info? e).isSome=true):=by
 have h2:=h.2
 unfold vI at h2
 obtain⟨ty,el,by',ar,ls⟩:=ti
 cases ty<;>simp only[Ty.isRow,Bool.false_eq_true] at hr<;>exact h2.1
theorem a7h {t:TypeId}{ti:TI}(h:rE P t ti) (hr:ti.ty.isRow=true) (ha:ti.arr=false): ∃fs,P.underlying t=some (.struct fs)∧ID P ti.ty 0 fs.toList:=by
 rcases V8 h hr with⟨_,h⟩ |⟨h,_⟩
 ·exact h
 ·rw[ha] at h;cases h
theorem a7i {t:TypeId}{ti:TI}(h:rE P t ti) (hr:ti.ty.isRow=true) (ha:ti.arr=true): ∃n e,P.underlying t=some (.array n e)∧LC P e ti.ty n∧(P.info? e).isSome=true:=by
 rcases V8 h hr with⟨h,_⟩ |⟨_,h⟩
 ·rw[ha] at h;cases h
 ·exact h
theorem aFF {t:Ty}{x:t.den}{f:Nat}{q: Σ u:Ty,u.den}(h:t.proj x f=some q):t.isRow=true:=by
 cases t<;>first|rfl|(cases f<;>simp [Ty.proj] at h)
theorem aFG {t:Ty}{f o:Nat}(h:t.offs f=some o):t.isRow=true:=by
 cases t<;>first|rfl|(cases f<;>simp [Ty.offs] at h)
end
end Go.Proofs.YtbbpilohihldiaaGreatDoor.Vc
namespace Go.Proofs.YtbbpilohihldiaaGreatDoor.Vc
open Go.RowKit
set_option linter.unusedSectionVars false
theorem aFH (l:List UInt8) (n:Nat) (h:n<l.length):(⟨l.toArray⟩:ByteArray)[n]? =some l[n]:=by
 have:n<(⟨l.toArray⟩:ByteArray).size:=by simpa[ByteArray.size] using h
 rw[getElem?_pos (⟨l.toArray⟩:ByteArray) n this]
 rfl
theorem uH {i:Int}{n:Nat}(h0:0≤i) (h1:i<n):i.toNat<n:=by omega
theorem a7j {i:Int}{n:Nat}(h0:0≤i) (h1:i.toNat<n):i<n:=by omega
section
variable {P:Program}{o:Oper}{a:Act}{g:Gh}{w:World}{H:Heap}{T:Types}(hT:TypesOk P T) (hH:HeapOk g w H)
include hT hH
theorem aFI {t:TypeId}{x:Operand}{f:Nat}(ho:o.op= .field t x f) {sx:Slot}(hx:RdS g w sx (a.eval x)) {e:Eff}(hr:UM f (q6 T t) sx=some e):pT P o a g w H e:=by
 generalize hs:q6 T t=ot at hr
 replace hx:=hx.1
 unfold UM at hr
 split at hr
 ·rename_i ty el by' ls_ u y _
  split at hr
  ·rename_i hu
   subst hu
   have hty:=qY hT hs
   generalize hp:u.proj y f=q at hr
   cases q with
   |none=>cases hr
   |some q=>
    obtain⟨u,z⟩:=q
    cases hr
    have hrow:=aFF hp
    obtain⟨cs,hv,hR⟩:=G5 hrow hx
    obtain⟨oo,c1,c2,c3,h1,h2,rfl,rfl,h5⟩:=V5 hR hp
    obtain⟨fs,hfs,hfe⟩:=a7h hty hrow rfl
    obtain⟨fd,k1,k2,k3,k4⟩:=V6 hfe h1 h2
    obtain⟨v,hv1,hv2⟩:=LF k3 k4 (P:=P) (c1:=c1) (c3:=c3) h5
    refine pT.pure hH (v:=v) ?_ hv2
    have k1':fs[f]? =some fd:=by simpa using k1
    simp only[execOp,ho,hv,Instr.field,Sem.run_bind,run_underlying hfs,Result.andThen_ok,k1',asAgg,Sem.run_pure,k2,Nat.zero_add,hv1]
  ·cases hr
 ·cases hr
theorem V9 {t:TypeId}{ti:TI}(hty:rE P t ti) (har:ti.arr=false) {f oo:Nat}{u:Ty}(h1:ti.ty.offs f=some oo) (h2:ti.ty.fld f=some u) (hpos:0<u.cells) (b off:Nat):
  (Instr.fieldAt t (.pointer (some ⟨b,off,none⟩)) f).run P w= .ok (.pointer (some ⟨b,off+oo,none⟩)) w:=by
 obtain⟨fs,hfs,hfe⟩:=a7h hty (aFG h1) har
 obtain⟨fd,k1,k2,k3,k4⟩:=V6 hfe h1 h2
 obtain⟨i,hi,hsz⟩:=Option.map_eq_some_iff.1 k3
 have k1':fs[f]? =some fd:=by simpa using k1
 have hne: ¬(u.cells=0):=by omega
 simp only[Instr.fieldAt,Sem.run_bind,run_underlying hfs,Result.andThen_ok,k1',Instr.sureAddr,Sem.run_pure,fieldPlace,sizeOf,typeInfo,run_program,hi,hsz,if_neg hne,k2,Nat.zero_add,Addr.add_mid]
theorem aFJ {t:TypeId}{x:Operand}{f:Nat}(ho:o.op= .fieldAddr t x f) {sx:Slot}(hx:RdS g w sx (a.eval x)) {e:Eff}(hr:UL f (q6 T t) sx=some e):pT P o a g w H e:=by
 generalize hs:q6 T t=ot at hr
 replace hx:=hx.1
 unfold UL at hr
 split at hr
 ·rename_i ty el by' ls_ k n c i o' _
  have hty:=qY hT hs
  generalize h1:ty.offs f=o1 at hr
  generalize h2:ty.fld f=o2 at hr
  unfold a6V at hr
  split at hr
  ·split at hr
   ·rename_i oo u hpos
    cases hr
    obtain⟨b,cap,hc,hi0,hi1,hv⟩:=hx
    refine pT.pure hH (v:= .pointer (some ⟨b,i.toNat*c+o'+oo,none⟩)) ?_ ⟨b,cap,hc,hi0,hi1,by rw[Nat.add_assoc]⟩
    simp only[execOp,ho,hv,Sem.run_bind,V9 hT hH hty rfl h1 h2 hpos,Result.andThen_ok,Sem.run_pure]
   ·cases hr
  ·cases hr
 ·rename_i ty el by' ls_ u y _
  split at hr
  ·rename_i hu
   subst hu
   have hty:=qY hT hs
   generalize hp:u.proj y f=q at hr
   cases q with
   |none=>cases hr
   |some q=>
    obtain⟨u,z⟩:=q
    simp only[P4] at hr
    split at hr
    ·rename_i hpos
     cases hr
     obtain⟨b,off,cs,hv,hra,hS,hR⟩:=hx
     obtain⟨oo,c1,c2,c3,h1,h2,rfl,rfl,h5⟩:=V5 hR hp
     refine pT.pure hH (v:= .pointer (some ⟨b,off+c1.length,none⟩)) ?_ ⟨b,off+c1.length,c2,rfl,fun j v hj=> ?_,fun j hj=> ?_,h5⟩
     ·simp only[execOp,ho,hv,Sem.run_bind,V9 hT hH hty rfl h1 h2 hpos,Result.andThen_ok,Sem.run_pure]
     ·have:=hra (c1.length+j) v (by
       have hj':=(List.getElem?_eq_some_iff.1 hj).1
       rw[List.append_assoc,List.getElem?_append_right (by omega),Nat.add_sub_cancel_left,List.getElem?_append_left hj'];exact hj)
      rw[Nat.add_assoc];exact this
     ·have:=hS (c1.length+j) (by
       have:=qU hR
       have h6:=qU h5
       simp only[List.length_append] at this
       omega)
      rw[Nat.add_assoc];exact this
    ·cases hr
  ·cases hr
 ·rename_i ty el by' ls_ i off _
  have hty:=qY hT hs
  generalize h1:ty.offs f=o1 at hr
  generalize h2:ty.fld f=o2 at hr
  unfold P5 at hr
  split at hr
  ·split at hr
   ·rename_i oo u hpos
    cases hr
    obtain⟨p,hp,hv⟩:=xG hx
    refine pT.pure hH (v:= .pointer (some ⟨p.1,p.2+off+oo,none⟩)) ?_ (.inr ⟨rfl,p,hp,by rw[Nat.add_assoc]⟩)
    simp only[execOp,ho,hv,Sem.run_bind,V9 hT hH hty rfl h1 h2 hpos,Result.andThen_ok,Sem.run_pure]
   ·cases hr
  ·cases hr
 ·cases hr
theorem aFK {x:Operand}{i:Nat}(ho:o.op= .extract x i) {sx:Slot}(hx:RdS g w sx (a.eval x)) {e:Eff}(hr:UP i sx=some e) (hs: ∀p∈e.side,p):pT P o a g w H e:=by
 replace hx:=hx.1
 unfold UP at hr
 split at hr
 rotate_left
 ·rename_i b p c _
  have run: ∀(v:Value) (vs:Array Value),a.eval x= .tuple vs→vs[i]? =some v→(execOp a.eval o).run P w= .ok (.value v) w:=by
   intro v vs h1 h2
   simp [execOp,ho,h1,Instr.extract,h2]
  obtain⟨h1,h2⟩:=hx
  unfold a6W at hr
  split at hr
  ·cases hr
   cases b with
   |true=>exact pT.pure hH (run (.bool true) _ (h1 rfl) rfl) (tP _ _ _)
   |false=>exact pT.pure hH (run (.bool false) _ (h2 rfl) rfl) (tP _ _ _)
  ·cases hr
   have hb:=hs (b=true) (by simp)
   exact pT.pure hH (run (.int .i64 p) _ (h1 hb) rfl) (tV _ _ _ _)
  ·cases hr
   have hb:=hs (b=true) (by simp)
   exact pT.pure hH (run (.int .i32 c) _ (h1 hb) rfl) (tV _ _ _ _)
  ·cases hr
 rotate_left
 ·rename_i l _
  obtain⟨vs,hv,hl⟩:=hx
  have key: ∀(l:List ((Σ t:Ty,t.den)×Option Nat)) (vs:List Value) (i:Nat),IB g w l vs→P6 l i=some e→∃v,vs[i]? =some v∧RdS g w e.slot v∧e.upd=[]∧e.rds=[]:=by
   intro l
   induction l with
   |nil=>intro vs i _ h;cases i<;>cases h
   |cons q l ih=>
    obtain⟨⟨t,x⟩,k⟩:=q
    rintro vs i ⟨v,vs',rfl,r1,r2,r3⟩ h
    cases i with
    |zero=>
     simp only[P6,Option.some.injEq] at h
     subst h
     refine⟨v,rfl,⟨r1,?_⟩,rfl,rfl⟩
     cases k with
     |none=>trivial
     |some k=>exact r2
    |succ i=>
     obtain⟨v',h1,h2,h3,h4⟩:=ih vs' i r3 h
     exact⟨v',by simpa using h1,h2,h3,h4⟩
  obtain⟨v,h1,h2,h3,h4⟩:=key l vs i hl hr
  obtain⟨side,slot,upd,rds⟩:=e
  simp only at h2 h3 h4
  subst h3
  refine pT.value (v:=v) (g':=g) (w':=w) ?_ (.pure hH h2)
  have:vs.toArray[i]? =some v:=by simpa using h1
  simp [execOp,ho,hv,Instr.extract,this]
 ·cases hr
theorem aFL {x:Operand}(ho:o.op= .nilCheck x) {sx:Slot}(hx:RdS g w sx (a.eval x)) {e:Eff}(hr:UK sx=some e):pT P o a g w H e:=by
 replace hx:=hx.1
 unfold UK at hr
 split at hr
 ·rename_i p _
  obtain⟨i,off⟩:=p
  cases hr
  obtain⟨p,hp,hv⟩:=xG hx
  refine pT.pure hH (v:=a.eval x) ?_ hx
  simp [execOp,ho,hv]
 ·cases hr
  obtain⟨b,off,cs,hv,h⟩:=hx
  refine pT.pure hH (v:=a.eval x) ?_ ⟨b,off,cs,hv,h⟩
  simp [execOp,ho,hv]
 ·cases hr
  obtain⟨b,cap,h1,h2,h3,hv⟩:=hx
  refine pT.pure hH (v:=a.eval x) ?_ ⟨b,cap,h1,h2,h3,hv⟩
  simp [execOp,ho,hv]
 ·cases hr
theorem aFM {t:TypeId}{x ix:Operand}(ho:o.op= .index t x ix) {sx si:Slot}(hx:RdS g w sx (a.eval x)) (hi:RdS g w si (a.eval ix)) {e:Eff}(hr:UO (q6 T t) sx si=some e) (hs: ∀p∈e.side,p):pT P o a g w H e:=by
 generalize hst:q6 T t=ot at hr
 replace hx:=hx.1
 replace hi:=hi.1
 unfold UO at hr
 split at hr
 ·rename_i _ _ _ _ l _ k i _
  cases hr
  have hb:=hs _ (List.mem_singleton.2 rfl)
  have h2:=(qY hT hst).2
  simp only[vI] at h2
  have hv:=vQ hx
  have hvi:=tC hi
  have hlt:(Int.toNat i)<List.length l:=uH hb.1 hb.2
  refine pT.pure hH (v:= .int .u8 (pD l i)) ?_ (tV _ _ _ _)
  have hget:(if (0:Int)≤i then(⟨List.toArray l⟩:ByteArray)[Int.toNat i]? else none)=some (l[Int.toNat i]):=by
   rw[if_pos hb.1]
   exact aFH l _ hlt
  have hbyte:pD l i=((l[Int.toNat i]).toNat:Int):=by
   unfold pD
   rw[List.getD_eq_getElem?_getD,List.getElem?_eq_getElem hlt];rfl
  simp only[execOp,ho,hv,hvi,Instr.index,asIntOf,Sem.run_bind,Sem.run_pure,Result.andThen_ok,run_underlying h2,hget,hbyte]
 ·cases hr
theorem aFN {t:TypeId}{x ix:Operand}(ho:o.op= .indexAddr t x ix) {sx si:Slot}(hx:RdS g w sx (a.eval x)) (hi:RdS g w si (a.eval ix)) {e:Eff}(hr:UN (q6 T t) sx si=some e) (hs: ∀p∈e.side,p):pT P o a g w H e:=by
 generalize hst:q6 T t=ot at hr
 replace hx:=hx.1
 replace hi:=hi.1
 unfold UN at hr
 split at hr
 ·rename_i t' el by' ar ls_ k n _ k' i _
  split at hr
  ·rename_i hpos
   cases hr
   have hb:=hs _ (List.mem_singleton.2 rfl)
   obtain⟨h2,h3,_⟩:=(qY hT hst).2
   obtain⟨ei,hei,hz⟩:=Option.map_eq_some_iff.1 h3
   simp only[Prod.mk.injEq] at hz
   have hvi:=tC hi
   obtain⟨hc,hv⟩:=hx
   rcases hv with⟨_,rfl⟩ |⟨b,cap,hv,hcap⟩
   ·exact absurd (Int.lt_of_le_of_lt hb.1 hb.2) (Int.lt_irrefl 0)
   refine pT.pure hH (v:= .pointer (some ⟨b,0+Int.toNat i*t'.cells,none⟩)) ?_ ⟨b,cap,by rw[←hv];exact hc,hb.1,hb.2,by rw[Nat.zero_add,Nat.add_zero]⟩
   simp only[execOp,ho,hv,hvi,Instr.indexAt,asIntOf,Sem.run_bind,Sem.run_pure,Result.andThen_ok,run_underlying h2,sizeOf,typeInfo,run_program,hei,hz.1,if_pos hb,Addr.add_mid]
  ·cases hr
 ·rename_i t' el by' ar ls_ t1 l _ k i _
  split at hr
  ·rename_i htt
   subst htt
   cases hr
   have hb:=hs _ (List.mem_singleton.2 rfl)
   obtain⟨h2,h3,_⟩:=(qY hT hst).2
   obtain⟨ei,hei,hz⟩:=Option.map_eq_some_iff.1 h3
   simp only[Prod.mk.injEq] at hz
   have hvi:=tC hi
   obtain⟨ad,cap,hv,hle,hl⟩:=A6 hx
   have hlt:(Int.toNat i)<List.length l:=uH hb.1 hb.2
   rcases hl with rfl|⟨b,off,rfl,hL⟩
   ·simp at hlt
   have hnth:l[Int.toNat i]? =some (pG t1 l i):=by
    unfold pG
    rw[List.getD_eq_getElem?_getD,List.getElem?_eq_getElem hlt];rfl
   obtain⟨cs,hc1,hc2,hc3,hc4⟩:=PY hL hnth
   refine pT.pure hH (v:= .pointer (some ⟨b,off+Int.toNat i*t1.cells,none⟩)) ?_ ⟨b,_,cs,rfl,hc2,hc3,hc4⟩
   simp only[execOp,ho,hv,hvi,Instr.indexAt,asIntOf,Sem.run_bind,Sem.run_pure,Result.andThen_ok,run_underlying h2,sizeOf,typeInfo,run_program,hei,hz.1,if_pos hb,Addr.add_mid]
  ·cases hr
 ·rename_i s u el by' ls_ i off _ k n _
  have hty:=qY hT hst
  generalize h1:(Ty.pair s u).offs (Int.toNat n)=o1 at hr
  generalize h2:(Ty.pair s u).fld (Int.toNat n)=o2 at hr
  unfold P5 at hr
  split at hr
  ·split at hr
   ·rename_i oo v hpos
    cases hr
    have hn0:=hs _ (List.mem_singleton.2 rfl)
    obtain⟨p,hp,hv⟩:=xG hx
    have hvi:=tC hi
    obtain⟨len,el',hu,hel,_⟩:=a7i hty rfl rfl
    obtain⟨k1,k2,k3,k4⟩:=V7 hel h1 h2
    obtain⟨ei,hei,hz⟩:=Option.map_eq_some_iff.1 k2
    have hb:(0:Int)≤n∧(n:Int)<(len:Int):=⟨hn0,a7j hn0 k1⟩
    refine pT.pure hH (v:= .pointer (some ⟨p.1,p.2+off+oo,none⟩)) ?_ (.inr ⟨rfl,p,hp,by rw[Nat.add_assoc]⟩)
    simp only[execOp,ho,hv,hvi,Instr.indexAt,Instr.sureAddr,asIntOf,Sem.run_bind,Sem.run_pure,Result.andThen_ok,run_underlying hu,sizeOf,typeInfo,run_program,hei,hz,if_pos hb,Addr.add_mid,k4]
   ·cases hr
  ·cases hr
 ·rename_i s u el by' ls_ u' y _ k n _
  split at hr
  ·rename_i hu'
   subst hu'
   have hty:=qY hT hst
   generalize hp:(Ty.pair s u).proj y (Int.toNat n)=q at hr
   cases q with
   |none=>cases hr
   |some q=>
    obtain⟨v,z⟩:=q
    simp only[P4] at hr
    split at hr
    ·rename_i hpos
     cases hr
     have hn0:=hs _ (List.mem_singleton.2 rfl)
     obtain⟨b,off,cs,hv,hra,hS,hR⟩:=hx
     have hvi:=tC hi
     obtain⟨oo,c1,c2,c3,h1,h2,rfl,rfl,h5⟩:=V5 hR hp
     obtain⟨len,el',hu,hel,_⟩:=a7i hty rfl rfl
     obtain⟨k1,k2,k3,k4⟩:=V7 hel h1 h2
     obtain⟨ei,hei,hz⟩:=Option.map_eq_some_iff.1 k2
     have hb:(0:Int)≤n∧(n:Int)<(len:Int):=⟨hn0,a7j hn0 k1⟩
     refine pT.pure hH (v:= .pointer (some ⟨b,off+c1.length,none⟩)) ?_ ⟨b,off+c1.length,c2,rfl,fun j v hj=> ?_,fun j hj=> ?_,h5⟩
     ·simp only[execOp,ho,hv,hvi,Instr.indexAt,Instr.sureAddr,asIntOf,Sem.run_bind,Sem.run_pure,Result.andThen_ok,run_underlying hu,sizeOf,typeInfo,run_program,hei,hz,if_pos hb,Addr.add_mid,←k4]
     ·have:=hra (c1.length+j) v (by
       have hj':=(List.getElem?_eq_some_iff.1 hj).1
       rw[List.append_assoc,List.getElem?_append_right (by omega),Nat.add_sub_cancel_left,List.getElem?_append_left hj'];exact hj)
      rw[Nat.add_assoc];exact this
     ·have:=hS (c1.length+j) (by
       have:=qU hR
       have h6:=qU h5
       simp only[List.length_append] at this
       omega)
      rw[Nat.add_assoc];exact this
    ·cases hr
  ·cases hr
 ·cases hr
end
end Go.Proofs.YtbbpilohihldiaaGreatDoor.Vc
namespace Go.Proofs.YtbbpilohihldiaaGreatDoor.Vc
open Go.RowKit
set_option linter.unusedSectionVars false
theorem a7k (off:Nat): ∀(vl:List Value) (k:Nat) (cs:Array Value) (c1 c2 c3:List Value),cs.toList=c1++c2++c3→c1.length=off+k→c2.length=vl.length→
  ((vl.zipIdx k).foldl (fun(cs:Array Value) (p:Value×Nat)=>cs.setIfInBounds (off+p.2) p.1) cs).toList=c1++vl++c3
 |[],_,cs,c1,c2,c3,h,_,h2=>by
  have:c2=[]:=List.eq_nil_of_length_eq_zero (by simpa using h2)
  subst this
  simpa using h
 |v::vl,k,cs,c1,c2,c3,h,h1,h2=>by
  cases c2 with
  |nil=>simp at h2
  |cons u c2=>
   simp only[List.zipIdx_cons,List.foldl_cons]
   have:=a7k off vl (k+1) (cs.setIfInBounds (off+k) v) (c1++[v]) c2 c3 (by
    rw[Array.toList_setIfInBounds,h,←h1]
    simp) (by simp;omega) (by simpa using h2)
   rw[this]
   simp
theorem aFO (off:Nat) (vs cs:Array Value) (c1 c2 c3:List Value) (h:cs.toList=c1++c2++c3) (h1:c1.length=off) (h2:c2.length=vs.size):
  (vs.zipIdx.foldl (fun(cs:Array Value) (x:Value×Nat)=>match x with|(c,j)=>cs.setIfInBounds (off+j) c) cs).toList=c1++vs.toList++c3:=by
 rw[←Array.foldl_toList,Array.toList_zipIdx]
 exact a7k off vs.toList 0 cs c1 c2 c3 h (by omega) (by simpa using h2)
theorem a7l {place:Nat→Option (Nat×Nat)}{cells:Array Value}{i:Nat}{v:Value}{rest:List (Nat×Value)}{off size:Nat}{c1 c2 c3:List Value}(hp:place i=some (off,size)) (hs:v.cells.size=size)
  (h:cells.toList=c1++c2++c3) (h1:c1.length=off) (h2:c2.length=size):
  Instr.fill place cells ((i,v)::rest)=Instr.fill place (c1++v.cells.toList++c3).toArray rest:=by
 have hsz:cells.size=c1.length+c2.length+c3.length:=by rw[←Array.length_toList,h];simp;omega
 simp only[Instr.fill,hp]
 rw[if_neg (by simp [hs];omega)]
 congr 1
 apply Array.toList_inj.1
 rw[aFO off v.cells cells c1 c2 c3 h h1 (by omega)]
theorem VA: ∀{t:Ty}{cs:List Value},I0 t=false→cs.length=t.cells→uR t cs
 | .bool,_,_,_=>trivial
 | .int _,_,_,_=>trivial
 | .str,_,_,_=>trivial
 | .unit,_,_,_=>trivial
 | .ref,_,_,_=>trivial
 | .clo,_,_,_=>trivial
 | .mp,_,_,_=>trivial
 | .rl _ _,_,_,_=>trivial
 | .fn,_,_,_=>trivial
 | .mref,_,_,_=>trivial
 | .list _,_,h,_=>by simp [I0] at h
 | .pair a b,cs,h,hl=>by
  simp only[I0,Bool.or_eq_false_iff] at h
  simp only[Ty.cells] at hl
  exact⟨cs.take a.cells,cs.drop a.cells,by simp,by rw[List.length_take];omega,VA h.1 (by rw[List.length_take];omega),VA h.2 (by rw[List.length_drop];omega)⟩
theorem VB: ∀t:Ty,(rI t).length=t.cells
 | .bool=>rfl
 | .int _=>rfl
 | .str=>rfl
 | .unit=>rfl
 | .ref=>rfl
 | .clo=>rfl
 | .mp=>rfl
 | .rl _ _=>rfl
 | .fn=>rfl
 | .mref=>rfl
 | .list _=>rfl
 | .pair a b=>by simp only[rI,List.length_append,VB a,VB b,Ty.cells]
theorem PZ: ∀t:Ty,uR t (rI t)
 | .bool=>trivial
 | .int _=>trivial
 | .str=>trivial
 | .unit=>trivial
 | .ref=>trivial
 | .clo=>trivial
 | .mp=>trivial
 | .rl _ _=>trivial
 | .fn=>trivial
 | .mref=>trivial
 | .list _=>rfl
 | .pair a b=>⟨rI a,rI b,rfl,VB a,PZ a,PZ b⟩
theorem a7m {g:Gh}{w:World}: ∀{t:Ty}{x:t.den}{cs:List Value}{o:Nat},uR t cs→Rd g w t x cs→AZ t o=true→∃(u:Ty),pM (.list u) t x o=some []∧cs[o]? =some (.slice none 0 0):=by
 intro t
 induction t with
 |pair a b iha ihb=>
  intro x cs o hn hr hl
  obtain⟨c1,c2,e,h1,h2,h3⟩:=hn
  obtain⟨d1,d2,e',r1,r2⟩:=hr
  have hd:c1=d1∧c2=d2:=List.append_inj (e.symm.trans e') (by rw[h1,qU r1])
  obtain⟨rfl,rfl⟩:=hd
  have key: ∀(u:Ty) q,pM (.list u) (.pair a b) x q=if q<a.cells then pM (.list u) a x.1 q else pM (.list u) b x.2 (q-a.cells):=by
   intro u q
   cases q with
   |zero=>
    conv=>lhs;unfold pM
    rw[dif_neg (by intro e;cases e),Nat.zero_sub]
   |succ q=>simp [pM]
  have hl':(if o<a.cells then AZ a o else AZ b (o-a.cells))=true:=by
   cases o<;>simpa[AZ] using hl
  by_cases ho:o<a.cells
  ·rw[if_pos ho] at hl'
   obtain⟨u,k1,k2⟩:=iha h2 r1 hl'
   exact⟨u,by rw[key,if_pos ho];exact k1,by rw[e,List.getElem?_append_left (by omega)];exact k2⟩
  ·rw[if_neg ho] at hl'
   obtain⟨u,k1,k2⟩:=ihb h3 r2 hl'
   exact⟨u,by rw[key,if_neg ho];exact k1,by rw[e,List.getElem?_append_right (by omega),h1];exact k2⟩
 |list u=>
  intro x cs o hn hr hl
  cases o with
  |succ o=>simp [AZ] at hl
  |zero=>
   obtain⟨a,cap,e,_,_⟩:=hr
   have hn':cs=[.slice none 0 0]:=hn
   rw[hn'] at e
   simp only[List.cons.injEq,Value.slice.injEq,and_true] at e
   have:(x:List u.den)=[]:=List.eq_nil_of_length_eq_zero e.2.1.symm
   subst this
   exact⟨u,by unfold pM;simp [rU],by rw[hn'];rfl⟩
 |_=>intro x cs o hn hr hl;cases o<;>simp [AZ] at hl
theorem aFP {g:Gh}{w:World}{u:Ty}{y:u.den}{cy:List Value}(hy:Rd g w u y cy): ∀{t:Ty}{x z:t.den}{cs:List Value}{f:Nat},Rd g w t x cs→Ty.setPart u y t x f=some z→
  ∃o c1 c2 c3,t.offs f=some o∧t.fld f=some u∧cs=c1++c2++c3∧c1.length=o∧c2.length=u.cells∧Rd g w t z (c1++cy++c3)∧(uR t cs→uR u cy→uR t (c1++cy++c3)):=by
 intro t
 induction t with
 |pair a b _ ihb=>
  intro x z cs f r h
  obtain⟨c1,c2,e,r1,r2⟩:=r
  cases f with
  |zero=>
   simp only[Ty.setPart] at h
   split at h
   ·rename_i hu
    subst hu
    simp only[rU,Option.some.injEq] at h
    subst h
    refine⟨0,[],c1,c2,rfl,rfl,by simpa using e,rfl,qU r1,⟨cy,c2,by simp,hy,r2⟩,fun⟨d1,d2,e',k1,_,k3⟩ hcy=> ?_⟩
    obtain⟨rfl,rfl⟩:=List.append_inj (e'.symm.trans e) (by rw[k1,qU r1])
    exact⟨cy,d2,by simp,qU hy,hcy,k3⟩
   ·cases h
  |succ f=>
   simp only[Ty.setPart,Option.map_eq_some_iff] at h
   obtain⟨q,hq,rfl⟩:=h
   obtain⟨o,d1,d2,d3,h1,h2,h3,h4,h5,h6,h7⟩:=ihb r2 hq
   refine⟨a.cells+o,c1++d1,d2,d3,by simp [Ty.offs,h1],by simpa[Ty.fld] using h2,by rw[e,h3];simp,?_,h5,⟨c1,d1++cy++d3,by simp,r1,h6⟩,fun⟨k1,k2,e',k3,k4,k5⟩ hcy=>by
    obtain⟨rfl,rfl⟩:=List.append_inj (e'.symm.trans e) (by rw[k3,qU r1])
    exact⟨k1,d1++cy++d3,by simp,k3,k4,h7 k5 hcy⟩⟩
   rw[List.length_append,h4,qU r1]
 |_=>intro x z cs f r h;cases f<;>simp [Ty.setPart] at h
theorem VC {g:Gh}{w:World}{t:Ty}{ev:Operand→Value}{ρ:Operand→Slot}{place:Nat→Option (Nat×Nat)}(hp: ∀f o u,t.offs f=some o→t.fld f=some u→place f=some (o,u.cells)):
  ∀(ps:List (Nat×Operand)) (x z:t.den) (cs:List Value),Rd g w t x cs→(∀q∈ps,RdS g w (ρ q.2) (ev q.2))→xD t (some x) (rY ρ ps)=some z→
  ∃cs',Instr.fill place cs.toArray (ps.map fun q=>(q.1,ev q.2))=some cs'.toArray∧Rd g w t z cs'∧(xZ (rY ρ ps)=true→uR t cs→uR t cs')
 |[],x,z,cs,r,_,h=>by
  simp only[rY,xD,Option.some.injEq] at h
  subst h
  exact⟨cs,rfl,r,fun _ h=>h⟩
 |(i,q)::ps,x,z,cs,r,hq,h=>by
  have h0:=hq (i,q) (by simp)
  have step: ∀{u:Ty}{y:u.den}{z1:t.den},r7 g w u y (ev q)→Ty.setPart u y t x i=some z1→xD t (some z1) (rY ρ ps)=some z→(xZ (rY ρ ((i,q)::ps))=true→uR u (ev q).cells.toList∧xZ (rY ρ ps)=true)→
    ∃cs',Instr.fill place cs.toArray (((i,q)::ps).map fun q=>(q.1,ev q.2))=some cs'.toArray∧Rd g w t z cs'∧(xZ (rY ρ ((i,q)::ps))=true→uR t cs→uR t cs'):=by
   intro u y z1 hv hset h hpl
   obtain⟨o,c1,c2,c3,h1,h2,rfl,h4,h5,h6,h7⟩:=aFP (B5 hv) r hset
   obtain⟨cs',hf,hr,hn⟩:=VC hp ps z1 z _ h6 (fun q hq'=>hq q (by simp [hq'])) h
   refine⟨cs',?_,hr,fun hpp hcs=>hn (hpl hpp).2 (h7 hcs (hpl hpp).1)⟩
   simp only[List.map_cons]
   rw[a7l (hp i o u h1 h2) (by have:=qU (B5 hv);simpa using this) (c1:=c1) (c2:=c2) (c3:=c3) (by simp) h4 h5]
   exact hf
  generalize hs:ρ q=s at h0
  simp only[rY,hs] at h
  obtain⟨d,k⟩:=s
  cases d with
  |val u y=>
   simp only[xD] at h
   generalize hset:Ty.setPart u y t x i=o1 at h
   cases o1 with
   |none=>cases ps with
    |nil=>simp [rY,xD] at h
    |cons p ps=>simp [rY,xD] at h
   |some z1=>
    have hpl:xZ (rY ρ ((i,q)::ps))=true→uR u (ev q).cells.toList∧xZ (rY ρ ps)=true:=by
     intro hpp
     simp only[rY,hs,xZ,Bool.and_eq_true,Bool.not_eq_true'] at hpp
     exact⟨VA hpp.1 (qU (B5 h0.1)),hpp.2⟩
    obtain⟨cs',k1,k2,k3⟩:=step h0.1 hset h hpl
    exact⟨cs',k1,k2,k3⟩
  |nilS=>
   simp only[xD] at h
   generalize hfl:t.fld i=fl at h
   cases fl with
   |none=>cases ps<;>simp [OJ,rY,xD] at h
   |some u=>
    cases u with
    |list u=>
     simp only[OJ] at h
     generalize hset:Ty.setPart (.list u) [] t x i=o1 at h
     cases o1 with
     |none=>cases ps<;>simp [rY,xD] at h
     |some z1=>
      have hev:ev q= .slice none 0 0:=h0.1
      refine step (u:= .list u) (y:=[]) ?_ hset h (fun hpp=> ?_)
      ·rw[hev]
       exact .inr ⟨rfl,none,0,rfl,Nat.le_refl _,.inl rfl⟩
      ·simp only[rY,hs,xZ] at hpp
       exact⟨by rw[hev];rfl,hpp⟩
    |_=>cases ps<;>simp [OJ,rY,xD] at h
  |_=>simp [xD] at h
section
variable {P:Program}{o:Oper}{a:Act}{g:Gh}{w:World}{H:Heap}{T:Types}(hT:TypesOk P T) (hH:HeapOk g w H)
include hT hH
theorem a7n {P:Program}(w:World): ∀(fs:List Field),(∀f∈fs,∃n,(P.info? f.type).map (·.size)=some n)→
  (fs.mapM (fun f=>do pure (f.offset,←sizeOf f.type):Field→Sem (Nat×Nat))).run P w= .ok (fs.map fun f=>(f.offset,((P.info? f.type).map (·.size)).getD 0)) w
 |[],_=>rfl
 |f::fs,h=>by
  obtain⟨n,hn⟩:=h f (by simp)
  obtain⟨i,hi,hsz⟩:=Option.map_eq_some_iff.1 hn
  rw[List.mapM_cons]
  simp only[Sem.run_bind,sizeOf,typeInfo,run_program,hi,Result.andThen_ok,Sem.run_pure]
  have:=a7n w fs (fun f hf=>h f (by simp [hf]))
  simp only[sizeOf,typeInfo,Sem.run_bind,run_program] at this
  rw[this]
  simp [hi]
theorem aFQ {P:Program}: ∀{ty:Ty}{off:Nat}{fs:List Field},ID P ty off fs→∀f∈fs,∃n,(P.info? f.type).map (·.size)=some n:=by
 intro ty
 induction ty with
 |pair a b _ ihb=>
  intro off fs h f hf
  cases fs with
  |nil=>cases hf
  |cons fd fs=>
   obtain⟨_,h2,_,h4⟩:=h
   rcases List.mem_cons.1 hf with rfl|hf
   ·exact⟨_,h2⟩
   ·exact ihb h4 f hf
 |unit=>intro off fs h f hf;cases fs with|nil=>cases hf|cons=>exact h.elim
 |_=>intro off fs h f hf;cases fs<;>exact h.elim
omit hT hH in
theorem Q0 {t:Ty}{x:t.den}{cs:List Value}{ps:List (Nat×Slot)}(h:xZ ps=true→uR t (rI t)→uR t cs):match ((DV.val t x,UF t (xZ ps)):Slot) with
  |(_,none)=>True
  |(.val t x,some k)=>zG g t x (.agg cs.toArray) (some k)
  |(_,some _)=>False:=by
 cases hp:xZ ps with
 |false=>cases t<;>trivial
 |true=>
  cases t with
  |pair a b=>
   have:=h hp (PZ _)
   simpa[UF,zG,Value.cells] using this
  |_=>trivial
omit hT in
theorem pT.pureS {s:Slot}{v:Value}(hr:(execOp a.eval o).run P w= .ok (.value v) w) (hs:RdS g w s v):pT P o a g w H ⟨[],s,[],[]⟩:=
 pT.value hr (.pure hH hs)
theorem aFR {t:TypeId}{ps:Array (Nat×Operand)}(ho:o.op= .build t ps) {ρ:Operand→Slot}(hρ: ∀q∈ps.toList,RdS g w (ρ q.2) (a.eval q.2)) {e:Eff}(hr:UG (rY ρ ps.toList) (q6 T t)=some e):pT P o a g w H e:=by
 generalize hs:q6 T t=ot at hr
 cases ot with
 |none=>cases hr
 |some ti=>
  have hty:=qY hT hs
  simp only[UG] at hr
  by_cases hrow:ti.ty.isRow=true
  case neg=>rw[if_neg hrow] at hr;cases hr
  rw[if_pos hrow] at hr
  generalize hb:xD ti.ty (some ti.ty.zero) (rY ρ ps.toList)=ox at hr
  cases ox with
  |none=>cases hr
  |some x=>
   cases hr
   obtain⟨i,hi,hsz,hz⟩:=CI hty
   have hzv:uF ti.ty= .agg (rI ti.ty).toArray:=by unfold uF;rw[if_pos hrow]
   have hzr: ∀w,(zeroValue t).run P w= .ok (.agg (rI ti.ty).toArray) w:=by
    intro w
    simp [zeroValue,typeInfo,hi,hz,hzv]
   have hmap:(ps.map fun(q:Nat×Operand)=>(q.1,a.eval q.2)).toList=ps.toList.map fun q=>(q.1,a.eval q.2):=by simp
   rcases V8 hty hrow with⟨har,fs,hfs,hfe⟩ |⟨har,n,el,hu,hel,hsome⟩
   ·have hpl:=a7n (P:=P) hT hH w fs.toList (aFQ hT hH hfe)
    obtain⟨cs',hf,hR,hN⟩:=VC (g:=g) (w:=w) (ev:=a.eval) (ρ:=ρ) (t:=ti.ty) (place:=fun j=>((fs.map fun f=>(f.offset,((P.info? f.type).map (·.size)).getD 0))[j]?)) (fun f oo u h1 h2=>by
     obtain⟨fd,k1,k2,k3,_⟩:=V6 hfe h1 h2
     have k1':fs[f]? =some fd:=by simpa using k1
     simp [k1',k2,k3]) ps.toList ti.ty.zero x (rI ti.ty) (A5 g w ti.ty) hρ hb
    refine pT.pureS hH (v:= .agg cs'.toArray) ?_ ⟨.inl ⟨hrow,cs',rfl,hR⟩,Q0 hN⟩
    have hmp:(fs.mapM (fun f=>do pure (f.offset,←sizeOf f.type):Field→Sem (Nat×Nat))).run P w= .ok (fs.map fun f=>(f.offset,((P.info? f.type).map (·.size)).getD 0)) w:=by
     rw[Array.mapM_eq_mapM_toList,Sem.run_map,hpl]
     simp only[Result.andThen_ok]
     congr 1
     apply Array.toList_inj.1
     simp
    simp only[execOp,ho,Instr.build,Sem.run_bind,hzr,Result.andThen_ok,run_underlying hfs,hmp,Value.cells]
    rw[hmap,hf]
    rfl
   ·obtain⟨cs',hf,hR,hN⟩:=VC (g:=g) (w:=w) (ev:=a.eval) (ρ:=ρ) (t:=ti.ty) (place:=fun j=>some (j*((P.info? el).map (·.size)).getD 0,((P.info? el).map (·.size)).getD 0)) (fun f oo u h1 h2=>by
     obtain⟨k1,k2,k3,k4⟩:=V7 hel h1 h2
     simp [k2,k4]) ps.toList ti.ty.zero x (rI ti.ty) (A5 g w ti.ty) hρ hb
    refine pT.pureS hH (v:= .agg cs'.toArray) ?_ ⟨.inl ⟨hrow,cs',rfl,hR⟩,Q0 hN⟩
    obtain⟨ei,hei⟩:=Option.isSome_iff_exists.1 hsome
    simp only[hei,Option.map_some,Option.getD_some] at hf
    simp only[execOp,ho,Instr.build,Sem.run_bind,hzr,Result.andThen_ok,run_underlying hu,sizeOf,typeInfo,run_program,hei,Sem.run_pure,Value.cells]
    rw[hmap,hf]
    rfl
theorem VD {ρ:Operand→Slot}{ev:Operand→Value}: ∀{xs:List Operand}{ss:List Slot},(∀x∈xs,RdS g w (ρ x) (ev x))→sV ρ xs=ss→∃vs,xs.map ev=vs∧vs.length=ss.length∧∀(i:Nat) (s:Slot) (v:Value),ss[i]? =some s→vs[i]? =some v→RdS g w s v
 |[],_,_,h=>⟨[],rfl,by rw[←h];rfl,fun i s v _ hv=>by simp at hv⟩
 |x::xs,ss,hx,h=>by
  subst h
  obtain⟨vs,h1,h2,h3⟩:=VD (fun y hy=>hx y (by simp [hy])) rfl (xs:=xs)
  refine⟨ev x::vs,by simp [h1],by simp [sV,h2],fun i s v hs hv=> ?_⟩
  cases i with
  |zero=>
   simp only[sV,List.getElem?_cons_zero,Option.some.injEq] at hs hv
   subst hs
   subst hv
   exact hx x (by simp)
  |succ i=>
   simp only[sV,List.getElem?_cons_succ] at hs hv
   exact h3 i s v hs hv
theorem Q1 {ρ:Operand→Slot}{ev:Operand→Value}{args:Array Operand}{s:Slot}(hρ: ∀x∈args.toList,RdS g w (ρ x) (ev x)) (h:sV ρ args.toList=[s]): ∃v,args.map ev= #[v]∧RdS g w s v:=by
 obtain⟨vs,h1,h2,h3⟩:=VD hT hH hρ h
 obtain⟨v,rfl⟩:=List.length_eq_one_iff.1 h2
 exact⟨v,by apply Array.toList_inj.1;simpa using h1,h3 0 s v rfl rfl⟩
theorem Q2 {ρ:Operand→Slot}{ev:Operand→Value}{args:Array Operand}{s t:Slot}(hρ: ∀x∈args.toList,RdS g w (ρ x) (ev x)) (h:sV ρ args.toList=[s,t]): ∃v u,args.map ev= #[v,u]∧RdS g w s v∧RdS g w t u:=by
 obtain⟨vs,h1,h2,h3⟩:=VD hT hH hρ h
 match vs,h2 with
 |[v,u],_=>exact⟨v,u,by apply Array.toList_inj.1;simpa using h1,h3 0 s v rfl rfl,h3 1 t u rfl rfl⟩
theorem CJ {b:Builtin}{args:Array Operand}{tys:Array TypeId}(ho:o.op= .call ⟨.builtin b,args,tys⟩):
  ∃cs,execOp a.eval o=builtin b tys o.type cs (args.map a.eval):=by
 refine⟨args.map fun| .const _=>true|_=>false,?_⟩
 unfold execOp
 rw[ho]
 rfl
theorem aFS (x y:Int):(if y<x then y else x)=min x y:=by rw[Int.min_def];split<;>split<;>omega
theorem aFT (x y:Int):(if y>x then y else x)=max x y:=by rw[Int.max_def];split<;>split<;>omega
theorem aFU {args:Array Operand}{tys:Array TypeId}(ho:o.op= .call ⟨.builtin .len,args,tys⟩) {ρ:Operand→Slot}(hρ: ∀x∈args.toList,RdS g w (ρ x) (a.eval x)) {e:Eff}
  (hr:PD T H (sV ρ args.toList) tys.toList=some e):pT P o a g w H e:=by
 obtain⟨t0,tr,htl⟩: ∃t0 tr,tys.toList=t0::tr:=by cases h:tys.toList with|nil=>(rw[h] at hr;cases hr) |cons t r=>exact⟨t,r,rfl⟩
 have ht0:tys[0]? =some t0:=by rw[←Array.getElem?_toList,htl];rfl
 rw[htl] at hr
 simp only[PD] at hr
 generalize hst:q6 T t0=ot at hr
 generalize hss:sV ρ args.toList=ss at hr
 unfold UQ at hr
 split at hr
 ·rename_i el fl ar ls_ i k
  generalize hb:getH H i=ob at hr
  unfold P7 at hr
  split at hr
  ·rename_i kt vt l
   cases hr
   obtain⟨v,hv,hs⟩:=Q1 hT hH hρ hss
   have h2:=(qY hT hst).2
   simp only[vI] at h2
   obtain⟨p,es,cl,hp,hp0,hh,hM,hS⟩:=hH.blk i _ hb
   obtain⟨p',hp',hxv⟩: ∃p,g.J i=some p∧v= .map (some p.1):=by
    rcases hs.1 with⟨h1,_⟩ |⟨_,p,h3,h4⟩
    ·cases h1
    ·simp only[List.cons.injEq,and_true] at h4
     exact⟨p,h3,h4⟩
   rw[hp] at hp'
   obtain rfl:=Option.some.inj hp'
   have hlen: ∀{l:List (kt.den×vt.den)}{es:List MapEntry},A2 g w kt vt l es→es.length=l.length:=by
    intro l
    induction l with
    |nil=>intro es h;rw[show es=[] from h];rfl
    |cons q l ih=>intro es h;obtain⟨e,es',rfl,_,_,h5⟩:=h;simp [ih h5]
   refine pT.pure hH (v:= .int .i64 (List.length l:Int)) ?_ (tV _ _ _ _)
   obtain⟨cs,hx⟩:=CJ (a:=a) hT hH ho
   rw[hx,hv,hxv]
   have harg:(#[Value.map (some p.1)]:Array Value)[0]? =some (.map (some p.1)):=rfl
   have hobj:(getObj p.1).run P w= .ok (.map es cl) w:=by simp [getObj,Sem.run,hh]
   simp only[builtin,Builtin.len_,ht0,harg,Sem.run_bind,run_underlying h2,Result.andThen_ok,Sem.run_pure,goInt,hobj]
   rw[←hlen hM,Array.length_toList]
  ·cases hr
 ·rename_i el by' ar ls_ l k
  cases hr
  obtain⟨v,hv,hs⟩:=Q1 hT hH hρ hss
  have h2:=(qY hT hst).2
  simp only[vI] at h2
  have hv':=vQ hs.1
  refine pT.pure hH (v:= .int .i64 (List.length l:Int)) ?_ (tV _ _ _ _)
  subst hv'
  obtain⟨cs,hx⟩:=CJ (a:=a) hT hH ho
  rw[hx,hv]
  have harg:(#[Value.string ⟨List.toArray l⟩]:Array Value)[0]? =some (.string ⟨List.toArray l⟩):=rfl
  simp only[builtin,Builtin.len_,ht0,harg,Sem.run_bind,run_underlying h2,Result.andThen_ok,Sem.run_pure,goInt]
  rfl
 ·rename_i u el by' ar ls_ t l k
  cases hr
  obtain⟨v,hv,hs⟩:=Q1 hT hH hρ hss
  have h2:=(qY hT hst).2.1
  obtain⟨ad,cap,rfl,_⟩:=A6 hs.1
  refine pT.pure hH (v:= .int .i64 (List.length l:Int)) ?_ (tV _ _ _ _)
  obtain⟨cs,hx⟩:=CJ (a:=a) hT hH ho
  rw[hx,hv]
  have harg:(#[Value.slice ad (List.length l) cap]:Array Value)[0]? =some (.slice ad (List.length l) cap):=rfl
  simp only[builtin,Builtin.len_,ht0,harg,Sem.run_bind,run_underlying h2,Result.andThen_ok,Sem.run_pure,goInt]
 ·rename_i u el by' ar ls_ ko n k
  cases hr
  obtain⟨v,hv,hs⟩:=Q1 hT hH hρ hss
  have h2:=(qY hT hst).2.1
  obtain⟨ad,cap,rfl⟩: ∃ad cap,v= .slice ad n cap:=by
   rcases hs.1.2 with⟨h,rfl⟩ |⟨b,cap,h,_⟩
   ·exact⟨_,_,h⟩
   ·exact⟨_,_,h⟩
  refine pT.pure hH (v:= .int .i64 (n:Int)) ?_ (tV _ _ _ _)
  obtain⟨cs,hx⟩:=CJ (a:=a) hT hH ho
  rw[hx,hv]
  have harg:(#[Value.slice ad n cap]:Array Value)[0]? =some (.slice ad n cap):=rfl
  simp only[builtin,Builtin.len_,ht0,harg,Sem.run_bind,run_underlying h2,Result.andThen_ok,Sem.run_pure,goInt]
 ·cases hr
theorem a7o {args:Array Operand}{tys:Array TypeId}{mx:Bool}(ho:o.op= .call ⟨.builtin (if mx then .max else .min),args,tys⟩) {ρ:Operand→Slot}(hρ: ∀x∈args.toList,RdS g w (ρ x) (a.eval x)) {e:Eff}
  (hr:xV (PB mx (sV ρ args.toList))=some e):pT P o a g w H e:=by
 obtain⟨q,hq,rfl⟩:=G6 hr
 generalize hss:sV ρ args.toList=ss at hq
 unfold PB at hq
 split at hq
 ·rename_i k x k1 k' y k2
  split at hq
  ·rename_i hk
   subst hk
   cases hq
   obtain⟨v,u,hv,hs1,hs2⟩:=Q2 hT hH hρ hss
   have e1:=tC hs1.1
   have e2:=tC hs2.1
   subst e1
   subst e2
   cases mx
   ·refine pT.pure hH (v:= .int k (min (x:Int) y)) ?_ (tV _ _ _ _)
    obtain⟨cs,hx⟩:=CJ (a:=a) hT hH ho
    rw[hx,hv]
    have:=aFS hT hH x y
    simp [builtin,Builtin.min_,Builtin.min2,this]
   ·refine pT.pure hH (v:= .int k (max (x:Int) y)) ?_ (tV _ _ _ _)
    obtain⟨cs,hx⟩:=CJ (a:=a) hT hH ho
    rw[hx,hv]
    have:=aFT hT hH x y
    simp [builtin,Builtin.max_,Builtin.max2,this]
  ·cases hq
 ·cases hq
theorem aFV {f:FuncId}{caps:Array Operand}(ho:o.op= .makeFunc (.func f) #[] caps) {ρ:Operand→Slot}(hρ: ∀x∈caps.toList,RdS g w (ρ x) (a.eval x)) {e:Eff}
  (hr:a6U f (FO (sV ρ caps.toList))=some e):pT P o a g w H e:=by
 generalize hc:FO (sV ρ caps.toList)=oc at hr
 cases oc with
 |none=>cases hr
 |some l=>
  cases hr
  have key: ∀(xs:List Operand) (l:List (Nat×Nat)),(∀x∈xs,RdS g w (ρ x) (a.eval x))→FO (sV ρ xs)=some l→v7 g l (xs.map a.eval):=by
   intro xs
   induction xs with
   |nil=>intro l _ h;simp only[sV,FO,Option.some.injEq] at h;subst h;rfl
   |cons x xs ih=>
    intro l hx h
    have h0:=hx x (by simp)
    generalize hs:ρ x=s at h0
    simp only[sV,hs] at h
    obtain⟨d,k⟩:=s
    unfold FO at h
    split at h
    ·cases ‹_=[]›
    ·rename_i p k r heq
     simp only[List.cons.injEq,Prod.mk.injEq] at heq
     obtain⟨⟨rfl,rfl⟩,rfl⟩:=heq
     obtain⟨l',hl',rfl⟩:=Option.map_eq_some_iff.1 h
     obtain⟨i,off⟩:=p
     obtain⟨p,hp,hv⟩:=xG h0.1
     exact⟨p,_,hp,by rw[List.map_cons,hv],ih l' (fun y hy=>hx y (by simp [hy])) hl'⟩
    ·cases h
  refine pT.pure hH (v:= .func (.func f) #[] (caps.map a.eval)) ?_ (.inr ⟨rfl,caps.toList.map a.eval,key _ _ hρ hc,by congr 2;apply Array.toList_inj.1;simp⟩)
  simp [execOp,ho,Instr.makeFunc]
end
end Go.Proofs.YtbbpilohihldiaaGreatDoor.Vc
namespace Go.Proofs.YtbbpilohihldiaaGreatDoor.Vc
open Go.RowKit
set_option linter.unusedSectionVars false
theorem VE {α:Type}{l:List α}{m n:Int}(h0:0≤m) (h1:m≤n) (h2:n≤(l.length:Int)):(pC l m n).length=n.toNat-m.toNat:=by
  unfold pC
  rw[List.length_take,List.length_drop]
  omega
theorem a7p {α:Type}{R:α→List Value→Prop}{c:Nat}: ∀{l:List α}{cs:List Value}{i:Nat}{x:α},rC R c l cs→l[i]? =some x→∃c1 c2 c3,cs=c1++c2++c3∧c1.length=i*c∧c2.length=c∧R x c2
  | y::l,_,0,x,⟨c1,c2,e,h1,h2,h3⟩,h=>by
    simp only[List.getElem?_cons_zero,Option.some.injEq] at h
    subst h
    exact⟨[],c1,c2,by simpa using e,by simp,h1,h2⟩
  | y::l,_,i+1,x,⟨c1,c2,e,h1,h2,h3⟩,h=>by
    simp only[List.getElem?_cons_succ] at h
    obtain⟨d1,d2,d3,e1,e2,e3,e4⟩:=a7p h3 h
    exact⟨c1++d1,d2,d3,by rw[e,e1];simp,by rw[List.length_append,h1,e2,Nat.succ_mul];omega,e3,e4⟩
theorem aFW {t:Ty}{l:List t.den}{i:Int}(h0:0≤i) (h:i.toNat<l.length):l[i.toNat]? =some (pG t l i):=by
  unfold pG
  rw[List.getD_eq_getElem?_getD,List.getElem?_eq_getElem h]
  rfl
section
variable {P:Program}{o:Oper}{a:Act}{g:Gh}{w:World}{H:Heap}{T:Types}(hT:TypesOk P T) (hH:HeapOk g w H)
include hT hH
theorem Q3 {t:TypeId}{ti:TI}(hty:rE P t ti) {x:ti.ty.den}{b off:Nat}{cs:List Value}(hra:w.rangeAt b off cs) (hR:Rd g w ti.ty x cs):
    ∃v,(Instr.loadAt t (.pointer (some ⟨b,off,none⟩))).run P w= .ok v w∧r7 g w ti.ty x v∧v.cells.toList=cs:=by
  obtain⟨d,hd,hrow⟩:=PX hty
  obtain⟨i,hi,hsz,_⟩:=CI hty
  have hl:=qU hR
  by_cases hr:ti.ty.isRow=true
  ·refine⟨.agg cs.toArray,run_loadAt_mid w b off t cs d hra hd (by rw[hrow,hr]) (by rw[hi,Option.map_some,hsz,hl]),.inl ⟨hr,cs,rfl,hR⟩,by simp [Value.cells]⟩
  · have hr':ti.ty.isRow=false:=by simpa using hr
    have h1:ti.ty.cells=1:=by
      obtain⟨ty,el,by',ar,ls⟩:=ti
      cases ty<;>first|rfl|(simp [Ty.isRow] at hr')
    obtain⟨v,rfl⟩: ∃v,cs=[v]:=by rw[h1] at hl;exact List.length_eq_one_iff.1 hl
    have hv1:=y4 hR v (by simp)
    refine⟨v,?_,.inr ⟨hr',hR⟩,by cases v<;>first|rfl|(simp [Value.oneCell'] at hv1)⟩
    have hc:w.cell? ⟨b,off,none⟩=some v:=by simpa using hra 0 v rfl
    have hagg:(isAgg t).run P w= .ok false w:=by
      unfold isAgg
      rw[Sem.run_bind,run_underlying hd w]
      rw[hr'] at hrow
      cases d<;>simp_all [TypeDesc.isRow]
    simp [Instr.loadAt,Instr.sureAddr,loadVar,Sem.run_bind,hagg,hc]
theorem LG {b off:Nat}{c1 c2 c3:List Value}(h:w.rangeAt b off (c1++c2++c3)):w.rangeAt b (off+c1.length) c2:=fun j v hj=>by
  have:=h (c1.length+j) v (by
    have hj':=(List.getElem?_eq_some_iff.1 hj).1
    rw[List.append_assoc,List.getElem?_append_right (by omega),Nat.add_sub_cancel_left,List.getElem?_append_left hj'];exact hj)
  rw[Nat.add_assoc];exact this
theorem a7q {k n c:Nat}{i:Int}{o':Nat}{v:Value}(hx:wR g w (.elt k n c i o') v) {e:TypeId}{t:Ty}{l:List t.den}{m:Nat}(hk:getH H k=some (.row e t l m)) (hnm:n=m) (hc:c=t.cells):
    ∃ b cap xs c1 c2 c3,v= .pointer (some ⟨b,i.toNat*c+o',none⟩)∧g.cur k m=some (.slice (some ⟨b,0,none⟩) m cap)∧w.ownsRow 0 e t.cells (.slice (some ⟨b,0,none⟩) m cap) m xs∧rC (Rd g w t) t.cells l xs∧l.length=m∧i.toNat<l.length∧0≤i∧
      xs=c1++c2++c3∧c1.length=i.toNat*c∧c2.length=c∧Rd g w t (pG t l i) c2:=by
  subst hnm
  subst hc
  obtain⟨b,cap,h1,h2,h3,hv⟩:=hx
  obtain⟨hl,v0,xs,hv0,hown,hF,hnone,hseal⟩:=hH.blk k _ hk
  rw[h1] at hv0
  obtain rfl:=Option.some.inj hv0
  have hi:i.toNat<l.length:=by rw[hl];omega
  obtain⟨c1,c2,c3,e1,e2,e3,e4⟩:=a7p hF (aFW h2 hi)
  exact⟨b,cap,xs,c1,c2,c3,hv,h1,hown,hF,hl,hi,h2,e1,e2,e3,e4⟩
theorem aFX {e:TypeId}{c n:Nat}{q cap:Nat}{xs:List Value}(h:w.ownsRow 0 e c (.slice (some ⟨q,0,none⟩) n cap) n xs):w.rangeAt q 0 xs:=fun j u hu=>by
  have:=h.cells (g:=q) rfl j u hu
  rwa [Addr.add_mid] at this
theorem aFY {t:TypeId}{ti:TI}(hst:q6 T t=some ti) {k n c:Nat}{i:Int}{o':Nat}{vx:Value}(hx:wR g w (.elt k n c i o') vx) {e:Eff}(hr:KW ti.ty k n c i o' (getH H k)=some e) (hs: ∀p∈e.side,p):
    ∃v,(Instr.loadAt t vx).run P w= .ok v w∧RdS g w e.slot v∧e.upd=[]:=by
  generalize hk:getH H k=ob at hr
  unfold KW at hr
  split at hr
  · rename_i e' t' l m
    split at hr
    · rename_i hc
      generalize hga:pM ti.ty t' (pG t' l i) o'=oy at hr
      cases oy with
      |none=>cases hr
      | some y=>
        cases hr
        have hnm:=hs _ (List.mem_singleton.2 rfl)
        obtain⟨b,cap,xs,c1,c2,c3,hv,hcur,hown,hF,hl,hi,h0,e1,e2,e3,e4⟩:=a7q hT hH hx hk hnm hc
        obtain⟨d1,d2,d3,f1,f2,f3⟩:=B4 e4 hga
        have hra:=aFX hT hH hown
        rw[e1] at hra
        have hra2:=LG hT hH hra
        rw[f1] at hra2
        have hra3:=LG hT hH hra2
        rw[Nat.zero_add,e2,f2] at hra3
        obtain⟨v,h1,h2,_⟩:=Q3 hT hH (qY hT hst) hra3 f3
        exact⟨v,by rw[hv];exact h1,⟨h2,trivial⟩,rfl⟩
    ·cases hr
  ·cases hr
theorem VF: ∀{toks:List (Nat×Nat)}{q k:Nat},uE toks q=some k→(q,k)∈toks
  |[],_,_,h=>by simp [uE] at h
  | (q',k')::r,q,k,h=>by
    simp only[uE] at h
    split at h
    · rename_i e
      subst e
      simp only[Option.some.injEq] at h
      subst h
      simp
    ·exact List.mem_cons_of_mem _ (VF h)
theorem a7r {u v:Ty}: ∀{t:Ty}{x:t.den}{q:Nat}{l:List u.den}{y:v.den},pM (.list u) t x q=some l→pM v t x q=some y→v.isRow=false→∃h:v= .list u,rU h y=l:=by
  intro t
  induction t with
  | pair s t ihs iht=>
    intro x q l y h1 h2 hv
    have key: ∀q,(if q<s.cells then pM (.list u) s x.1 q else pM (.list u) t x.2 (q-s.cells))=some l→(if q<s.cells then pM v s x.1 q else pM v t x.2 (q-s.cells))=some y→∃h:v= .list u,rU h y=l:=by
      intro q h1 h2
      by_cases hq:q<s.cells
      ·rw[if_pos hq] at h1 h2;exact ihs h1 h2 hv
      ·rw[if_neg hq] at h1 h2;exact iht h1 h2 hv
    cases q with
    | zero=>
      have e1:Ty.pair s t≠.list u:=by intro h;cases h
      have e2:Ty.pair s t≠v:=by intro h;subst h;simp [Ty.isRow] at hv
      unfold pM at h1 h2
      rw[dif_neg e1] at h1
      rw[dif_neg e2] at h2
      exact key 0 (by simpa using h1) (by simpa using h2)
    |succ q=>exact key (q+1) (by simpa[pM] using h1) (by simpa[pM] using h2)
  | _=>
    intro x q l y h1 h2 hv
    cases q with
    | zero=>
      unfold pM at h1 h2
      split at h1
      · rename_i e1
        split at h2
        · rename_i e2
          first
          |(cases e1;done)
          | (subst e2
             injection e1 with e1'
             subst e1'
             simp only[rU,Option.some.injEq] at h1 h2
             subst h1
             subst h2
             exact⟨rfl,rfl⟩)
        ·simp at h2
      ·simp at h1
    |succ q=>simp [pM] at h1
theorem aFZ {t:TypeId}{ti:TI}(hty:rE P t ti) (hr:ti.ty.isRow=false) {b off:Nat}{v:Value}(hc:w.cell? ⟨b,off,none⟩=some v):
    (Instr.loadAt t (.pointer (some ⟨b,off,none⟩))).run P w= .ok v w:=by
  obtain⟨d,hd,hrow⟩:=PX hty
  have hagg:(isAgg t).run P w= .ok false w:=by
    unfold isAgg
    rw[Sem.run_bind,run_underlying hd w]
    rw[hr] at hrow
    cases d<;>simp_all [TypeDesc.isRow]
  simp [Instr.loadAt,Instr.sureAddr,loadVar,Sem.run_bind,hagg,hc]
omit hT hH in
theorem a7s {a b:Option Eff}{e:Eff}(h:fS a b=some e):a=some e∨b=some e:=by
  cases a with
  |some r=>exact .inl h
  |none=>exact .inr h
theorem aF0 {t:TypeId}{ti:TI}{x:Operand}(ho:o.op= .load t x) (hs:q6 T t=some ti) {i off:Nat}(hx:r7 g w .ref (some (i,off)) (a.eval x)) {e:Eff}(hr:OW i off ti (getH H i)=some e):pT P o a g w H e:=by
  have hty:=qY hT hs
  generalize hb:getH H i=ob at hr
  unfold OW at hr
  split at hr
  · rename_i u el _ _ _ v x' toks
    generalize hga:pM (.rl el u) v x' off=oy at hr
    unfold UI at hr
    split at hr
    · rename_i k n
      cases hr
      obtain⟨p,hp,hv⟩:=xG hx
      obtain⟨p',cs,hp',hR,hra,_⟩:=hH.blk i _ hb
      rw[hp] at hp'
      obtain rfl:=Option.some.inj hp'
      obtain⟨c1,c2,c3,rfl,rfl,hR2⟩:=B4 hR hga
      obtain⟨v0,hcur,rfl,hsh⟩:=hR2
      have hc:w.cell? ⟨p.1,p.2+c1.length,none⟩=some v0:=by simpa using LG hT hH hra 0 _ rfl
      have h1:=aFZ (P:=P) hT hH hty rfl hc
      exact pT.value (v:=v0) (g':=g) (w':=w) (by simp only[execOp,ho,hv,Sem.run_bind,h1,Result.andThen_ok,Sem.run_pure]) (.pure hH ⟨⟨hcur,hsh⟩,trivial⟩)
    ·cases hr
  ·cases hr
theorem aF1 {t:TypeId}{x:Operand}(ho:o.op= .load t x) {sx:Slot}(hx:RdS g w sx (a.eval x)) {e:Eff}(hr:OX H (q6 T t) sx=some e) (hside: ∀p∈e.side,p):pT P o a g w H e:=by
  generalize hs:q6 T t=ot at hr
  replace hx:=hx.1
  unfold OX at hr
  split at hr
  · rename_i ti k n c i o' _
    obtain⟨v,h1,h2,h3⟩:=aFY hT hH hs hx hr hside
    obtain⟨side,slot,upd,rds⟩:=e
    simp only at h2 h3
    subst h3
    exact pT.value (v:=v) (g':=g) (w':=w) (by simp only[execOp,ho,Sem.run_bind,h1,Result.andThen_ok,Sem.run_pure]) (.pure hH h2)
  · rename_i ti u y k
    split at hr
    · rename_i hu
      subst hu
      cases hr
      have hty:=qY hT hs
      obtain⟨b,off,cs,hv,hra,hS,hR⟩:=hx
      obtain⟨v,h1,h2,_⟩:=Q3 hT hH hty hra hR
      exact pT.pure hH (v:=v) (by simp only[execOp,ho,hv,Sem.run_bind,h1,Result.andThen_ok,Sem.run_pure]) h2
    ·cases hr
  · rename_i ti i off k
    rcases a7s hr with hr|hr
    case inr=>exact aF0 hT hH ho hs hx hr
    have hty:=qY hT hs
    generalize hb:getH H i=ob at hr
    unfold KV at hr
    split at hr
    · rename_i u z toks
      generalize hga:pM ti.ty u z off=oy at hr
      cases oy with
      |none=>cases hr
      | some y=>
        cases hr
        obtain⟨p,hp,hv⟩:=xG hx
        obtain⟨p',cs,hp',hR,hra,_,_,htk⟩:=hH.blk i _ hb
        rw[hp] at hp'
        obtain rfl:=Option.some.inj hp'
        obtain⟨c1,c2,c3,rfl,rfl,hR2⟩:=B4 hR hga
        obtain⟨v,h1,h2,h3⟩:=Q3 hT hH hty (LG hT hH hra) hR2
        refine pT.value (v:=v) (g':=g) (w':=w) (by simp only[execOp,ho,hv,Sem.run_bind,h1,Result.andThen_ok,Sem.run_pure]) (.pure hH ⟨h2,?_⟩)
        obtain⟨ty,el,by',ar,ls⟩:=ti
        cases ty with
        | list u'=>
          simp only[C8]
          generalize htt:uE toks c1.length=ok
          cases ok with
          |none=>trivial
          | some k=>
            obtain⟨u2,l,v',g1,g2,g3⟩:=htk _ _ (VF hT hH htt)
            obtain⟨heq,hl⟩:=a7r hT hH g1 hga rfl
            injection heq with heq'
            subst heq'
            have hlen:=qU hR2
            obtain⟨v2,rfl⟩:=List.length_eq_one_iff.1 hlen
            have e2:v'=v2:=by
              have e:(c1++[v2]++c3)[c1.length]? =some v2:=by simp
              rw[e] at g2
              exact(Option.some.inj g2).symm
            have e3:v=v2:=by
              have h4:=yR rfl h2
              have hone:=y4 h4 v (by simp)
              have:v.cells= #[v]:=by cases v<;>first|rfl|(simp [Value.oneCell'] at hone)
              rw[this] at h3
              simpa using h3
            subst e2
            subst e3
            have e4:(y:List u'.den)=l:=hl
            subst e4
            exact g3
        |_=>trivial
    ·cases hr
  ·cases hr
theorem Q4 {ρ:Operand→Slot}{x:Option Operand}{n m:Int}(hρ: ∀y∈x.toList,RdS g w (ρ y) (a.eval y)) (h:zW (wA ρ x) n=some m):(x=none∧m=n)∨∃y k,x=some y∧a.eval y= .int k m:=by
  cases x with
  |none=>simp only[wA,zW,Option.some.injEq] at h;exact .inl ⟨rfl,h.symm⟩
  | some y=>
    have h0:=hρ y (by simp)
    simp only[wA] at h
    unfold zW at h
    split at h
    ·cases ‹some _=none›
    · rename_i k q kk heq
      simp only[Option.some.injEq] at heq h
      rw[heq] at h0
      subst h
      exact .inr ⟨y,k,rfl,tC h0.1⟩
    ·cases h
theorem a7t {isSlice:Bool}{len cap:Nat}{lo hi:Option Operand}{m n:Int}(hlo:(lo=none∧m=0)∨∃y k,lo=some y∧a.eval y= .int k m) (hhi:(hi=none∧n=(len:Int))∨∃y k,hi=some y∧a.eval y= .int k n)
    (h0:0≤m) (h1:m≤n) (h2:n≤(len:Int)) (h3:len≤cap):(Instr.sliceBounds isSlice len cap (lo.map a.eval) (hi.map a.eval) none).run P w= .ok (m.toNat,n.toNat,cap) w:=by
  have e1:(n.toNat:Int)=n:=Int.toNat_of_nonneg (by omega)
  rcases hlo with⟨rfl,rfl⟩ |⟨y,k,rfl,hy⟩<;>rcases hhi with⟨rfl,rfl⟩ |⟨z,k',rfl,hz⟩
  ·simp [Instr.sliceBounds]
  ·simp [Instr.sliceBounds,hz,run_sliceBound,(by omega:0≤n),(by omega:n≤(cap:Int))]
  ·simp [Instr.sliceBounds,hy,run_sliceBound,h0,h1]
  ·simp [Instr.sliceBounds,hy,hz,run_sliceBound,(by omega:0≤n),(by omega:n≤(cap:Int)),e1,h0,h1]
theorem aF2 {t:TypeId}{x:Operand}{lo hi:Option Operand}(ho:o.op= .slice t x lo hi none) {ρ:Operand→Slot}(hx:RdS g w (ρ x) (a.eval x)) (hlo: ∀y∈lo.toList,RdS g w (ρ y) (a.eval y)) (hhi: ∀y∈hi.toList,RdS g w (ρ y) (a.eval y)) {e:Eff}
    (hr:xV (U3 (q6 T t) (ρ x) (wA ρ lo) (wA ρ hi))=some e) (hs: ∀p∈e.side,p):pT P o a g w H e:=by
  obtain⟨q,hq,rfl⟩:=G6 hr
  replace hx:=hx.1
  generalize hst:q6 T t=ot at hq
  generalize hsx:ρ x=sx at hq hx
  unfold U3 at hq
  split at hq
  · rename_i el by' ar ls_ l k
    generalize hb1:zW (wA ρ lo) 0=o1 at hq
    generalize hb2:zW (wA ρ hi) (List.length l)=o2 at hq
    unfold OI at hq
    split at hq
    · rename_i m n
      cases hq
      obtain⟨k1,k2,k3⟩:=hs _ (List.mem_singleton.2 rfl)
      have h2:=(qY hT hst).2
      simp only[vI] at h2
      have hv:=vQ hx
      have hbd:=a7t (P:=P) (isSlice:=false) (cap:=List.length l) hT hH (Q4 hT hH hlo hb1) (Q4 hT hH hhi hb2) k1 k2 k3 (Nat.le_refl _)
      refine pT.pure hH (v:= .string ⟨(pC l m n).toArray⟩) ?_ (B6 _ _ _)
      have hsz:(⟨List.toArray l⟩:ByteArray).size=List.length l:=by simp [ByteArray.size]
      have hext:(⟨List.toArray l⟩:ByteArray).extract m.toNat n.toNat=⟨(pC l m n).toArray⟩:=by
        apply ByteArray.ext
        apply Array.toList_inj.1
        simp [pC]
      simp only[execOp,ho,hv,Option.map_none,Instr.sliceAt,Instr.slice,Sem.run_bind,run_underlying h2,Result.andThen_ok,Option.isSome_none,Bool.false_eq_true,if_false,hsz,hbd,hext,Sem.run_pure]
    ·cases hq
  · rename_i u el by' ar ls_ t1 l k
    split at hq
    · rename_i htu
      subst htu
      generalize hb1:zW (wA ρ lo) 0=o1 at hq
      generalize hb2:zW (wA ρ hi) (List.length l)=o2 at hq
      unfold OI at hq
      split at hq
      · rename_i m n
        cases hq
        obtain⟨k1,k2,k3⟩:=hs _ (List.mem_singleton.2 rfl)
        obtain⟨h2,h3,_⟩:=(qY hT hst).2
        obtain⟨ei,hei,hz⟩:=Option.map_eq_some_iff.1 h3
        simp only[Prod.mk.injEq] at hz
        obtain⟨ad,cap,hv,hle,hl⟩:=A6 hx
        have hbd:=a7t (P:=P) (isSlice:=true) (cap:=cap) hT hH (Q4 hT hH hlo hb1) (Q4 hT hH hhi hb2) k1 k2 k3 hle
        refine pT.pure hH (v:= .slice (if cap=m.toNat then ad else ad.map (·.add (m.toNat*t1.cells))) (n.toNat-m.toNat) (cap-m.toNat)) ?_ (.inr ⟨rfl,(if cap=m.toNat then ad else ad.map (·.add (m.toNat*t1.cells))),cap-m.toNat,?_,?_,?_⟩)
        ·simp only[execOp,ho,hv,Option.map_none,Instr.sliceAt,Instr.slice,Sem.run_bind,run_underlying h2,Result.andThen_ok,hbd,sizeOf,typeInfo,run_program,hei,hz.1,Sem.run_pure]
        ·rw[VE k1 k2 k3]
        ·rw[VE k1 k2 k3];omega
        · rcases hl with rfl|⟨b,off,rfl,hL⟩
          ·exact .inl (by simp [pC])
          · by_cases hc:cap=m.toNat
            · left
              apply List.eq_nil_of_length_eq_zero
              rw[VE k1 k2 k3]
              omega
            · right
              rw[if_neg hc]
              refine⟨b,off+m.toNat*t1.cells,by simp [Addr.add_mid],?_⟩
              exact a7g _ (a7f _ hL (by omega))
      ·cases hq
    ·cases hq
  ·cases hq
end
end Go.Proofs.YtbbpilohihldiaaGreatDoor.Vc
namespace Go.Proofs.YtbbpilohihldiaaGreatDoor.Vc
open Go.RowKit
set_option linter.unusedSectionVars false
theorem LH {α:Type}{R:α→List Value→Prop}{c:Nat}(hR: ∀x cs,R x cs→∀v∈cs,v.oneCell'=true): ∀{l:List α}{cs:List Value},rC R c l cs→∀v∈cs,v.oneCell'=true
 |[],_,h=>by rw[h];simp
 |_::_,_,⟨c1,c2,e,_,h2,h3⟩=>by
  subst e
  intro v hv
  rcases List.mem_append.1 hv with h|h
  ·exact hR _ _ h2 v h
  ·exact LH hR h3 v h
theorem VG {α:Type}{R:α→List Value→Prop}{c:Nat}: ∀{l:List α}{cs cy:List Value}{i:Nat}{y:α},rC R c l cs→R y cy→cy.length=c→i<l.length→
  ∃c1 c2 c3,cs=c1++c2++c3∧c1.length=i*c∧c2.length=c∧rC R c (l.set i y) (c1++cy++c3)
 |[],_,_,_,_,_,_,_,h=>by simp at h
 |_::l,_,cy,0,y,⟨c1,c2,e,h1,_,h3⟩,hy,hc,_=>⟨[],c1,c2,by simpa using e,by simp,h1,⟨cy,c2,by simp,hc,hy,h3⟩⟩
 |x::l,_,cy,i+1,y,⟨c1,c2,e,h1,h2,h3⟩,hy,hc,hi=>by
  obtain⟨d1,d2,d3,e1,e2,e3,e4⟩:=VG h3 hy hc (by simpa using hi)
  refine⟨c1++d1,d2,d3,by rw[e,e1];simp,by rw[List.length_append,h1,e2,Nat.succ_mul];omega,e3,⟨c1,d1++cy++d3,by simp,h1,h2,e4⟩⟩
theorem IE {α:Type}{R:α→List Value→Prop}{w:World}{S:Nat→Nat→Prop}{c b:Nat}: ∀{l:List α}{o:Nat},vH R w S c b o l→∃cs,rC R c l cs∧w.rangeAt b o cs∧∀j,j<l.length*c→S b (o+j)
 |[],o,_=>⟨[],rfl,fun j v h=>by simp at h,fun j h=>by simp at h⟩
 |x::l,o,⟨⟨c1,h1,h2,h3,h4⟩,h5⟩=>by
  obtain⟨c2,k1,k2,k3⟩:=IE h5
  refine⟨c1++c2,⟨c1,c2,rfl,h1,h4,k1⟩,fun j v hv=> ?_,fun j hj=> ?_⟩
  ·by_cases hj:j<c
   ·exact h2 j v (by rwa [List.getElem?_append_left (by omega)] at hv)
   ·have:=k2 (j-c) v (by rw[List.getElem?_append_right (by omega),h1] at hv;exact hv)
    rwa [show o+c+(j-c)=o+j from by omega] at this
  ·by_cases hj':j<c
   ·exact h3 j hj'
   ·have:=k3 (j-c) (by rw[List.length_cons,Nat.succ_mul] at hj;omega)
    rwa [show o+c+(j-c)=o+j from by omega] at this
theorem IF {α:Type}{R:α→List Value→Prop}{w:World}{S:Nat→Nat→Prop}{c b:Nat}: ∀{l:List α}{o:Nat}{cs:List Value},rC R c l cs→w.rangeAt b o cs→(∀j,j<l.length*c→S b (o+j))→vH R w S c b o l
 |[],_,_,_,_,_=>trivial
 |x::l,o,cs,⟨c1,c2,e,h1,h2,h3⟩,hr,hS=>by
  subst e
  refine⟨⟨c1,h1,fun j v hv=>hr j v (by rw[List.getElem?_append_left (List.getElem?_eq_some_iff.1 hv).1];exact hv),fun j hj=>hS j (by rw[List.length_cons,Nat.succ_mul];omega),h2⟩,IF h3 (fun j v hv=> ?_) (fun j hj=> ?_)⟩
  ·have:=hr (c+j) v (by rw[List.getElem?_append_right (by omega),h1,Nat.add_sub_cancel_left];exact hv)
   rwa [←Nat.add_assoc] at this
  ·have:=hS (c+j) (by rw[List.length_cons,Nat.succ_mul];omega)
   rwa [←Nat.add_assoc] at this
theorem a7u {g:Gh}{w:World}{t:Ty}: ∀n,rC (Rd g w t) t.cells (zD t n) (List.flatten (List.replicate n (rI t)))
 |0=>rfl
 |n+1=>⟨rI t,_,rfl,qU (A5 g w t),A5 g w t,a7u n⟩
theorem a7v (t:Ty): ∀n,(zD t n).length=n
 |0=>rfl
 |n+1=>by simp [zD,a7v t n]
def Gh.tok (g:Gh) (k n:Nat) (v:Value):Gh:={g with cur:=fun k' n'=>if k'=k∧n'=n then some v else g.cur k' n'}
def Gh.var (g:Gh) (i b:Nat) (k:Option (TypeId×Nat)):Gh:={g with J:=fun i'=>if i'=i then some ⟨b,0,k⟩ else g.J i'}
def Gh.shut (g:Gh) (b m:Nat):Gh:={g with S:=fun b' o=>g.S b' o∨(b'=b∧o<m)}
section
variable {g:Gh}{w:World}{H:Heap}(hH:HeapOk g w H)
include hH
theorem EffOk.nilTok {side:List Prop}{d:DV}{rds:List Nat}{base e c:Nat}{u:Ty}(hd:d= .val (.list u) []) (hf: ∀n,g.cur base n=none):
  EffOk g w H ⟨side,(d,some base),[(base,.grow e c 0)],rds⟩ (g.tok base 0 (.slice none 0 0)) w (.slice none 0 0):=by
 have le:Le g w (g.tok base 0 (.slice none 0 0)) w:=⟨fun _ _ h=>h,fun _ _ _=>rfl,fun _ _ h=>h,fun k n v h=>by
  show (if k=base∧n=0 then _ else _)=_
  rw[if_neg (fun⟨e1,_⟩=>by rw[e1,hf] at h;cases h)];exact h⟩
 have fr:Fr (ownsIn g H (idsOf [(base,Blk.grow e c 0)])) w w g.S (g.tok base 0 (.slice none 0 0)).S:= .refl _ _ _
 have gho: ∀i,i∉idsOf [(base,Blk.grow e c 0)]→(g.tok base 0 (.slice none 0 0)).J i=g.J i∧(g.tok base 0 (.slice none 0 0)).cur i=g.cur i:=fun i hi=>⟨rfl,by
  funext n
  show (if i=base∧n=0 then _ else _)=_
  rw[if_neg (fun⟨e1,_⟩=>hi (by simp [idsOf,e1]))]⟩
 have cur0:(g.tok base 0 (.slice none 0 0)).cur base 0=some (.slice none 0 0):=by simp [Gh.tok]
 have own: ∀i blk b o,i∈idsOf [(base,Blk.grow e c 0)]→getH (app [(base,Blk.grow e c 0)] H) i=some blk→¬owns (g.tok base 0 (.slice none 0 0)) i blk b o:=by
  intro i blk b o hi hg ho
  simp only[idsOf,List.mem_singleton] at hi
  subst hi
  simp only[app,getH,if_true,Option.some.injEq] at hg
  subst hg
  obtain⟨v,hv,hb⟩:=ho
  rw[cur0] at hv
  obtain rfl:=Option.some.inj hv
  cases hb
 subst hd
 refine⟨le,⟨.inr ⟨rfl,none,0,rfl,Nat.le_refl _,.inl rfl⟩,cur0⟩,hH.upd le fr (fun i blk b o h1 h2 h3=>absurd h3 (own i blk b o h1 h2)) gho (fun i blk hi hg=> ?_) (fun i j bi bj b o hi hj hij hgi hgj hoi hoj=>own i bi b o hi hgi hoi) hH.sl,fr,fun i blk b o h1 h2 h3=>absurd h3 (own i blk b o h1 h2),gho,fun i u' y us h=>by
  simp only[app,getH] at h
  split at h
  ·cases h
  ·exact .inl ⟨y,us,h⟩⟩
 simp only[idsOf,List.mem_singleton] at hi
 subst hi
 simp only[app,getH,if_true,Option.some.injEq] at hg
 subst hg
 refine⟨.slice none 0 0,[],cur0,World.ownsRow_nil w 0 e c,fun m hm=> ?_,fun b hb=>by cases hb⟩
 show (if i=i∧m=0 then _ else _)=_
 rw[if_neg (by omega)]
 exact hf m
theorem EffOk.row {side:List Prop}{rds:List Nat}{s:Slot}{val:Value}{k:Nat}{e:TypeId}{t:Ty}{l:List t.den}{n:Nat}{v:Value}{xs:List Value}{w':World}
  (hl:l.length=n) (hown:w'.ownsRow 0 e t.cells v n xs) (hF:rC (Rd g w t) t.cells l xs) (hnone: ∀m,n<m→g.cur k m=none) (hcur: ∀u,g.cur k n=some u→u=v)
  (hg:w.grownBy w' (v.ownBlock)∨∃q,w.grownBy w' q∧∀b,q=some b→∀o,ownsIn g H [k] b o)
  (hcell: ∀b o,g.S b o→w'.cell? ⟨b,o,none⟩=w.cell? ⟨b,o,none⟩)
  (hseal: ∀b,v.ownBlock=some b→∀o,¬g.S b o)
  (hperm: ∀b,v.ownBlock=some b→w.heap.size≤b∨∀o,ownsIn g H [k] b o)
  (hslot:RdS (g.tok k n v) w' s val):EffOk g w H ⟨side,s,[(k,.row e t l n)],rds⟩ (g.tok k n v) w' val:=by
 have le:Le g w (g.tok k n v) w':=⟨fun _ _ h=>h,fun b o h=>hcell b o h,fun _ _ h=>h,fun k' n' v' h=>by
  show (if k'=k∧n'=n then _ else _)=_
  by_cases hk:k'=k∧n'=n
  ·obtain⟨rfl,rfl⟩:=hk
   rw[if_pos ⟨rfl,rfl⟩,hcur _ h]
  ·rw[if_neg hk];exact h⟩
 have cur1:(g.tok k n v).cur k n=some v:=by simp [Gh.tok]
 have hblk: ∀b,b<w.heap.size→(∀o,¬ownsIn g H (idsOf [(k,Blk.row e t l n)]) b o)→w'.heap[b]? =w.heap[b]? :=by
  intro b hb hno
  rcases hg with hg|⟨q,hg,hq⟩
  ·refine hg.block b hb (fun e1=> ?_)
   rcases hperm b e1.symm with h|h
   ·omega
   ·exact hno 0 (h 0)
  ·exact hg.block b hb (fun e1=>hno 0 (hq b e1.symm 0))
 have hgo:w'.os=w.os∧w'.tape=w.tape∧w'.output=w.output∧w.heap.size≤w'.heap.size:=by
  rcases hg with hg|⟨q,hg,_⟩
  ·exact⟨hg.os,hg.tape,hg.output,hg.size⟩
  ·exact⟨hg.os,hg.tape,hg.output,hg.size⟩
 have hall: ∀b o,ownsIn g H (idsOf [(k,Blk.row e t l n)]) b o→True:=fun _ _ _=>trivial
 have hcell2: ∀b o,b<w.heap.size→¬ownsIn g H (idsOf [(k,Blk.row e t l n)]) b o→(w'.cell? ⟨b,o,none⟩=w.cell? ⟨b,o,none⟩∧w'.frozen? ⟨b,o,none⟩=w.frozen? ⟨b,o,none⟩):=by
  intro b o hb hno
  have:w'.heap[b]? =w.heap[b]? :=by
   rcases hg with hg|⟨q,hg,hq⟩
   ·refine hg.block b hb (fun e1=> ?_)
    rcases hperm b e1.symm with h|h
    ·omega
    ·exact hno (h o)
   ·exact hg.block b hb (fun e1=>hno (hq b e1.symm o))
  exact⟨World.cell?_of_block (a:=⟨b,o,none⟩) this,World.frozen?_of_block (a:=⟨b,o,none⟩) this⟩
 have hshape: ∀b s,w.shape? b=some s→w'.shape? b=some s∨∀o,ownsIn g H (idsOf [(k,Blk.row e t l n)]) b o:=by
  intro b s hs
  rcases hg with hg|⟨q,hg,hq⟩
  ·by_cases e1:v.ownBlock=some b
   ·rcases hperm b e1 with h|h
    ·have:=A3 hs;omega
    ·exact .inr h
   ·exact .inl ((A4 (hg.block b (A3 hs) (fun h=>e1 h.symm))).trans hs)
  ·by_cases e1:q=some b
   ·exact .inr (hq b e1)
   ·exact .inl ((A4 (hg.block b (A3 hs) (fun h=>e1 h.symm))).trans hs)
 have fr:Fr (ownsIn g H (idsOf [(k,Blk.row e t l n)])) w w' g.S (g.tok k n v).S:=⟨hgo.1,hgo.2.1,hgo.2.2.1,hgo.2.2.2,hblk,hcell2,fun b o h=> .inl h,hshape⟩
 have gho: ∀i,i∉idsOf [(k,Blk.row e t l n)]→(g.tok k n v).J i=g.J i∧(g.tok k n v).cur i=g.cur i:=fun i hi=>⟨rfl,by
  funext n'
  show (if i=k∧n'=n then _ else _)=_
  rw[if_neg (fun⟨e1,_⟩=>hi (by simp [idsOf,e1]))]⟩
 have get: ∀i blk,i∈idsOf [(k,Blk.row e t l n)]→getH (app [(k,Blk.row e t l n)] H) i=some blk→i=k∧blk= .row e t l n:=by
  intro i blk hi hg
  simp only[idsOf,List.mem_singleton] at hi
  subst hi
  simp only[app,getH,if_true,Option.some.injEq] at hg
  exact⟨rfl,hg.symm⟩
 have perm: ∀i blk b o,i∈idsOf [(k,Blk.row e t l n)]→getH (app [(k,Blk.row e t l n)] H) i=some blk→owns (g.tok k n v) i blk b o→w.heap.size≤b∨ownsIn g H (idsOf [(k,Blk.row e t l n)]) b o:=by
  intro i blk b o hi hgt ho
  obtain⟨rfl,rfl⟩:=get i blk hi hgt
  obtain⟨v',hv',hb⟩:=ho
  rw[cur1] at hv'
  obtain rfl:=Option.some.inj hv'
  exact(hperm b hb).imp id (fun h=>h o)
 refine⟨le,hslot,hH.upd le fr perm gho (fun i blk hi hgt=> ?_) (fun i j bi bj b o hi hj hij hgi hgj _ _=>hij ((get i bi hi hgi).1.trans (get j bj hj hgj).1.symm)) (fun b o h=>Nat.lt_of_lt_of_le (hH.sl b o h) hgo.2.2.2),fr,perm,gho,fun i u' y us h=>by
  simp only[app,getH] at h
  split at h
  ·cases h
  ·exact .inl ⟨y,us,h⟩⟩
 obtain⟨rfl,rfl⟩:=get i blk hi hgt
 refine⟨hl,v,xs,cur1,hown,zH (fun _ _ h=>uS le h) hF,fun m hm=> ?_,hseal⟩
 show (if i=i∧m=n then _ else _)=_
 rw[if_neg (by omega)]
 exact hnone m hm
theorem EffOk.newVarJ {side:List Prop}{rds:List Nat}{base:Nat}{t:Ty}{x:t.den}{toks:List (Nat×Nat)}{cs:List Value}{e:TypeId}(hR:Rd (g.var base w.heap.size (some (e,cs.length))) w t x cs) (htk:CH g t x cs toks) (hf:g.J base=none) (hc:g.cur base=fun _=>none):
  EffOk g w H ⟨side,(.val .ref (some (base,0)),none),[(base,.cells t x toks)],rds⟩ (g.var base w.heap.size (some (e,cs.length))) (w.alloc (.cells cs.toArray e)) (.pointer (some ⟨w.heap.size,0,none⟩)):=by
 have hJ:(g.var base w.heap.size (some (e,cs.length))).J base=some ⟨w.heap.size,0,some (e,cs.length)⟩:=by simp [Gh.var]
 have le:Le g w (g.var base w.heap.size (some (e,cs.length))) (w.alloc (.cells cs.toArray e)):=⟨fun _ _ h=>h,fun b o h=>World.cell?_of_block (a:=⟨b,o,none⟩) (Below.heap_alloc _ _ _ (hH.sl b o h)),fun i p h=>by
  show (if i=base then _ else _)=_
  rw[if_neg (fun e1=>by rw[e1,hf] at h;cases h)];exact h,fun _ _ _ h=>h⟩
 have le2:Le (g.var base w.heap.size (some (e,cs.length))) w (g.var base w.heap.size (some (e,cs.length))) (w.alloc (.cells cs.toArray e)):=⟨fun _ _ h=>h,fun b o h=>World.cell?_of_block (a:=⟨b,o,none⟩) (Below.heap_alloc _ _ _ (hH.sl b o h)),fun _ _ h=>h,fun _ _ _ h=>h⟩
 have fr:Fr (ownsIn g H (idsOf [(base,Blk.cells t x toks)])) w (w.alloc (.cells cs.toArray e)) g.S (g.var base w.heap.size (some (e,cs.length))).S:=
  ⟨rfl,rfl,rfl,by simp,fun b hb _=>Below.heap_alloc _ _ _ hb,fun b o hb _=>⟨World.cell?_of_block (a:=⟨b,o,none⟩) (Below.heap_alloc _ _ _ hb),World.frozen?_of_block (a:=⟨b,o,none⟩) (Below.heap_alloc _ _ _ hb)⟩,fun b o h=> .inl h,fun b s h=> .inl ((A4 (Below.heap_alloc _ _ _ (A3 h))).trans h)⟩
 have gho: ∀i,i∉idsOf [(base,Blk.cells t x toks)]→(g.var base w.heap.size (some (e,cs.length))).J i=g.J i∧(g.var base w.heap.size (some (e,cs.length))).cur i=g.cur i:=fun i hi=>⟨by
  show (if i=base then _ else _)=_
  rw[if_neg (fun e1=>hi (by simp [idsOf,e1]))],rfl⟩
 have get: ∀i blk,i∈idsOf [(base,Blk.cells t x toks)]→getH (app [(base,Blk.cells t x toks)] H) i=some blk→i=base∧blk= .cells t x toks:=by
  intro i blk hi hg
  simp only[idsOf,List.mem_singleton] at hi
  subst hi
  simp only[app,getH,if_true,Option.some.injEq] at hg
  exact⟨rfl,hg.symm⟩
 have perm: ∀i blk b o,i∈idsOf [(base,Blk.cells t x toks)]→getH (app [(base,Blk.cells t x toks)] H) i=some blk→owns (g.var base w.heap.size (some (e,cs.length))) i blk b o→w.heap.size≤b∨ownsIn g H (idsOf [(base,Blk.cells t x toks)]) b o:=by
  intro i blk b o hi hg ho
  obtain⟨rfl,rfl⟩:=get i blk hi hg
  obtain⟨p,hp,h1,_⟩:=ho
  rw[hJ] at hp
  obtain rfl:=Option.some.inj hp
  exact .inl (Nat.le_of_eq h1.symm)
 have hl:=qU hR
 refine⟨le,⟨.inr ⟨rfl,_,hJ,rfl⟩,trivial⟩,hH.upd le fr perm gho (fun i blk hi hg=> ?_) (fun i j bi bj b o hi hj hij hgi hgj _ _=>hij ((get i bi hi hgi).1.trans (get j bj hj hgj).1.symm)) (fun b o h=>Nat.lt_of_lt_of_le (hH.sl b o h) (by simp)),fr,perm,gho,fun i u' y us h=>by
  simp only[app,getH] at h
  split at h
  ·rename_i e1;subst e1;exact .inr ⟨hf,fun n=>by rw[hc]⟩
  ·exact .inl ⟨y,us,h⟩⟩
 obtain⟨rfl,rfl⟩:=get i blk hi hg
 refine⟨_,cs,hJ,uS le2 hR,fun j v hv=> ?_,⟨fun j hj=> ?_,fun _ s hs=> ?_⟩,fun j _ hs=>Nat.lt_irrefl _ (hH.sl _ _ hs),a7e le.cur htk⟩
 ·simp only[Nat.zero_add]
  rw[World.cell?_alloc_new];simpa using hv
 ·simp only[Nat.zero_add]
  rw[World.cell?_alloc_new,World.frozen?_alloc_new]
  exact⟨by simp;omega,rfl⟩
 ·cases hs
  show (match (w.heap.push (.cells cs.toArray e))[w.heap.size]? with|some (.cells c elem _)=>some (elem,c.size) |_=>none)=_
  rw[Array.getElem?_push_size]
  simp only[List.size_toArray]
theorem EffOk.newVar {side:List Prop}{rds:List Nat}{base:Nat}{t:Ty}{x:t.den}{toks:List (Nat×Nat)}{cs:List Value}{e:TypeId}(hR:Rd g w t x cs) (htk:CH g t x cs toks) (hf:g.J base=none) (hc:g.cur base=fun _=>none):
  EffOk g w H ⟨side,(.val .ref (some (base,0)),none),[(base,.cells t x toks)],rds⟩ (g.var base w.heap.size (some (e,cs.length))) (w.alloc (.cells cs.toArray e)) (.pointer (some ⟨w.heap.size,0,none⟩)):=
 EffOk.newVarJ hH (uS (g:=g) (g':=g.var base w.heap.size (some (e,cs.length))) (w:=w) (w':=w) ⟨fun _ _ h=>h,fun _ _ _=>rfl,fun i p h=>by
  show (if i=base then _ else _)=_
  rw[if_neg (fun e1=>by rw[e1,hf] at h;cases h)];exact h,fun _ _ _ h=>h⟩ hR) htk hf hc
end
end Go.Proofs.YtbbpilohihldiaaGreatDoor.Vc
namespace Go.Proofs.YtbbpilohihldiaaGreatDoor.Vc
open Go.RowKit
set_option linter.unusedSectionVars false
theorem VH {P:Program}(w:World) (t ty e:TypeId) (i:TypeInfo) (z:Value) (size bytes:Nat) (ht:P.underlying t=some (.slice e)) (hi:P.info? e=some i) (hz:i.zero=some z)
  (hsize:i.size=size) (hby:i.bytes=bytes) (hzs:z.cells.size=size)
  (v:Value) (n:Nat) (xs:List Value) (hown:w.ownsRow 0 e size v n xs)
  (a:Addr) (m c:Nat) (news:List Value) (hl:news.length=m*size) (hnews: ∀j u,news[j]? =some u→w.cell? (a.add j)=some u) (h1: ∀u∈news,u.oneCell'=true) (hm:0<m)
  (h63:n+m≤maxLen) (hbytes:(n+m)*bytes≤140737488355328):
  ∃q cap w',(Builtin.append_ #[t,t] ty #[v,.slice (some a) m c]).run P w= .ok (.slice (some ⟨q,0,none⟩) (n+m) cap) w'∧w'.ownsRow 0 e size (.slice (some ⟨q,0,none⟩) (n+m) cap) (n+m) (xs++news)∧
   (q=w.heap.size∨v.ownBlock=some q)∧w.grownBy w' v.ownBlock∧n+m≤cap∧
   ∀b o,b<w.heap.size→(v.ownBlock=some b→o<n*size)→w'.cell? ⟨b,o,none⟩=w.cell? ⟨b,o,none⟩:=by
 subst hsize
 subst hby
 have hsmall:n+m≤9223372036854775807:=by simp only[maxLen] at h63;omega
 have hlen:(xs++news).length=(n+m)*i.size:=by rw[List.length_append,hown.1,hl,Nat.add_mul]
 have grown: ∀(old:Nat),old<n+m→∀(row:Option Nat),
   (w.drew.alloc (.cells (xs.toArray++news.toArray++Builtin.zeroCells z.cells (grownCap w (n+m) old e- (n+m))) e)).ownsRow 0 e i.size
    (.slice (some ⟨w.heap.size,0,none⟩) (n+m) (grownCap w (n+m) old e)) (n+m) (xs++news)∧
   w.grownBy (w.drew.alloc (.cells (xs.toArray++news.toArray++Builtin.zeroCells z.cells (grownCap w (n+m) old e- (n+m))) e)) row∧n+m≤grownCap w (n+m) old e∧
   ∀b o,b<w.heap.size→(w.drew.alloc (.cells (xs.toArray++news.toArray++Builtin.zeroCells z.cells (grownCap w (n+m) old e- (n+m))) e)).cell? ⟨b,o,none⟩=w.cell? ⟨b,o,none⟩:=by
  intro old ho row
  have hge:=grownCap_ge w (n+m) old e
  have hcm:grownCap w (n+m) old e≤maxLen:=grownCap_le_maxLen w (n+m) old e h63
  refine⟨⟨hlen,.inr ⟨w.heap.size,_,_,rfl,Nat.zero_le _,heap_alloc_new w.drew _,hge,hcm,?_,?_⟩⟩,⟨rfl,rfl,rfl,by simp,fun k hk _=>Below.heap_alloc w.drew _ k hk⟩,hge,fun b o hb=>World.cell?_of_block (w:=w) (a:=⟨b,o,none⟩) (Below.heap_alloc w.drew _ b hb)⟩
  ·simp only[Array.size_append,List.size_toArray,size_zeroCells,hzs,hown.1,hl,←Nat.add_mul]
   congr 1
   omega
  ·simp only[Array.toList_append,List.append_assoc]
   rw[←List.append_assoc,←hlen]
   exact List.take_left
 rcases hown.2 with⟨rfl,rfl⟩ |⟨g,cap,cur,rfl,hbg,hg,hnc,hcm,hcs,htake⟩
 ·have hx:xs=[]:=List.eq_nil_of_length_eq_zero (by simpa using hown.1)
  subst hx
  have hr:=run_append_nil (P:=P) w t ty e i z ht hi hz a m c news hl hnews (by omega) (by omega) (by have hb:=hbytes;simp only[Nat.zero_add] at hb;omega)
  have hgr:=grown 0 (by omega) (Value.ownBlock (.slice none 0 0))
  simp only[Nat.zero_add,List.nil_append,Array.empty_append] at hgr⊢
  exact⟨_,_,_,hr,hgr.1,.inl rfl,hgr.2.1,hgr.2.2.1,fun b o hb _=>hgr.2.2.2 b o hb⟩
 ·by_cases hroom:n+m≤cap
  ·have hfit:n*i.size+news.length≤cur.size:=by rw[hl,hcs,←Nat.add_mul];exact Nat.mul_le_mul_right _ hroom
   have hr:=run_append_room (P:=P) w t ty e i ht hi g n cap cur hg a m c news hl hnews h1 hroom hfit
   refine⟨_,_,_,hr,⟨hlen,.inr ⟨g,cap,_,rfl,hbg,setRow_heap w g cur _ e _ hg,hroom,hcm,?_,?_⟩⟩,.inr rfl,⟨rfl,rfl,rfl,by simp,fun k _ hk=>setRow_other w g k _ (fun e=>hk (by simp [Value.ownBlock,e]))⟩,hroom,fun b o hb hso=> ?_⟩
   ·simp only[List.size_toArray,List.length_append,List.length_take,List.length_drop,Array.length_toList]
    omega
   ·rw[htake,←hlen]
    exact List.take_left
   ·by_cases hbg':b=g
    ·subst hbg'
     have ho:=hso rfl
     rw[cell_setRow_same w b o cur _ e _ hg,cell_of_row w b o cur e (0,0) hg]
     have hlt:o<(cur.toList.take (n*i.size)).length:=by rw[List.length_take,Array.length_toList];omega
     rw[List.append_assoc,List.getElem?_toArray,List.getElem?_append_left hlt,List.getElem?_take,if_pos ho,Array.getElem?_toList]
    ·exact World.cell?_of_block (w:=w) (a:=⟨b,o,none⟩) (setRow_other w g b _ hbg')
  ·have holds: ∀j u,xs[j]? =some u→w.cell? ((⟨g,0,none⟩:Addr).add j)=some u:=hown.cells (g:=g) rfl
   have hr:=run_append_grow (P:=P) w t ty e i z ht hi hz ⟨g,0,none⟩ n cap xs hown.1 holds a m c news hl hnews (by omega) (by omega) (growslice_fits (by omega) hbytes)
   have hgr:=grown cap (by omega) (Value.ownBlock (.slice (some ⟨g,0,none⟩) n cap))
   exact⟨_,_,_,hr,hgr.1,.inl rfl,hgr.2.1,hgr.2.2.1,fun b o hb _=>hgr.2.2.2 b o hb⟩
theorem VI {w:World}{e:TypeId}{c n:Nat}{q cap:Nat}{xs:List Value}(h:w.ownsRow 0 e c (.slice (some ⟨q,0,none⟩) n cap) n xs):w.rangeAt q 0 xs:=fun j u hu=>by
 have:=h.cells (g:=q) rfl j u hu
 rwa [Addr.add_mid] at this
theorem aF3 (w:World) (a:Addr) (v:Value) (b:Nat):(w.setCell a v).shape? b=w.shape? b:=by
 unfold World.shape? World.setCell
 simp only[Array.getElem?_modify]
 by_cases h:a.block=b
 ·rw[if_pos h]
  cases hb:w.heap[b]? with
  |none=>rfl
  |some x=>
   cases x with
   |cells c e f=>
    simp only[Option.map_some]
    split<;>simp
   |_=>rfl
 ·rw[if_neg h]
theorem VJ (b:Nat): ∀(l:List Value) (o:Nat) (w:World) (b':Nat),(w.setCells b o l).shape? b'=w.shape? b'
 |[],_,_,_=>rfl
 |v::l,o,w,b'=>by rw[World.setCells,VJ b l,aF3]
section
variable {g:Gh}{w:World}{H:Heap}(hH:HeapOk g w H)
include hH
theorem EffOk.append {side:List Prop}{rds:List Nat}{k e c n:Nat}{u:Ty}{l r:List u.den}{w':World}{q cap:Nat}{v:Value}{xs news:List Value}(hk:getH H k=some (.grow e c n)) (hc:c=u.cells)
  (hln:l.length=n) (hv:g.cur k n=some v) (hown:w.ownsRow 0 e c v n xs) (hnone: ∀m,n<m→g.cur k m=none) (hseal: ∀b,v.ownBlock=some b→∀o,g.S b o→o<n*c) (hl:rC (Rd g w u) c l xs) (hr:rC (Rd g w u) c r news) (hm:0<r.length)
  (ho:w'.ownsRow 0 e c (.slice (some ⟨q,0,none⟩) (n+r.length) cap) (n+r.length) (xs++news)) (hq:q=w.heap.size∨v.ownBlock=some q) (hg:w.grownBy w' v.ownBlock) (hcap:n+r.length≤cap)
  (hcell: ∀b o,b<w.heap.size→(v.ownBlock=some b→o<n*c)→w'.cell? ⟨b,o,none⟩=w.cell? ⟨b,o,none⟩):
  EffOk g w H ⟨side,(.val (.list u) (l++r),some k),[(k,.grow e c (n+r.length))],rds⟩ ((g.tok k (n+r.length) (.slice (some ⟨q,0,none⟩) (n+r.length) cap)).shut q ((n+r.length)*c)) w' (.slice (some ⟨q,0,none⟩) (n+r.length) cap):=by
 have hnb:=hnone (n+r.length) (by omega)
 have hownk: ∀o b,v.ownBlock=some b→ownsIn g H (idsOf [(k,Blk.grow e c (n+r.length))]) b o:=fun o b hb=>⟨k,_,by simp [idsOf],hk,v,hv,hb⟩
 have hqlt:q<w'.heap.size:=(ho.lt q rfl).2
 have le:Le g w ((g.tok k (n+r.length) (.slice (some ⟨q,0,none⟩) (n+r.length) cap)).shut q ((n+r.length)*c)) w':=⟨fun _ _ h=> .inl h,fun b o h=>hcell b o (hH.sl b o h) (fun hb=>hseal b hb o h),fun _ _ h=>h,fun k' n' v' h=>by
  show (if k'=k∧n'=n+r.length then _ else _)=_
  rw[if_neg (fun⟨e1,e2⟩=>by rw[e1,e2,hnb] at h;cases h)];exact h⟩
 have fr:Fr (ownsIn g H (idsOf [(k,Blk.grow e c (n+r.length))])) w w' g.S ((g.tok k (n+r.length) (.slice (some ⟨q,0,none⟩) (n+r.length) cap)).shut q ((n+r.length)*c)).S:=by
  have hbk: ∀b,b<w.heap.size→∀o,¬ownsIn g H (idsOf [(k,Blk.grow e c (n+r.length))]) b o→w'.heap[b]? =w.heap[b]? :=fun b hb o hno=>hg.block b hb (fun e1=>hno (hownk o b e1.symm))
  refine⟨hg.os,hg.tape,hg.output,hg.size,fun b hb hno=>hbk b hb 0 (hno 0),fun b o hb hno=>⟨World.cell?_of_block (a:=⟨b,o,none⟩) (hbk b hb o hno),World.frozen?_of_block (a:=⟨b,o,none⟩) (hbk b hb o hno)⟩,fun b o h=> ?_,fun b s hs=> ?_⟩
  rotate_left
  ·by_cases e1:v.ownBlock=some b
   ·exact .inr fun o=>hownk o b e1
   ·exact .inl ((A4 (hg.block b (A3 hs) (fun h=>e1 h.symm))).trans hs)
  rcases h with h|⟨rfl,_⟩
  ·exact .inl h
  ·rcases hq with h|h
   ·exact .inr (.inl (Nat.le_of_eq h.symm))
   ·exact .inr (.inr (hownk o b h))
 have gho: ∀i,i∉idsOf [(k,Blk.grow e c (n+r.length))]→((g.tok k (n+r.length) (.slice (some ⟨q,0,none⟩) (n+r.length) cap)).shut q ((n+r.length)*c)).J i=g.J i∧((g.tok k (n+r.length) (.slice (some ⟨q,0,none⟩) (n+r.length) cap)).shut q ((n+r.length)*c)).cur i=g.cur i:=fun i hi=>⟨rfl,by
  funext n'
  show (if i=k∧n'=n+r.length then _ else _)=_
  rw[if_neg (fun⟨e1,_⟩=>hi (by simp [idsOf,e1]))]⟩
 have cur1:((g.tok k (n+r.length) (.slice (some ⟨q,0,none⟩) (n+r.length) cap)).shut q ((n+r.length)*c)).cur k (n+r.length)=some (.slice (some ⟨q,0,none⟩) (n+r.length) cap):=by
  show (if k=k∧n+r.length=n+r.length then _ else _)=_
  simp
 have get: ∀i blk,i∈idsOf [(k,Blk.grow e c (n+r.length))]→getH (app [(k,Blk.grow e c (n+r.length))] H) i=some blk→i=k∧blk= .grow e c (n+r.length):=by
  intro i blk hi hg
  simp only[idsOf,List.mem_singleton] at hi
  subst hi
  simp only[app,getH,if_true,Option.some.injEq] at hg
  exact⟨rfl,hg.symm⟩
 have perm: ∀i blk b o,i∈idsOf [(k,Blk.grow e c (n+r.length))]→getH (app [(k,Blk.grow e c (n+r.length))] H) i=some blk→owns ((g.tok k (n+r.length) (.slice (some ⟨q,0,none⟩) (n+r.length) cap)).shut q ((n+r.length)*c)) i blk b o→w.heap.size≤b∨ownsIn g H (idsOf [(k,Blk.grow e c (n+r.length))]) b o:=by
  intro i blk b o hi hgt ho'
  obtain⟨rfl,rfl⟩:=get i blk hi hgt
  obtain⟨v',hv',hb⟩:=ho'
  rw[cur1] at hv'
  obtain rfl:=Option.some.inj hv'
  cases hb
  rcases hq with h|h
  ·exact .inl (Nat.le_of_eq h.symm)
  ·exact .inr (hownk o _ h)
 have hF:rC (Rd ((g.tok k (n+r.length) (.slice (some ⟨q,0,none⟩) (n+r.length) cap)).shut q ((n+r.length)*c)) w' u) u.cells (l++r) (xs++news):=hc▸zH (fun _ _ h=>uS le h) (L9 hl hr)
 have hlr:(l++r).length=n+r.length:=by rw[List.length_append,hln]
 refine⟨le,⟨.inr ⟨rfl,some ⟨q,0,none⟩,cap,by rw[hlr],by rw[hlr];exact hcap,.inr ⟨q,0,rfl,IF hF (VI ho) (fun j hj=> ?_)⟩⟩,?_⟩,hH.upd le fr perm gho (fun i blk hi hgt=> ?_) (fun i j bi bj b o hi hj hij hgi hgj _ _=>hij ((get i bi hi hgi).1.trans (get j bj hj hgj).1.symm)) (fun b o h=> ?_),fr,perm,gho,fun i u' y us h=>by
  simp only[app,getH] at h
  split at h
  ·cases h
  ·exact .inl ⟨y,us,h⟩⟩
 ·right
  rw[hlr] at hj
  exact⟨rfl,by rw[hc];omega⟩
 ·show _=_
  rw[hlr]
  exact cur1
 ·obtain⟨rfl,rfl⟩:=get i blk hi hgt
  refine⟨_,_,cur1,ho,fun m hm'=> ?_,fun b hb o h=> ?_⟩
  ·show (if i=i∧m=n+r.length then _ else _)=_
   rw[if_neg (by omega)]
   exact hnone m (by omega)
  ·cases hb
   rcases h with h|⟨_,h⟩
   ·rcases hq with h2|h2
    ·have:q<w.heap.size:=hH.sl _ _ h
     omega
    ·have:=hseal _ h2 o h
     rw[Nat.add_mul];omega
   ·exact h
 ·rcases h with h|⟨rfl,_⟩
  ·exact Nat.lt_of_lt_of_le (hH.sl b o h) hg.size
  ·exact hqlt
theorem EffOk.lit {side:List Prop}{rds:List Nat}{base e c n:Nat}{u:Ty}{l:List u.den}{cs:List Value}(hc:c=u.cells) (hln:l.length=n) (hl:rC (Rd g w u) c l cs) (hn:n≤maxLen) (hf: ∀m,g.cur base m=none):
  EffOk g w H ⟨side,(.val (.list u) l,some base),[(base,.grow e c n)],rds⟩ ((g.tok base n (.slice (some ⟨w.heap.size,0,none⟩) n n)).shut w.heap.size (n*c)) (w.alloc (.cells cs.toArray e)) (.slice (some ⟨w.heap.size,0,none⟩) n n):=by
 have hlen:=DZ hl
 have le:Le g w ((g.tok base n (.slice (some ⟨w.heap.size,0,none⟩) n n)).shut w.heap.size (n*c)) (w.alloc (.cells cs.toArray e)):=⟨fun _ _ h=> .inl h,fun b o h=>World.cell?_of_block (a:=⟨b,o,none⟩) (Below.heap_alloc _ _ _ (hH.sl b o h)),fun _ _ h=>h,fun k' n' v' h=>by
  show (if k'=base∧n'=n then _ else _)=_
  rw[if_neg (fun⟨e1,e2⟩=>by rw[e1,hf] at h;cases h)];exact h⟩
 have fr:Fr (ownsIn g H (idsOf [(base,Blk.grow e c n)])) w (w.alloc (.cells cs.toArray e)) g.S ((g.tok base n (.slice (some ⟨w.heap.size,0,none⟩) n n)).shut w.heap.size (n*c)).S:=
  ⟨rfl,rfl,rfl,by simp,fun b hb _=>Below.heap_alloc _ _ _ hb,fun b o hb _=>⟨World.cell?_of_block (a:=⟨b,o,none⟩) (Below.heap_alloc _ _ _ hb),World.frozen?_of_block (a:=⟨b,o,none⟩) (Below.heap_alloc _ _ _ hb)⟩,fun b o h=>h.imp id fun h=> .inl (Nat.le_of_eq h.1.symm),fun b s h=> .inl ((A4 (Below.heap_alloc _ _ _ (A3 h))).trans h)⟩
 have gho: ∀i,i∉idsOf [(base,Blk.grow e c n)]→((g.tok base n (.slice (some ⟨w.heap.size,0,none⟩) n n)).shut w.heap.size (n*c)).J i=g.J i∧((g.tok base n (.slice (some ⟨w.heap.size,0,none⟩) n n)).shut w.heap.size (n*c)).cur i=g.cur i:=fun i hi=>⟨rfl,by
  funext n'
  show (if i=base∧n'=n then _ else _)=_
  rw[if_neg (fun⟨e1,_⟩=>hi (by simp [idsOf,e1]))]⟩
 have cur1:((g.tok base n (.slice (some ⟨w.heap.size,0,none⟩) n n)).shut w.heap.size (n*c)).cur base n=some (.slice (some ⟨w.heap.size,0,none⟩) n n):=by
  show (if base=base∧n=n then _ else _)=_
  simp
 have get: ∀i blk,i∈idsOf [(base,Blk.grow e c n)]→getH (app [(base,Blk.grow e c n)] H) i=some blk→i=base∧blk= .grow e c n:=by
  intro i blk hi hg
  simp only[idsOf,List.mem_singleton] at hi
  subst hi
  simp only[app,getH,if_true,Option.some.injEq] at hg
  exact⟨rfl,hg.symm⟩
 have perm: ∀i blk b o,i∈idsOf [(base,Blk.grow e c n)]→getH (app [(base,Blk.grow e c n)] H) i=some blk→owns ((g.tok base n (.slice (some ⟨w.heap.size,0,none⟩) n n)).shut w.heap.size (n*c)) i blk b o→w.heap.size≤b∨ownsIn g H (idsOf [(base,Blk.grow e c n)]) b o:=by
  intro i blk b o hi hgt ho'
  obtain⟨rfl,rfl⟩:=get i blk hi hgt
  obtain⟨v',hv',hb⟩:=ho'
  rw[cur1] at hv'
  obtain rfl:=Option.some.inj hv'
  cases hb
  exact .inl (Nat.le_refl _)
 have hF:rC (Rd ((g.tok base n (.slice (some ⟨w.heap.size,0,none⟩) n n)).shut w.heap.size (n*c)) (w.alloc (.cells cs.toArray e)) u) u.cells l cs:=hc▸zH (fun _ _ h=>uS le h) hl
 have hra:(w.alloc (.cells cs.toArray e)).rangeAt w.heap.size 0 cs:=fun j v hv=>by
  rw[Nat.zero_add,World.cell?_alloc_new];simpa using hv
 refine⟨le,⟨.inr ⟨rfl,some ⟨w.heap.size,0,none⟩,n,by rw[hln],by rw[hln];exact Nat.le_refl _,.inr ⟨w.heap.size,0,rfl,IF hF hra (fun j hj=> ?_)⟩⟩,?_⟩,hH.upd le fr perm gho (fun i blk hi hgt=> ?_) (fun i j bi bj b o hi hj hij hgi hgj _ _=>hij ((get i bi hi hgi).1.trans (get j bj hj hgj).1.symm)) (fun b o h=> ?_),fr,perm,gho,fun i u' y us h=>by
  simp only[app,getH] at h
  split at h
  ·cases h
  ·exact .inl ⟨y,us,h⟩⟩
 ·right
  rw[hln] at hj
  exact⟨rfl,by rw[hc];omega⟩
 ·show _=_
  rw[hln]
  exact cur1
 ·obtain⟨rfl,rfl⟩:=get i blk hi hgt
  refine⟨_,cs,cur1,⟨by rw[hlen,hln],.inr ⟨w.heap.size,n,cs.toArray,rfl,Nat.zero_le _,heap_alloc_new w _,Nat.le_refl _,hn,by simp [hlen,hln],by simp [←hln,←hlen]⟩⟩,fun m hm'=> ?_,fun b hb o h=> ?_⟩
  ·show (if i=i∧m=n then _ else _)=_
   rw[if_neg (by omega)]
   exact hf m
  ·cases hb
   rcases h with h|⟨_,h⟩
   ·exact absurd (hH.sl _ _ h) (Nat.lt_irrefl _)
   ·exact h
 ·rcases h with h|⟨rfl,_⟩
  ·exact Nat.lt_of_lt_of_le (hH.sl b o h) (by simp)
  ·simp
theorem VK: ∀{toks:List (Nat×Nat)}{off n q k:Nat},(q,k)∈sU toks off n→(q,k)∈toks∧¬(off≤q∧q<off+n)
 |[],_,_,_,_,h=>by simp [sU] at h
 |(q',k')::r,off,n,q,k,h=>by
  simp only[sU] at h
  split at h
  ·obtain⟨h1,h2⟩:=VK h
   exact⟨List.mem_cons_of_mem _ h1,h2⟩
  ·rename_i hn
   rcases List.mem_cons.1 h with h|h
   ·cases h
    exact⟨by simp,hn⟩
   ·obtain⟨h1,h2⟩:=VK h
    exact⟨List.mem_cons_of_mem _ h1,h2⟩
theorem aF4 {u:Ty}{y:u.den}: ∀{t:Ty}{x z:t.den}{o:Nat},u.isRow=false→qQ u y t x o=some z→pM u t z o=some y:=by
 intro t
 induction t with
 |pair a b iha ihb=>
  intro x z o hu h
  have hne:u≠.pair a b:=by intro e;rw[e] at hu;cases hu
  have key: ∀o,(if o<a.cells then(qQ u y a x.1 o).map (fun q=>(q,x.2)) else(qQ u y b x.2 (o-a.cells)).map (fun q=>(x.1,q)))=some z→
    (if o<a.cells then pM u a z.1 o else pM u b z.2 (o-a.cells))=some y:=by
   intro o h
   by_cases ho:o<a.cells
   ·rw[if_pos ho] at h⊢
    obtain⟨q,hq,rfl⟩:=Option.map_eq_some_iff.1 h
    exact iha hu hq
   ·rw[if_neg ho] at h⊢
    obtain⟨q,hq,rfl⟩:=Option.map_eq_some_iff.1 h
    exact ihb hu hq
  cases o with
  |zero=>
   unfold qQ at h
   unfold pM
   rw[dif_neg hne] at h
   rw[dif_neg (Ne.symm hne)]
   have:=key 0 (by simpa using h)
   simpa using this
  |succ o=>
   have:=key (o+1) (by simpa[qQ] using h)
   simpa[pM] using this
 |_=>
  intro x z o hu h
  cases o with
  |zero=>
   unfold qQ at h
   split at h
   ·rename_i e
    subst e
    simp only[rU,Option.some.injEq] at h
    try subst h
    unfold pM
    simp [rU]
   ·simp at h
  |succ o=>simp [qQ] at h
theorem a7w {u v:Ty}{y:u.den}: ∀{t:Ty}{x z:t.den}{o q:Nat}{l:(Ty.list v).den},qQ u y t x o=some z→pM (.list v) t x q=some l→¬(o≤q∧q<o+u.cells)→pM (.list v) t z q=some l:=by
 intro t
 induction t with
 |pair a b iha ihb=>
  intro x z o q l h g hq
  by_cases hu:o=0∧u= .pair a b
  ·obtain⟨rfl,rfl⟩:=hu
   exfalso
   apply hq
   have: ∀(t:Ty) (x:t.den) (q:Nat) (l:(Ty.list v).den),pM (.list v) t x q=some l→q<t.cells:=by
    intro t
    induction t with
    |pair s t ihs iht=>
     intro x q l g
     have key: ∀q,(if q<s.cells then pM (.list v) s x.1 q else pM (.list v) t x.2 (q-s.cells))=some l→q<s.cells+t.cells:=by
      intro q g
      by_cases h:q<s.cells
      ·omega
      ·rw[if_neg h] at g
       have:=iht _ _ _ g
       omega
     cases q with
     |zero=>
      unfold pM at g
      rw[dif_neg (by intro e;cases e)] at g
      exact key 0 (by simpa using g)
     |succ q=>exact key (q+1) (by simpa[pM] using g)
    |_=>
     intro x q l g
     cases q with
     |zero=>first|(simp [Ty.cells];done) |(unfold pM at g;simp at g)
     |succ q=>simp [pM] at g
   exact⟨Nat.zero_le _,by simpa using this _ _ _ _ g⟩
  ·have keyh:(if o<a.cells then(qQ u y a x.1 o).map (fun q=>(q,x.2)) else(qQ u y b x.2 (o-a.cells)).map (fun q=>(x.1,q)))=some z:=by
    cases o with
    |zero=>
     unfold qQ at h
     rw[dif_neg (fun e=>hu ⟨rfl,e⟩)] at h
     simpa using h
    |succ o=>simpa[qQ] using h
   have keyg: ∀x:(Ty.pair a b).den,pM (.list v) (.pair a b) x q=(if q<a.cells then pM (.list v) a x.1 q else pM (.list v) b x.2 (q-a.cells)):=by
    intro x
    cases q with
    |zero=>
     conv=>lhs;unfold pM
     rw[dif_neg (by intro e;cases e),Nat.zero_sub]
    |succ q=>simp [pM]
   rw[keyg] at g⊢
   by_cases ho:o<a.cells
   ·rw[if_pos ho] at keyh
    obtain⟨z',hz',rfl⟩:=Option.map_eq_some_iff.1 keyh
    by_cases hqa:q<a.cells
    ·rw[if_pos hqa] at g⊢
     exact iha hz' g hq
    ·rw[if_neg hqa] at g⊢
     exact g
   ·rw[if_neg ho] at keyh
    obtain⟨z',hz',rfl⟩:=Option.map_eq_some_iff.1 keyh
    by_cases hqa:q<a.cells
    ·rw[if_pos hqa] at g⊢
     exact g
    ·rw[if_neg hqa] at g⊢
     exact ihb hz' g (by omega)
 |unit=>
  intro x z o q l h g hq
  cases q with
  |zero=>
   unfold pM at g
   rw[dif_neg (by intro e;cases e)] at g
   cases g
  |succ q=>simp [pM] at g
 |_=>
  intro x z o q l h g hq
  cases o with
  |zero=>
   unfold qQ at h
   split at h
   ·rename_i e
    subst e
    cases q with
    |zero=>exact absurd ⟨Nat.le_refl _,Nat.zero_lt_one⟩ hq
    |succ q=>simp [pM] at g
   ·simp at h
  |succ o=>simp [qQ] at h
theorem EffOk.store {side:List Prop}{rds:List Nat}{i:Nat}{u t:Ty}{x z:u.den}{y:t.den}{off:Nat}{toks:List (Nat×Nat)}{k:Option Nat}{p:Pl}{cy:List Value}{v:Value}(hb:getH H i=some (.cells u x toks)) (hp:g.J i=some p)
  (hset:qQ t y u x off=some z) (hy:Rd g w t y cy) (hk:zG g t y v k) (hk2: ∀a b,t= .pair a b→k=none) (hv:t.isRow=false→cy=[v]):
  EffOk g w H ⟨side,(.any,none),[(i,.cells u z (app (uL k off) (sU toks off t.cells)))],rds⟩ g (w.setCells p.1 (p.2+off) cy) undef∧w.there p.1 (p.2+off) cy.length:=by
 obtain⟨p',cs,hp',hR,hra,hth,hns,htk⟩:=hH.blk i _ hb
 rw[hp] at hp'
 obtain rfl:=Option.some.inj hp'
 obtain⟨c1,c2,c3,hcs,hl1,hl2,hz⟩:=PU hy hR hset
 subst hcs
 subst hl1
 have hcl:=qU hR
 have hyl:=qU hy
 simp only[List.length_append] at hcl
 have hthere:w.there p.1 (p.2+c1.length) cy.length:=fun j hj=>by
  have:=hth.1 (c1.length+j) (by omega)
  rwa [←Nat.add_assoc] at this
 have hout: ∀b o,(b=p.1→o<p.2+c1.length∨p.2+c1.length+cy.length≤o)→(w.setCells p.1 (p.2+c1.length) cy).cell? ⟨b,o,none⟩=w.cell? ⟨b,o,none⟩:=fun b o h=>World.cell?_setCells_out p.1 cy _ w ⟨b,o,none⟩ (fun e _=>h e)
 have hin: ∀b o,b=p.1→p.2+c1.length≤o→o<p.2+c1.length+cy.length→owns g i (.cells u x toks) b o:=fun b o e h1 h2=>⟨p,hp,e,by omega,by omega⟩
 have hsz:(w.setCells p.1 (p.2+c1.length) cy).heap.size=w.heap.size:=by
  have: ∀(l:List Value) (o:Nat) (w:World),(w.setCells p.1 o l).heap.size=w.heap.size:=by
   intro l
   induction l with
   |nil=>intro o w;rfl
   |cons v l ih=>intro o w;rw[World.setCells,ih];simp [World.setCell]
  exact this _ _ _
 have hbk: ∀b,b≠p.1→(w.setCells p.1 (p.2+c1.length) cy).heap[b]? =w.heap[b]? :=by
  intro b hb
  have: ∀(l:List Value) (o:Nat) (w:World),(w.setCells p.1 o l).heap[b]? =w.heap[b]? :=by
   intro l
   induction l with
   |nil=>intro o w;rfl
   |cons v l ih=>intro o w;rw[World.setCells,ih];exact Below.heap_setCell _ _ _ _ hb
  exact this _ _ _
 have hos:(w.setCells p.1 (p.2+c1.length) cy).os=w.os∧(w.setCells p.1 (p.2+c1.length) cy).tape=w.tape∧(w.setCells p.1 (p.2+c1.length) cy).output=w.output:=by
  have: ∀(l:List Value) (o:Nat) (w:World),(w.setCells p.1 o l).os=w.os∧(w.setCells p.1 o l).tape=w.tape∧(w.setCells p.1 o l).output=w.output:=by
   intro l
   induction l with
   |nil=>intro o w;exact⟨rfl,rfl,rfl⟩
   |cons v l ih=>intro o w;rw[World.setCells];exact ih _ _
  exact this _ _ _
 have hiS: ∀b o,g.S b o→¬(b=p.1∧p.2≤o∧o<p.2+u.cells):=fun b o hs ⟨e,h1,h2⟩=>hns (o-p.2) (by omega) (by rw[show p.2+(o-p.2)=o from by omega,←e];exact hs)
 have le:Le g w g (w.setCells p.1 (p.2+c1.length) cy):=⟨fun _ _ h=>h,fun b o h=>hout b o (fun e=>by
  have:=hiS b o h
  rcases Nat.lt_or_ge o (p.2+c1.length) with h1|h1
  ·exact .inl h1
  ·rcases Nat.lt_or_ge o (p.2+c1.length+cy.length) with h2|h2
   ·exact absurd ⟨e,by omega,by omega⟩ this
   ·exact .inr h2),fun _ _ h=>h,fun _ _ _ h=>h⟩
 have hofI: ∀b o,owns g i (.cells u x toks) b o→ownsIn g H (idsOf [(i,Blk.cells u z (app (uL k c1.length) (sU toks c1.length t.cells)))]) b o:=fun b o h=>⟨i,_,by simp [idsOf],hb,h⟩
 have fr:Fr (ownsIn g H (idsOf [(i,Blk.cells u z (app (uL k c1.length) (sU toks c1.length t.cells)))])) w (w.setCells p.1 (p.2+c1.length) cy) g.S g.S:=by
  refine⟨hos.1,hos.2.1,hos.2.2,Nat.le_of_eq hsz.symm,fun b hb' hno=> ?_,fun b o hb' hno=>⟨hout b o (fun e=> ?_),World.frozen?_setCells _ _ _ _ _⟩,fun b o h=> .inl h,fun b s hs=> .inl ((VJ _ _ _ _ _).trans hs)⟩
  ·by_cases e:b=p.1
   ·cases hcy:cy with
    |nil=>rfl
    |cons q l=>exact absurd (hofI b (p.2+c1.length) (hin b _ e (Nat.le_refl _) (by rw[hcy];simp))) (hno _)
   ·exact hbk b e
  ·rcases Nat.lt_or_ge o (p.2+c1.length) with h1|h1
   ·exact .inl h1
   ·rcases Nat.lt_or_ge o (p.2+c1.length+cy.length) with h2|h2
    ·exact absurd (hofI b o (hin b o e h1 h2)) hno
    ·exact .inr h2
 have gho: ∀j,j∉idsOf [(i,Blk.cells u z (app (uL k c1.length) (sU toks c1.length t.cells)))]→g.J j=g.J j∧g.cur j=g.cur j:=fun _ _=>⟨rfl,rfl⟩
 have get: ∀j blk,j∈idsOf [(i,Blk.cells u z (app (uL k c1.length) (sU toks c1.length t.cells)))]→getH (app [(i,Blk.cells u z (app (uL k c1.length) (sU toks c1.length t.cells)))] H) j=some blk→j=i∧blk= .cells u z (app (uL k c1.length) (sU toks c1.length t.cells)):=by
  intro j blk hi hg
  simp only[idsOf,List.mem_singleton] at hi
  subst hi
  simp only[app,getH,if_true,Option.some.injEq] at hg
  exact⟨rfl,hg.symm⟩
 have perm: ∀j blk b o,j∈idsOf [(i,Blk.cells u z (app (uL k c1.length) (sU toks c1.length t.cells)))]→getH (app [(i,Blk.cells u z (app (uL k c1.length) (sU toks c1.length t.cells)))] H) j=some blk→owns g j blk b o→w.heap.size≤b∨ownsIn g H (idsOf [(i,Blk.cells u z (app (uL k c1.length) (sU toks c1.length t.cells)))]) b o:=by
  intro j blk b o hi hg ho
  obtain⟨rfl,rfl⟩:=get j blk hi hg
  exact .inr (hofI b o ho)
 refine⟨⟨le,⟨trivial,trivial⟩,hH.upd le fr perm gho (fun j blk hi hg=> ?_) (fun i j bi bj b o hi hj hij hgi hgj _ _=>hij ((get i bi hi hgi).1.trans (get j bj hj hgj).1.symm)) (fun b o h=>by rw[hsz];exact hH.sl b o h),fr,perm,gho,fun j u' y' us h=>by
  simp only[app,getH] at h
  split at h
  ·rename_i e1
   subst e1
   simp only[Option.some.injEq,Blk.cells.injEq] at h
   obtain⟨rfl,_⟩:=h
   exact .inl ⟨x,toks,hb⟩
  ·exact .inl ⟨y',us,h⟩⟩,hthere⟩
 obtain⟨rfl,rfl⟩:=get j blk hi hg
 refine⟨p,_,hp,uS le hz,fun q v hq=> ?_,⟨fun q hq=> ?_,fun h0 s hs=>(VJ _ _ _ _ _).trans (hth.2 h0 s hs)⟩,hns,?_⟩
 ·by_cases h1:q<c1.length
  ·rw[hout _ _ (fun _=> .inl (by omega))]
   refine hra q v ?_
   rw[List.append_assoc,List.getElem?_append_left h1] at hq⊢
   exact hq
  ·by_cases h2:q<c1.length+cy.length
   ·have:=World.cell?_setCells_in p.1 cy (p.2+c1.length) w (fun j hj=>(hthere j hj).1) (q-c1.length) (by omega)
    rw[show p.2+c1.length+(q-c1.length)=p.2+q from by omega] at this
    rw[this]
    rw[List.append_assoc,List.getElem?_append_right (by omega),List.getElem?_append_left (by omega)] at hq
    rw[←hq,List.getElem?_eq_getElem (by omega)]
   ·rw[hout _ _ (fun _=> .inr (by omega))]
    refine hra q v ?_
    rw[List.append_assoc,List.getElem?_append_right (by omega),List.getElem?_append_right (by omega)] at hq⊢
    rw[hl2]
    rw[hyl] at hq
    exact hq
 ·have hh:=hth.1 q hq
  refine⟨?_,by rw[World.frozen?_setCells];exact hh.2⟩
  by_cases h1:q<c1.length∨c1.length+cy.length≤q
  ·rw[hout _ _ (fun _=>by omega)]
   exact hh.1
  ·have:=World.cell?_setCells_in p.1 cy (p.2+c1.length) w (fun j hj=>(hthere j hj).1) (q-c1.length) (by omega)
   rw[show p.2+c1.length+(q-c1.length)=p.2+q from by omega] at this
   rw[this];rfl
 ·intro q kk hm
  have hsplit:(q,kk)∈uL k c1.length∨(q,kk)∈sU toks c1.length t.cells:=by
   cases k with
   |none=>exact .inr (by simpa[uL,app] using hm)
   |some k=>
    simp only[uL,app,List.mem_cons] at hm
    rcases hm with hm|hm
    ·exact .inl (by simp [uL,hm])
    ·exact .inr hm
  rcases hsplit with hm|hm
  ·cases k with
   |none=>simp [uL] at hm
   |some k=>
    simp only[uL,List.mem_singleton,Prod.mk.injEq] at hm
    obtain⟨rfl,rfl⟩:=hm
    cases t with
    |list t=>
     obtain rfl:=hv rfl
     exact⟨t,y,v,aF4 hH rfl hset,by simp,hk⟩
    |pair a b=>cases hk2 a b rfl
    |_=>exact hk.elim
  ·obtain⟨h1,h2⟩:=VK hH hm
   obtain⟨v',l,v1,g1,g2,g3⟩:=htk q kk h1
   refine⟨v',l,v1,a7w hH hset g1 h2,?_,g3⟩
   rcases Nat.lt_or_ge q c1.length with h3|h3
   ·rw[List.append_assoc,List.getElem?_append_left h3] at g2⊢
    exact g2
   ·have h4:c1.length+t.cells≤q:=by omega
    rw[List.append_assoc,List.getElem?_append_right (by omega),List.getElem?_append_right (by omega)] at g2⊢
    rw[hyl]
    rw[hl2] at g2
    exact g2
end
end Go.Proofs.YtbbpilohihldiaaGreatDoor.Vc
namespace Go.Proofs.YtbbpilohihldiaaGreatDoor.Vc
open Go.RowKit
set_option linter.unusedSectionVars false
def wS (g:Gh) (base:Nat) (e:Eff):Prop:= ∀i,i∈idsOf e.upd→base≤i→g.J i=none∧∀n,g.cur i n=none
section
variable {P:Program}{o:Oper}{a:Act}{g:Gh}{w:World}{H:Heap}{T:Types}(hT:TypesOk P T) (hH:HeapOk g w H)
include hT hH
theorem a7x {x:Operand}(ho:o.op= .move x∨o.op= .assign x) {sx:Slot}(hx:RdS g w sx (a.eval x)) {base:Nat}{e:Eff}(hr:U9 base (q6 T o.type) sx=some e) (hf:wS g base e):pT P o a g w H e:=by
 have hrun:(execOp a.eval o).run P w= .ok (.value (a.eval x)) w:=by rcases ho with ho|ho<;>simp [execOp,ho]
 generalize hst:q6 T o.type=ot at hr
 unfold U9 at hr
 split at hr
 ·cases hr
  have hv:a.eval x= .slice none 0 0:=hx.1
  have hfr:=(hf base (by simp [idsOf]) (Nat.le_refl _)).2
  refine pT.value (v:= .slice none 0 0) (by rw[hrun,hv]) (EffOk.row (v:= .slice none 0 0) (xs:=[]) hH rfl (World.ownsRow_nil w 0 _ _) rfl (fun m _=>hfr m) (fun u hu=>by rw[hfr] at hu;cases hu) (.inl ⟨rfl,rfl,rfl,Nat.le_refl _,fun _ _ _=>rfl⟩) (fun _ _ _=>rfl) (fun b hb=>by cases hb) (fun b hb=>by cases hb) ⟨⟨by simp [Gh.tok],.inl ⟨rfl,rfl⟩⟩,trivial⟩)
 ·cases hr
  have hv:a.eval x= .slice none 0 0:=hx.1
  refine pT.value (v:= .slice none 0 0) (by rw[hrun,hv]) (EffOk.nilTok hH rfl (hf base (by simp [idsOf]) (Nat.le_refl _)).2)
 ·cases hr
 ·cases hr
  exact pT.value hrun (.pure hH hx)
theorem aF5 {u:Ty}{y:List u.den}{k:Option Nat}{v:Value}{cs:List Value}(h:zG g (.list u) y v k) (hc:cs=[v]):CH g (.list u) y cs (uL k 0):=by
 intro q kk hm
 cases k with
 |none=>simp [uL] at hm
 |some k=>
  simp only[uL,List.mem_singleton,Prod.mk.injEq] at hm
  obtain⟨rfl,rfl⟩:=hm
  exact⟨u,y,v,by unfold pM;simp [rU],by rw[hc];rfl,h⟩
omit hT hH in
theorem IG {α:Type}: ∀(l m n:List α),app (app l m) n=app l (app m n)
 |[],_,_=>rfl
 |x::l,m,n=>by simp only[app,IG l m n]
omit hT hH in
theorem A7 {i:Nat}: ∀{l m:List (Nat×Blk)},i∈idsOf (app l m)↔i∈idsOf l∨i∈idsOf m
 |[],m=>by simp [app,idsOf]
 |(k,b)::l,m=>by simp only[app,idsOf,List.mem_cons,A7 (l:=l),or_assoc]
omit hT hH in
theorem EffOk.trans {H:Heap}{e1 e2:Eff}{g1 g2:Gh}{w1 w2:World}{v1 v2:Value}{side:List Prop}{rds:List Nat}(h:EffOk g w H e1 g1 w1 v1) (k:EffOk g1 w1 (app e1.upd H) e2 g2 w2 v2):EffOk g w H ⟨side,e2.slot,app e2.upd e1.upd,rds⟩ g2 w2 v2:=by
 have hB: ∀b o,ownsIn g1 (app e1.upd H) (idsOf e2.upd) b o→w.heap.size≤b∨ownsIn g H (idsOf (app e2.upd e1.upd)) b o:=by
  rintro b o ⟨i,blk,hi,hg,ho⟩
  by_cases h1:i∈idsOf e1.upd
  ·refine(h.perm i blk b o h1 hg ho).imp id fun⟨j,bj,hj,q⟩=>⟨j,bj,A7.2 (.inr hj),q⟩
  ·exact .inr ⟨i,blk,A7.2 (.inl hi),(yQ h1).symm.trans hg,(wC (h.gho i h1).1 (h.gho i h1).2).1 ho⟩
 have mono: ∀b o,ownsIn g H (idsOf e1.upd) b o→ownsIn g H (idsOf (app e2.upd e1.upd)) b o:=fun b o ⟨j,bj,hj,q⟩=>⟨j,bj,A7.2 (.inr hj),q⟩
 refine⟨h.le.trans k.le,k.slot,by simp only[IG];exact k.heap,?_,fun i blk b o hi hg ho=> ?_,fun i hi=> ?_,fun i u y us hg=> ?_⟩
 ·have h1:Fr (ownsIn g H (idsOf (app e2.upd e1.upd))) w w1 g.S g1.S:=⟨h.fr.os,h.fr.tape,h.fr.output,h.fr.size,fun b hb hn=>h.fr.blk b hb (fun o ho=>hn o (mono b o ho)),fun b o hb hn=>h.fr.cell b o hb (fun ho=>hn (mono b o ho)),fun b o hs=>(h.fr.new b o hs).imp id (Or.imp id (mono b o)),fun b s hs=>(h.fr.shape b s hs).imp id fun h o=>mono b o (h o)⟩
  exact h1.trans k.fr hB
 ·simp only[IG] at hg
  by_cases h2:i∈idsOf e2.upd
  ·rcases k.perm i blk b o h2 hg ho with h3|h3
   ·exact .inl (Nat.le_trans h.fr.size h3)
   ·exact hB b o h3
  ·have hi1:i∈idsOf e1.upd:=(A7.1 hi).resolve_left h2
   rw[yQ h2] at hg
   exact(h.perm i blk b o hi1 hg ((wC (k.gho i h2).1 (k.gho i h2).2).1 ho)).imp id (mono b o)
 ·have h2:i∉idsOf e2.upd:=fun q=>hi (A7.2 (.inl q))
  have h1:i∉idsOf e1.upd:=fun q=>hi (A7.2 (.inr q))
  exact⟨(k.gho i h2).1.trans (h.gho i h1).1,(k.gho i h2).2.trans (h.gho i h1).2⟩
 ·simp only[IG] at hg
  rcases k.ty i u y us hg with⟨x,ts,h3⟩ |⟨h3,h4⟩
  ·exact h.ty i u x ts h3
  ·right
   refine⟨?_,fun n=> ?_⟩
   ·cases hj:g.J i with
    |none=>rfl
    |some p=>rw[h.le.J i p hj] at h3;cases h3
   ·cases hj:g.cur i n with
    |none=>rfl
    |some p=>rw[←h4 n,h.le.cur i n p hj]
omit hT hH in
theorem EffOk.congrH {H H':Heap}{e:Eff}{g':Gh}{w':World}{v:Value}(h:EffOk g w H e g' w' v) (hH:H=H'):EffOk g w H' e g' w' v:=hH▸h
omit hT hH in
theorem VL {w:World}: ∀(ls:List (Nat×TypeId×Nat)) (i:Nat) (g:Gh) (H:Heap),HeapOk g w H→(∀j,i≤j→j<i+ls.length→∀n,g.cur j n=none)→
  ∃g1,EffOk g w H ⟨[],(.any,none),zZ ls i,[]⟩ g1 w undef∧g1.J=g.J∧(∀o k,(o,k)∈yN ls i→g1.cur k 0=some (.slice none 0 0))∧(∀k,k<i→g1.cur k=g.cur k)
 |[],i,g,H,hH,_=>⟨g,.pure hH ⟨trivial,trivial⟩,rfl,fun _ _ h=>by simp [yN] at h,fun _ _=>rfl⟩
 |(o,e,c)::r,i,g,H,hH,hf=>by
  have e1:=EffOk.nilTok (side:=[]) (d:= .val (.list .bool) []) (rds:=[]) (base:=i) (e:=e) (c:=c) (u:= .bool) hH rfl (hf i (Nat.le_refl _) (by simp))
  have hc1: ∀k n,k≠i→(g.tok i 0 (.slice none 0 0)).cur k n=g.cur k n:=fun k n hk=>by
   show (if k=i∧n=0 then _ else _)=_
   rw[if_neg (fun h=>hk h.1)]
  obtain⟨g1,k1,k2,k3,k4⟩:=VL r (i+1) (g.tok i 0 (.slice none 0 0)) (app [(i,Blk.grow e c 0)] H) e1.heap (fun j h1 h2 n=>by rw[hc1 j n (by omega)];exact hf j (by omega) (by simp only[List.length_cons];omega) n)
  refine⟨g1,e1.trans k1,k2.trans rfl,fun o' k hm=> ?_,fun k hk=> ?_⟩
  ·simp only[yN,List.mem_cons,Prod.mk.injEq] at hm
   rcases hm with⟨rfl,rfl⟩ |hm
   ·rw[k4 _ (by omega)]
    show (if k=k∧0=0 then _ else _)=_
    simp
   ·exact k3 o' k hm
  ·rw[k4 k (by omega)]
   funext n
   exact hc1 k n (by omega)
omit hT hH in
theorem VM: ∀{ls:List (Nat×TypeId×Nat)}{i o k:Nat},(o,k)∈yN ls i→∃q∈ls,q.1=o
 |[],_,_,_,h=>by simp [yN] at h
 |(o',e,c)::r,i,o,k,h=>by
  simp only[yN,List.mem_cons,Prod.mk.injEq] at h
  rcases h with⟨h1,_⟩ |h
  ·exact⟨(o',e,c),by simp,h1.symm⟩
  ·obtain⟨q,h1,h2⟩:=VM h
   exact⟨q,by simp [h1],h2⟩
omit hT hH in
theorem VN {t:Ty}: ∀{ls:List (Nat×TypeId×Nat)},B0 t ls=true→∀q∈ls,AZ t q.1=true
 |[],_,_,h=>by cases h
 |(o,e,c)::r,h,q,hq=>by
  simp only[B0,Bool.and_eq_true] at h
  rcases List.mem_cons.1 hq with rfl|hq
  ·exact h.1
  ·exact VN h.2 q hq
omit hT hH in
theorem LI: ∀(ls:List (Nat×TypeId×Nat)) (i j:Nat),j∈idsOf (zZ ls i)↔i≤j∧j<i+ls.length
 |[],i,j=>by simp only[zZ,idsOf,List.not_mem_nil,List.length_nil,false_iff];omega
 |(o,e,c)::r,i,j=>by
  simp only[zZ,A7,LI r (i+1) j,idsOf,List.mem_singleton,List.length_cons]
  omega
omit hT hH in
theorem a7y {w:World}: ∀(R:List (Nat×Nat×Ty)) (i:Nat) (g:Gh) (H:Heap),HeapOk g w H→(∀j,i≤j→j<i+R.length→∀n,g.cur j n=none)→
  ∃g1,EffOk g w H ⟨[],(.any,none),FX R i,[]⟩ g1 w undef∧g1.J=g.J∧(∀j,j<R.length→g1.cur (i+j) 0=some (.slice none 0 0))∧(∀k,k<i→g1.cur k=g.cur k)
 |[],i,g,H,hH,_=>⟨g,.pure hH ⟨trivial,trivial⟩,rfl,fun _ h=>by simp at h,fun _ _=>rfl⟩
 |(o,e,u)::r,i,g,H,hH,hf=>by
  have hfr:=hf i (Nat.le_refl _) (by simp)
  have e1:=EffOk.row (side:=[]) (rds:=[]) (k:=i) (e:=e) (t:=u) (l:=[]) (n:=0) (s:=(.any,none)) (val:=undef) (v:= .slice none 0 0) (xs:=[]) hH rfl (World.ownsRow_nil w 0 _ _) rfl (fun m _=>hfr m) (fun u hu=>by rw[hfr] at hu;cases hu) (.inl ⟨rfl,rfl,rfl,Nat.le_refl _,fun _ _ _=>rfl⟩) (fun _ _ _=>rfl) (fun b hb=>by cases hb) (fun b hb=>by cases hb) ⟨trivial,trivial⟩
  have hc1: ∀k n,k≠i→(g.tok i 0 (.slice none 0 0)).cur k n=g.cur k n:=fun k n hk=>by
   show (if k=i∧n=0 then _ else _)=_
   rw[if_neg (fun h=>hk h.1)]
  obtain⟨g1,k1,k2,k3,k4⟩:=a7y r (i+1) (g.tok i 0 (.slice none 0 0)) (app [(i,Blk.row e u [] 0)] H) e1.heap (fun j h1 h2 n=>by rw[hc1 j n (by omega)];exact hf j (by omega) (by simp only[List.length_cons];omega) n)
  refine⟨g1,e1.trans k1,k2.trans rfl,fun j hj=> ?_,fun k hk=> ?_⟩
  ·cases j with
   |zero=>
    rw[Nat.add_zero,k4 _ (by omega)]
    show (if i=i∧0=0 then _ else _)=_
    simp
   |succ j=>
    have:=k3 j (by simpa using hj)
    rwa [show i+1+j=i+(j+1) by omega] at this
  ·rw[k4 k (by omega)]
   funext n
   exact hc1 k n (by omega)
omit hT hH in
theorem a7z: ∀(R:List (Nat×Nat×Ty)) (i j:Nat),j∈idsOf (FX R i)↔i≤j∧j<i+R.length
 |[],i,j=>by simp only[FX,idsOf,List.not_mem_nil,List.length_nil,false_iff];omega
 |(o,e,c)::r,i,j=>by
  simp only[FX,A7,a7z r (i+1) j,idsOf,List.mem_singleton,List.length_cons]
  omega
omit hT hH in
theorem VO {α:Type}: ∀l:List α,KU l=l.length
 |[]=>rfl
 |_::l=>by simp only[KU,VO l,List.length_cons]
omit hT hH in
theorem LJ {α:Type}{x:α}: ∀{l m:List α},x∈app l m↔x∈l∨x∈m
 |[],m=>by simp [app]
 |y::l,m=>by simp only[app,List.mem_cons,LJ (l:=l),or_assoc]
omit hT hH in
theorem aF6 {g:Gh}{w:World}: ∀{t:Ty}{x:t.den}{cs:List Value}{o:Nat},Rd g w t x cs→∀q∈B1 t x o,o≤q.1∧cs[q.1-o]? =some (.slice none 0 0):=by
 intro t
 induction t with
 |pair a b iha ihb=>
  intro x cs o r q hq
  obtain⟨c1,c2,rfl,r1,r2⟩:=r
  simp only[B1,LJ] at hq
  have hl:=qU r1
  rcases hq with hq|hq
  ·obtain⟨h1,h2⟩:=iha r1 q hq
   exact⟨h1,by rw[List.getElem?_append_left (List.getElem?_eq_some_iff.1 h2).1];exact h2⟩
  ·obtain⟨h1,h2⟩:=ihb r2 q hq
   refine⟨by omega,?_⟩
   rw[List.getElem?_append_right (by omega),hl,show q.1-o-a.cells=q.1- (o+a.cells) by omega]
   exact h2
 |rl e u=>
  intro x cs o r q hq
  cases x with
  |none=>
   simp only[B1,UB,List.mem_singleton] at hq
   subst hq
   refine⟨Nat.le_refl _,?_⟩
   rw[show cs=[.slice none 0 0] from r]
   simp
  |some z=>simp [B1,UB] at hq
 |_=>intro x cs o r q hq;simp [B1] at hq
omit hT hH in
theorem aF7 {g:Gh}{w:World}: ∀{t:Ty}{x:t.den}{cs:List Value}{o:Nat},Rd g w t x cs→∀q∈CC t x o,o≤q∧cs[q-o]? =some (.pointer none):=by
 intro t
 induction t with
 |pair a b iha ihb=>
  intro x cs o r q hq
  obtain⟨c1,c2,rfl,r1,r2⟩:=r
  simp only[CC,LJ] at hq
  have hl:=qU r1
  rcases hq with hq|hq
  ·obtain⟨h1,h2⟩:=iha r1 q hq
   exact⟨h1,by rw[List.getElem?_append_left (List.getElem?_eq_some_iff.1 h2).1];exact h2⟩
  ·obtain⟨h1,h2⟩:=ihb r2 q hq
   refine⟨by omega,?_⟩
   rw[List.getElem?_append_right (by omega),hl,show q-o-a.cells=q- (o+a.cells) by omega]
   exact h2
 |mref=>
  intro x cs o r q hq
  cases x with
  |none=>
   simp only[CC,UC,List.mem_singleton] at hq
   subst hq
   refine⟨Nat.le_refl _,?_⟩
   rw[show cs=[.pointer none] from r]
   simp
  |some z=>simp [CC,UC] at hq
 |_=>intro x cs o r q hq;simp [CC] at hq
omit hT hH in
theorem a7A {g:Gh}{w:World}{t u:Ty}{x z:t.den}{y:u.den}{cs:List Value}{o:Nat}{v:Value}(h:qQ u y t x o=some z) (hy:Rd g w u y [v]) (hR:Rd g w t x cs) (hv:cs[o]? =some v):Rd g w t z cs:=by
 obtain⟨c1,c2,c3,rfl,rfl,h2,h3⟩:=PU hy hR h
 have hu:=qU hy
 simp only[List.length_singleton] at hu
 rw[←hu] at h2
 obtain⟨v',rfl⟩:=List.length_eq_one_iff.1 h2
 have:(c1++[v']++c3)[c1.length]? =some v':=by simp
 rw[this] at hv
 obtain rfl:=Option.some.inj hv
 exact h3
omit hT hH in
theorem a7B {g:Gh}{w:World}{t:Ty}{cs:List Value}: ∀{R:List (Nat×Nat×Ty)}{i:Nat}{x z:t.den},FW t i R (some x)=some z→Rd g w t x cs→(∀q∈R,cs[q.1]? =some (.slice none 0 0))→(∀j,j<R.length→g.cur (i+j) 0=some (.slice none 0 0))→Rd g w t z cs
 |[],i,x,z,h,hR,_,_=>by simp only[FW,Option.some.injEq] at h;exact h▸hR
 |(o,e,u)::r,i,x,z,h,hR,hc,hg=>by
  simp only[FW] at h
  cases hs:qQ (.rl e u) (some (i,0)) t x o with
  |none=>rw[hs] at h;cases r<;>simp [FW] at h
  |some x'=>
   rw[hs] at h
   refine a7B h (a7A (v:= .slice none 0 0) hs ⟨_,by simpa using hg 0 (by simp),rfl,.inl ⟨rfl,rfl⟩⟩ hR (hc _ List.mem_cons_self)) (fun q hq=>hc q (List.mem_cons_of_mem _ hq)) (fun j hj=> ?_)
   have:=hg (j+1) (by simpa using hj)
   rwa [show i+(j+1)=i+1+j by omega] at this
omit hT hH in
theorem a7C {g:Gh}{w:World}{t:Ty}{cs:List Value}{i:Nat}{p:Pl}(hp:g.J i=some p) (hp2:p.2=0): ∀{M:List Nat}{x z:t.den},DU t i M (some x)=some z→Rd g w t x cs→(∀q∈M,cs[q]? =some (.pointer none)∧V1 p.3 q)→Rd g w t z cs
 |[],x,z,h,hR,_=>by simp only[DU,Option.some.injEq] at h;exact h▸hR
 |q::r,x,z,h,hR,hc=>by
  simp only[DU] at h
  cases hs:qQ .mref (some (i,q)) t x q with
  |none=>rw[hs] at h;cases r<;>simp [DU] at h
  |some x'=>
   rw[hs] at h
   exact a7C hp hp2 h (a7A (v:= .pointer none) hs ⟨p,hp,by rw[hp2,Nat.zero_add];exact(hc _ List.mem_cons_self).2,.inl rfl⟩ hR (hc _ List.mem_cons_self).1) (fun q hq=>hc q (List.mem_cons_of_mem _ hq))
omit hT in
theorem a7D {t:Ty}{y:t.den}{ls:List (Nat×TypeId×Nat)}{base:Nat}{e:Eff}{cs:List Value}{el:TypeId}(hr:OU base el t y ls (B0 t ls)=some e) (hf:wS g base e) (hR:Rd g w t y cs) (hn:ls≠[]→uR t cs):
  ∃g',EffOk g w H e g' (w.alloc (.cells cs.toArray el)) (.pointer (some ⟨w.heap.size,0,none⟩)):=by
 cases hl:B0 t ls with
 |false=>rw[hl] at hr;cases hr
 |true=>
  rw[hl] at hr
  simp only[OU,VO] at hr
  have cR:=fun q hq=>aF6 (o:=0) hR q hq
  have cM: ∀q∈OT el t y,cs[q]? =some (.pointer none)∧V1 (some (el,cs.length)) q:=by
   intro q hq
   unfold OT at hq
   split at hq
   ·rename_i hb
    have h0:=fun q hq=>aF7 (o:=0) hR q hq
    have hl:=qU hR
    generalize CC t y 0=M at hq h0
    rw[←hl] at hq
    unfold a6M at hq
    split at hq
    ·rename_i h2
     simp only[List.mem_singleton] at hq
     subst hq
     exact⟨by simpa using(h0 0 (by simp)).2,rfl,el,hb,by rw[h2]⟩
    ·cases hq
   ·cases hq
  generalize B1 t y 0=R at hr cR
  generalize OT el t y=M at hr cM
  cases hz1:FW t (base+1+ls.length) R (some y) with
  |none=>
   rw[hz1] at hr
   have:DU t base M none=none:=by cases M<;>rfl
   rw[this] at hr;cases hr
  |some z1=>
   rw[hz1] at hr
   cases hz2:DU t base M (some z1) with
   |none=>rw[hz2] at hr;cases hr
   |some z=>
    rw[hz2] at hr
    simp only[a6N,VO] at hr
    obtain rfl:=(Option.some.inj hr)
    have hfr: ∀j,base+1≤j→j<base+1+ls.length+R.length→g.J j=none∧∀n,g.cur j n=none:=fun j h1 h2=>hf j (by
     simp only[idsOf,List.mem_cons]
     right
     rw[A7]
     by_cases h3:j<base+1+ls.length
     ·exact .inr ((LI ls (base+1) j).2 ⟨h1,h3⟩)
     ·exact .inl ((a7z R (base+1+ls.length) j).2 ⟨by omega,h2⟩)) (by omega)
    have hf0:=hf base (by simp [idsOf]) (Nat.le_refl _)
    obtain⟨g1,k1,k2,k3,k4⟩:=VL ls (base+1) g H hH (fun j h1 h2=>(hfr j h1 (by omega)).2)
    have hfr1: ∀j,base+1+ls.length≤j→j<base+1+ls.length+R.length→∀n,g1.cur j n=none:=by
     intro j h1 h2 n
     have:=(k1.gho j (by simp only;rw[LI];omega)).2
     rw[this]
     exact(hfr j (by omega) h2).2 n
    obtain⟨g2,m1,m2,m3,m4⟩:=a7y R (base+1+ls.length) g1 _ k1.heap hfr1
    have hJ:(g2.var base w.heap.size (some (el,cs.length))).J base=some ⟨w.heap.size,0,some (el,cs.length)⟩:=by simp [Gh.var]
    have hle:Le g w (g2.var base w.heap.size (some (el,cs.length))) w:=by
     refine((k1.le.trans m1.le).trans ⟨fun _ _ h=>h,fun _ _ _=>rfl,fun i p h=> ?_,fun _ _ _ h=>h⟩)
     show (if i=base then _ else _)=_
     rw[if_neg (fun e1=>by rw[e1,m2,k2,hf0.1] at h;cases h)];exact h
    have hRz:Rd (g2.var base w.heap.size (some (el,cs.length))) w t z cs:=a7C hJ rfl hz2 (a7B hz1 (uS hle hR) (fun q hq=>by simpa using(cR q hq).2) (fun j hj=>m3 j hj)) cM
    have htk:CH g2 t z cs (yN ls (base+1)):=by
     intro o k hm
     obtain⟨q,hq,rfl⟩:=VM hm
     obtain⟨u,h1,h2⟩:=a7m (hn (fun e=>by rw[e] at hq;cases hq)) hRz (VN hl q hq)
     exact⟨u,[],_,h1,h2,m1.le.cur _ _ _ (k3 _ _ hm)⟩
    have e3:=EffOk.newVarJ (side:=[]) (rds:=[]) (base:=base) (toks:=yN ls (base+1)) (e:=el) m1.heap hRz htk (by rw[m2,k2];exact hf0.1) (by rw[m4 base (by omega),k4 base (by omega)];exact funext hf0.2)
    have e4:=EffOk.trans (side:=[]) (rds:=[]) k1 m1
    exact⟨_,EffOk.trans (side:=[]) (rds:=[]) e4 (e3.congrH (H':=app (app (FX R (base+1+ls.length)) (zZ ls (base+1))) H) (by simp only[IG]))⟩
theorem VP {t:Ty}{y:t.den}{k:Option Nat}{v:Value}(h:RdS g w (.val t y,k) v):r7 g w t y v∧zG g t y v k:=by
 refine⟨h.1,?_⟩
 cases k with
 |none=>trivial
 |some k=>exact h.2
theorem aF8 {t:TypeId}{x:Operand}(ho:o.op= .box t x) {sx:Slot}(hx:RdS g w sx (a.eval x)) {base:Nat}{e:Eff}(hr:UE base t (q6 T t) sx=some e) (hf:wS g base e):pT P o a g w H e:=by
 generalize hst:q6 T t=ot at hr
 have hrun:(execOp a.eval o).run P w= .ok (.value (.pointer (some ⟨w.heap.size,0,none⟩))) (w.alloc (.cells (a.eval x).cells.toList.toArray t)):=by
  unfold execOp
  rw[ho]
  simp only[Instr.box,Go.newVar,newRow,Sem.run_bind,run_newObj,Result.andThen_ok,Sem.run_pure,Array.toArray_toList]
  rfl
 have one: ∀{u:Ty}{y:u.den},r7 g w u y (a.eval x)→u.isRow=false→(a.eval x).cells.toList=[a.eval x]:=fun hv hrow=>by
  have h1:=y4 (yR hrow hv) _ (List.mem_singleton.2 rfl)
  cases h:a.eval x<;>first|rfl|(rw[h] at h1;simp [Value.oneCell'] at h1)
 unfold UE at hr
 split at hr
 ·rename_i ti u y k
  split at hr
  ·obtain⟨hv,hk⟩:=VP hT hH hx
   have hR:=B5 hv
   unfold a6O at hr
   split at hr
   ·rename_i a' b' y' k' _
    have hn:uR (.pair a' b') (a.eval x).cells.toList:=hk
    obtain⟨g',h⟩:=a7D (el:=t) hH hr hf hR (fun _=>hn)
    exact pT.value hrun h
   ·rename_i u' y' k'
    cases hr
    have hfr:=hf base (by simp [idsOf]) (Nat.le_refl _)
    exact pT.value hrun (EffOk.newVar hH hR (aF5 hT hH hk (one hv rfl)) hfr.1 (funext hfr.2))
   ·cases hr
    have hfr:=hf base (by simp [idsOf]) (Nat.le_refl _)
    exact pT.value hrun (EffOk.newVar hH hR (fun q k hm=>by cases hm) hfr.1 (funext hfr.2))
  ·cases hr
 ·cases hr
theorem aF9 {t:TypeId}(ho:o.op= .alloc t) {base:Nat}{e:Eff}(hr:UD base t (q6 T t)=some e) (hf:wS g base e):pT P o a g w H e:=by
 generalize hst:q6 T t=ot at hr
 have run: ∀ti,q6 T t=some ti→(execOp a.eval o).run P w= .ok (.value (.pointer (some ⟨w.heap.size,0,none⟩))) (w.alloc (.cells (rI ti.ty).toArray t)):=by
  intro ti hti
  obtain⟨i,hi,hsz,hz⟩:=CI (qY hT hti)
  have hc:(uF ti.ty).cells=(rI ti.ty).toArray:=by
   have:=B5 (LD g w ti.ty)
   unfold uF
   cases h:ti.ty<;>simp [Ty.isRow,rI,Value.cells]
  unfold execOp
  rw[ho]
  simp only[Instr.alloc,zeroValue,typeInfo,Go.newVar,newRow,Sem.run_bind,run_program,hi,hz,hc,run_newObj,Result.andThen_ok,Sem.run_pure]
  rfl
 unfold UD at hr
 split at hr
 ·rename_i u el by' ar ls_
  cases hr
  have hf0:=hf base (by simp [idsOf]) (Nat.le_refl _)
  have hf1:=hf (base+1) (by simp [idsOf]) (by omega)
  have hty:=qY hT hst
  have e1:=EffOk.nilTok (side:=[]) (d:= .val (.list u) []) (rds:=[]) (base:=base+1) (e:=el) (c:=u.cells) (u:=u) hH rfl hf1.2
  have hH1:=e1.heap
  have htk:CH (g.tok (base+1) 0 (.slice none 0 0)) (.list u) [] [.slice none 0 0] [(0,base+1)]:=by
   intro q kk hm
   simp only[List.mem_singleton,Prod.mk.injEq] at hm
   obtain⟨rfl,rfl⟩:=hm
   exact⟨u,[],.slice none 0 0,by unfold pM;simp [rU],rfl,by simp [Gh.tok]⟩
  have e2:=EffOk.newVar (side:=[]) (rds:=[]) (base:=base) (toks:=[(0,base+1)]) (e:=t) hH1 (A5 (g.tok (base+1) 0 (.slice none 0 0)) w (.list u)) htk hf0.1 (by
   funext n
   show (if base=base+1∧n=0 then _ else _)=_
   rw[if_neg (by omega)]
   exact hf0.2 n)
  exact pT.value (run _ hst) (EffOk.trans (side:=[]) (rds:=[]) e1 e2)
 ·rename_i ti hno
  obtain⟨g',h⟩:=a7D (el:=t) hH hr hf (A5 g w ti.ty) (fun _=>PZ _)
  exact pT.value (run _ hst) h
 ·cases hr
omit hT hH in
theorem aGa {t:Ty}{y:t.den}{k:Option Nat}{v:Value}(h:zG g t y v k):zG g t y v (C8 t k):=by
 cases t with
 |list u=>exact h
 |_=>trivial
omit hT hH in
theorem a7E {off:Nat}: ∀{l:List (Nat×Nat)}{o k:Nat},(o,k)∈I1 off l→∃q,o=off+q∧(q,k)∈l
 |[],_,_,h=>by cases h
 |(q,k')::r,o,k,h=>by
  simp only[I1,List.mem_cons,Prod.mk.injEq] at h
  rcases h with⟨rfl,rfl⟩ |h
  ·exact⟨q,rfl,List.mem_cons_self⟩
  ·obtain⟨q',h1,h2⟩:=a7E h
   exact⟨q',h1,List.mem_cons_of_mem _ h2⟩
omit hT hH in
theorem a7F {v t:Ty}{y:t.den}: ∀{u:Ty}{x z:u.den}{o q:Nat}{l:(Ty.list v).den},qQ t y u x o=some z→pM (.list v) t y q=some l→q<t.cells→pM (.list v) u z (o+q)=some l:=by
 intro u
 induction u with
 |pair a b iha ihb=>
  intro x z o q l h g hq
  by_cases hu:o=0∧t= .pair a b
  ·obtain⟨rfl,rfl⟩:=hu
   unfold qQ at h
   rw[dif_pos rfl] at h
   simp only[rU,Option.some.injEq] at h
   subst h
   simpa using g
  ·have keyh:(if o<a.cells then(qQ t y a x.1 o).map (fun q=>(q,x.2)) else(qQ t y b x.2 (o-a.cells)).map (fun q=>(x.1,q)))=some z:=by
    cases o with
    |zero=>
     unfold qQ at h
     rw[dif_neg (fun e=>hu ⟨rfl,e⟩)] at h
     simpa using h
    |succ o=>simpa[qQ] using h
   have keyg: ∀m,pM (.list v) (.pair a b) z m=(if m<a.cells then pM (.list v) a z.1 m else pM (.list v) b z.2 (m-a.cells)):=by
    intro m
    cases m with
    |zero=>
     conv=>lhs;unfold pM
     rw[dif_neg (by intro e;cases e),Nat.zero_sub]
    |succ m=>simp [pM]
   rw[keyg]
   by_cases ho:o<a.cells
   ·rw[if_pos ho] at keyh
    obtain⟨z',hz',rfl⟩:=Option.map_eq_some_iff.1 keyh
    have hfit:o+t.cells≤a.cells:=by
     have: ∀{u:Ty}{x z:u.den}{o:Nat},qQ t y u x o=some z→o+t.cells≤u.cells:=by
      intro u
      induction u with
      |pair a b iha ihb=>
       intro x z o h
       have key: ∀o,(if o<a.cells then(qQ t y a x.1 o).map (fun q=>(q,x.2)) else(qQ t y b x.2 (o-a.cells)).map (fun q=>(x.1,q)))=some z→o+t.cells≤a.cells+b.cells:=by
        intro o h
        by_cases ho:o<a.cells
        ·rw[if_pos ho] at h;obtain⟨z',hz',_⟩:=Option.map_eq_some_iff.1 h;have:=iha hz';omega
        ·rw[if_neg ho] at h;obtain⟨z',hz',_⟩:=Option.map_eq_some_iff.1 h;have:=ihb hz';omega
       cases o with
       |zero=>
        unfold qQ at h
        split at h
        ·rename_i e;subst e;simp
        ·exact key 0 (by simpa using h)
       |succ o=>exact key (o+1) (by simpa[qQ] using h)
      |_=>
       intro x z o h
       cases o with
       |zero=>
        unfold qQ at h
        split at h
        ·rename_i e;subst e;simp
        ·simp at h
       |succ o=>simp [qQ] at h
     exact this hz'
    rw[if_pos (by omega)]
    exact iha hz' g hq
   ·rw[if_neg ho] at keyh
    obtain⟨z',hz',rfl⟩:=Option.map_eq_some_iff.1 keyh
    rw[if_neg (by omega),show o+q-a.cells=o-a.cells+q from by omega]
    exact ihb hz' g hq
 |_=>
  intro x z o q l h g hq
  cases o with
  |zero=>
   unfold qQ at h
   split at h
   ·rename_i e
    subst e
    simp only[rU,Option.some.injEq] at h
    try subst h
    simpa using g
   ·simp at h
  |succ o=>simp [qQ] at h
omit hT hH in
theorem a7G {v:Ty}: ∀{t:Ty}{x:t.den}{q:Nat}{l:(Ty.list v).den},pM (.list v) t x q=some l→q<t.cells:=by
 intro t
 induction t with
 |pair s t ihs iht=>
  intro x q l g
  have key: ∀q,(if q<s.cells then pM (.list v) s x.1 q else pM (.list v) t x.2 (q-s.cells))=some l→q<s.cells+t.cells:=by
   intro q g
   by_cases h:q<s.cells
   ·omega
   ·rw[if_neg h] at g
    have:=iht g
    omega
  cases q with
  |zero=>
   unfold pM at g
   rw[dif_neg (by intro e;cases e)] at g
   exact key 0 (by simpa using g)
  |succ q=>exact key (q+1) (by simpa[pM] using g)
 |unit=>
  intro x q l g
  cases q with
  |zero=>unfold pM at g;rw[dif_neg (by intro e;cases e)] at g;cases g
  |succ q=>simp [pM] at g
 |_=>
  intro x q l g
  cases q with
  |zero=>simp [Ty.cells]
  |succ q=>simp [pM] at g
omit hT in
theorem EffOk.retok {i:Nat}{u:Ty}{z:u.den}{toks nt:List (Nat×Nat)}{p:Pl}(hb:getH H i=some (.cells u z toks)) (hp:g.J i=some p)
  (hn: ∀cs,Rd g w u z cs→w.rangeAt p.1 p.2 cs→CH g u z cs nt):EffOk g w H ⟨[],(.any,none),[(i,.cells u z (app nt toks))],[]⟩ g w undef:=by
 obtain⟨p',cs,hp',hR,hra,hth,hns,htk⟩:=hH.blk i _ hb
 rw[hp] at hp'
 obtain rfl:=Option.some.inj hp'
 have get: ∀j blk,j∈idsOf [(i,Blk.cells u z (app nt toks))]→getH (app [(i,Blk.cells u z (app nt toks))] H) j=some blk→j=i∧blk= .cells u z (app nt toks):=by
  intro j blk hi hg
  simp only[idsOf,List.mem_singleton] at hi
  subst hi
  simp only[app,getH,if_true,Option.some.injEq] at hg
  exact⟨rfl,hg.symm⟩
 have perm: ∀j blk b o,j∈idsOf [(i,Blk.cells u z (app nt toks))]→getH (app [(i,Blk.cells u z (app nt toks))] H) j=some blk→owns g j blk b o→w.heap.size≤b∨ownsIn g H (idsOf [(i,Blk.cells u z (app nt toks))]) b o:=by
  intro j blk b o hi hg ho
  obtain⟨rfl,rfl⟩:=get j blk hi hg
  exact .inr ⟨j,_,hi,hb,ho⟩
 have le:Le g w g w:=⟨fun _ _ h=>h,fun _ _ _=>rfl,fun _ _ h=>h,fun _ _ _ h=>h⟩
 have fr:Fr (ownsIn g H (idsOf [(i,Blk.cells u z (app nt toks))])) w w g.S g.S:=⟨rfl,rfl,rfl,Nat.le_refl _,fun _ _ _=>rfl,fun _ _ _ _=>⟨rfl,rfl⟩,fun _ _ h=> .inl h,fun _ _ h=> .inl h⟩
 refine⟨le,⟨trivial,trivial⟩,hH.upd le fr perm (fun _ _=>⟨rfl,rfl⟩) (fun j blk hi hg=> ?_) (fun i j bi bj b o hi hj hij hgi hgj _ _=>hij ((get i bi hi hgi).1.trans (get j bj hj hgj).1.symm)) (fun b o h=>hH.sl b o h),fr,perm,fun _ _=>⟨rfl,rfl⟩,fun j u' y' us h=> ?_⟩
 ·obtain⟨rfl,rfl⟩:=get j blk hi hg
  refine⟨p,cs,hp,hR,hra,hth,hns,fun q kk hm=> ?_⟩
  rcases(LJ.1 hm) with hm|hm
  ·exact hn cs hR hra q kk hm
  ·exact htk q kk hm
 ·simp only[app,getH] at h
  split at h
  ·rename_i e1
   subst e1
   simp only[Option.some.injEq,Blk.cells.injEq] at h
   obtain⟨rfl,_⟩:=h
   exact .inl ⟨z,toks,hb⟩
  ·exact .inl ⟨y',us,h⟩
omit hT hH in
theorem aGb {g:Gh}{t a b:Ty}{y:t.den}{v:Value}{k:Option Nat}(h:k.isSome=true) (ht:t= .pair a b) (hk:zG g t y v k):uR t v.cells.toList:=by
 subst ht
 cases k with
 |none=>cases h
 |some k=>exact hk
omit hT hH in
theorem aGc {base i off:Nat}{b:Option Blk}{ls:List (Nat×TypeId×Nat)}{t:Ty}{y:t.den}{k:Option Nat}{e:Eff}(h:P1 base i off b ls t y k=some e):
  (∃(s:Ty) (x:s.den) (toks:List (Nat×Nat)) (z:s.den),b=some (.cells s x toks)∧qQ t y s x off=some z∧k.isSome=true∧(∃a c,t= .pair a c)∧B0 t ls=true∧
   e=⟨[],(.any,none),(i,.cells s z (app (I1 off (yN ls base)) (sU toks off t.cells)))::app (zZ ls base) [(i,.cells s z (sU toks off t.cells))],[i]⟩)∨OZ t y k i off b=some e:=by
 unfold P1 at h
 split at h
 ·rename_i q r a c y' k'
  cases hok:B0 (.pair a c) (q::r) with
  |false=>rw[hok] at h;unfold P0 at h;split at h<;>first|cases h|(rename_i h2;cases h2)
  |true=>
   rw[hok] at h
   unfold P0 at h
   split at h
   ·rename_i s x toks _
    cases hset:qQ (.pair a c) y' s x off with
    |none=>rw[hset] at h;cases h
    |some z=>
     rw[hset] at h
     exact .inl ⟨s,x,toks,z,rfl,hset,rfl,⟨a,c,rfl⟩,rfl,(Option.some.inj h).symm⟩
   ·cases h
 ·exact .inr h
theorem aGd {t:TypeId}{x y:Operand}(ho:o.op= .store t x y) {sx sy:Slot}(hx:RdS g w sx (a.eval x)) (hy:RdS g w sy (a.eval y)) {base:Nat}{e:Eff}(hr:P3 base H (q6 T t) sx sy=some e) (hside: ∀p∈e.side,p) (hf:wS g base e):pT P o a g w H e:=by
 generalize hst:q6 T t=ot at hr
 unfold P3 at hr
 split at hr
 ·rename_i ti i off k kk n k2
  generalize hb:getH H i=ob at hr
  unfold UJ at hr
  split at hr
  ·rename_i u el _ _ _ v x' toks
   generalize hset:qQ (.rl el u) (some (kk,n)) v x' off=oz at hr
   cases oz with
   |none=>cases hr
   |some z'=>
    cases hr
    have hty:=qY hT hst
    obtain⟨p,hp,hv⟩:=xG hx.1
    obtain⟨h1,h2⟩:=hy.1
    have hR:Rd g w (.rl el u) (some (kk,n)) [a.eval y]:=⟨_,h1,rfl,h2⟩
    obtain⟨heff,hth⟩:=EffOk.store (side:=[]) (rds:=[i]) (k:=none) (v:=a.eval y) hH hb hp hset hR trivial (fun _ _ _=>rfl) (fun _=>rfl)
    have hce:(a.eval y).cells= #[a.eval y]:=by rcases h2 with⟨h2,_⟩ |⟨_,_,h2,_⟩<;>(rw[h2];rfl)
    refine pT.skip (w':=w.setCells p.1 (p.2+off) [a.eval y]) ?_ heff
    obtain⟨inf,hi,hsz,_⟩:=CI hty
    have hcells:=run_storeCells_cells (P:=P) p.1 (p.2+off) [a.eval y] 0 w (fun j hj=>by simpa using(hth j hj).1) (fun j hj=>by simpa using(hth j hj).2) (fun v hv=>y4 hR v hv)
    simp only[Nat.add_zero] at hcells
    have hs2:(a.eval y).cells.size=inf.size:=by rw[hsz,hce];rfl
    have hcl:(a.eval y).cells.toList=[a.eval y]:=by rw[hce]
    simp only[execOp,ho,hv,Instr.storeAt,Instr.sureAddr,storeVar,Sem.run_bind,Sem.run_pure,Result.andThen_ok,sizeOf,typeInfo,run_program,hi,hs2,ne_eq,not_true_eq_false,if_false,hcl,hcells]
  ·cases hr
 ·rename_i ti k n c i o' _ u z kk
  split at hr
  ·rename_i hu
   subst hu
   generalize hk:getH H k=ob at hr
   unfold P2 at hr
   split at hr
   ·rename_i e' t' l m
    split at hr
    ·rename_i hc
     generalize hset:qQ ti.ty z t' (pG t' l i) o'=oz at hr
     cases oz with
     |none=>cases hr
     |some z'=>
      cases hr
      have hnm:=hside _ (List.mem_singleton.2 rfl)
      obtain⟨b,cap,xs,c1,c2,c3,hv,hcur,hown,hF,hl,hi,h0,e1,e2,e3,e4⟩:=a7q hT hH hx.1 hk hnm hc
      subst hnm
      have hty:=qY hT hst
      obtain⟨hvy,hky⟩:=VP hT hH hy
      have hR:=B5 hvy
      have hRl:=qU hR
      obtain⟨d1,d2,d3,f1,f2,f3,f4⟩:=PU hR e4 hset
      obtain⟨_,_,_,_,hv0,hown0,_,hnone,hseal⟩: ∃(_:True) (_:True) (v0:Value) (xs0:List Value),g.cur k n=some v0∧w.ownsRow 0 e' t'.cells v0 n xs0∧rC (Rd g w t') t'.cells l xs0∧(∀m,n<m→g.cur k m=none)∧∀b,v0.ownBlock=some b→∀o,¬g.S b o:=by
       obtain⟨_,v0,xs0,q1,q2,q3,q4,q5⟩:=hH.blk k _ hk
       exact⟨trivial,trivial,v0,xs0,q1,q2,q3,q4,q5⟩
      rw[hcur] at hv0
      obtain rfl:=Option.some.inj hv0
      rcases hown.2 with⟨h5,_⟩ |⟨q,cap',cur,h5,_,hg,hnc,hcm,hcs,htake⟩
      ·cases h5
      simp only[Value.slice.injEq,Option.some.injEq,Addr.mk.injEq,and_true,true_and] at h5
      obtain⟨rfl,rfl⟩:=h5
      have hxl:=hown.1
      have hnew:=qU f4
      simp only[List.length_append] at hnew
      have hc2l:c2.length=t'.cells:=by rw[e3,hc]
      have hd:d1.length+d2.length+d3.length=t'.cells:=by rw[←hc2l,f1];simp only[List.length_append]
      have hx1:c1.length+c2.length+c3.length=n*t'.cells:=by rw[←hxl,e1];simp only[List.length_append]
      have hall:cur.toList=(c1++(d1++d2++d3)++c3)++cur.toList.drop (n*t'.cells):=by
       conv=>lhs;rw[←List.take_append_drop (n*t'.cells) cur.toList,htake,e1,f1]
      obtain⟨D,hD⟩: ∃D,D=cur.toList.drop (n*t'.cells):=⟨_,rfl⟩
      rw[←hD] at hall
      have hall2:cur.toList=(c1++d1)++(d2++(d3++c3++D)):=by rw[hall];simp only[List.append_assoc]
      have hpos:i.toNat*c+o'=(c1++d1).length:=by rw[List.length_append,e2,f2]
      have hD2:(a.eval y).cells.toList.length=d2.length:=by rw[hRl,f3]
      have hfit:i.toNat*c+o'+0+(a.eval y).cells.toList.length≤cur.size:=by
       have:cur.size=cur.toList.length:=by simp
       rw[this,hall2,Nat.add_zero,hpos,hD2]
       simp only[List.length_append]
       omega
      have hst2:=run_storeCells_at P b (i.toNat*c+o') e' (a.eval y).cells.toList 0 cur w hg hfit (fun v hv=>y4 hR v hv)
      have hrow:cur.toList.take (i.toNat*c+o'+0)++(a.eval y).cells.toList++cur.toList.drop (i.toNat*c+o'+0+(a.eval y).cells.toList.length)=(c1++(d1++(a.eval y).cells.toList++d3)++c3)++D:=by
       rw[Nat.add_zero,hpos,hD2,hall2,List.take_left,List.drop_append,List.drop_of_length_le (by omega),List.nil_append,Nat.add_sub_cancel_left,List.drop_left]
       simp only[List.append_assoc]
      rw[hrow] at hst2
      obtain⟨inf,hinf,hsz,_⟩:=CI hty
      have hs2:(a.eval y).cells.size=inf.size:=by rw[hsz,←hRl,Array.length_toList]
      have hnewlen:((c1++(d1++(a.eval y).cells.toList++d3)++c3)++D).length=cur.size:=by
       have:cur.size=cur.toList.length:=by simp
       rw[this,hall]
       simp only[List.length_append]
       omega
      have hxs':(c1++(d1++(a.eval y).cells.toList++d3)++c3).length=n*t'.cells:=by
       rw[←hx1]
       simp only[List.length_append]
       rw[f1]
       simp only[List.length_append]
       omega
      have hown':(w.setRow b ((c1++(d1++(a.eval y).cells.toList++d3)++c3)++D).toArray).ownsRow 0 e' t'.cells (.slice (some ⟨b,0,none⟩) n cap) n (c1++(d1++(a.eval y).cells.toList++d3)++c3):=
       ⟨hxs',.inr ⟨b,cap,_,rfl,Nat.zero_le _,setRow_heap w b cur _ e' _ hg,hnc,hcm,by rw[List.size_toArray,hnewlen,hcs],by rw[←hxs'];exact List.take_left⟩⟩
      have hF':rC (Rd g w t') t'.cells (l.set i.toNat z') (c1++(d1++(a.eval y).cells.toList++d3)++c3):=by
       obtain⟨q1,q2,q3,r1,r2,r3,r4⟩:=VG hF f4 (qU f4) hi
       have s1:q1=c1∧q2=c2∧q3=c3:=by
        have h6:q1++(q2++q3)=c1++(c2++c3):=by rw[←List.append_assoc,←r1,e1,List.append_assoc]
        obtain⟨h7,h8⟩:=List.append_inj h6 (by rw[r2,e2,hc])
        obtain⟨h9,h10⟩:=List.append_inj h8 (by rw[r3,e3,hc])
        exact⟨h7,h9,h10⟩
       obtain⟨rfl,rfl,rfl⟩:=s1
       exact r4
      have hownk: ∀o,ownsIn g H [k] b o:=fun o=>⟨k,_,by simp,hk,_,hcur,rfl⟩
      refine pT.skip (w':=w.setRow b ((c1++(d1++(a.eval y).cells.toList++d3)++c3)++D).toArray) ?_ (EffOk.row (v:= .slice (some ⟨b,0,none⟩) n cap) hH (by rw[List.length_set];exact hl) hown' hF' hnone (fun u hu=>by rw[hcur] at hu;exact(Option.some.inj hu).symm)
       (.inr ⟨some b,⟨rfl,rfl,rfl,by simp,fun q _ hq=>setRow_other w b q _ (fun e=>hq (by rw[e]))⟩,fun b' hb' o=>by cases hb';exact hownk o⟩) (fun b' o hS=> ?_) hseal (fun b' hb'=>by cases hb';exact .inr hownk) ⟨trivial,trivial⟩)
      ·simp only[execOp,ho,hv,Instr.storeAt,Instr.sureAddr,storeVar,Sem.run_bind,Sem.run_pure,Result.andThen_ok,sizeOf,typeInfo,run_program,hinf,hs2,ne_eq,not_true_eq_false,if_false,hst2]
      ·have hne:b'≠b:=fun e=>hseal b rfl o (e▸hS)
       exact World.cell?_of_block (a:=⟨b',o,none⟩) (setRow_other w b b' _ hne)
    ·cases hr
   ·cases hr
  ·cases hr
 ·rename_i ti i off k u z kk
  split at hr
  ·rename_i hu
   subst hu
   generalize hb:getH H i=ob at hr
   have hty:=qY hT hst
   obtain⟨p,hp,hv⟩:=xG hx.1
   obtain⟨hvy,hky⟩:=VP hT hH hy
   have hR:=B5 hvy
   have hone:ti.ty.isRow=false→(a.eval y).cells.toList=[a.eval y]:=fun hrow=>by
    have h1:=y4 (yR hrow hvy) _ (List.mem_singleton.2 rfl)
    cases h:a.eval y<;>first|rfl|(rw[h] at h1;simp [Value.oneCell'] at h1)
   have hrun:w.there p.1 (p.2+off) (a.eval y).cells.toList.length→(execOp a.eval o).run P w= .ok .skip (w.setCells p.1 (p.2+off) (a.eval y).cells.toList):=by
    intro hth
    obtain⟨inf,hi,hsz,_⟩:=CI hty
    have hlen:=qU hR
    have hcells:=run_storeCells_cells (P:=P) p.1 (p.2+off) (a.eval y).cells.toList 0 w (fun j hj=>by simpa using(hth j hj).1) (fun j hj=>by simpa using(hth j hj).2) (fun v hv=>y4 hR v hv)
    simp only[Nat.add_zero] at hcells
    have hs2:(a.eval y).cells.size=inf.size:=by rw[hsz,←hlen,Array.length_toList]
    simp only[execOp,ho,hv,Instr.storeAt,Instr.sureAddr,storeVar,Sem.run_bind,Sem.run_pure,Result.andThen_ok,sizeOf,typeInfo,run_program,hi,hs2,ne_eq,not_true_eq_false,if_false,hcells]
   rcases aGc hr with⟨s,x',toks,z',hb',hset,hsome,⟨pa,pb,hpair⟩,hok,rfl⟩ |hr
   ·rw[hb'] at hb
    have hn:uR ti.ty (a.eval y).cells.toList:=aGb hsome hpair hky
    obtain⟨heff,hth⟩:=EffOk.store (side:=[]) (rds:=[i]) (k:=none) (v:=undef) hH hb hp hset hR trivial (fun _ _ _=>rfl) (fun h=>by rw[hpair] at h;cases h)
    have hfr: ∀j,base≤j→j<base+ti.ls.length→∀n,g.cur j n=none:=fun j h1 h2=>(hf j (by
     simp only[idsOf,List.mem_cons]
     right
     rw[A7]
     exact .inl ((LI _ base j).2 ⟨h1,h2⟩)) h1).2
    obtain⟨g1,k1,k2,k3,k4⟩:=VL ti.ls base g _ heff.heap hfr
    have e2:=EffOk.trans (side:=[]) (rds:=[]) heff k1
    have hib:i<base:=by
     rcases Nat.lt_or_ge i base with h|h
     ·exact h
     ·have:=(hf i (by simp [idsOf]) h).1
      rw[hp] at this;cases this
    have hiN:i∉idsOf (zZ ti.ls base):=fun h=>by
     have:=(LI _ base i).1 h
     omega
    have hb3:getH (app (app (zZ ti.ls base) [(i,Blk.cells s z' (sU toks off ti.ty.cells))]) H) i=some (.cells s z' (sU toks off ti.ty.cells)):=by
     rw[IG,yQ hiN]
     simp [app,getH]
    have hyl:=qU hR
    have e3:=EffOk.retok (p:=p) (nt:=I1 off (yN ti.ls base)) e2.heap hb3 (by rw[k2];exact hp) (fun cs hRz hra o k hm=>by
     obtain⟨q,rfl,hq⟩:=a7E hm
     obtain⟨en,he,rfl⟩:=VM hq
     obtain⟨u,h1,h2⟩:=a7m hn hR (VN hok en he)
     have hql:en.1<(a.eval y).cells.toList.length:=(List.getElem?_eq_some_iff.1 h2).1
     have h3:=a7F hset h1 (by omega)
     refine⟨u,[],.slice none 0 0,h3,?_,k3 _ _ hq⟩
     have hlen:=qU hRz
     have hlt:=a7G h3
     have hc:cs[off+en.1]? =some cs[off+en.1]:=List.getElem?_eq_getElem (by omega)
     have hr1:=hra _ _ hc
     have hr2:=World.cell?_setCells_in p.1 (a.eval y).cells.toList (p.2+off) w (fun j hj=>(hth j hj).1) en.1 hql
     rw[Nat.add_assoc] at hr2
     rw[hr2] at hr1
     rw[hc,←hr1,←h2,List.getElem?_eq_getElem hql])
    exact pT.skip (w':=w.setCells p.1 (p.2+off) (a.eval y).cells.toList) (hrun hth) (EffOk.trans (side:=[]) (rds:=[i]) e2 e3)
   ·unfold OZ at hr
    split at hr
    ·rename_i s q toks _
     generalize hset:qQ ti.ty z s q off=oz at hr
     cases oz with
     |none=>cases hr
     |some z'=>
      cases hr
      obtain⟨heff,hth⟩:=EffOk.store (side:=[]) (rds:=[i]) hH hb hp hset hR (aGa hky) (fun a b e=>by rw[e];rfl) hone
      exact pT.skip (w':=w.setCells p.1 (p.2+off) (a.eval y).cells.toList) (hrun hth) heff
    ·cases hr
  ·cases hr
 ·cases hr
theorem a7H {t:Ty}{n:Nat}{ev:Operand→Value}{ρ:Operand→Slot}: ∀(ps:List (Nat×Operand)) (l z:List t.den) (cs:List Value),rC (Rd g w t) t.cells l cs→l.length=n→(∀q∈ps,RdS g w (ρ q.2) (ev q.2))→xW t n (some l) (rY ρ ps)=some z→
  ∃cs',Instr.fill (fun i=>some (i*t.cells,t.cells)) cs.toArray (ps.map fun q=>(q.1,ev q.2))=some cs'.toArray∧rC (Rd g w t) t.cells z cs'∧z.length=n
 |[],l,z,cs,r,hl,_,h=>by
  simp only[rY,xW,Option.some.injEq] at h
  subst h
  exact⟨cs,rfl,r,hl⟩
 |(i,q)::ps,l,z,cs,r,hl,hq,h=>by
  have h0:=hq (i,q) (by simp)
  generalize hs:ρ q=s at h0
  simp only[rY,hs] at h
  obtain⟨d,k⟩:=s
  cases d with
  |val u y=>
   simp only[xW,a6B] at h
   by_cases hc:u=t∧i<n
   ·rw[dif_pos hc] at h
    obtain⟨rfl,hi⟩:=hc
    simp only[rU] at h
    have hR:=B5 h0.1
    obtain⟨c1,c2,c3,rfl,h2,h3,h4⟩:=VG (i:=i) r hR (qU hR) (by omega)
    obtain⟨cs',k1,k2,k3⟩:=a7H ps (l.set i y) z _ h4 (by simpa using hl) (fun q hq'=>hq q (by simp [hq'])) h
    refine⟨cs',?_,k2,k3⟩
    simp only[List.map_cons]
    rw[a7l rfl (by have:=qU hR;simpa using this) (c1:=c1) (c2:=c2) (c3:=c3) (by simp) h2 h3]
    exact k1
   ·rw[dif_neg hc] at h
    cases ps with
    |nil=>simp [rY,xW] at h
    |cons p ps=>simp [rY,xW] at h
  |_=>simp [xW] at h
theorem VQ {t:TypeId}{n:Nat}{ps:Array (Nat×Operand)}(ho:o.op= .buildSlice t n ps) {ρ:Operand→Slot}(hρ: ∀q∈ps.toList,RdS g w (ρ q.2) (a.eval q.2)) {u:Ty}{el:TypeId}{by':Nat}{ar:Bool}{ls:List (Nat×TypeId×Nat)}(hst:q6 T t=some ⟨.list u,el,by',ar,ls⟩) {l:List u.den}
  (hb:xW u n (some (zD u n)) (rY ρ ps.toList)=some l) (hn:n≤16777216∧n*u.cells≤16777216):
  ∃cs':List Value,rC (Rd g w u) u.cells l cs'∧l.length=n∧(execOp a.eval o).run P w= .ok (.value (.slice (some ⟨w.heap.size,0,none⟩) n n)) (w.alloc (.cells cs'.toArray el)):=by
    obtain⟨h2,h3,_⟩:=(qY hT hst).2
    obtain⟨ei,hei,hz⟩:=Option.map_eq_some_iff.1 h3
    simp only[Prod.mk.injEq] at hz
    obtain⟨cs',k1,k2,k3⟩:=a7H hT hH ps.toList (zD u n) l _ (a7u n) (a7v u n) hρ hb
    refine⟨cs',k2,k3,?_⟩
    have hzc:(uF u).cells=(rI u).toArray:=by
     unfold uF
     cases h:u<;>simp [Ty.isRow,rI,Value.cells]
    have hmap:(ps.map fun(q:Nat×Operand)=>(q.1,a.eval q.2)).toList=ps.toList.map fun q=>(q.1,a.eval q.2):=by simp
    have hzl:(rI u).length=u.cells:=qU (A5 g w u)
    have hrow: ∀z:Array Value,(n*u.cells≠0→z=(rI u).toArray)→(Array.range (n*u.cells)).map (fun i=>z[i%z.size]!)=(List.flatten (List.replicate n (rI u))).toArray:=by
     intro z hz0
     by_cases h0:n*u.cells=0
     ·rw[h0]
      have:List.flatten (List.replicate n (rI u))=[]:=List.eq_nil_of_length_eq_zero (by simp [hzl,h0])
      rw[this];simp
     ·rw[hz0 h0]
      have hpos:0<u.cells:=Nat.pos_of_ne_zero (fun h=>h0 (by rw[h];simp))
      apply Array.toList_inj.1
      apply List.ext_getElem?
      intro j
      have key: ∀(m j:Nat),j<m*u.cells→(List.flatten (List.replicate m (rI u)))[j]? =(rI u)[j%u.cells]? :=by
       intro m
       induction m with
       |zero=>intro j h;simp at h
       |succ m ih=>
        intro j h
        rw[List.replicate_succ,List.flatten_cons]
        by_cases hj:j<u.cells
        ·rw[List.getElem?_append_left (by omega),Nat.mod_eq_of_lt hj]
        ·rw[List.getElem?_append_right (by omega),hzl,ih (j-u.cells) (by rw[Nat.succ_mul] at h;omega)]
         congr 1
         conv=>rhs;rw[←Nat.sub_add_cancel (Nat.le_of_not_lt hj),Nat.add_mod_right]
      by_cases hj:j<n*u.cells
      ·have hm:j%u.cells<(rI u).length:=by rw[hzl];exact Nat.mod_lt _ hpos
       simp only[Array.toList_map,Array.toList_range,List.getElem?_map,List.getElem?_range hj,Option.map_some,List.size_toArray,hzl]
       rw[key n j hj,List.getElem?_eq_getElem hm]
       simp [getElem!_pos,hm]
      ·rw[List.getElem?_eq_none (by simp;omega),List.getElem?_eq_none (by simp [hzl];omega)]
    have hlim: ¬(n*u.cells>2^24):=by have:=hn.2;omega
    by_cases h0:n*u.cells=0
    ·simp only[execOp,ho,Instr.buildSlice,Sem.run_bind,run_underlying h2,Result.andThen_ok,sizeOf,typeInfo,run_program,hei,hz.1,Sem.run_pure,if_neg hlim,if_pos h0]
     rw[hrow #[] (fun h=>absurd h0 h),hmap,k1]
     simp only[newRow,Sem.run_bind,run_newObj,Result.andThen_ok,Sem.run_pure]
     rfl
    ·simp only[execOp,ho,Instr.buildSlice,Sem.run_bind,run_underlying h2,Result.andThen_ok,sizeOf,typeInfo,run_program,hei,hz.1,Sem.run_pure,if_neg hlim,if_neg h0,zeroValue,hz.2.2,hzc]
     rw[hrow (rI u).toArray (fun _=>rfl),hmap,k1]
     simp only[newRow,Sem.run_bind,run_newObj,Result.andThen_ok,Sem.run_pure]
     rfl
theorem aGe {t:TypeId}{n:Nat}{ps:Array (Nat×Operand)}(ho:o.op= .buildSlice t n ps) {ρ:Operand→Slot}(hρ: ∀q∈ps.toList,RdS g w (ρ q.2) (a.eval q.2)) {base:Nat}{e:Eff}(hr:UH base n (rY ρ ps.toList) (q6 T t)=some e) (hf:wS g base e):pT P o a g w H e:=by
 generalize hst:q6 T t=ot at hr
 unfold UH at hr
 split at hr
 ·rename_i u el by' ls_
  split at hr
  ·rename_i hn0
   generalize hb:xW u n (some (zD u n)) (rY ρ ps.toList)=ol at hr
   cases ol with
   |none=>cases hr
   |some l=>
    simp only[a6P] at hr
    split at hr
    ·rename_i hn
     cases hr
     obtain⟨cs',k2,k3,hrun⟩:=VQ hT hH ho hρ hst hb hn.2
     have hfr:=(hf base (by simp [idsOf]) (Nat.le_refl _)).2
     have hlen:=DZ k2
     have hown:(w.alloc (.cells cs'.toArray el)).ownsRow 0 el u.cells (.slice (some ⟨w.heap.size,0,none⟩) n n) n cs':=⟨by rw[hlen,k3],.inr ⟨w.heap.size,n,cs'.toArray,rfl,Nat.zero_le _,heap_alloc_new w _,Nat.le_refl _,by unfold maxLen;omega,by simp [hlen,k3],by simp [←k3,←hlen]⟩⟩
     refine pT.value hrun (EffOk.row (v:= .slice (some ⟨w.heap.size,0,none⟩) n n) (xs:=cs') hH k3 hown k2 (fun m _=>hfr m) (fun u hu=>by rw[hfr] at hu;cases hu) (.inl (World.grownBy_alloc w _ _)) (fun b o h=>World.cell?_of_block (a:=⟨b,o,none⟩) (Below.heap_alloc _ _ _ (hH.sl b o h))) (fun b hb o hs=> ?_) (fun b hb=> ?_) ⟨⟨by simp [Gh.tok],.inr ⟨_,_,rfl,Nat.le_refl _⟩⟩,trivial⟩)
     ·cases hb;exact Nat.lt_irrefl _ (hH.sl _ _ hs)
     ·cases hb;exact .inl (Nat.le_refl _)
    ·cases hr
  ·rename_i hn0
   generalize hb:xW u n (some (zD u n)) (rY ρ ps.toList)=ol at hr
   cases ol with
   |none=>cases hr
   |some l=>
    simp only[OV] at hr
    split at hr
    ·rename_i hn
     cases hr
     obtain⟨cs',k2,k3,hrun⟩:=VQ hT hH ho hρ hst hb hn
     have hfr:=hf base (by simp [idsOf]) (Nat.le_refl _)
     exact pT.value (v:= .slice (some ⟨w.heap.size,0,none⟩) n n) (w':=w.alloc (.cells cs'.toArray el)) hrun (EffOk.lit hH rfl k3 k2 (by unfold maxLen;omega) hfr.2)
    ·cases hr
 ·rename_i u el by' ls_
  generalize hb:xW u n (some (zD u n)) (rY ρ ps.toList)=ol at hr
  cases ol with
  |none=>cases hr
  |some l=>
   simp only[OV] at hr
   split at hr
   ·rename_i hn
    cases hr
    obtain⟨cs',k2,k3,hrun⟩:=VQ hT hH ho hρ hst hb hn
    have hfr:=hf base (by simp [idsOf]) (Nat.le_refl _)
    exact pT.value (v:= .slice (some ⟨w.heap.size,0,none⟩) n n) (w':=w.alloc (.cells cs'.toArray el)) hrun (EffOk.lit hH rfl k3 k2 (by unfold maxLen;omega) hfr.2)
   ·cases hr
 ·cases hr
theorem aGf {args:Array Operand}{tys:Array TypeId}(ho:o.op= .call ⟨.builtin .append,args,tys⟩) {ρ:Operand→Slot}(hρ: ∀x∈args.toList,RdS g w (ρ x) (a.eval x)) {e:Eff}
  {t:TypeId}(htt:tys= #[t,t]) (hr:PA H (q6 T t) (sV ρ args.toList)=some e) (hs: ∀p∈e.side,p):pT P o a g w H e:=by
 subst htt
 generalize hst:q6 T t=ot at hr
 generalize hss:sV ρ args.toList=ss at hr
 unfold PA at hr
 split at hr
 ·rename_i u el by' ar ls_ k n _ b1 r _
  split at hr
  ·rename_i hbu
   subst hbu
   generalize hk:getH H k=ob at hr
   unfold P9 at hr
   split at hr
   ·rename_i e' t' l m
    split at hr
    ·rename_i hbt
     subst hbt
     split at hr
     ·rename_i hec
      obtain⟨rfl,hpos,hb1⟩:=hec
      simp only[rU] at hr
      cases hr
      have hnm:=hs _ (by simp:(n=m)∈_)
      subst hnm
      have hby:=hs _ (by simp:((n+List.length r)*by'≤140737488355328)∈_)
      obtain⟨v,vr,hv,hs1,hs2⟩:=Q2 hT hH hρ hss
      obtain⟨h2,h3,_⟩:=(qY hT hst).2
      obtain⟨ei,hei,hz⟩:=Option.map_eq_some_iff.1 h3
      simp only[Prod.mk.injEq] at hz
      obtain⟨cs,hx⟩:=CJ (a:=a) hT hH ho
      obtain⟨hl,v0,xs,hv0,hown,hF0,hnone,hseal⟩:=hH.blk k _ hk
      obtain⟨hcur,hshape⟩:=hs1.1
      rw[hv0] at hcur
      obtain rfl:=Option.some.inj hcur
      obtain⟨adr,capr,hvr,hler,hlr⟩:=A6 hs2.1
      have hlen2:(l++r).length=n+List.length r:=by rw[List.length_append,hl]
      rw[hlen2]
      have hownk: ∀q,v0.ownBlock=some q→∀o,ownsIn g H [k] q o:=fun q hq o=>⟨k,_,by simp,hk,v0,hv0,hq⟩
      by_cases hm:List.length r=0
      ·obtain rfl:r=[]:=List.eq_nil_of_length_eq_zero hm
       refine pT.value (v:=v0) (w':=w) ?_ (EffOk.row (v:=v0) (xs:=xs) hH hlen2 hown (by rw[List.append_nil];exact hF0) hnone (fun u hu=>by
        have h5:g.cur k n=some u:=hu
        rw[hv0] at h5
        exact(Option.some.inj h5).symm) (.inl ⟨rfl,rfl,rfl,Nat.le_refl _,fun _ _ _=>rfl⟩) (fun _ _ _=>rfl) hseal (fun q hq=> .inr (hownk q hq)) ⟨⟨by simp [Gh.tok],hshape⟩,trivial⟩)
       obtain⟨adl,capl,hvl,hlel⟩: ∃adl capl,v0= .slice adl n capl∧n≤capl:=by
        rcases hshape with⟨h,rfl⟩ |⟨b,cap,h,h'⟩
        ·exact⟨_,_,h,Nat.le_refl _⟩
        ·exact⟨_,_,h,h'⟩
       rw[hx,hv,hvr,hvl]
       have ha0:(#[Value.slice adl n capl,Value.slice adr (List.length ([]:List b1.den)) capr]:Array Value)[0]? =some (.slice adl n capl):=rfl
       have ha1:(#[Value.slice adl n capl,Value.slice adr (List.length ([]:List b1.den)) capr]:Array Value)[1]? =some (.slice adr 0 capr):=rfl
       have ht0:(#[t,t]:Array TypeId)[0]? =some t:=rfl
       have ht1:(#[t,t]:Array TypeId)[1]? =some t:=rfl
       simp only[builtin,Builtin.append_,ht0,ht1,ha0,ha1,Sem.run_bind,run_underlying h2,Result.andThen_ok,Sem.run_pure,sizeOf,typeInfo,run_program,hei]
       cases adr<;>cases adl<;>simp [Builtin.lenOf,Builtin.firstCells,loadCells,loadCellsFrom,storeCells,hlel]
      ·obtain⟨b,off,rfl,hL⟩: ∃b o,adr=some ⟨b,o,none⟩∧vH (Rd g w b1) w g.S b1.cells b o r:=by
        rcases hlr with rfl|h
        ·exact absurd rfl hm
        ·exact h
       obtain⟨news,hF,hra,_⟩:=IE hL
       obtain⟨q,cap,w',hrun,hown',hq,hg,hcap,hcell⟩:=VH (P:=P) w t o.type e' ei (uF b1) b1.cells by' h2 hei hz.2.2 hz.1 hz.2.1 (by
        have:=qU (B5 (LD g w b1))
        simpa using this) v0 n xs hown ⟨b,off,none⟩ (List.length r) capr news (DZ hF) (fun j u hu=>by rw[Addr.add_mid];exact hra j u hu) (LH (fun _ _ h=>y4 h) hF) (by omega)
        (by
         have:=Nat.mul_le_mul_left (n+List.length r) hb1
         unfold maxLen
         omega) hby
       refine pT.value (v:= .slice (some ⟨q,0,none⟩) (n+List.length r) cap) (w':=w') ?_ (EffOk.row (v:= .slice (some ⟨q,0,none⟩) (n+List.length r) cap) (xs:=xs++news) hH hlen2 hown' (L9 hF0 hF) (fun m hm'=>hnone m (by omega)) (fun u hu=>by
        rw[hnone _ (by omega)] at hu;cases hu) (.inr ⟨v0.ownBlock,hg,fun b hb o=>hownk b hb o⟩) (fun b o hS=>hcell b o (hH.sl b o hS) (fun hb=>absurd hS (hseal b hb o))) (fun b hb o hS=> ?_) (fun b hb=> ?_) ⟨⟨by simp [Gh.tok],.inr ⟨q,cap,rfl,hcap⟩⟩,trivial⟩)
       ·rw[hx,hv,hvr]
        simp only[builtin,Sem.run_bind,hrun,Result.andThen_ok,Sem.run_pure]
       ·cases hb
        rcases hq with h|h
        ·rw[h] at hS;exact Nat.lt_irrefl _ (hH.sl _ _ hS)
        ·exact hseal _ h o hS
       ·cases hb
        rcases hq with h|h
        ·exact .inl (Nat.le_of_eq h.symm)
        ·exact .inr (hownk _ h)
     ·cases hr
    ·cases hr
   ·cases hr
  ·cases hr
 ·rename_i u el by' ar ls_ a1 l k b1 r k2
  split at hr
  ·rename_i hab
   obtain⟨rfl,rfl⟩:=hab
   simp only[rU] at hr
   generalize hk:getH H k=ob at hr
   unfold P8 at hr
   split at hr
   ·rename_i e' c n
    split at hr
    ·rename_i hec
     obtain⟨rfl,hcc,hpos,hb1⟩:=hec
     cases hr
     rw[List.length_append]
     have hln:=hs _ (by simp:(List.length l=n)∈_)
     have hby:=hs _ (by simp:((List.length l+List.length r)*by'≤140737488355328)∈_)
     obtain⟨v,vr,hv,hs1,hs2⟩:=Q2 hT hH hρ hss
     obtain⟨h2,h3,_⟩:=(qY hT hst).2
     obtain⟨ei,hei,hz⟩:=Option.map_eq_some_iff.1 h3
     simp only[Prod.mk.injEq] at hz
     obtain⟨cs,hx⟩:=CJ (a:=a) hT hH ho
     obtain⟨v0,xs,hv0,hown,hnone,hseal⟩:=hH.blk k _ hk
     have hcur:g.cur k (List.length l)=some v:=hs1.2
     rw[hln,hv0] at hcur
     obtain rfl:=Option.some.inj hcur
     obtain⟨adr,capr,hvr,hler,hlr⟩:=A6 hs2.1
     obtain⟨adl,capl,hvl,hlel,hll⟩:=A6 hs1.1
     by_cases hm:List.length r=0
     ·
      obtain rfl:r=[]:=List.eq_nil_of_length_eq_zero hm
      have hlr:List.length l+List.length ([]:List b1.den)=n:=by rw[hln];rfl
      have hget: ∀i,getH (app [(k,Blk.grow e' c (List.length l+List.length ([]:List b1.den)))] H) i=getH H i:=by
       intro i
       simp only[app,getH]
       by_cases hi:k=i
       ·subst hi;rw[if_pos rfl,hlr];exact hk.symm
       ·rw[if_neg hi]
      have hkeep:EffOk g w H ⟨[List.length l=n,(List.length l+List.length ([]:List b1.den))*by'≤140737488355328],(.val (.list b1) (l++[]),some k),[(k,.grow e' c (List.length l+List.length ([]:List b1.den)))],[k]⟩ g w v0:=by
       refine⟨.refl _ _,?_,⟨fun i b h=>hH.blk i b ((hget i).symm.trans h),fun i j bi bj b o' hij h1 h2=>hH.dis i j bi bj b o' hij ((hget i).symm.trans h1) ((hget j).symm.trans h2),hH.sl,hH.tab.1,fun i blk b o' h ho'=>hH.tab.2 i blk b o' ((hget i).symm.trans h) ho'⟩,.refl _ _ _,fun i blk b o' hi hg ho'=> .inr ⟨i,blk,hi,(hget i).symm.trans hg,ho'⟩,fun _ _=>⟨rfl,rfl⟩,fun i u' y us h=> .inl ⟨y,us,(hget i).symm.trans h⟩⟩
       rw[List.append_nil]
       exact hs1
      refine pT.value (v:=v0) (w':=w) ?_ hkeep
      rw[hx,hv,hvr,hvl]
      have ha0:(#[Value.slice adl (List.length l) capl,Value.slice adr (List.length ([]:List b1.den)) capr]:Array Value)[0]? =some (.slice adl (List.length l) capl):=rfl
      have ha1:(#[Value.slice adl (List.length l) capl,Value.slice adr (List.length ([]:List b1.den)) capr]:Array Value)[1]? =some (.slice adr 0 capr):=rfl
      have ht0:(#[t,t]:Array TypeId)[0]? =some t:=rfl
      have ht1:(#[t,t]:Array TypeId)[1]? =some t:=rfl
      simp only[builtin,Builtin.append_,ht0,ht1,ha0,ha1,Sem.run_bind,run_underlying h2,Result.andThen_ok,Sem.run_pure,sizeOf,typeInfo,run_program,hei]
      cases adr<;>cases adl<;>simp [Builtin.lenOf,Builtin.firstCells,loadCells,loadCellsFrom,storeCells,hlel]
     ·obtain⟨b,off,rfl,hL⟩: ∃b o,adr=some ⟨b,o,none⟩∧vH (Rd g w b1) w g.S b1.cells b o r:=by
       rcases hlr with rfl|h
       ·exact absurd rfl hm
       ·exact h
      obtain⟨news,hF,hra,_⟩:=IE hL
      have hxs:rC (Rd g w b1) b1.cells l xs:=by
       by_cases h0:List.length l=0
       ·obtain rfl:l=[]:=List.eq_nil_of_length_eq_zero h0
        have:xs=[]:=List.eq_nil_of_length_eq_zero (by rw[hown.1,←hln];simp)
        exact this
       ·rcases hll with rfl|⟨b0,off0,rfl,hL0⟩
        ·exact absurd rfl h0
        ·obtain⟨ls,hF0,hra0,_⟩:=IE hL0
         rcases hown.2 with⟨e1,e2⟩ |⟨q,cap,cur,e1,e2⟩
         ·exact absurd (hln.trans e2) h0
         ·rw[hvl] at e1
          simp only[Value.slice.injEq,Option.some.injEq,Addr.mk.injEq] at e1
          obtain⟨⟨rfl,rfl,_⟩,_,rfl⟩:=e1
          have hvn:v0= .slice (some ⟨b0,0,none⟩) n capl:=by rw[hvl,hln]
          have hrx:=VI (hvn▸hown)
          have:ls=xs:=by
           have hl1:=DZ hF0
           have hl2:=hown.1
           apply List.ext_getElem?
           intro j
           by_cases hj:j<ls.length
           ·have h1:=hra0 j ls[j] (List.getElem?_eq_getElem hj)
            have hj':j<xs.length:=by rw[hl2,hcc,←hln,←hl1];exact hj
            have h2:=hrx j xs[j] (List.getElem?_eq_getElem hj')
            rw[h1] at h2
            rw[List.getElem?_eq_getElem hj,List.getElem?_eq_getElem hj',Option.some.inj h2]
           ·rw[List.getElem?_eq_none (by omega),List.getElem?_eq_none (by rw[hl2,hcc,←hln,←hl1];omega)]
          rw[←this]
          exact hF0
      obtain⟨q,cap,w',hrun,hown',hq,hg,hcap,hcell⟩:=VH (P:=P) w t o.type e' ei (uF b1) c by' h2 hei hz.2.2 (by rw[hz.1,hcc]) hz.2.1 (by
       have:=qU (B5 (LD g w b1))
       rw[hcc];simpa using this) v0 n xs hown ⟨b,off,none⟩ (List.length r) capr news (by rw[DZ hF,hcc]) (fun j u hu=>by rw[Addr.add_mid];exact hra j u hu) (LH (fun _ _ h=>y4 h) hF) (by omega)
       (by
        have:=Nat.mul_le_mul_left (List.length l+List.length r) hb1
        unfold maxLen
        omega) (by rw[←hln];exact hby)
      refine pT.value (v:= .slice (some ⟨q,0,none⟩) (n+List.length r) cap) (w':=w') ?_ (by
       have:=EffOk.append (side:=[List.length l=n,(List.length l+List.length r)*by'≤140737488355328]) (rds:=[k]) hH hk hcc hln hv0 hown hnone hseal (hcc▸hxs) (hcc▸hF) (by omega) hown' hq hg hcap hcell
       rw[hln]
       rw[hln] at this
       exact this)
      rw[hx,hv,hvr]
      simp only[builtin,Sem.run_bind,hrun,Result.andThen_ok,Sem.run_pure]
    ·cases hr
   ·cases hr
  ·cases hr
 ·cases hr
end
end Go.Proofs.YtbbpilohihldiaaGreatDoor.Vc
namespace Go.Proofs.YtbbpilohihldiaaGreatDoor.Vc
open Go.RowKit
set_option linter.unusedSectionVars false
def wT:Ty→TypeDesc
 | .int k=> .int k
 | .str=> .string
 |_=> .bool
theorem a7I {P:Program}{t:TypeId}{ti:TI}(h:rE P t ti) (hk:B2 ti.ty=true):P.underlying t=some (wT ti.ty):=by
 have h2:=h.2
 unfold vI at h2
 obtain⟨ty,el,by',ar,ls⟩:=ti
 cases ty<;>simp only[B2,Bool.false_eq_true] at hk<;>exact h2
theorem aGg {g:Gh}{w:World}{k:Ty}(hk:B2 k=true) {a x:k.den}{v u:Value}(ha:r7 g w k a v) (hx:r7 g w k x u):Instr.sameNow (wT k) v u=some (CE k a x)∧(CE k a x=true→u=v):=by
 cases k with
 |int k=>
  rw[tC ha,tC hx]
  simp only[wT,Instr.sameNow,if_true,CE]
  refine⟨?_,fun h=> ?_⟩
  ·congr 1
  ·rw[of_decide_eq_true h]
 |str=>
  rw[vQ ha,vQ hx]
  simp only[wT,Instr.sameNow,CE]
  refine⟨?_,fun h=> ?_⟩
  ·congr 1
   rw[Bool.eq_iff_iff,MapKept.bytes_beq,decide_eq_true_eq]
   constructor
   ·intro h
    have:=congrArg (fun z:ByteArray=>z.data.toList) h
    simpa using this
   ·intro h;rw[h]
  ·rw[of_decide_eq_true h]
 |bool=>
  rw[uG ha,uG hx]
  simp only[wT,Instr.sameNow,CE]
  refine⟨trivial,fun h=> ?_⟩
  rw[beq_iff_eq.1 h]
 |_=>simp [B2] at hk
theorem VR {g:Gh}{w:World}{k v:Ty}(hk:B2 k=true) {a:k.den}{key:Value}(ha:r7 g w k a key): ∀{l:List (k.den×v.den)}{es:List MapEntry}(i:Nat),A2 g w k v l es→
  (v6 k v l a=false→Instr.findNow (wT k) key es i=some none∧qK k v l a=v.zero∧∀b val born,r7 g w v b val→A2 g w k v (r8 k v a b l) (es++[⟨key,val,born⟩]))∧
  (v6 k v l a=true→∃j e,es[j]? =some e∧Instr.findNow (wT k) key es i=some (some (i+j,e.val))∧r7 g w v (qK k v l a) e.val∧e.key=key∧∀b val,r7 g w v b val→A2 g w k v (r8 k v a b l) (es.modify j fun e=>{e with key:=key,val:=val}))
 |[],es,i,h=>by
  rw[show es=[] from h]
  exact⟨fun _=>⟨rfl,rfl,fun b val born hb=>⟨_,[],rfl,ha,hb,rfl⟩⟩,fun h=>by simp [v6] at h⟩
 |(x,y)::l,_,i,⟨e,es',rfl,h1,h2,h3⟩=>by
  obtain⟨s1,s2⟩:=aGg hk ha h1
  cases hq:CE k a x with
  |true=>
   rw[hq] at s1
   refine⟨fun h=>by simp [v6,hq] at h,fun _=>⟨0,e,rfl,?_,?_,s2 hq,fun b val hb=> ?_⟩⟩
   ·simp only[Instr.findNow,s1,Nat.add_zero]
   ·simp only[qK,hq,if_true];exact h2
   ·simp only[r8,hq,if_true]
    exact⟨_,es',rfl,ha,hb,h3⟩
  |false=>
   rw[hq] at s1
   obtain⟨f1,f2⟩:=VR (v:=v) hk ha (i+1) h3
   refine⟨fun h=> ?_,fun h=> ?_⟩
   ·simp only[v6,hq] at h
    obtain⟨g1,g2,g3⟩:=f1 (by simpa using h)
    refine⟨by simp only[Instr.findNow,s1];exact g1,by simp only[qK,hq];simpa using g2,fun b val born hb=> ?_⟩
    simp only[r8,hq]
    exact⟨e,_,rfl,h1,h2,g3 b val born hb⟩
   ·simp only[v6,hq] at h
    obtain⟨j,e',g1,g2,g3,g4,g5⟩:=f2 (by simpa using h)
    refine⟨j+1,e',by simpa using g1,by simp only[Instr.findNow,s1];rw[g2];congr 3;omega,by simp only[qK,hq];simpa using g3,g4,fun b val hb=> ?_⟩
    simp only[r8,hq]
    exact⟨e,_,rfl,h1,h2,g5 b val hb⟩
def Q5 (ok:Bool) (z:Value):Option (Nat×Value)→Value
 |some (_,v)=>if ok then .tuple #[v,.bool true] else v
 |none=>if ok then .tuple #[z,.bool false] else z
section
variable {P:Program}{o:Oper}{a:Act}{g:Gh}{w:World}{H:Heap}{T:Types}(hT:TypesOk P T) (hH:HeapOk g w H)
include hT hH
theorem EffOk.newMap {side:List Prop}{rds:List Nat}{base:Nat}{k v:Ty}(hf:g.J base=none) (hc:g.cur base=fun _=>none):
  EffOk g w H ⟨side,(.val .mp (some base),none),[(base,.map k v [])],rds⟩ (g.var base w.heap.size none) (w.alloc (.map #[] 0)) (.map (some w.heap.size)):=by
 have hJ:(g.var base w.heap.size none).J base=some ⟨w.heap.size,0,none⟩:=by simp [Gh.var]
 have le:Le g w (g.var base w.heap.size none) (w.alloc (.map #[] 0)):=⟨fun _ _ h=>h,fun b o h=>World.cell?_of_block (a:=⟨b,o,none⟩) (Below.heap_alloc _ _ _ (hH.sl b o h)),fun i p h=>by
  show (if i=base then _ else _)=_
  rw[if_neg (fun e1=>by rw[e1,hf] at h;cases h)];exact h,fun _ _ _ h=>h⟩
 have fr:Fr (ownsIn g H (idsOf [(base,Blk.map k v [])])) w (w.alloc (.map #[] 0)) g.S (g.var base w.heap.size none).S:=
  ⟨rfl,rfl,rfl,by simp,fun b hb _=>Below.heap_alloc _ _ _ hb,fun b o hb _=>⟨World.cell?_of_block (a:=⟨b,o,none⟩) (Below.heap_alloc _ _ _ hb),World.frozen?_of_block (a:=⟨b,o,none⟩) (Below.heap_alloc _ _ _ hb)⟩,fun b o h=> .inl h,fun b s h=> .inl ((A4 (Below.heap_alloc _ _ _ (A3 h))).trans h)⟩
 have gho: ∀i,i∉idsOf [(base,Blk.map k v [])]→(g.var base w.heap.size none).J i=g.J i∧(g.var base w.heap.size none).cur i=g.cur i:=fun i hi=>⟨by
  show (if i=base then _ else _)=_
  rw[if_neg (fun e1=>hi (by simp [idsOf,e1]))],rfl⟩
 have get: ∀i blk,i∈idsOf [(base,Blk.map k v [])]→getH (app [(base,Blk.map k v [])] H) i=some blk→i=base∧blk= .map k v []:=by
  intro i blk hi hg
  simp only[idsOf,List.mem_singleton] at hi
  subst hi
  simp only[app,getH,if_true,Option.some.injEq] at hg
  exact⟨rfl,hg.symm⟩
 have perm: ∀i blk b o,i∈idsOf [(base,Blk.map k v [])]→getH (app [(base,Blk.map k v [])] H) i=some blk→owns (g.var base w.heap.size none) i blk b o→w.heap.size≤b∨ownsIn g H (idsOf [(base,Blk.map k v [])]) b o:=by
  intro i blk b o hi hg ho
  obtain⟨rfl,rfl⟩:=get i blk hi hg
  obtain⟨p,hp,h1⟩:=ho
  rw[hJ] at hp
  obtain rfl:=Option.some.inj hp
  exact .inl (Nat.le_of_eq h1.symm)
 refine⟨le,⟨.inr ⟨rfl,_,hJ,rfl⟩,trivial⟩,hH.upd le fr perm gho (fun i blk hi hg=> ?_) (fun i j bi bj b o hi hj hij hgi hgj _ _=>hij ((get i bi hi hgi).1.trans (get j bj hj hgj).1.symm)) (fun b o h=>Nat.lt_of_lt_of_le (hH.sl b o h) (by simp)),fr,perm,gho,fun i u' y us h=>by
  simp only[app,getH] at h
  split at h
  ·cases h
  ·exact .inl ⟨y,us,h⟩⟩
 obtain⟨rfl,rfl⟩:=get i blk hi hg
 refine⟨⟨w.heap.size,0,none⟩,#[],0,hJ,rfl,?_,rfl,fun o hs=>Nat.lt_irrefl _ (hH.sl _ _ hs)⟩
 show (w.heap.push (.map #[] 0))[w.heap.size]? =_
 rw[Array.getElem?_push_size]
theorem aGh {t:TypeId}{r:Option Operand}(ho:o.op= .makeMap t r) {base:Nat}{e:Eff}(hr:UU T base (q6 T t) r=some e) (hf:wS g base e):pT P o a g w H e:=by
 generalize hst:q6 T t=ot at hr
 unfold UU at hr
 split at hr
 ·rename_i el fl ar ls_
  unfold a6X at hr
  split at hr
  ·split at hr
   ·cases hr
    have hfr:=hf base (by simp [idsOf]) (Nat.le_refl _)
    refine pT.value (v:= .map (some w.heap.size)) (w':=w.alloc (.map #[] 0)) ?_ (EffOk.newMap hT hH hfr.1 (funext hfr.2))
    unfold execOp
    rw[ho]
    simp only[Instr.makeMap,Sem.run_bind,run_newObj,Result.andThen_ok,Sem.run_pure,Option.map_none]
    rfl
   ·cases hr
  ·cases hr
 ·cases hr
theorem aGi {xt el fl:TypeId}{ok:Bool}{r:Nat}{es:Array MapEntry}{cl:Nat}{key z res:Value}{kd:TypeDesc}(hm:P.underlying xt=some (.map el fl)) (hb:w.heap[r]? =some (.map es cl)) (hkd:P.underlying el=some kd) (hsim: ∀ty,kd≠.interface ty) (hna: ∀n t,kd≠.array n t) (hns: ∀f,kd≠.struct f)
  {q:Option (Nat×Value)}(hq:Instr.findNow kd key es.toList 0=some q) (hz:(zeroValue fl).run P w= .ok z w)
  (hres:res=Q5 ok z q):(Instr.lookup xt (.map (some r)) key ok).run P w= .ok res w:=by
 have hck: ∀em,(Instr.checkKey em 10000 el key).run P w= .ok () w:=by
  intro em
  unfold Instr.checkKey
  simp only[Sem.run_bind,run_underlying hkd,Result.andThen_ok]
  cases kd<;>first|rfl|(exact absurd rfl (hsim _)) |(exact absurd rfl (hna _ _)) |(exact absurd rfl (hns _))
 have hfk:(Instr.findKey el key es.toList).run P w= .ok q w:=by
  unfold Instr.findKey
  simp only[Sem.run_bind,run_underlying hkd,Result.andThen_ok,hq,Sem.run_pure]
 subst hres
 unfold Instr.lookup
 simp only[Sem.run_bind,run_underlying hm,Result.andThen_ok,MapKept.run_getObj_map hb,Sem.run_pure,hck,hfk]
 cases q with
 |none=>cases ok<;>simp [hz,Sem.run_bind,Result.andThen_ok,Q5]
 |some q=>cases ok<;>simp [Sem.run_bind,Result.andThen_ok,Q5]
theorem EffOk.updMap {side:List Prop}{rds:List Nat}{i:Nat}{k v:Ty}{l l':List (k.den×v.den)}{p:Pl}{es es':Array MapEntry}{cl cl':Nat}(hi:getH H i=some (.map k v l)) (hp:g.J i=some p) (hp0:p.2=0) (hb:w.heap[p.1]? =some (.map es cl)) (hS: ∀o,¬g.S p.1 o) (hM:A2 g w k v l' es'.toList):
  EffOk g w H ⟨side,(.any,none),[(i,.map k v l')],rds⟩ g {w with heap:=w.heap.setIfInBounds p.1 (.map es' cl')} undef:=by
 have hlt:p.1<w.heap.size:=(Array.getElem?_eq_some_iff.1 hb).1
 have hoth: ∀b,b≠p.1→(w.heap.setIfInBounds p.1 (.map es' cl'))[b]? =w.heap[b]? :=fun b hne=>by rw[Array.getElem?_setIfInBounds_ne (Ne.symm hne)]
 have hown: ∀o,ownsIn g H (idsOf [(i,Blk.map k v l')]) p.1 o:=fun o=>⟨i,_,by simp [idsOf],hi,p,hp,rfl⟩
 have le:Le g w g {w with heap:=w.heap.setIfInBounds p.1 (.map es' cl')}:=⟨fun _ _ h=>h,fun b o h=>World.cell?_of_block (a:=⟨b,o,none⟩) (hoth b (fun e=>hS o (e▸h))),fun _ _ h=>h,fun _ _ _ h=>h⟩
 have fr:Fr (ownsIn g H (idsOf [(i,Blk.map k v l')])) w {w with heap:=w.heap.setIfInBounds p.1 (.map es' cl')} g.S g.S:=
  ⟨rfl,rfl,rfl,by simp,fun b _ hn=>hoth b (fun e=>hn 0 (e▸hown 0)),fun b o _ hn=>⟨World.cell?_of_block (a:=⟨b,o,none⟩) (hoth b (fun e=>hn (e▸hown o))),World.frozen?_of_block (a:=⟨b,o,none⟩) (hoth b (fun e=>hn (e▸hown o)))⟩,fun b o h=> .inl h,fun b s h=>(by
   by_cases e:b=p.1
   ·exact .inr fun o=>e▸hown o
   ·exact .inl ((A4 (hoth b e)).trans h))⟩
 have get: ∀j blk,j∈idsOf [(i,Blk.map k v l')]→getH (app [(i,Blk.map k v l')] H) j=some blk→j=i∧blk= .map k v l':=by
  intro j blk hj hg
  simp only[idsOf,List.mem_singleton] at hj
  subst hj
  simp only[app,getH,if_true,Option.some.injEq] at hg
  exact⟨rfl,hg.symm⟩
 have perm: ∀j blk b o,j∈idsOf [(i,Blk.map k v l')]→getH (app [(i,Blk.map k v l')] H) j=some blk→owns g j blk b o→w.heap.size≤b∨ownsIn g H (idsOf [(i,Blk.map k v l')]) b o:=by
  intro j blk b o hj hg ho
  obtain⟨rfl,rfl⟩:=get j blk hj hg
  obtain⟨q,hq,rfl⟩:=ho
  rw[hp] at hq
  obtain rfl:=Option.some.inj hq
  exact .inr (hown o)
 refine⟨le,⟨trivial,trivial⟩,hH.upd le fr perm (fun _ _=>⟨rfl,rfl⟩) (fun j blk hj hg=> ?_) (fun j j' bi bj b o hj hj' hij hgi hgj _ _=>hij ((get j bi hj hgi).1.trans (get j' bj hj' hgj).1.symm)) (fun b o h=>by simpa using hH.sl b o h),fr,perm,fun _ _=>⟨rfl,rfl⟩,fun j u' y us h=>by
  simp only[app,getH] at h
  split at h
  ·cases h
  ·exact .inl ⟨y,us,h⟩⟩
 obtain⟨rfl,rfl⟩:=get j blk hj hg
 exact⟨p,es',cl',hp,hp0,by simp [Array.getElem?_setIfInBounds,hlt],V4 le hM,hS⟩
theorem a7J {i:Nat}{k:Option Nat}{v:Value}(h:RdS g w (.val .mp (some i),k) v): ∃p,g.J i=some p∧v= .map (some p.1):=by
 obtain⟨p,h1,e⟩:=yR rfl h.1
 simp only[List.cons.injEq,and_true] at e
 exact⟨p,h1,e⟩
theorem a7K {k:Ty}:(∀ty,wT k≠.interface ty)∧(∀n t,wT k≠.array n t)∧(∀f,wT k≠.struct f):=by
 cases k<;>exact⟨fun _ h=>by simp [wT] at h,fun _ _ h=>by simp [wT] at h,fun _ h=>by simp [wT] at h⟩
theorem aGj {t:TypeId}{x y:Operand}{ok:Bool}(ho:o.op= .lookup t x y ok) {sx sy:Slot}(hx:RdS g w sx (a.eval x)) (hy:RdS g w sy (a.eval y)) {e:Eff}(hr:PH T H ok (q6 T t) sx sy=some e):pT P o a g w H e:=by
 generalize hst:q6 T t=ot at hr
 unfold PH at hr
 split at hr
 ·rename_i el fl ar ls_ i kk
  generalize hk:q6 T el=ok1 at hr
  generalize hv:q6 T fl=ok2 at hr
  unfold UV at hr
  split at hr
  ·rename_i kt vt k a' _
   split at hr
   ·rename_i hkt
    unfold PG at hr
    split at hr
    ·rename_i k' v' l hb
     split at hr
     ·rename_i hkv
      obtain⟨rfl,rfl⟩:=hkv
      split at hr
      ·rename_i hkey
       obtain⟨p,es,cl,hp,hp0,hh,hM,hS⟩:=hH.blk i _ hb
       obtain⟨p',hp',hxv⟩:=a7J hT hH hx
       rw[hp] at hp'
       obtain rfl:=Option.some.inj hp'
       have hm:=(qY hT hst).2
       simp only[vI] at hm
       have hkd:=a7I (qY hT hk) (hkt▸hkey)
       obtain⟨iv,hi1,hi2,hi3⟩:=CI (qY hT hv)
       have hz:(zeroValue fl).run P w= .ok (uF vt.ty) w:=by
        simp only[zeroValue,typeInfo,Sem.run_bind,run_program,hi1,hi3,Result.andThen_ok,Sem.run_pure]
       obtain⟨f1,f2⟩:=VR (v:=vt.ty) hkey hy.1 0 hM
       rw[←hkt] at hkd
       obtain⟨p1,p2,p3⟩:=a7K hT hH (k:=k)
       have go: ∀{q res},Instr.findNow (wT k) (a.eval y) es.toList 0=some q→res=Q5 ok (uF vt.ty) q→(execOp a.eval o).run P w= .ok (.value res) w:=by
        intro q res h1 h2
        unfold execOp
        rw[ho]
        simp only[hxv,Sem.run_bind,aGi hT hH hm hh hkd p1 p2 p3 h1 hz h2,Result.andThen_ok,Sem.run_pure]
       cases hmh:v6 k vt.ty l a' with
       |false=>
        obtain⟨g1,g2,_⟩:=f1 hmh
        cases ok with
        |true=>
         cases hr
         refine pT.pure hH (v:= .tuple #[uF vt.ty,.bool false]) (go g1 rfl) ?_
         simp only[HT,hmh,g2]
         exact⟨[_,_],rfl,_,[_],rfl,LD g w _,trivial,_,[],rfl,tP g w false,trivial,rfl⟩
        |false=>
         cases hr
         refine pT.pure hH (v:=uF vt.ty) (go g1 rfl) ?_
         simp only[HT,g2]
         exact LD g w _
       |true=>
        obtain⟨j,e',g1,g2,g3,g4,g5⟩:=f2 hmh
        cases ok with
        |true=>
         cases hr
         refine pT.pure hH (v:= .tuple #[e'.val,.bool true]) (go g2 rfl) ?_
         simp only[HT,hmh]
         exact⟨[_,_],rfl,_,[_],rfl,g3,trivial,_,[],rfl,tP g w true,trivial,rfl⟩
        |false=>
         cases hr
         refine pT.pure hH (v:=e'.val) (go g2 rfl) ?_
         simp only[HT]
         exact g3
      ·cases hr
     ·cases hr
    ·cases hr
   ·cases hr
  ·cases hr
 ·cases hr
theorem aGk {g:Gh}{w:World}{k:Ty}(hk:B2 k=true) {x:k.den}{v:Value}(h:r7 g w k x v) (n:Nat):Instr.sameBits n v v=true:=by
 cases k with
 |int k=>rw[tC h];cases n<;>simp [Instr.sameBits]
 |str=>rw[vQ h];cases n<;>simp [Instr.sameBits,MapKept.bytes_beq]
 |bool=>rw[uG h];cases n<;>simp [Instr.sameBits]
 |_=>simp [B2] at hk
omit hT hH in
theorem a7L {T:Types}{ti:Option TI}{s:Slot}{v:Value}(h:RdS g w s v):RdS g w (PJ T ti s) v:=by
 unfold PJ
 split
 ·unfold a6Y
  split
  ·rename_i f x _
   refine⟨.inr ⟨rfl,?_⟩,trivial⟩
   rcases h.1 with⟨h1,_⟩ |⟨h1,vs,h2,h3⟩
   ·cases h1
   ·rw[show vs=[] from h2] at h3
    exact h3
  ·exact h
 ·exact h
theorem a7M {t:TypeId}{m x y:Operand}(ho:o.op= .mapUpdate t m x y∨o.op= .insert t m x y) {sm sx sy:Slot}(hm:RdS g w sm (a.eval m)) (hx:RdS g w sx (a.eval x)) (hy:RdS g w sy (a.eval y)) {e:Eff}(hr:I4 T H (q6 T t) sm sx sy=some e):pT P o a g w H e:=by
 generalize hst:q6 T t=ot at hr
 unfold I4 at hr
 split at hr
 ·rename_i el fl ar ls_ i kk
  generalize hk:q6 T el=ok1 at hr
  unfold PI at hr
  split at hr
  ·rename_i kt k a' _ u b _
   split at hr
   ·rename_i hkt
    unfold I3 at hr
    split at hr
    ·rename_i k' v' l hb
     split at hr
     ·rename_i hkv
      obtain⟨rfl,rfl⟩:=hkv
      split at hr
      ·rename_i hkey
       cases hr
       obtain⟨p,es,cl,hp,hp0,hh,hM,hS⟩:=hH.blk i _ hb
       obtain⟨p',hp',hxv⟩:=a7J hT hH hm
       rw[hp] at hp'
       obtain rfl:=Option.some.inj hp'
       have hmt:=(qY hT hst).2
       simp only[vI] at hmt
       have hkd:=a7I (qY hT hk) (hkt▸hkey)
       rw[←hkt] at hkd
       obtain⟨p1,p2,p3⟩:=a7K hT hH (k:=k)
       have hck:(Instr.checkKey false 10000 el (a.eval x)).run P w= .ok () w:=by
        unfold Instr.checkKey
        simp only[Sem.run_bind,run_underlying hkd,Result.andThen_ok]
        generalize wT k=kd at p1 p2 p3
        cases kd<;>first|rfl|(exact absurd rfl (p1 _)) |(exact absurd rfl (p2 _ _)) |(exact absurd rfl (p3 _))
       have hfk: ∀{q},Instr.findNow (wT k) (a.eval x) es.toList 0=some q→(Instr.findKey el (a.eval x) es.toList).run P w= .ok q w:=by
        intro q hq
        unfold Instr.findKey
        simp only[Sem.run_bind,run_underlying hkd,Result.andThen_ok,hq,Sem.run_pure]
       obtain⟨f1,f2⟩:=VR (v:=u) hkey hx.1 0 hM
       cases hmh:v6 k u l a' with
       |false=>
        obtain⟨g1,_,g3⟩:=f1 hmh
        refine pT.skip (w':={w with heap:=w.heap.setIfInBounds p.1 (.map (es.push ⟨a.eval x,a.eval y,cl⟩) (cl+1))}) ?_ (EffOk.updMap hT hH hb hp hp0 hh hS ?_)
        ·unfold execOp
         rcases ho with ho|ho<;>rw[ho]<;>
          simp only[Instr.mapUpdate,hxv,Sem.run_bind,run_underlying hmt,Result.andThen_ok,MapKept.run_getObj_map hh,hck,hfk g1,MapKept.run_setObj_map _ hh,Sem.run_pure]
        ·simp only[HT,Array.toList_push]
         exact g3 b _ _ hy.1
       |true=>
        obtain⟨j,e',g1,g2,g3,g4,g5⟩:=f2 hmh
        rw[Nat.zero_add] at g2
        refine pT.skip (w':={w with heap:=w.heap.setIfInBounds p.1 (.map (es.modify j fun e=>{e with key:=a.eval x,val:=a.eval y}) cl)}) ?_ (EffOk.updMap hT hH hb hp hp0 hh hS ?_)
        ·have hj:es[j]? =some e':=by rw[←Array.getElem?_toList];exact g1
         unfold execOp
         rcases ho with ho|ho<;>rw[ho]<;>
          simp only[Instr.mapUpdate,hxv,Sem.run_bind,run_underlying hmt,Result.andThen_ok,MapKept.run_getObj_map hh,hck,hfk g2,hj,Option.map_some,Option.getD_some,g4,Instr.keyThatStays,aGk hT hH hkey hx.1,if_true,MapKept.run_setObj_map _ hh,Sem.run_pure]
        ·simp only[HT,Array.toList_modify]
         exact g5 b _ hy.1
      ·cases hr
     ·cases hr
    ·cases hr
   ·cases hr
  ·cases hr
 ·cases hr
end
end Go.Proofs.YtbbpilohihldiaaGreatDoor.Vc
namespace Go.Proofs.YtbbpilohihldiaaGreatDoor.Vc
open Go.RowKit
set_option linter.unusedSectionVars false
theorem a7N {P:Program}{w:World}{r:Nat}{s:ByteArray}{n:Nat}(hb:w.heap[r]? =some (.stringIter s n)):(getObj r).run P w= .ok (.stringIter s n) w:=by
 simp [getObj,Sem.run,hb]
theorem aGl {P:Program}{w:World}{r:Nat}{s:ByteArray}{n:Nat}(o:Obj) (hb:w.heap[r]? =some (.stringIter s n)):(setObj r o).run P w= .ok () {w with heap:=w.heap.setIfInBounds r o}:=by
 simp [setObj,Sem.run,hb]
section
variable {P:Program}{o:Oper}{a:Act}{g:Gh}{w:World}{H:Heap}{T:Types}(hT:TypesOk P T) (hH:HeapOk g w H)
include hT hH
theorem EffOk.newIter {side:List Prop}{rds:List Nat}{base:Nat}{s:List UInt8}(hf:g.J base=none) (hc:g.cur base=fun _=>none):
  EffOk g w H ⟨side,(.val .ref (some (base,0)),none),[(base,.iter s 0)],rds⟩ (g.var base w.heap.size none) (w.alloc (.stringIter ⟨s.toArray⟩ 0)) (.pointer (some ⟨w.heap.size,0,none⟩)):=by
 have hJ:(g.var base w.heap.size none).J base=some ⟨w.heap.size,0,none⟩:=by simp [Gh.var]
 have le:Le g w (g.var base w.heap.size none) (w.alloc (.stringIter ⟨s.toArray⟩ 0)):=⟨fun _ _ h=>h,fun b o h=>World.cell?_of_block (a:=⟨b,o,none⟩) (Below.heap_alloc _ _ _ (hH.sl b o h)),fun i p h=>by
  show (if i=base then _ else _)=_
  rw[if_neg (fun e1=>by rw[e1,hf] at h;cases h)];exact h,fun _ _ _ h=>h⟩
 have fr:Fr (ownsIn g H (idsOf [(base,Blk.iter s 0)])) w (w.alloc (.stringIter ⟨s.toArray⟩ 0)) g.S (g.var base w.heap.size none).S:=
  ⟨rfl,rfl,rfl,by simp,fun b hb _=>Below.heap_alloc _ _ _ hb,fun b o hb _=>⟨World.cell?_of_block (a:=⟨b,o,none⟩) (Below.heap_alloc _ _ _ hb),World.frozen?_of_block (a:=⟨b,o,none⟩) (Below.heap_alloc _ _ _ hb)⟩,fun b o h=> .inl h,fun b s h=> .inl ((A4 (Below.heap_alloc _ _ _ (A3 h))).trans h)⟩
 have gho: ∀i,i∉idsOf [(base,Blk.iter s 0)]→(g.var base w.heap.size none).J i=g.J i∧(g.var base w.heap.size none).cur i=g.cur i:=fun i hi=>⟨by
  show (if i=base then _ else _)=_
  rw[if_neg (fun e1=>hi (by simp [idsOf,e1]))],rfl⟩
 have get: ∀i blk,i∈idsOf [(base,Blk.iter s 0)]→getH (app [(base,Blk.iter s 0)] H) i=some blk→i=base∧blk= .iter s 0:=by
  intro i blk hi hg
  simp only[idsOf,List.mem_singleton] at hi
  subst hi
  simp only[app,getH,if_true,Option.some.injEq] at hg
  exact⟨rfl,hg.symm⟩
 have perm: ∀i blk b o,i∈idsOf [(base,Blk.iter s 0)]→getH (app [(base,Blk.iter s 0)] H) i=some blk→owns (g.var base w.heap.size none) i blk b o→w.heap.size≤b∨ownsIn g H (idsOf [(base,Blk.iter s 0)]) b o:=by
  intro i blk b o hi hg ho
  obtain⟨rfl,rfl⟩:=get i blk hi hg
  obtain⟨p,hp,h1⟩:=ho
  rw[hJ] at hp
  obtain rfl:=Option.some.inj hp
  exact .inl (Nat.le_of_eq h1.symm)
 refine⟨le,⟨.inr ⟨rfl,_,hJ,rfl⟩,trivial⟩,hH.upd le fr perm gho (fun i blk hi hg=> ?_) (fun i j bi bj b o hi hj hij hgi hgj _ _=>hij ((get i bi hi hgi).1.trans (get j bj hj hgj).1.symm)) (fun b o h=>Nat.lt_of_lt_of_le (hH.sl b o h) (by simp)),fr,perm,gho,fun i u' y us h=>by
  simp only[app,getH] at h
  split at h
  ·cases h
  ·exact .inl ⟨y,us,h⟩⟩
 obtain⟨rfl,rfl⟩:=get i blk hi hg
 refine⟨⟨w.heap.size,0,none⟩,hJ,rfl,?_,fun o hs=>Nat.lt_irrefl _ (hH.sl _ _ hs)⟩
 show (w.heap.push (.stringIter ⟨s.toArray⟩ 0))[w.heap.size]? =_
 rw[Array.getElem?_push_size]
theorem EffOk.updIter {side:List Prop}{rds:List Nat}{i:Nat}{s:List UInt8}{n n':Nat}{d:Slot}{val:Value}{p:Pl}(hi:getH H i=some (.iter s n)) (hp:g.J i=some p) (hp0:p.2=0) (hb:w.heap[p.1]? =some (.stringIter ⟨s.toArray⟩ n)) (hS: ∀o,¬g.S p.1 o) (hd:RdS g {w with heap:=w.heap.setIfInBounds p.1 (.stringIter ⟨s.toArray⟩ n')} d val):
  EffOk g w H ⟨side,d,[(i,.iter s n')],rds⟩ g {w with heap:=w.heap.setIfInBounds p.1 (.stringIter ⟨s.toArray⟩ n')} val:=by
 have hlt:p.1<w.heap.size:=(Array.getElem?_eq_some_iff.1 hb).1
 have hoth: ∀b,b≠p.1→(w.heap.setIfInBounds p.1 (.stringIter ⟨s.toArray⟩ n'))[b]? =w.heap[b]? :=fun b hne=>by rw[Array.getElem?_setIfInBounds_ne (Ne.symm hne)]
 have hown: ∀o,ownsIn g H (idsOf [(i,Blk.iter s n')]) p.1 o:=fun o=>⟨i,_,by simp [idsOf],hi,p,hp,rfl⟩
 have le:Le g w g {w with heap:=w.heap.setIfInBounds p.1 (.stringIter ⟨s.toArray⟩ n')}:=⟨fun _ _ h=>h,fun b o h=>World.cell?_of_block (a:=⟨b,o,none⟩) (hoth b (fun e=>hS o (e▸h))),fun _ _ h=>h,fun _ _ _ h=>h⟩
 have fr:Fr (ownsIn g H (idsOf [(i,Blk.iter s n')])) w {w with heap:=w.heap.setIfInBounds p.1 (.stringIter ⟨s.toArray⟩ n')} g.S g.S:=
  ⟨rfl,rfl,rfl,by simp,fun b _ hn=>hoth b (fun e=>hn 0 (e▸hown 0)),fun b o _ hn=>⟨World.cell?_of_block (a:=⟨b,o,none⟩) (hoth b (fun e=>hn (e▸hown o))),World.frozen?_of_block (a:=⟨b,o,none⟩) (hoth b (fun e=>hn (e▸hown o)))⟩,fun b o h=> .inl h,fun b s h=>(by
   by_cases e:b=p.1
   ·exact .inr fun o=>e▸hown o
   ·exact .inl ((A4 (hoth b e)).trans h))⟩
 have get: ∀j blk,j∈idsOf [(i,Blk.iter s n')]→getH (app [(i,Blk.iter s n')] H) j=some blk→j=i∧blk= .iter s n':=by
  intro j blk hj hg
  simp only[idsOf,List.mem_singleton] at hj
  subst hj
  simp only[app,getH,if_true,Option.some.injEq] at hg
  exact⟨rfl,hg.symm⟩
 have perm: ∀j blk b o,j∈idsOf [(i,Blk.iter s n')]→getH (app [(i,Blk.iter s n')] H) j=some blk→owns g j blk b o→w.heap.size≤b∨ownsIn g H (idsOf [(i,Blk.iter s n')]) b o:=by
  intro j blk b o hj hg ho
  obtain⟨rfl,rfl⟩:=get j blk hj hg
  obtain⟨q,hq,rfl⟩:=ho
  rw[hp] at hq
  obtain rfl:=Option.some.inj hq
  exact .inr (hown o)
 refine⟨le,hd,hH.upd le fr perm (fun _ _=>⟨rfl,rfl⟩) (fun j blk hj hg=> ?_) (fun j j' bi bj b o hj hj' hij hgi hgj _ _=>hij ((get j bi hj hgi).1.trans (get j' bj hj' hgj).1.symm)) (fun b o h=>by simpa using hH.sl b o h),fr,perm,fun _ _=>⟨rfl,rfl⟩,fun j u' y us h=>by
  simp only[app,getH] at h
  split at h
  ·cases h
  ·exact .inl ⟨y,us,h⟩⟩
 obtain⟨rfl,rfl⟩:=get j blk hj hg
 exact⟨p,hp,hp0,by simp [Array.getElem?_setIfInBounds,hlt],hS⟩
theorem aGm {t:TypeId}{x:Operand}(ho:o.op= .range t x) {sx:Slot}(hx:RdS g w sx (a.eval x)) {base:Nat}{e:Eff}(hr:UX base (q6 T t) sx=some e) (hf:wS g base e):pT P o a g w H e:=by
 generalize hst:q6 T t=ot at hr
 unfold UX at hr
 split at hr
 ·rename_i el b ar ls s k
  cases hr
  have hfr:=hf base (by simp [idsOf]) (Nat.le_refl _)
  have hv:=vQ hx.1
  have hu:=(qY hT hst).2
  simp only[vI] at hu
  refine pT.value (v:= .pointer (some ⟨w.heap.size,0,none⟩)) (w':=w.alloc (.stringIter ⟨s.toArray⟩ 0)) ?_ (EffOk.newIter hT hH hfr.1 (funext hfr.2))
  unfold execOp
  rw[ho]
  simp only[Instr.range,hv,Sem.run_bind,run_underlying hu,run_newObj,Result.andThen_ok,Sem.run_pure]
  rfl
 ·cases hr
theorem aGn {x:Operand}{b:Bool}(ho:o.op= .next x b) {sx:Slot}(hx:RdS g w sx (a.eval x)) {e:Eff}(hr:PL H b sx=some e):pT P o a g w H e:=by
 unfold PL at hr
 split at hr
 ·rename_i i k
  unfold UY at hr
  split at hr
  ·rename_i s n hb
   cases hr
   obtain⟨p,hp,hp0,hh,hS⟩:=hH.blk i _ hb
   obtain⟨q,hq,hv⟩:=xG hx.1
   rw[hp] at hq
   obtain rfl:=Option.some.inj hq
   rw[hp0] at hv
   by_cases hl:n<s.length
   ·have hsz:n<(⟨s.toArray⟩:ByteArray).size:=by simpa[ByteArray.size] using hl
    refine pT.value (v:= .tuple #[.bool true,.int .i64 (n:Int),.int .i32 (sH s n)]) (w':={w with heap:=w.heap.setIfInBounds p.1 (.stringIter ⟨s.toArray⟩ (wP s n))}) ?_ (EffOk.updIter hT hH hb hp hp0 hh hS ⟨⟨fun _=>rfl,fun h=>absurd hl (of_decide_eq_false h)⟩,trivial⟩)
    unfold execOp
    rw[ho]
    have hrn:wP s n=n+(Utf8.decode ⟨s.toArray⟩ n).2:=by unfold wP UW;rw[if_pos hl]
    simp only[Instr.next,hv,Sem.run_bind,a7N hh,Result.andThen_ok,hsz,if_true,aGl _ hh,Sem.run_pure,hrn]
    rfl
   ·have hsz: ¬n<(⟨s.toArray⟩:ByteArray).size:=by simpa[ByteArray.size] using hl
    have hrn:wP s n=n:=by unfold wP;rw[if_neg hl]
    have hw:({w with heap:=w.heap.setIfInBounds p.1 (.stringIter ⟨s.toArray⟩ (wP s n))}:World)=w:=by
     rw[hrn]
     have:w.heap.setIfInBounds p.1 (.stringIter ⟨s.toArray⟩ n)=w.heap:=by
      obtain⟨h1,h2⟩:=Array.getElem?_eq_some_iff.1 hh
      apply Array.ext_getElem?
      intro j
      rw[Array.getElem?_setIfInBounds]
      split
      ·rename_i hj;subst hj;first|rw[hh] |rw[if_pos h1,hh]
      ·rfl
     rw[this]
    refine pT.value (v:= .tuple #[.bool false]) (w':={w with heap:=w.heap.setIfInBounds p.1 (.stringIter ⟨s.toArray⟩ (wP s n))}) ?_ (EffOk.updIter hT hH hb hp hp0 hh hS ⟨⟨fun h=>absurd (of_decide_eq_true h) hl,fun _=>rfl⟩,trivial⟩)
    rw[hw]
    unfold execOp
    rw[ho]
    simp only[Instr.next,hv,Sem.run_bind,a7N hh,Result.andThen_ok,hsz,if_false,Sem.run_pure]
  ·cases hr
 ·cases hr
end
end Go.Proofs.YtbbpilohihldiaaGreatDoor.Vc
namespace Go.Proofs.YtbbpilohihldiaaGreatDoor.Vc
open Go.RowKit
set_option linter.unusedSectionVars false
def enumH:Nat→List Blk→Heap
 |_,[]=>[]
 |c,b::L=>(c,b)::enumH (c+1) L
theorem Q6: ∀(L:List Blk) (c i:Nat),getH (enumH c L) i=if c≤i then L[i-c]? else none
 |[],c,i=>by simp [enumH,getH]
 |b::L,c,i=>by
  simp only[enumH,getH]
  by_cases h:c=i
  ·subst h;simp
  ·rw[if_neg h,Q6 L (c+1) i]
   by_cases h2:c≤i
   ·rw[if_pos h2,if_pos (by omega)]
    obtain⟨d,hd⟩: ∃d,i-c=d+1:=⟨i-c-1,by omega⟩
    rw[hd,List.getElem?_cons_succ]
    congr 1
    omega
   ·rw[if_neg h2,if_neg (by omega)]
theorem v8 (L:List Blk) (i:Nat):getH (enumH 0 L) i=L[i]? :=by rw[Q6];simp
def ownsAny (g:Gh) (H:Heap) (b o:Nat):Prop:= ∃i blk,getH H i=some blk∧owns g i blk b o
def ArgsOk (g:Gh) (w:World):List Slot→List Value→Prop
 |[],vs=>vs=[]
 |s::ss,vs=> ∃v vs',vs=v::vs'∧RdS g w s v∧ArgsOk g w ss vs'
def RetVals (g:Gh) (w:World):List Slot→Value→Prop
 |[s],v=>RdS g w s v
 |l,v=> ∃vs:List Value,v= .tuple vs.toArray∧ArgsOk g w l vs
structure RetOk (g:Gh) (w:World) (L:List Blk) (r:Ret) (g':Gh) (w':World) (v:Value):Prop where
 shut: ∀b o,g.S b o→g'.S b o∧w'.cell? ⟨b,o,none⟩=w.cell? ⟨b,o,none⟩
 heap:HeapOk g' w' (enumH 0 r.H)
 ret:RetVals g' w' r.ret v
 fr:Fr (ownsAny g (enumH 0 L)) w w' g.S g'.S
 perm: ∀i blk b o,r.H[i]? =some blk→owns g' i blk b o→w.heap.size≤b∨ownsAny g (enumH 0 L) b o
 J: ∀(i:Nat) t x ts,L[i]? =some (.cells t x ts)→g'.J i=g.J i
 ty: ∀(i:Nat) t x ts u y us,L[i]? =some (.cells t x ts)→r.H[i]? =some (.cells u y us)→u=t
 Jt: ∀i p,i<L.length→g.J i=some p→g'.J i=some p
 cur: ∀i n u,i<L.length→g.cur i n=some u→g'.cur i n=some u
def wD (P:Program) (f:FuncId) (C:List Slot→List Blk→Option Ret):Prop:=
 (∀args w,(callFunc f args).run P w= .ok (.enter f args) w)∧
 ∀(g:Gh) (w:World) (args:List Slot) (vals:List Value) (L:List Blk) (r:Ret),HeapOk g w (enumH 0 L)→ArgsOk g w args vals→C args L=some r→(∀p∈r.side,p)→
  Calls P f vals.toArray w (fun e w'=> ∃v g',e= .returned v∧RetOk g w L r g' w' v)
def Q7 (P:Program) (f:FuncId) (F:(t:Ty)→List t.den→Option (List t.den)):Prop:=
 ∀(g:Gh) (w:World) (e:TypeId) (t:Ty) (l l':List t.den) (v:Value) (n:Nat) (xs:List Value),Tabs w→w.ownsRow 0 e t.cells v n xs→rC (Rd g w t) t.cells l xs→l.length=n→n<4611686018427387904→F t l=some l'→
  Calls P f #[v] w (fun en w'=>en= .returned (.tuple #[])∧l'.length=n∧∃xs',w'.ownsRow 0 e t.cells v n xs'∧rC (Rd g w t) t.cells l' xs'∧w.grownBy w' v.ownBlock)
def CtxOk (P:Program) (Γ:Ctx):Prop:= ∀f s,Γ f=some s→wD P f s.C∧∀F,s.row=some F→Q7 P f F
theorem a7O {g:Gh}{w:World}{t:Ty}{x:t.den}{v:Value}{k:Option Nat}(h:RdS g w (.val t x,k) v):RdS g w (.val t x,C8 t k) v:=by
 refine⟨h.1,?_⟩
 cases t with
 |list u=>exact h.2
 |_=>trivial
theorem Q8 {g g':Gh}{w:World}(hS:g'.S=g.S) {t:Ty}(hp:t.pure=true) {x:t.den}{v:Value}{k k':Option Nat}(h:RdS g w (.val t x,k) v) (hk: ∀c,k=some c→∃c',k'=some c'∧∀n u,g.cur c n=some u→g'.cur c' n=some u) (hk0:k=none→k'=none):RdS g' w (.val t x,k') v:=by
 have hv:r7 g' w t x v:=h.1.imp (fun⟨a,cs,e,q⟩=>⟨a,cs,e,t7 hS hp q⟩) (fun⟨a,q⟩=>⟨a,t7 hS hp q⟩)
 refine⟨hv,?_⟩
 cases k with
 |none=>rw[hk0 rfl];trivial
 |some c=>
  obtain⟨c',rfl,h2⟩:=hk c rfl
  have h1:=h.2
  cases t with
  |list u=>exact h2 _ _ h1
  |pair a b=>exact h1
  |_=>exact h1.elim
section
variable {P:Program}{o:Oper}{a:Act}{g:Gh}{w:World}{H:Heap}{T:Types}{Γ:Ctx}(hT:TypesOk P T) (hΓ:CtxOk P Γ) (hH:HeapOk g w H)
include hT hΓ hH
theorem VS {ti:Option TI}{s:Slot}{v:Value}(h:RdS g w s v):RdS g w (KL ti s) v:=by
 unfold KL
 split
 ·have:v= .slice none 0 0:=h.1
  subst this
  exact⟨.inr ⟨rfl,none,0,rfl,Nat.le_refl _,.inl rfl⟩,trivial⟩
 ·exact h
theorem a7P {ρ:Operand→Slot}: ∀{xs:List Operand}{ts:List TypeId},xs.length=ts.length→(∀x∈xs,RdS g w (ρ x) (a.eval x))→ArgsOk g w (CD T ρ xs ts) (xs.map a.eval)
 |[],[],_,_=>rfl
 |x::xs,t::ts,h,hx=>⟨_,_,rfl,VS hT hΓ hH (hx x (by simp)),a7P (by simpa using h) (fun y hy=>hx y (by simp [hy]))⟩
theorem aGo {l m:List Slot}{vs us:List Value}(h:ArgsOk g w l vs) (k:ArgsOk g w m us):ArgsOk g w (l++m) (vs++us):=by
 induction l generalizing vs with
 |nil=>rw[show vs=[] from h];exact k
 |cons s l ih=>
  obtain⟨v,vs',rfl,h1,h2⟩:=h
  exact⟨v,_,rfl,h1,ih h2⟩
theorem a7Q: ∀{caps:List (Nat×Nat)}{vs:List Value},v7 g caps vs→ArgsOk g w (UR caps) vs
 |[],_,h=>h
 |(i,o)::caps,_,⟨p,vs',h1,h2,h3⟩=>⟨_,_,h2,⟨.inr ⟨rfl,p,h1,rfl⟩,trivial⟩,a7Q h3⟩
end
theorem a7R {P:Program}{o:Oper}{a:Act}{f:FuncId}{fop:Operand}{args:Array Operand}{tys:Array TypeId}(ho:o.op= .call ⟨.value fop,args,tys⟩) {caps:List Value}(hf:a.eval fop= .func (.func f) #[] caps.toArray)
  (hen: ∀args w,(callFunc f args).run P w= .ok (.enter f args) w) {w:World}{K:Act→World→Prop}{Q:Exit→Act→World→Prop}
  (h:Calls P f ((args.toList.map a.eval)++caps).toArray w (fun e w'=> ∃v,e= .returned v∧K (a.put o.dst v) w')):o.wp P a w K Q:=by
 unfold Oper.wp
 have:(execOp a.eval o).run P w= .ok (.enter f ((args.toList.map a.eval)++caps).toArray) w:=by
  unfold execOp
  rw[ho]
  simp only[resolve,hf,Deferred.ofValue,Sem.run_bind,Sem.run_pure,Result.andThen_ok,invoke]
  rw[hen]
  congr 2
  apply Array.toList_inj.1
  simp
 rw[this]
 unfold Oper.upon
 refine h.mono fun e w' ⟨v,he,hk⟩=> ?_
 subst he
 exact hk
end Go.Proofs.YtbbpilohihldiaaGreatDoor.Vc
