/- Packed by a program of mine (wip/tools/pack.py): the same texts with short names and few blanks. -/
import Derived.Deep.CondSized
import Derived.Deep.DeepHandedRow
import Derived.Deep.DeepWitnessRowRef
import Derived.Lib.LaidIn
import Derived.Lib.LaidTab
import Derived.Lib.LaidU8T
import Derived.OpenShut
import Derived.ProofKit
import Derived.SevenTiedAt
import Derived.SizedLaws
import Derived.Test.YtcpbaddnmpeipaaGreatDoorCards
import Derived.Test.YtcpbaddnmpeipaaGreatDoorRows
import Derived.Test.YtcpbaddnmpeipaaGreatDoorTie
import Derived.WalkKit
import Derived.Test.YtcpbaddnmpeipaaGreatDoorX05
set_option linter.all false
set_option maxRecDepth 100000
set_option maxHeartbeats 4000000
namespace Go.Proofs.YtcpbaddnmpeipaaGreatDoor
open Go.ChangeShapes Go.WideShapes Go.ChangeAt Go.RowKit
section
variable {H:Type}{enc:TypeId×qE->H}{P:Program}
theorem aDe (hl:laidOutB P=true) {W W':qD}(hb:Below W.heap.size W W'):
  ∀{ts:List TypeId}{vs:q8}{ds:List (DataW H)}{ps:List MemPlace},(∀t∈ts,P.readableRec t=true/\t<P.types.size)->
  DataW.TrodAll enc P W 0 (fun _=>true) true ts vs ds ps->(∀x∈ps,x.block<W.heap.size)->
  DataW.TrodAll enc P W' 0 (fun b=>decide (b<W.heap.size)) true ts vs ds ps:=by
 intro ts
 induction ts with
 |nil=>
  intro vs ds ps _ h _;obtain⟨rfl,rfl,rfl⟩:=trodAll_nil h;exact trodAll_mk0
 |cons t ts ih=>
  intro vs ds ps hr h hlt;obtain⟨v,vs',d,ds',p,q,rfl,rfl,rfl,h0,r0⟩:=trodAll_cons h;exact trodAll_cons_mk (Below.trod hl (hr t pV).1 (hr t pV).2 h0 hb (fun x hx=>hlt x (by simp [hx]))) (ih (fun t' ht'=>hr t' (by simp [ht'])) r0 (fun x hx=>hlt x (by simp [hx])))
theorem aDf {f:Func}{s:ChangeSpec}{W W':qD}{args:Array qE}{ds gs:List (DataW H)}{before:List MemPlace}{tb:TypeId}
  (hl:laidOutB P=true) (hr: ∀t∈f.params.toList,P.readableRec t=true/\t<P.types.size)
  (hW:DataW.Whole enc P f.params.toList s.vars false W args.toList ds gs before) (hv:s.vars=[])
  (hfn:s.fn H ds={results:=[.lit (.bool true)],args:=ds}) (hrt:f.resultTypes= #[tb]) (htb:P.underlying tb=some .bool)
  (hb:Below W.heap.size W W'):s.post enc P f false true false false W args (.bool true) W':=by
 have hW':=hW;obtain⟨p,q,hA,hV,rfl,hfz,hnd⟩:=hW;rw[hv] at hV;obtain⟨rfl,rfl⟩:=trodVars_none hV;have hlt: ∀x∈p,x.block<W.heap.size:=fun x hx=>by simpa using hW'.lt x (by simp [hx])
 refine⟨ds,[],p++[],[],p,[],hW',?_,?_,?_,hb.frame _,fun h=>by cases h⟩
 .rw[List.append_nil,hfn,hrt];exact trodAll_mk1 (shut_bool htb true)
 .rw[List.append_nil,hfn];exact aDe hl hb hr hA hlt
 rw[hv,List.append_nil,hfn];rfl
end
section
variable {H:Type}{enc:TypeId×qE->H}
theorem aDg {C:Checked}{f:FuncId}{fn:Func}{s:ChangeSpec}{tb:TypeId}{HU:List (String×DataW Unit)}(own:ownKnob C.prog.godebug=none) {os:Os}(started:os.Started) (F:Stop.Interp)
  (noInit:C.prog.inits.idxOf? f=none) (hfn:C.prog.funcs[f]? =some fn)
  (hl:laidOutB C.prog=true) (hr: ∀t∈fn.params.toList,C.prog.readableRec t=true/\t<C.prog.types.size) (hv:s.vars=[])
  (hrt:fn.resultTypes= #[tb]) (htb:C.prog.underlying tb=some .bool)
  (hspec: ∀(ds:List (DataW H)) (W:qD) (args:Array qE) ps,DataW.TrodAll enc C.prog W 0 (fun _=>true) true fn.params.toList args.toList ds ps->s.fn H ds={results:=[.lit (.bool true)],args:=ds})
  (witness: ∃(w:qD) (tape:Tape) (i:Input),w.os=os/\(w.forCall tape i).Shaped C.prog/\i.vars=[]/\Input.okWide C.prog (w.forCall tape i) .any w.heap.size f i/\
   (OpenSpec.ofChange s).preRow enc C.prog fn [] false HU (w.forCall tape i).memory i.args/\Assume.holds {} C.prog (lone (Frame.enter C.prog f i.args .normal) [] (w.forCall tape i)))
  (contract: ∀(W:qD) (base:Nat) (args:Array qE) (ds:List (DataW H)) (ps:List MemPlace),
   (∀(j:Nat) t v,fn.params[j]? =some t->args[j]? =some v->Value.okWide C.prog W .any base t v)->
   DataW.TrodAll enc C.prog W 0 (fun _=>true) true fn.params.toList args.toList ds ps->
   (∀x∈ps,x.block<W.heap.size)->(DataW.weightsEach C.prog fn.params.toList ds).all (·<=reachBytes)=true->laidMetH C.prog HU W->W.ShapedOpen C.prog->
   Calls C.prog f args W fun e W'=>e= .returned (.bool true)/\Below W.heap.size W W'):
  ReturnsInHanded {} C os f .any ((OpenSpec.ofChange s).preRow enc C.prog fn [] false HU) (s.post enc C.prog fn false true false false):=by
 refine returnsInHanded_of_row (C:=C) (s:=OpenSpec.ofChange s) (F:=F) own started noInit hfn witness ?_;intro W base args ds gs before hval hW _ _ hsz hL hsh _;have hW':=hW;obtain⟨p,q,hA,hV,rfl,hfz,hnd⟩:=hW;have hV':DataW.TrodVars enc C.prog W (fun _=>true) s.vars gs q:=hV;rw[hv] at hV';obtain⟨rfl,rfl⟩:=trodVars_none hV';have hlt: ∀x∈p,x.block<W.heap.size:=fun x hx=>by simpa using hW'.lt x (by simp [hx])
 have hvt:(OpenSpec.ofChange s).bare.plain.varTypes C.prog=[]:=by
  simp [OpenSpec.ofChange,ChangeSpec.plain,hv];rfl
 rw[hvt,List.append_nil,List.append_nil] at hsz;refine(contract W base args ds p hval hA hlt hsz hL hsh).mono fun e W' ⟨he,hb⟩=>?_;subst he;exact⟨_,rfl,aDf hl hr hW' hv (hspec ds W args p hA) hrt htb hb⟩
end
end Go.Proofs.YtcpbaddnmpeipaaGreatDoor
namespace Go.Proofs.YtcpbaddnmpeipaaGreatDoor
open Go.Shelf Go.Lib
open Vc
theorem aDh:(Rows.laid_unicode_utf8_first:DataW Unit)=Lib.firstData:=by kernel_rfl
theorem aDi:(Rows.laid_unicode_utf8_acceptRanges:DataW Unit)=Lib.acceptData:=by kernel_rfl
def a3N:pZ:=[0,1,56,2,57,49,28,3,61,58,42,50,38,29,17,4,62,47,59,36,45,43,51,22,53,39,33,30,24,18,12,5,63,55,48,27,60,41,37,16,46,35,44,21,52,32,23,11,54,26,40,15,34,20,31,10,25,14,19,9,13,8,7,6]
theorem aDj:(Rows.laid_math_bits_deBruijn64tab:DataW Unit)=Lib.tabData .u8 a3N:=by kernel_rfl
theorem aDk {P:Program}{w:qD}{g:Nat}{t:TypeId}{k:IntKind}{zero:Array qE}(h:w.ShapedOpen P) (hg:g<P.globals.size)
  (h0:((begin P (fun _ _=>0) default).world.heap[g]?).bind Obj.row? =some (zero,t)) (hz:zero.size=1)
  (hb:P.buildable t=true) (hc:P.cellTypes P.depth t=some [t]) (hu:P.underlying t=some (.int k)): ∃m,w.cell? ⟨g,0,none⟩=some (.int k m):=by
 obtain⟨cs,hh,hs,hr⟩:=h.1 g zero t hg h0;obtain⟨ts,hts,_,hall⟩:=hr hb;rw[hc] at hts;cases hts;have h1:0<cs.size:=by omega
 obtain⟨u,hu',hok⟩:=hall 0 cs[0] (by simp [h1]);have:u=t:=by simpa using hu'.symm
 subst this;have hcell:w.cell? ⟨g,0,none⟩=some cs[0]:=by simp [World.cell?,hh,h1]
 rw[hcell];unfold Cell.ok at hok;rw[hu] at hok;cases hv:cs[0]<;>rw[hv] at hok<;>simp at hok
 rename_i k' m;exact⟨m,by rw[hok.1]⟩
theorem aDl {W:qD}(hsh:W.ShapedOpen Tryz.prog): ∃m,W.cell? ⟨0,0,none⟩=some (.int .i64 m):=
 aDk (t:=3) (zero:= #[.int .i64 0]) hsh (aGt qH) qH rfl qH qH Tryz.underlying3
def aDm:Ren:=⟨fun x=>x,fun x=>if x=5 then 5 else if x=119 then 218 else if x=138 then 220 else 221,fun x=>if x=3 then 1 else 2⟩
theorem aDn {w:qD}{a:Addr}{v:qE}(h:w.cell? a=some v):a.block<w.heap.size:=by
 unfold World.cell? at h;split at h
 .rename_i hb;exact(aGh.1 hb).1
 cases h
theorem aDo {W:qD}(hL:laidMet Tryz.prog Rows.blocksPrintRow.laid W) (hsh:W.ShapedOpen Tryz.prog):G7 W:=by
 obtain⟨m,hm⟩:=aDl hsh;have h0:=laidMet.reads hL (.tail _ (.head _));have h1:=laidMet.reads hL (.tail _ (.tail _ (.tail _ (.head _))));have h2:=laidMet.reads hL (.tail _ (.tail _ (.tail _ (.tail _ (.head _)))));rw[aDj] at h0;rw[aDh] at h2;rw[aDi] at h1;have hU:Lib.Utf8Tabs 1 2 W:=utf8Tabs_of_readsT (ρ:=aDm) ⟨qH,qH,qH,qH⟩ ⟨qH,qH,qH,qH,qH,qH,qH⟩ h2 h1;have hT:W.cell? ⟨5,15,none⟩=some (.int .u8 4):=by
  obtain⟨g,t,cs,fuel,p,hg,ht,hv,hd⟩:=h0;have hg0:Tryz.prog.globalNamed "math/bits.deBruijn64tab" =some 5:=by kernel_rfl
  have ht0:(Tryz.prog.globals[5]?).map (·.type)=some 273:=by kernel_rfl
  obtain rfl:=aFU (hg0.symm.trans hg);obtain rfl:=aFU (ht0.symm.trans ht);have hc:=cells_of_tab Tryz.underlying273 Tryz.underlying5 qH qH hd;rw[World.var?_cell hg hv 15,<-aGX,hc];rfl
 refine⟨?_,hU,⟨m,hm⟩,fun x hx=>?_⟩
 .have b0:5<W.heap.size:=aDn hT;show 6<=W.heap.size;omega
 unfold Jg at hx;obtain rfl:=aF7.1 hx;exact⟨pU,hT⟩
noncomputable def cn (os:Os):qD:=
 let w0:=World.holding Tryz.prog os ⟨#[],#[],[]⟩
 let uN (h:Array Obj) (g:Nat) (cs:Array qE):Array Obj:=h.modify g fun
  | .cells _ t frozen=> .cells cs t frozen
  |o=>o
 let h1:=uN w0.heap 1 (Lib.firstTab.map fun z=>Value.int .u8 z).toArray
 let h2:=uN h1 2 ((List.range 16).flatMap fun i=>[Value.int .u8 (Lib.accLo i),Value.int .u8 (Lib.accHi i)]).toArray
 let h3:=uN h2 5 (a3N.map fun z=>Value.int .u8 z).toArray
 let h4:=uN h3 4 (([0,1,28,2,29,14,24,3,30,22,20,15,25,17,4,8,31,27,13,23,21,19,16,7,26,12,18,6,11,5,10,9]:pZ).map fun z=>Value.int .u8 z).toArray
 let h5:=uN h4 3 ((List.range 20).map fun i=>Value.int .u64 (10^i)).toArray
 {w0 with heap:=h5}
theorem aDp (os:Os) (args:Array qE):laidMet Tryz.prog Rows.blocksPrintRow.laid ((cn os).forCall (fun _ _=>0) ⟨#[],args,[]⟩).memory:=
 (LaidIn.of_run [4,5,3,2,1] 8 qH qH qH qH:LaidIn Tryz.prog _ Rows.blocksPrintRow.laid _).met
end Go.Proofs.YtcpbaddnmpeipaaGreatDoor
namespace Go.Proofs.YtcpbaddnmpeipaaGreatDoor
open Vc Go.RowKit
inductive Jd where
 |ty (t:TypeId) |fs (o:Nat) (l:List Field)
inductive zR (P:Program):Jd->Ty->Prop
 |bool {t}:P.underlying t=some .bool->zR P (.ty t) .bool
 |int {t k}:P.underlying t=some (.int k)->zR P (.ty t) (.int k)
 |str {t}:P.underlying t=some .string->zR P (.ty t) .str
 |list {t e u}:P.underlying t=some (.slice e)->P.cellsOf e=u.cells->0<u.cells->0<P.bytesOf e->zR P (.ty e) u->zR P (.ty t) (.list u)
 |struct {t fs ty}:ty.isRow=true->P.underlying t=some (.struct fs)->P.cellsOf t=ty.cells->zR P (.fs 0 fs.toList) ty->zR P (.ty t) ty
 |nil {o}:zR P (.fs o []) .unit
 |cons {o}{f:Field}{r a b}:f.offset=o->P.cellsOf f.type=a.cells->zR P (.ty f.type) a->zR P (.fs (o+a.cells) r) b->zR P (.fs o (f::r)) (.pair a b)
def Bd:(t:Ty)->t.den->Prop
 | .str,s=>List.length s<=140737488351232
 | .int k,n=>(Lit.int k n).wf=true
 | .list u,l=>List.length l<=140737488351232/\∀x:u.den,x∈(l:List u.den)->Bd u x
 | .pair a b,x=>Bd a x.1/\Bd b x.2
 |_,_=>True
def HT (w:qD):Gh:=⟨fun b _=>b<w.heap.size,fun _=>none,fun _ _=>none⟩
theorem a3O {α:Type}{R:α->q8->Prop}{w:qD}{S:Nat->Nat->Prop}{c b:Nat}: ∀{l:List α}{o:Nat},(∀i x,l[i]? =some x->∃cs,cs.length=c/\w.rangeAt b (o+i*c) cs/\(∀j,j<c->S b (o+i*c+j))/\R x cs)->zD R w S c b o l
 |[],_,_=>trivial
 |x::l,o,h=>by
  refine⟨?_,a3O fun i y hy=>?_⟩
  .obtain⟨cs,h1,h2,h3,h4⟩:=h 0 x rfl;exact⟨cs,h1,by simpa using h2,by simpa using h3,h4⟩
  obtain⟨cs,h1,h2,h3,h4⟩:=h (i+1) y (by simpa using hy);have e:o+(i+1)*c=o+c+i*c:=by rw[aG5];omega
  exact⟨cs,h1,by rw[<-e];exact h2,by rw[<-e];exact h3,h4⟩
section
variable {H:Type}{enc:TypeId×qE->H}{P:Program}{W:qD}
theorem a3P {e:TypeId}: ∀{l:List (DataW H)}{i:Nat}{d:DataW H},l[i]? =some d->∀n∈d.weights P e,n∈DataW.weightsAll P e l
 |d0::l,0,d,h,n,hn=>by
  simp only[aGo,aFO] at h;subst h;simp only[DataW.weightsAll,aGE];exact .inl hn
 |d0::l,i+1,d,h,n,hn=>by
  simp only[aGC] at h;simp only[DataW.weightsAll,aGE];exact .inr (a3P h n hn)
 |[],_,_,h,_,_=>by simp at h
def aDq (enc:TypeId×qE->H) (P:Program) (W:qD):Jd->Ty->Prop
 | .ty t,u=> ∀(fuel:Nat) (cs:q8) (y:DataW H×List MemPlace),DataW.trod enc P W 0 (fun _=>true) true fuel t cs=some y->(∀n∈y.1.weights P t,n<=reachBytes)->∃x:u.den,Rd (HT W) W u x cs/\Bd u x
 | .fs o l,u=> ∀(fuel:Nat) (cs:q8) (xs:List (DataW H×List MemPlace)),cs.length=o+u.cells->xs.length=l.length->(∀(i:Nat) (f:Field),l[i]? =some f->DataW.trod enc P W 0 (fun _=>true) true fuel f.type ((cs.drop f.offset).take (P.cellsOf f.type))=xs[i]?)->(∀n∈DataW.weightsEach P (l.map (·.type)) (xs.map (·.1)),n<=reachBytes)->∃x:u.den,Rd (HT W) W u x (cs.drop o)/\Bd u x
theorem aDr {e:TypeId}{u:Ty}{a:Addr}{len cap:Nat}(hc:P.cellsOf e=u.cells) (hpos:0<u.cells) (hcap:len<=cap)
  (each: ∀i,i<len->∃(cs:q8) (x:u.den),W.cells? 0 (a.add (i*u.cells)) u.cells=some cs/\Rd (HT W) W u x cs/\Bd u x):
  ∃l:List u.den,l.length=len/\Rd (HT W) W (.list u) l [.slice (some a) len cap]/\∀x∈l,Bd u x:=by
 have build: ∀k,k<=len->∃l:List u.den,l.length=k/\∀i x,l[i]? =some x->∃cs:q8,W.cells? 0 (a.add (i*u.cells)) u.cells=some cs/\Rd (HT W) W u x cs/\Bd u x:=by
  intro k
  induction k with
  |zero=>intro _;exact⟨[],rfl,fun i x h=>by simp at h⟩
  |succ k ih=>
   intro hk;obtain⟨l,h1,h2⟩:=ih pT;obtain⟨cs,x,h3,h4⟩:=each k pT;refine⟨l++[x],by simp [h1],fun i y hy=>?_⟩;rw[List.getElem?_append] at hy;split at hy
   .exact h2 i y hy
   rename_i hi;obtain⟨j,hj⟩: ∃j,i=l.length+j:=⟨i-l.length,pT⟩;subst hj;rw[aGB] at hy;cases j with
   |zero=>
    simp only[aGo,aFO] at hy;subst hy;exact⟨cs,by rw[aG0,h1];exact h3,h4⟩
   |succ j=>simp at hy
 obtain⟨l,hll,hle⟩:=build len (aGc _);refine⟨l,hll,?_,fun x hx=>?_⟩
 .subst hll;by_cases hl0:l=[]
  .subst hl0;exact⟨some a,cap,rfl,hcap,.inl rfl⟩
  obtain⟨b,off,spot⟩:=a;have hlp:0<l.length:=aGH.2 hl0;have hspot:spot=none:=by
   obtain⟨cs,x,h3,_⟩:=each 0 hlp;have h4:=(World.cells?_some h3).2.2 0 hpos;have hlen0:=(World.cells?_some h3).2.1;rw[aFW pT] at h4;simpa[Addr.add] using World.cell?_spot h4
  subst hspot;refine⟨_,cap,rfl,hcap,.inr ⟨b,off,rfl,a3O fun i x hx=>?_⟩⟩;obtain⟨cs,h3,h4,_⟩:=hle i x hx;obtain⟨_,h5,h6⟩:=World.cells?_some h3;have hcell: ∀j v,cs[j]? =some v->W.cell? ⟨b,off+i*u.cells+j,none⟩=some v:=by
   intro j v hv;have hj:j<u.cells:=by have:=(aF5.1 hv).1;omega
   have:=h6 j hj;rw[hv] at this;rw[Addr.add_lit,Addr.add_lit] at this;exact this
  refine⟨cs,h5,hcell,fun j hj=>?_,h4⟩;exact Vc.S1 (hcell 0 _ (aFW pT))
 obtain⟨i,hi,he⟩:=aHA hx;obtain⟨cs,h3,h4,h5⟩:=hle i x (by rw[aFW hi,he]);exact h5
theorem aDs {ix:Jd}{u:Ty}(h:zR P ix u):aDq enc P W ix u:=by
 induction h with
 |bool ht=>
  intro fuel cs y hy _;obtain⟨b,rfl,_⟩:=DataW.trod_bool ht hy;exact⟨b,rfl,trivial⟩
 |int ht=>
  intro fuel cs y hy _;obtain⟨n,rfl,_,hw⟩:=DataW.trod_int ht hy;exact⟨n,rfl,hw⟩
 |str ht=>
  intro fuel cs y hy hw;obtain⟨s,rfl,rfl,_⟩:=DataW.trod_string ht hy;refine⟨s.data.toList,by show [Value.string s]=[Value.string ⟨s.data.toList.toArray⟩];rw[aHk],?_⟩;exact hw _ (by simp [DataW.weights])
 | @list t e u ht hc hpos hb _ ih=>
  intro fuel cs y hy hw;rcases DataW.trod_slice ht hy with⟨rfl,_⟩ |⟨a,len,cap,elems,rest,n,_,rfl,rfl,_,hl,_,hlen,hall,_,_⟩
  .exact⟨[],⟨none,0,rfl,aGc _,.inl rfl⟩,by simp,fun x hx=>by cases hx⟩
  .have hws:DataW.weights P t (.slice (elems.map (·.1)) (rest.map (·.1)))=((elems.map (·.1)).length+(rest.map (·.1)).length)*P.bytesOf e::(DataW.weightsAll P e (elems.map (·.1))++DataW.weightsAll P e (rest.map (·.1))):=by
    simp [DataW.weights,ht]
   rw[hws] at hw;have hn:=hw _ aGa;obtain⟨l,h1,h2,h3⟩:=aDr (W:=W) (a:=a) (cap:=cap) hc hpos hl fun i hi=>by
    have h1:=hall i hi;rw[hc,aFW pT,Option.bind_eq_some_iff] at h1;obtain⟨cs,h2,h3⟩:=h1;obtain⟨x,hx⟩:=ih n cs _ h3 fun m hm=>hw m (by
     refine aF2 _ (aGE.2 (.inl (a3P (i:=i) ?_ m hm)));rw[List.getElem?_map,aFW pT];rfl)
    exact⟨cs,x,h2,hx⟩
   refine⟨l,h2,?_,h3⟩;have:elems.length<=(elems.length+rest.length)*P.bytesOf e:=by
    calc elems.length<=(elems.length+rest.length)*1:=by omega
     _<=_:=Nat.mul_le_mul_left _ hb
   simp only[aGV] at hn;have hr:reachBytes=140737488351232:=rfl;show l.length<=_;omega
 |struct hrow ht hcl _ ih=>
  intro fuel cs y hy hw;obtain⟨xs,n,rfl,rfl,hl,hlen,hf⟩:=DataW.trod_struct ht hy;have:=ih n cs xs (by rw[hl,hcl];omega) (by rw[hlen];simp) (fun i f hi=>hf i f (by simpa using hi)) fun m hm=>hw m (by simpa[DataW.weights,ht] using hm);rwa [aG4] at this
 |nil=>
  intro fuel cs xs hl _ _ _;refine⟨(),?_,trivial⟩;show cs.drop _=[];exact List.drop_of_length_le (by simp [Ty.cells] at hl;omega)
 | @cons o f r a b ho hc _ _ iha ihb=>
  intro fuel cs xs hl hx hf hw;cases xs with
  |nil=>simp at hx
  |cons x0 xs=>
   have h0:=hf 0 f rfl;rw[hc,ho] at h0;obtain⟨xa,ra,ba⟩:=iha fuel _ x0 h0 fun m hm=>hw m (by simp only[aGU,DataW.weightsEach,aGE];exact .inl hm);obtain⟨xb,rb,bb⟩:=ihb fuel cs xs (by simp only[Ty.cells] at hl;omega) (by simpa using hx) (fun i f' hi=>by have:=hf (i+1) f' (by simpa using hi);simpa using this) fun m hm=>hw m (by simp only[aGU,DataW.weightsEach,aGE];exact .inr hm);refine⟨(xa,xb),⟨_,_,(aG1 a.cells (cs.drop o)).symm,ra,?_⟩,ba,bb⟩;rw[aHZ];exact rb
theorem Je {t:TypeId}{u:Ty}{base:Nat}{v:qE}{d:DataW H}{ps:List MemPlace}(h:zR P (.ty t) u) (hok:Value.okWide P W .any base t v) (hT:DataW.Trod enc P W 0 (fun _=>true) true t v d ps) (hw: ∀n∈d.weights P t,n<=reachBytes): ∃x:u.den,tJ (HT W) W u x v/\Bd u x:=by
 obtain⟨fuel,hf⟩:=hT;obtain⟨x,hx,hb⟩:=aDs (enc:=enc) (W:=W) h fuel _ _ hf hw;refine⟨x,?_,hb⟩;cases h with
 |bool ht=>obtain⟨b,rfl⟩:=Go.WideShapes.okWide_bool ht hok;exact .inr ⟨rfl,hx⟩
 |int ht=>obtain⟨b,rfl⟩:=Go.WideShapes.okWide_int ht hok;exact .inr ⟨rfl,hx⟩
 |str ht=>obtain⟨b,rfl⟩:=Go.WideShapes.okWide_string ht hok;exact .inr ⟨rfl,hx⟩
 |list ht=>obtain⟨a,l,c,rfl⟩:=Go.WideShapes.okWide_slice ht hok;exact .inr ⟨rfl,hx⟩
 |struct hrow ht=>obtain⟨cs,rfl,_⟩:=Go.WideShapes.okWide_struct ht hok;exact .inl ⟨hrow,cs.toList,by rw[aHk],hx⟩
end
end Go.Proofs.YtcpbaddnmpeipaaGreatDoor
namespace Go.Proofs.YtcpbaddnmpeipaaGreatDoor
open Vc
open Go.ChangeShapes Go.WideShapes Go.ChangeAt Go.RowKit
theorem OK:zR Tryz.prog (.ty 9) .str:= .str Tryz.underlying9
theorem a3Q:zR Tryz.prog (.ty 23) (.list .str):= .list Tryz.underlying23 qH pU (aGt qH) OK
theorem aDt:zR Tryz.prog (.ty 110) (.pair .str (.pair .str .unit)):=by
 refine .struct rfl Tryz.underlying110 qH ?_;exact .cons rfl qH OK (.cons rfl qH OK .nil)
theorem aDu:zR Tryz.prog (.ty 24) (.list (.pair .str (.pair .str .unit))):= .list Tryz.underlying24 qH pU (aGt qH) aDt
theorem aDv:zR Tryz.prog (.ty 45) tE:=by
 refine .struct rfl Tryz.underlying45 qH ?_;exact .cons rfl qH OK (.cons rfl qH OK (.cons rfl qH OK (.cons rfl qH a3Q (.cons rfl qH a3Q (.cons rfl qH (.int Tryz.underlying3) (.cons rfl qH aDu .nil))))))
theorem aDw {x:tI}(h:Bd tE x):Ih x:=by
 obtain⟨h1,h2,h3,⟨h4,k4⟩,⟨h5,k5⟩,_,⟨h7,k7⟩,_⟩:=h;exact⟨h1,h2,h3,⟨h4,k4⟩,⟨h5,k5⟩,h7,fun y hy=>⟨(k7 y hy).1,(k7 y hy).2.1⟩⟩
theorem aDx:zR Tryz.prog (.ty 5) (.int .u8):= .int Tryz.underlying5
theorem a3R {n:Int}(h:Bd (.int .u8) n):0<=n/\n<65536:=by
 have h':(Lit.int .u8 n).wf=true:=h;unfold Lit.wf at h';rw[aF0,aFY,aFY] at h';have h1:(0:Int)<=n:=h'.1;have h2:n<=2^8-1:=h'.2;omega
theorem aDy {W:qD}(hT:G7 W) (v0 v1 v2:qE) (x0:pP) (x1:Int) (x2:tI) (h0:tJ (HT W) W .str x0 v0) (h1:tJ (HT W) W (.int .u8) x1 v1) (h2:tJ (HT W) W tE x2 v2) (B0:Bd .str x0) (B1:Bd (.int .u8) x1) (B2:Bd tE x2):
  Calls Tryz.prog 8 #[v0,v1,v2] W fun e W'=>e= .returned (.bool true)/\Below W.heap.size W W':=by
 have hC:Gm (U3 x0 x1 x2) ZY=some (QI x0 x1 x2):=a9L _ _ _;have ht:=aDd x0 (a3R B1).1 (a3R B1).2 (aDw B2);refine(a9N.1.2 (HT W) W (U3 x0 x1 x2) [v0,v1,v2] [] _ ⟨(fun i b h=>by cases h),(fun i j bi bj b o _ h=>by cases h),fun b o h=>h,hT,(fun i blk b o h=>by cases h)⟩ ⟨v0,[v1,v2],rfl,⟨h0,trivial⟩,v1,[v2],rfl,⟨h1,trivial⟩,v2,[],rfl,⟨h2,trivial⟩,rfl⟩ hC ?_).mono fun e W' ⟨v,g',he,r⟩=>?_
 .intro p hp;have:p=((O7 x0 x1 x2).isSome=true):=by simpa[QI] using hp
  rw[this,ht];rfl
 have hv:v= .bool true:=by
  have h1:=r.ret;unfold QI at h1;rw[ht] at h1;exact vU h1.1
 subst hv;exact⟨he,⟨r.fr.os,r.fr.tape,r.fr.output,r.fr.size,fun k hk=>r.fr.blk k hk (fun o ⟨i,blk,hi,_⟩=>by cases hi)⟩⟩
end Go.Proofs.YtcpbaddnmpeipaaGreatDoor
namespace Go.Proofs.YtcpbaddnmpeipaaGreatDoor
open Go.ChangeShapes Go.WideShapes Go.ChangeAt Go.RowKit Go.Lib
theorem aDz:(Rows.blocksExchangeRow.inPlace==Tryz.prog.inPlace 8)=true:=by kernel_rfl
theorem aDA:(Rows.blocksExchangeRow.unfollowed==Tryz.prog.unfollowed 8)=true:=by kernel_rfl
theorem aDB:(Rows.blocksExchangeRow.recurses==Tryz.prog.recurses 8)=true:=by kernel_rfl
theorem aDC:(Rows.blocksExchangeRow.named==Tryz.prog.varsNamed 8)=true:=by kernel_rfl
theorem aDD:joinedFacts Tryz.prog 8 Tryz.f8 Rows.blocksExchangeSpec Rows.blocksExchangeRow=true:=by
 unfold joinedFacts;rw[aDz,aDA,aDB,aDC]
 kernel_rfl
namespace blocksExchangeLaw
theorem own:ownKnob Tryz.prog.godebug=none:=by kernel_rfl
theorem HU:laidOutB Tryz.prog=true:=by kernel_rfl
theorem aDE:Tryz.prog.readableRec 45=true:=by kernel_rfl
theorem aDF:45<Tryz.prog.types.size:=aGt qH
theorem aDG:Tryz.prog.readableRec 9=true:=by kernel_rfl
theorem aDH:9<Tryz.prog.types.size:=aGt qH
theorem aDI:Tryz.prog.readableRec 5=true:=by kernel_rfl
theorem aDJ:5<Tryz.prog.types.size:=aGt qH
theorem aDK (os:Os) {H:Type}(enc:TypeId×qE->H):
  (OpenSpec.ofChange Rows.blocksExchangeSpec).preRow enc Tryz.prog Tryz.f8 [] false Rows.blocksExchangeRow.laid ((cn os).forCall (fun _ _=>0) ⟨#[],#[.string ⟨#[]⟩,.int .u8 0,.agg #[.string ⟨#[]⟩,.string ⟨#[]⟩,.string ⟨#[]⟩,.slice none 0 0,.slice none 0 0,.int .i64 0,.slice none 0 0]],[]⟩).memory #[.string ⟨#[]⟩,.int .u8 0,.agg #[.string ⟨#[]⟩,.string ⟨#[]⟩,.string ⟨#[]⟩,.slice none 0 0,.slice none 0 0,.int .i64 0,.slice none 0 0]]:=by
 have hw:(DataW.whole enc Tryz.prog ((cn os).forCall (fun _ _=>0) ⟨#[],#[.string ⟨#[]⟩,.int .u8 0,.agg #[.string ⟨#[]⟩,.string ⟨#[]⟩,.string ⟨#[]⟩,.slice none 0 0,.slice none 0 0,.int .i64 0,.slice none 0 0]],[]⟩).memory Tryz.f8.params.toList (OpenSpec.ofChange Rows.blocksExchangeSpec).vars false #[.string ⟨#[]⟩,.int .u8 0,.agg #[.string ⟨#[]⟩,.string ⟨#[]⟩,.string ⟨#[]⟩,.slice none 0 0,.slice none 0 0,.int .i64 0,.slice none 0 0]].toList 8).map (fun x=>(x.1,x.2.1))=
   some ([.lit (.string []),.lit (.int .u8 0),.agg [.lit (.string []),.lit (.string []),.lit (.string []),.nil,.nil,.lit (.int .i64 0),.nil]],[]):=by kernel_rfl
 obtain⟨⟨x1,x2,x3⟩,hx,hx1⟩:=aF6.1 hw;simp only[aGi] at hx1;obtain⟨rfl,rfl⟩:=hx1;exact OpenSpec.preRow_of_cond 8 hx qH (fun k hk=>by cases hk) qH (aDp os _)
theorem lifted (os:Os) (started:os.Started) (H:Type) (enc:TypeId×qE->H) (F:Stop.Interp):
  ReturnsInHanded {} Tryz.checked os 8 .any ((OpenSpec.ofChange Rows.blocksExchangeSpec).preRow enc Tryz.prog Tryz.f8 [] false Rows.blocksExchangeRow.laid) (Rows.blocksExchangeSpec.post enc Tryz.prog Tryz.f8 false true false false):=by
 refine aDg (C:=Tryz.checked) (tb:=4) own started F qH Tryz.func8 HU ?_ rfl rfl Tryz.underlying4 ?_
  (witness_row_atRef (enc:=enc) (C:=Tryz.checked) false (cn os) #[.string ⟨#[]⟩,.int .u8 0,.agg #[.string ⟨#[]⟩,.string ⟨#[]⟩,.string ⟨#[]⟩,.slice none 0 0,.slice none 0 0,.int .i64 0,.slice none 0 0]] rfl qH qH qH (aDK os enc)) ?_
 .intro t ht;rw[Tryz.params8] at ht;simp only[aF1,aHj,or_false] at ht;rcases ht with rfl|rfl|rfl
  .exact⟨aDG,aDH⟩
  .exact⟨aDI,aDJ⟩
  exact⟨aDE,aDF⟩
 .intro ds W args ps h;have h':DataW.TrodAll enc Tryz.prog W 0 (fun _=>true) true Tryz.f8.params.toList args.toList ds ps:=h;rw[Tryz.params8] at h';obtain⟨v0,v1,v2,d0,d1,d2,p0,p1,p2,rfl,rfl,rfl,h0,h1,h2⟩:=trodAll_three h';rfl
 intro W base args ds ps hval0 hA0 hlt hsz0 hL hsh;have hval: ∀(j:Nat) t v,Tryz.f8.params[j]? =some t->args[j]? =some v->Value.okWide Tryz.prog W .any base t v:=hval0;have hA:DataW.TrodAll enc Tryz.prog W 0 (fun _=>true) true Tryz.f8.params.toList args.toList ds ps:=hA0;have hsz:(DataW.weightsEach Tryz.prog Tryz.f8.params.toList ds).all (·<=reachBytes)=true:=hsz0;rw[Tryz.params8] at hA hval hsz;obtain⟨v0,v1,v2,d0,d1,d2,p0,p1,p2,rfl,rfl,rfl,h0,h1,h2⟩:=trodAll_three hA;obtain⟨x0,g0,B0⟩:=Je OK (hval 0 9 v0 rfl rfl) h0 (fun n hn=>by
  have:=aGK.1 hsz n (DataW.weights_mem_each (j:=0) rfl rfl n hn);simpa using this)
 obtain⟨x1,g1,B1⟩:=Je aDx (hval 1 5 v1 rfl rfl) h1 (fun n hn=>by
  have:=aGK.1 hsz n (DataW.weights_mem_each (j:=1) rfl rfl n hn);simpa using this)
 obtain⟨x2,g2,B2⟩:=Je aDv (hval 2 45 v2 rfl rfl) h2 (fun n hn=>by
  have:=aGK.1 hsz n (DataW.weights_mem_each (j:=2) rfl rfl n hn);simpa using this)
 exact aDy (aDo hL hsh) v0 v1 v2 x0 x1 x2 g0 g1 g2 B0 B1 B2
end blocksExchangeLaw
theorem a3S:Rows.BlocksExchangeSaid:=
 OpenClaim.holds_of_wide 8 Tryz.f8 rfl rfl rfl rfl rfl rfl rfl ⟨rfl,rfl,rfl,rfl,rfl⟩ rfl rfl rfl rfl rfl qH Tryz.func8 aDD
  (aGt qH) (by unfold Func.isWrapper;first|(rw[aFP (by decide+kernel)];kernel_rfl) |(rw[aFQ (by decide+kernel)];exact⟨rfl,rfl⟩))
  (fun os started H enc _=>by rw[OpenClaim.pre_eq_preRow];exact blocksExchangeLaw.lifted os started H enc (fun _ _ _=>0))
#print axioms a3S
end Go.Proofs.YtcpbaddnmpeipaaGreatDoor
namespace Go.Proofs.YtcpbaddnmpeipaaGreatDoor
open Go
theorem aDL:Rows.blocksExchangeRow.wfByText (OpenSpec.ofChange Rows.blocksExchangeSpec)=true:=by kernel_rfl
theorem aDM:Tryz.prog.mainIs=some (true, "5d87d424bdcb739eb2e592d3312f44549b2e7d9aae6f0497c2ce86444ec20ce9".toList):=by kernel_rfl
theorem aDN:false=Tryz.prog.looks []:=by kernel_rfl
theorem aDO:false=Rows.blocksExchangeRow.goesBy Tryz.prog:=by kernel_rfl
theorem aDP:Tryz.prog.funcNamed "calque/calquelaw39.BlocksExchange" =some 8:=by kernel_rfl
theorem aDQ:([9,5,45].all fun u=> !Tryz.prog.wantsStandIn u)=true:=by kernel_rfl
theorem blocksExchangeCard_holds:Rows.BlocksExchangeCardSaid:=
 Claim7.holds_tied_plain_at .later [] [.data,.data,.data,.data,.pinned] true (true, "5d87d424bdcb739eb2e592d3312f44549b2e7d9aae6f0497c2ce86444ec20ce9") false
  a3S (fun _ h=>by cases h) aDL (fun _ h=>by cases h) blocksExchange_row_tie rfl ⟨rfl,rfl⟩ aDM rfl
  (fun f fn hf hfn=>by
   obtain rfl:f=8:=aFU (aDP.symm.trans hf) |>.symm
   obtain rfl:fn=Tryz.f8:=(aFU (Tryz.func8.symm.trans hfn)).symm;exact⟨aDN,fun j t ht=>by
    rw[Tryz.params8] at ht;have hm:t∈[9,5,45]:=by simpa using Array.mem_of_getElem? ht
    exact(show Tryz.prog.wantsStandIn t=false by simpa using aGK.1 aDQ t hm)⟩)
  aDO
#print axioms blocksExchangeCard_holds
end Go.Proofs.YtcpbaddnmpeipaaGreatDoor
