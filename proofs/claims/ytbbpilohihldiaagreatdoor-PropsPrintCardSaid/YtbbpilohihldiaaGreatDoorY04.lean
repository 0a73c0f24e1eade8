/- PropsPrint returns true for every catalog (Print gives the canonical body and Pieces its pieces, or ErrArg): the tied card of the statement, over the row's statement. No condition. -/
/- Packed by a program of mine (wip/tools/pack.py): the same texts with short names and few blanks. -/
import Derived.Deep.CondSized
import Derived.Deep.DeepHandedRow
import Derived.Deep.DeepWitnessRowRef
import Derived.Lib.Index
import Derived.Lib.IndexAny
import Derived.Lib.LaidIn
import Derived.Lib.LaidTab
import Derived.Lib.LaidU8T
import Derived.OpenShut
import Derived.ProofKit
import Derived.SevenTiedAt
import Derived.SizedLaws
import Derived.Sort.Walk0
import Derived.Test.YtbbpilohihldiaaGreatDoorCards
import Derived.Test.YtbbpilohihldiaaGreatDoorRows
import Derived.Test.YtbbpilohihldiaaGreatDoorTie
import Derived.WalkKit
import Derived.Test.YtbbpilohihldiaaGreatDoorY03
set_option linter.unusedVariables false
set_option linter.unusedSimpArgs false
set_option linter.unusedSectionVars false
namespace Go.Proofs.YtbbpilohihldiaaGreatDoor
open Vc
set_option maxRecDepth 100000
def vY:Nat→List UInt8→List Int
 |0,_=>[]
 |n+1,s=>if s=[] then[] else((Lib.decodeL s).1:Int)::vY n (s.drop (Lib.decodeL s).2)
theorem aDR: ∀(n:Nat) (s:List UInt8),(vY n s).length≤n
 |0,_=>Nat.le_refl _
 |n+1,s=>by
  unfold vY
  split
  ·simp
  ·simp only[List.length_cons]
   have:=aDR n (s.drop (Lib.decodeL s).2)
   omega
theorem aJY (s:List UInt8):xB ((Lib.decodeL s).1:Int):=by
 have k0:=(s.getD 0 0).toNat_lt
 rw[Lib.decodeL_N]
 rcases Lib.decodeN_shape s.length (s.getD 0 0).toNat (s.getD 1 0).toNat (s.getD 2 0).toNat (s.getD 3 0).toNat with⟨c,e⟩ |⟨c1,c2,c3,cv,e⟩ |⟨c1,c2,c3,c4,cv,cs,e⟩ |⟨c1,c2,c3,c4,c5,cv,cw,e⟩ |e
 all_goals (rw[e];unfold xB;dsimp only;omega)
theorem aDS: ∀(n:Nat) (s:List UInt8) (out:List Int),s.length≤n→out.length+s.length≤1000000→pJ JE (s,out)=some (out++vY n s)
 |n,[],out,_,_=>by
  rw[tJ (r:=out) (by unfold JE;simp)]
  cases n<;>simp [vY]
 |0,b::t,_,h,_=>by simp at h
 |n+1,b::t,out,h,ho=>by
  have hne:(b::t)≠[]:=by simp
  have hle:=Lib.decodeL_le (b::t) hne
  have hw:=Lib.decodeL_width (b::t)
  have hstep:JE (b::t,out)=some (.inl ((b::t).drop (Lib.decodeL (b::t)).2,out++[((Lib.decodeL (b::t)).1:Int)])):=by
   unfold JE
   dsimp only
   rw[if_pos (by simp),aJX hne]
   simp only[Option.bind_some]
   rw[if_pos (by simp only[List.length_cons,List.length_nil] at ho⊢;omega),if_pos ⟨by omega,by omega,Int.le_refl _⟩,BV]
  rw[CN hstep,aDS n _ _ (by rw[List.length_drop];simp only[List.length_cons] at h hle⊢;omega) (by rw[List.length_drop,List.length_append];simp only[List.length_cons,List.length_nil] at ho hle⊢;omega)]
  rw[show vY (n+1) (b::t)=((Lib.decodeL (b::t)).1:Int)::vY n ((b::t).drop (Lib.decodeL (b::t)).2) by rw[vY,if_neg hne],List.append_assoc]
  rfl
def SV (s:List UInt8):List Int:=vY s.length s
theorem aJZ (s:List UInt8) (hs:fit s):ES s=some (SV s):=by
 unfold fit at hs
 unfold ES
 rw[aDS s.length s [] (Nat.le_refl _) (by simpa using hs)]
 rfl
theorem aDT: ∀(n:Nat) (s:List UInt8),∀x∈vY n s,xB x
 |0,_,_,h=>by cases h
 |n+1,s,x,h=>by
  unfold vY at h
  split at h
  ·cases h
  ·rcases List.mem_cons.1 h with h|h
   ·rw[h];exact aJY s
   ·exact aDT n _ x h
def FC (l:List Int):List UInt8:=(l.map Lib.encodeRune).flatten
theorem aDU (n:Int):(Lib.encodeRune n).length≤4:=by
 unfold Lib.encodeRune
 rw[List.length_map]
 exact aDO n
theorem aDV (l:List Int) (hsc: ∀x∈l,xB x) (hl:fit l): ∀(n j:Nat) (s:List UInt8),j+n=l.length→s.length+4*n≤10000000→pJ (JD l) (s,(j:Int))=some (s++FC (l.drop j))
 |0,j,s,hj,_=>by
  have:j=l.length:=by omega
  subst this
  rw[tJ (r:=s) (by unfold JD;simp),List.drop_length]
  simp [FC]
 |n+1,j,s,hj,hs=>by
  have hlt:j<l.length:=by omega
  unfold fit at hl
  have hx:=hsc l[j] (List.getElem_mem hlt)
  have h4:=aDU l[j]
  have hstep:JD l (s,(j:Int))=some (.inl (s++Lib.encodeRune l[j],((j+1:Nat):Int))):=by
   unfold JD
   dsimp only
   rw[if_pos (rD hlt),if_pos (qE hlt),vS (t:= .int .i64) hlt]
   have hb:=(DK l[j]).2 hx
   unfold uK at hb
   rw[if_pos hb,if_pos (qE hlt),a5K hx]
   simp only[Option.bind_some]
   rw[if_pos (by rw[List.length_append];omega),if_pos (qV (by omega))]
   rfl
  rw[CN hstep,aDV l hsc hl n (j+1) _ (by omega) (by rw[List.length_append];omega),List.drop_eq_getElem_cons hlt,List.append_assoc]
  rfl
theorem aJ0 (l:List Int) (hsc: ∀x∈l,xB x) (hl:fit l):GW l=some (FC l):=by
 have hl':=hl
 unfold fit at hl'
 unfold GW
 rw[show ((0:Int))=((0:Nat):Int) from rfl,aDV l hsc hl l.length 0 [] (by omega) (by simp;omega)]
 rfl
theorem aDW: ∀(n:Nat) (s:List UInt8),s.length≤n→s.length≤(FC (vY n s)).length∧(FC (vY n s)=s↔Lib.validD s=true)
 |n,[],_=>by
  have:vY n []=[]:=by cases n<;>simp [vY]
  rw[this]
  simp [FC,Lib.validD_nil]
 |0,b::t,h=>by simp at h
 |n+1,b::t,h=>by
  have hne:(b::t)≠[]:=by simp
  have hle:=Lib.decodeL_le (b::t) hne
  have hw:=Lib.decodeL_width (b::t)
  obtain⟨ih1,ih2⟩:=aDW n ((b::t).drop (Lib.decodeL (b::t)).2) (by rw[List.length_drop];simp only[List.length_cons] at h⊢;omega)
  have hr:FC (vY (n+1) (b::t))=Lib.encodeRune ((Lib.decodeL (b::t)).1:Int)++FC (vY n ((b::t).drop (Lib.decodeL (b::t)).2)):=by
   rw[vY,if_neg hne]
   rfl
  rw[hr,Lib.validD_step _ hne]
  rw[List.length_drop] at ih1
  by_cases hv:(Lib.decodeL (b::t)).1=65533∧(Lib.decodeL (b::t)).2=1
  ·rw[if_pos hv,hv.1]
   have e3:(Lib.encodeRune ((65533:Nat):Int)).length=3:=rfl
   rw[hv.2] at ih1⊢
   refine⟨by rw[List.length_append,e3];omega,fun he=> ?_,fun he=>by cases he⟩
   have:=congrArg List.length he
   rw[List.length_append,e3] at this
   omega
  ·have he:=Lib.encode_decode (b::t) hne hv
   rw[if_neg hv,he]
   refine⟨by rw[List.length_append,List.length_take];omega,?_⟩
   rw[←ih2]
   constructor
   ·intro h1
    exact List.append_cancel_left (h1.trans (List.take_append_drop _ _).symm)
   ·intro h1
    rw[h1,List.take_append_drop]
theorem aJ1 (s:List UInt8) (hs:fit s):rX s=some (Lib.validD s):=by
 have hl:fit (SV s):=by
  have:=aDR s.length s
  unfold fit SV at*
  omega
 unfold rX
 rw[aJZ s hs]
 simp only[Option.bind_some]
 rw[aJ0 (SV s) (fun x hx=>aDT _ _ x hx) hl]
 simp only[Option.bind_some]
 congr 1
 have:=(aDW s.length s (Nat.le_refl _)).2
 rw[Bool.eq_iff_iff,decide_eq_true_eq]
 exact this
def uA (s:List UInt8):Bool:=decide ((s.length:Int)≤4000)&&Lib.validD s
theorem K6 (s:List UInt8) (hs:fit s):AJ s=some ()∧((decide ((s.length:Int)≤4000))&&val (rX s))=uA s:=by
 unfold AJ
 rw[aJ1 s hs]
 exact⟨if_pos (fun _=>rfl),rfl⟩
theorem K7 (s:List UInt8) (hs:fit s):zN s=some ():=by
 unfold fit at hs
 unfold zN ME
 rw[if_pos (fun _=>by rw[if_pos (by omega)];rfl)]
end Go.Proofs.YtbbpilohihldiaaGreatDoor
namespace Go.Proofs.YtbbpilohihldiaaGreatDoor
open Vc
set_option maxRecDepth 100000
theorem uB {p:Prop}{α:Type}{v:α}:p→(some v).isSome=true:=fun _=>rfl
theorem NS {ρ:Type}{f:Int→Option (Int⊕(Unit⊕ρ))}{n:Nat}(p:Nat→Bool) (g:Nat→ρ)
  (hf: ∀(i:Nat),i<n→f i=if p i=true then some (.inr (.inr (g i))) else some (.inl (i+1)))
  (he:f n=some (.inr (.inl ()))):pJ f 0=some (sJ (fun k=> .inr (g k)) (.inl ()) ((List.range n).findIdx? p)):=by
 refine yY (l:=List.range n) p g (fun i h=> ?_) (by rw[List.length_range];exact he)
 have hi:i<n:=by rw[List.length_range] at h;exact h
 rw[List.getElem_range]
 exact hf i hi
theorem aDX (a b:List UInt8):(!Op.bytesLess a b)=(Op.bytesLess b a||decide (b=a)):=by
 rw[bytesLess_eq,bytesLess_eq,Bool.eq_iff_iff]
 simp only[Bool.not_eq_true',decide_eq_false_iff_not,Bool.or_eq_true,decide_eq_true_eq]
 constructor
 ·intro h
  exact(List.le_iff_lt_or_eq.1 (List.not_lt.1 h))
 ·rintro(h|h)
  ·exact List.lt_asymm h
  ·rw[h];exact List.lt_irrefl _
theorem NT {n:Nat}{p:Nat→Bool}{b:Bool}:qS (some (sJ (fun _=>Sum.inr false) (Sum.inl ()) ((List.range n).findIdx? p))) (fun _:Unit=>some b)=some (!((List.range n).any p)&&b):=by
 rw[FB]
 cases(List.range n).any p<;>rfl
def zR (l:List (List UInt8)):Bool:=decide ((l.length:Int)≤20)&& !(l.any fun x=> !uA x)
theorem aJ2 {α:Type}{l:List α}{p:α→Bool}{b:Bool}:qS (some (sJ (fun _=>Sum.inr false) (Sum.inl ()) (l.findIdx? p))) (fun _:Unit=>some b)=some (!(l.any p)&&b):=by
 rw[FB]
 cases l.any p<;>rfl
theorem aDY (l:List (List UInt8)) (hl:fit l) (hx: ∀x∈l,fit x):xK l=some (zR l):=by
 unfold fit at hl
 have h:=yY (f:=N9 l) (l:=l) (fun x=> !uA x) (fun _=>false) (fun i h=>by
  obtain⟨h1,h2⟩:=K6 l[i] (hx _ (List.getElem_mem h))
  unfold N9
  rw[if_pos (rD h),if_pos (qE h),vS (t:= .str) h,h1,Option.bind_some,h2,if_pos (qV (by omega))]) (by
  unfold N9
  rw[if_neg (sE _)])
 unfold xK
 rw[h,aJ2,zR,Bool.and_comm]
theorem aJ3 (l:List (List UInt8)) (hl:fit l) (hx: ∀x∈l,fit x):yC l=some (l.any fun x=> !uA x):=by
 unfold fit at hl
 have h:=yY (f:=N7 l) (l:=l) (fun x=> !uA x) (fun k=>(k:Int)) (fun i h=>by
  have h1:=K7 l[i] (hx _ (List.getElem_mem h))
  unfold N7 N4
  rw[if_pos (rD h),if_pos (qE h),vS (t:= .str) h,h1,Option.bind_some,Option.bind_some,if_pos (qV (by omega))]
  rfl) (by
  unfold N7
  rw[if_neg (sE _)])
 unfold yC JH
 rw[h,BU]
 show some (decide _)=_
 rw[aDE]
theorem aDZ (l:List (List UInt8)) (hl:fit l) (hx: ∀x∈l,fit x):H6 l=some ()∧((decide ((l.length:Int)≤20))&&(!(val (yC l))))=zR l:=by
 unfold H6
 rw[aJ3 l hl hx]
 exact⟨if_pos uB,rfl⟩
def a5Q (l:List (List UInt8)) (i:Nat):Bool:=(!rG (l.getD i []))||(decide (0<i)&& !Op.bytesLess (l.getD (i-1) []) (l.getD i []))
def K8 (l:List (List UInt8)):Bool:= !((List.range l.length).any (a5Q l))&&decide ((l.length:Int)≤20)
theorem HE {l:List (List UInt8)}{i:Nat}:pG .str l (i:Int)=l.getD i []:=by unfold pG;rw[Int.toNat_natCast];rfl
theorem aD0 {l:List (List UInt8)}{i:Nat}:pG .str l ((i:Int)-1)=l.getD (i-1) []:=by
 unfold pG
 rw[show ((i:Int)-1).toNat=i-1 by omega];rfl
theorem SW {i:Nat}:decide ((0:Int)<(i:Int))=decide (0<i):=by simp
theorem aJ4 (l:List (List UInt8)) (hl:fit l):CZ l=some (K8 l):=by
 unfold fit at hl
 have h:=NS (f:=M9 l) (n:=l.length) (a5Q l) (fun _=>false) (fun i h=>by
  unfold M9
  rw[if_pos (rD h),if_pos (qE h),HE,aD0,SP,Option.bind_some,SW]
  have h0: ∀q:Bool,((q==false)&&(decide (0<i)==true))=true→0<i:=fun q hq=>by
   simp only[Bool.and_eq_true,beq_iff_eq,decide_eq_true_eq] at hq
   exact hq.2
  rw[if_pos (fun hq=>by have:=h0 _ hq;unfold p4;omega),if_pos (fun hq=>by have:=h0 _ hq;omega),if_pos (qV (by omega))]
  rfl) (by
  unfold M9
  rw[if_neg (sE _)])
 unfold CZ
 rw[h,NT];rfl
theorem aJ5 (l:List (List UInt8)) (hl:fit l) (hx: ∀x∈l,fit x):AI l=some (K8 l):=by
 unfold fit at hl
 have h:=NS (f:=N0 l) (n:=l.length) (a5Q l) (fun _=>false) (fun i h=>by
  unfold N0
  have hf:fit (l.getD i []):=by rw[List.getD_eq_getElem?_getD,List.getElem?_eq_getElem h];exact hx _ (List.getElem_mem h)
  rw[if_pos (rD h),if_pos (qE h),HE,aD0,SO _ hf,Option.bind_some,SW]
  have h0: ∀q:Bool,((q==false)&&(decide (0<i)==true))=true→0<i:=fun q hq=>by
   simp only[Bool.and_eq_true,beq_iff_eq,decide_eq_true_eq] at hq
   exact hq.2
  rw[if_pos (fun _=>qE h),if_pos (fun hq=>by have:=h0 _ hq;unfold p4;omega),if_pos (fun hq=>by have:=h0 _ hq;omega),if_pos (qV (by omega)),←aDX]
  rfl) (by
  unfold N0
  rw[if_neg (sE _)])
 unfold AI
 rw[h,NT];rfl
abbrev fD:qP:=([],([],()))
def a5R (l:List qP) (i:Nat):Bool:=((!rG (l.getD i fD).1)||(!uA (l.getD i fD).2.1))||(decide (0<i)&& !Op.bytesLess (l.getD (i-1) fD).1 (l.getD i fD).1)
def AP (l:List qP):Bool:= !((List.range l.length).any (a5R l))&&decide ((l.length:Int)≤20)
theorem SX {l:List qP}{i:Nat}:pG (.pair .str (.pair .str .unit)) l (i:Int)=l.getD i fD:=by unfold pG;rw[Int.toNat_natCast];rfl
theorem aD1 {l:List qP}{i:Nat}:pG (.pair .str (.pair .str .unit)) l ((i:Int)-1)=l.getD (i-1) fD:=by
 unfold pG
 rw[show ((i:Int)-1).toNat=i-1 by omega];rfl
def FldFit (x:qP):Prop:=fit x.1∧fit x.2.1
theorem BW {α:Type}{l:List α}{i:Nat}{d:α}(h:i<l.length):l.getD i d∈l:=by
 rw[List.getD_eq_getElem?_getD,List.getElem?_eq_getElem h];exact List.getElem_mem h
theorem SY {i:Nat}{q:Bool}(hq:((q==false)&&(decide (0<i)==true))=true):0<i:=by
 simp only[Bool.and_eq_true,beq_iff_eq,decide_eq_true_eq] at hq
 exact hq.2
theorem aD2 (l:List qP) (hl:fit l) (hx: ∀x∈l,FldFit x):BL l=some (AP l):=by
 unfold fit at hl
 have h:=NS (f:=N1 l) (n:=l.length) (a5R l) (fun _=>false) (fun i h=>by
  unfold N1
  have hf:=hx _ (BW (d:=fD) h)
  rw[if_pos (rD h),if_pos (qE h),SX,aD1,SP,Option.bind_some,SW,K7 _ hf.2]
  rw[if_pos uB,if_pos (fun hq=>by have:=SY hq;unfold p4;omega),if_pos (fun hq=>by have:=SY hq;omega),if_pos (qV (by omega))]
  rfl) (by
  unfold N1
  rw[if_neg (sE _)])
 unfold BL
 rw[h,NT];rfl
theorem aD3 (l:List qP) (hl:fit l) (hx: ∀x∈l,FldFit x):zP l=some (AP l):=by
 unfold fit at hl
 have h:=NS (f:=NA l) (n:=l.length) (a5R l) (fun _=>false) (fun i h=>by
  unfold NA
  have hf:=hx _ (BW (d:=fD) h)
  obtain⟨h1,h2⟩:=K6 _ hf.2
  rw[if_pos (rD h),if_pos (qE h),SX,aD1,SO _ hf.1,Option.bind_some,SW,h1,h2]
  rw[if_pos (fun _=>qE h),if_pos uB,if_pos (fun _=>qE h),if_pos (fun hq=>by have:=SY hq;unfold p4;omega),if_pos (fun hq=>by have:=SY hq;omega),if_pos (qV (by omega)),←aDX]
  rfl) (by
  unfold NA
  rw[if_neg (sE _)])
 unfold zP
 rw[h,NT];rfl
abbrev Ent:=qH
structure EntFitP (x:Ent):Prop where
 id:fit x.1
 src:fit x.2.1
 tgt:fit x.2.2.1
 com:fit x.2.2.2.1∧∀y∈x.2.2.2.1,fit y
 flg:fit x.2.2.2.2.1∧∀y∈x.2.2.2.2.1,fit y
 fld:fit x.2.2.2.2.2.2.1∧∀y∈x.2.2.2.2.2.2.1,FldFit y
def FD (x:Ent):Bool:=
 (((((((!decide (x.1=[]))&&decide ((x.1.length:Int)≤200))&&uA x.1)&&uA x.2.1)&&uA x.2.2.1)&&zR x.2.2.2.1)&&K8 x.2.2.2.2.1)&&(decide (0≤x.2.2.2.2.2.1)&&decide (x.2.2.2.2.2.1≤4))&&AP x.2.2.2.2.2.2.1
theorem aJ6 (x:Ent) (h:EntFitP x):F4 x=some (FD x):=by
 obtain⟨t1,t2⟩:=aDZ _ h.com.1 h.com.2
 have e1:=aJ4 _ h.flg.1
 have e2:=aD2 _ h.fld.1 h.fld.2
 unfold F4
 rw[K7 _ h.id,K7 _ h.src,K7 _ h.tgt,t1,t2,e1,e2]
 have k: ∀s:List UInt8,(decide ((s.length:Int)≤4000)&&Lib.validD s)=uA s:=fun s=>rfl
 rw[if_pos uB,Option.bind_some,if_pos uB,if_pos uB,if_pos uB,if_pos uB,k,k,k]
 unfold FD
 show (if _ then some false else some _)=_
 have a1:decide ((200:Int)<(x.1.length:Int))= !decide ((x.1.length:Int)≤200):=by rw[←decide_not];exact decide_eq_decide.2 (by omega)
 have a2:decide (x.2.2.2.2.2.1<(0:Int))= !decide ((0:Int)≤x.2.2.2.2.2.1):=by rw[←decide_not];exact decide_eq_decide.2 (by omega)
 have a3:decide ((4:Int)<x.2.2.2.2.2.1)= !decide (x.2.2.2.2.2.1≤(4:Int)):=by rw[←decide_not];exact decide_eq_decide.2 (by omega)
 rw[a1,a2,a3]
 show (if _ then some false else some (((((uA x.2.1&&uA x.2.2.1)&&zR x.2.2.2.1)&&K8 x.2.2.2.2.1))&&AP x.2.2.2.2.2.2.1))=_
 generalize decide (x.1=[])=b1
 generalize decide ((x.1.length:Int)≤200)=b2
 generalize uA x.1=b3
 generalize uA x.2.1=b4
 generalize uA x.2.2.1=b5
 generalize zR x.2.2.2.1=b6
 generalize K8 x.2.2.2.2.1=b7
 generalize decide ((0:Int)≤x.2.2.2.2.2.1)=b8
 generalize decide (x.2.2.2.2.2.1≤(4:Int))=b9
 generalize AP x.2.2.2.2.2.2.1=b10
 cases b1<;>cases b2<;>cases b3<;>cases b8<;>cases b9<;>simp
theorem aJ7 (x:Ent) (h:EntFitP x):JN x=some ()∧((((((((((!decide (x.1=([]:List UInt8)))&&(decide ((List.length x.1:Int)≤(200:Int))))&&((decide ((List.length x.1:Int)≤(4000:Int)))&&(val (rX x.1))))&&((decide ((List.length x.2.1:Int)≤(4000:Int)))&&(val (rX x.2.1))))&&((decide ((List.length x.2.2.1:Int)≤(4000:Int)))&&(val (rX x.2.2.1))))&&(val (xK x.2.2.2.1)))&&(val (AI x.2.2.2.2.1)))&&(decide ((0:Int)≤x.2.2.2.2.2.1)))&&(decide (x.2.2.2.2.2.1≤(4:Int))))&&(val (zP x.2.2.2.2.2.2.1)))=FD x:=by
 obtain⟨u1,v1⟩:=K6 _ h.id
 obtain⟨u2,v2⟩:=K6 _ h.src
 obtain⟨u3,v3⟩:=K6 _ h.tgt
 have e0:=aDY _ h.com.1 h.com.2
 have e1:=aJ5 _ h.flg.1 h.flg.2
 have e2:=aD3 _ h.fld.1 h.fld.2
 unfold JN
 rw[u1,u2,u3,v1,v2,v3,e0,e1,e2]
 refine⟨?_,?_⟩
 ·rw[if_pos uB,if_pos uB,if_pos uB,if_pos uB,if_pos uB,if_pos uB]
 ·unfold FD
  show (((((((((!_&&_)&&_)&&_)&&_)&&zR x.2.2.2.1)&&K8 x.2.2.2.2.1)&&_)&&_)&&AP x.2.2.2.2.2.2.1)=_
  simp only[Bool.and_assoc]
end Go.Proofs.YtbbpilohihldiaaGreatDoor
namespace Go.Proofs.YtbbpilohihldiaaGreatDoor
open Vc
set_option maxRecDepth 100000
def sQ (d:UInt8):List UInt8→Option Nat
 |[]=>none
 |[b]=>if b=d then some 0 else none
 |b::c::t=>if b=d then some 0 else if b=92 then(sQ d t).map (· +2) else(sQ d (c::t)).map (· +1)
def xP (c base:Int):Int:=
 let n:=if 48≤c∧c≤57 then c-48 else if 97≤c∧c≤102 then c-87 else if 65≤c∧c≤70 then c-55 else-1
 if base≤n then-1 else n
def vZ (base:Int):Int→List UInt8→Option Int
 |acc,[]=>some acc
 |acc,b::t=>if xP b.toNat base<0 then none else vZ base (base*acc+xP b.toNat base) t
end Go.Proofs.YtbbpilohihldiaaGreatDoor
namespace Go.Proofs.YtbbpilohihldiaaGreatDoor
open Vc
set_option maxRecDepth 100000
def HF:List UInt8:=[92,34,61,58,35,33,123,125,32]
def BX (l:List UInt8) (k:Nat) (ok:Int→Bool) (f:Int→List UInt8):List UInt8×Nat:=
 match vZ 16 0 l with
 |some n=>if ok n=true then(f n,k) else([],0)
 |none=>([],0)
def BY (l:List UInt8):List UInt8×Nat:=
 match l with
 |_::c::t=>
  if c=110 then([10],2) else if c=114 then([13],2) else if c=116 then([9],2)
  else if HF.contains c=true then([c],2)
  else if c=120∧2≤t.length then BX (t.take 2) 4 (fun n=>decide (n≤127)) (fun n=>qR [n])
  else if c=117∧4≤t.length then BX (t.take 4) 6 uK Lib.encodeRune
  else([],0)
 |_=>([],0)
end Go.Proofs.YtbbpilohihldiaaGreatDoor
namespace Go.Proofs.YtbbpilohihldiaaGreatDoor
open Vc
set_option maxRecDepth 100000
def yE (n:Int) (b:UInt8):Bool:=decide (b=10)||((decide (n=2)||decide (n=3))&&decide (b=34))
def sL (n:Int):List UInt8→List UInt8×Nat
 |[]=>([],0)
 |b::t=>if b=92 then BY (b::t) else if yE n b=true then([b],0) else([b],1)
def vE (n:Int):Nat→List UInt8→List UInt8⊕Nat
 |0,_=> .inl []
 |_+1,[]=> .inl []
 |k+1,b::t=>if (sL n (b::t)).2=0 then .inr 0 else match vE n k ((b::t).drop (sL n (b::t)).2) with
  | .inl r=> .inl ((sL n (b::t)).1++r)
  | .inr e=> .inr ((sL n (b::t)).2+e)
def zS (n:Int) (s:List UInt8):List UInt8×Int×Int:=match vE n s.length s with
 | .inl r=>(r,0,0)
 | .inr e=>([],e,3)
theorem zB (a b:List UInt8):qJ (a++b)=qJ a++qJ b:=by simp [qJ]
theorem HG (a:List UInt8):qR (qJ a)=a:=by
 unfold qR qJ
 rw[List.map_map]
 conv=>rhs;rw[←List.map_id a]
 congr 1
 funext b
 simp
end Go.Proofs.YtbbpilohihldiaaGreatDoor
namespace Go.Proofs.YtbbpilohihldiaaGreatDoor
open Vc
set_option maxRecDepth 100000
def zC (b:UInt8):Bool:=((decide (b=32)||decide (b=9))||decide (b=10))||decide (b=13)
def sF (x y:UInt8):List UInt8→Bool
 |b::c::_=>decide (b=x)&&decide (c=y)
 |_=>false
def tT (l:List UInt8):Nat:=(l.findIdx? fun b=>decide (b=10)).getD l.length
def vF:List UInt8→Option Nat
 |[]=>none
 |b::t=>if sF 42 47 (b::t)=true then some 0 else(vF t).map (· +1)
def AR (n:Nat) (g:Nat×Bool):Nat×Bool:=(n+g.1,g.2)
def w4:Nat→List UInt8→Nat×Bool
 |0,_=>(0,true)
 |_+1,[]=>(0,true)
 |k+1,b::t=>
  if zC b=true then AR 1 (w4 k t)
  else if sF 47 47 (b::t)=true then AR (tT (b::t)) (w4 k ((b::t).drop (tT (b::t))))
  else if sF 47 42 (b::t)=true then match vF ((b::t).drop 2) with
   |none=>(0,false)
   |some e=>AR (e+4) (w4 k ((b::t).drop (e+4)))
  else(0,true)
def G (l:List UInt8):Nat×Bool:=w4 l.length l
theorem NX {l:List UInt8}(h:sF 47 47 l=true):2≤tT l∧tT l≤l.length:=by
 unfold sF at h
 split at h
 ·rename_i b c t
  simp only[Bool.and_eq_true,decide_eq_true_eq] at h
  obtain⟨rfl,rfl⟩:=h
  unfold tT
  rw[List.findIdx?_cons,if_neg (by decide),List.findIdx?_cons,if_neg (by decide)]
  cases h:t.findIdx? fun b=>decide (b=10) with
  |none=>simp
  |some k=>
   have:=(List.findIdx?_eq_some_iff_getElem.1 h).1
   simp;omega
 ·cases h
theorem T3: ∀(n k k':Nat) (l:List UInt8),l.length≤n→l.length≤k→l.length≤k'→w4 k l=w4 k' l
 |n,k,k',[],_,_,_=>by cases k<;>cases k'<;>rfl
 |0,_,_,b::t,h,_,_=>by simp at h
 |n+1,0,_,b::t,_,h,_=>by simp at h
 |n+1,_,0,b::t,_,_,h=>by simp at h
 |n+1,k+1,k'+1,b::t,h,h1,h2=>by
  simp only[List.length_cons] at h h1 h2
  unfold w4
  split
  ·rw[T3 n k k' t (by omega) (by omega) (by omega)]
  ·split
   ·rename_i hb
    have:=NX hb
    rw[T3 n k k' _ (by rw[List.length_drop];simp only[List.length_cons];omega) (by rw[List.length_drop];simp only[List.length_cons];omega) (by rw[List.length_drop];simp only[List.length_cons];omega)]
   ·split
    ·cases hc:vF ((b::t).drop 2) with
     |none=>rfl
     |some e=>
      dsimp only
      rw[T3 n k k' _ (by rw[List.length_drop];simp only[List.length_cons];omega) (by rw[List.length_drop];simp only[List.length_cons];omega) (by rw[List.length_drop];simp only[List.length_cons];omega)]
    ·rfl
theorem aEl {k:Nat}{l:List UInt8}(h:l.length≤k):w4 k l=G l:=T3 l.length k l.length l (Nat.le_refl _) h (Nat.le_refl _)
theorem NY {b:UInt8}{t:List UInt8}(h:zC b=true):G (b::t)=AR 1 (G t):=by
 show w4 (t.length+1) (b::t)=_
 unfold w4
 rw[if_pos h];rfl
theorem T4 {b:UInt8}{t:List UInt8}(h: ¬zC b=true) (h1:sF 47 47 (b::t)=true):G (b::t)=AR (tT (b::t)) (G ((b::t).drop (tT (b::t)))):=by
 have:=NX h1
 show w4 (t.length+1) (b::t)=_
 unfold w4
 rw[if_neg h,if_pos h1,aEl (by rw[List.length_drop];simp only[List.length_cons];omega)]
theorem T5 {b:UInt8}{t:List UInt8}(h: ¬zC b=true) (h1: ¬sF 47 47 (b::t)=true) (h2:sF 47 42 (b::t)=true) (hc:vF ((b::t).drop 2)=none):G (b::t)=(0,false):=by
 show w4 (t.length+1) (b::t)=_
 unfold w4
 rw[if_neg h,if_neg h1,if_pos h2,hc]
theorem T6 {b:UInt8}{t:List UInt8}{e:Nat}(h: ¬zC b=true) (h1: ¬sF 47 47 (b::t)=true) (h2:sF 47 42 (b::t)=true) (hc:vF ((b::t).drop 2)=some e):G (b::t)=AR (e+4) (G ((b::t).drop (e+4))):=by
 show w4 (t.length+1) (b::t)=_
 unfold w4
 rw[if_neg h,if_neg h1,if_pos h2,hc]
 dsimp only
 rw[aEl (by rw[List.length_drop];simp only[List.length_cons];omega)]
theorem T7 {b:UInt8}{t:List UInt8}(h: ¬zC b=true) (h1: ¬sF 47 47 (b::t)=true) (h2: ¬sF 47 42 (b::t)=true):G (b::t)=(0,true):=by
 show w4 (t.length+1) (b::t)=_
 unfold w4
 rw[if_neg h,if_neg h1,if_neg h2]
end Go.Proofs.YtbbpilohihldiaaGreatDoor
namespace Go.Proofs.YtbbpilohihldiaaGreatDoor
open Vc
set_option maxRecDepth 100000
end Go.Proofs.YtbbpilohihldiaaGreatDoor
namespace Go.Proofs.YtbbpilohihldiaaGreatDoor
open Vc
set_option maxRecDepth 100000
def zT (c:Int):Bool:=((decide ((97:Int)≤c))&&(decide (c≤(122:Int))))||((decide ((65:Int)≤c))&&(decide (c≤(90:Int))))
def a50 (c:Int):Bool:=((((zT c)||((decide ((48:Int)≤c))&&(decide (c≤(57:Int)))))||(decide (c=(45:Int))))||(decide (c=(95:Int))))||(decide (c=(46:Int)))
def yF (b:UInt8):Bool:=a50 b.toNat
def w5 (l:List UInt8):Nat:=(l.findIdx? fun b=> !yF b).getD l.length
def wI (t:List UInt8):Int×List UInt8×Nat:=
 match sQ 34 t with
 |none=>(0,[],0)
 |some n=>if (zS 3 (t.take n)).2.2≠0∨uA (zS 3 (t.take n)).1=false then(0,[],0) else(1,(zS 3 (t.take n)).1,n+2)
def vN (r:List UInt8):Int×List UInt8×Nat:=
 match r with
 |[]=>(4,[],0)
 |b::t=>if b=123∨b=125 then(3,[b],1) else if b=34 then wI t else if zT b.toNat=true then(2,(b::t).take (w5 (b::t)),w5 (b::t)) else(0,[],0)
theorem TA {b:UInt8}{t:List UInt8}(h:b=123∨b=125):vN (b::t)=(3,[b],1):=if_pos h
theorem TB {b:UInt8}{t:List UInt8}(h: ¬(b=123∨b=125)) (h2:b=34):vN (b::t)=wI t:=(if_neg h).trans (if_pos h2)
theorem TC {b:UInt8}{t:List UInt8}(h: ¬(b=123∨b=125)) (h2: ¬b=34) (h3:zT b.toNat=true):vN (b::t)=(2,(b::t).take (w5 (b::t)),w5 (b::t)):=(if_neg h).trans ((if_neg h2).trans (if_pos h3))
theorem O0 {b:UInt8}{t:List UInt8}(h: ¬(b=123∨b=125)) (h2: ¬b=34) (h3: ¬zT b.toNat=true):vN (b::t)=(0,[],0):=(if_neg h).trans ((if_neg h2).trans (if_neg h3))
def sM (l:List UInt8):Int×List UInt8×Nat×Nat:=
 if (G l).2=true then((vN (l.drop (G l).1)).1,(vN (l.drop (G l).1)).2.1,(G l).1,(G l).1+(vN (l.drop (G l).1)).2.2) else(0,[],(G l).1,(G l).1)
theorem O1: ∀(n:Nat) (l:List UInt8),l.length≤n→(G l).2=false→∃t,l.drop (G l).1=47::t
 |_,[],_,h=>by cases h
 |0,_::_,h,_=>by simp at h
 |n+1,b::t,hl,h=>by
  simp only[List.length_cons] at hl
  by_cases h0:zC b=true
  ·rw[NY h0] at h⊢
   obtain⟨u,hu⟩:=O1 n t (by omega) h
   refine⟨u,?_⟩
   show (b::t).drop (1+(G t).1)=_
   rw[Nat.add_comm,List.drop_succ_cons];exact hu
  ·by_cases h1:sF 47 47 (b::t)=true
   ·rw[T4 h0 h1] at h⊢
    have hp:=NX h1
    obtain⟨u,hu⟩:=O1 n ((b::t).drop (tT (b::t))) (by rw[List.length_drop];simp only[List.length_cons] at hp⊢;omega) h
    refine⟨u,?_⟩
    rw[List.drop_drop] at hu;exact hu
   ·by_cases h2:sF 47 42 (b::t)=true
    ·cases hc:vF ((b::t).drop 2) with
     |none=>
      rw[T5 h0 h1 h2 hc]
      unfold sF at h2
      split at h2
      ·rename_i b' c' t' he
       simp only[Bool.and_eq_true,decide_eq_true_eq] at h2
       exact⟨c'::t',by rw[he,h2.1];rfl⟩
      ·cases h2
     |some e=>
      rw[T6 h0 h1 h2 hc] at h⊢
      obtain⟨u,hu⟩:=O1 n ((b::t).drop (e+4)) (by rw[List.length_drop];simp only[List.length_cons];omega) h
      refine⟨u,?_⟩
      rw[List.drop_drop] at hu;exact hu
    ·rw[T7 h0 h1 h2] at h;cases h
end Go.Proofs.YtbbpilohihldiaaGreatDoor
namespace Go.Proofs.YtbbpilohihldiaaGreatDoor
open Vc
set_option maxRecDepth 100000
end Go.Proofs.YtbbpilohihldiaaGreatDoor
namespace Go.Proofs.YtbbpilohihldiaaGreatDoor
open Vc
set_option maxRecDepth 100000
def kS (s:List UInt8) (P:Nat):Int:=(sM (s.drop P)).1
theorem HH {p:Prop}{α:Type}{v:α}:p→(some v).isSome=true:=fun _=>rfl
abbrev C4:=List UInt8×(List (List UInt8)×(List qP×(List qH×Unit)))
end Go.Proofs.YtbbpilohihldiaaGreatDoor
namespace Go.Proofs.YtbbpilohihldiaaGreatDoor
open Vc
set_option maxRecDepth 100000
end Go.Proofs.YtbbpilohihldiaaGreatDoor
namespace Go.Proofs.YtbbpilohihldiaaGreatDoor
open Vc
set_option maxRecDepth 100000
end Go.Proofs.YtbbpilohihldiaaGreatDoor
namespace Go.Proofs.YtbbpilohihldiaaGreatDoor
open Vc
set_option maxRecDepth 100000
end Go.Proofs.YtbbpilohihldiaaGreatDoor
namespace Go.Proofs.YtbbpilohihldiaaGreatDoor
open Vc
set_option maxRecDepth 100000
end Go.Proofs.YtbbpilohihldiaaGreatDoor
namespace Go.Proofs.YtbbpilohihldiaaGreatDoor
open Vc
set_option maxRecDepth 100000
end Go.Proofs.YtbbpilohihldiaaGreatDoor
namespace Go.Proofs.YtbbpilohihldiaaGreatDoor
open Vc
set_option maxRecDepth 100000
theorem AT {v:Ty}(a b:List UInt8) (y:v.den): ∀l:List (List UInt8×v.den),qK .str v (r8 .str v a y l) b=if b=a then y else qK .str v l b
 |[]=>by
  show (if decide (b=a)=true then y else v.zero)=if b=a then y else v.zero
  by_cases h:b=a<;>simp [h]
 |(x,z)::r=>by
  have ih:=AT a b y r
  show qK .str v (if decide (a=x)=true then(a,y)::r else(x,z)::r8 .str v a y r) b=if b=a then y else(if decide (b=x)=true then z else qK .str v r b)
  by_cases h:a=x
  ·rw[if_pos (decide_eq_true h)]
   show (if decide (b=a)=true then y else qK .str v r b)=_
   by_cases hb:b=a
   ·rw[if_pos (decide_eq_true hb),if_pos hb]
   ·rw[if_neg (by simpa using hb),if_neg hb,if_neg (by rw[←h];simpa using hb)]
  ·rw[if_neg (by simpa using h)]
   show (if decide (b=x)=true then z else qK .str v (r8 .str v a y r) b)=_
   rw[ih]
   by_cases hb:b=a
   ·rw[if_pos hb,if_pos hb,if_neg (by rw[hb];simpa using h)]
   ·rw[if_neg hb,if_neg hb]
end Go.Proofs.YtbbpilohihldiaaGreatDoor
namespace Go.Proofs.YtbbpilohihldiaaGreatDoor
open Vc
set_option maxRecDepth 100000
end Go.Proofs.YtbbpilohihldiaaGreatDoor
namespace Go.Proofs.YtbbpilohihldiaaGreatDoor
open Vc
set_option maxRecDepth 100000
end Go.Proofs.YtbbpilohihldiaaGreatDoor
namespace Go.Proofs.YtbbpilohihldiaaGreatDoor
open Vc
set_option maxRecDepth 100000
end Go.Proofs.YtbbpilohihldiaaGreatDoor
namespace Go.Proofs.YtbbpilohihldiaaGreatDoor
open Vc
set_option maxRecDepth 100000
theorem TN {σ ρ:Type}{f:σ→Option (σ⊕ρ)}{x y:σ}(h:f x=some (.inl y)):pJ f x=pJ f y:=by
 rw[vM,h];rfl
theorem C5 {σ ρ:Type}{f:σ→Option (σ⊕ρ)}{x:σ}{r:ρ}(h:f x=some (.inr r)):pJ f x=some r:=by
 rw[vM,h];rfl
end Go.Proofs.YtbbpilohihldiaaGreatDoor
namespace Go.Proofs.YtbbpilohihldiaaGreatDoor
open Vc
set_option maxRecDepth 100000
end Go.Proofs.YtbbpilohihldiaaGreatDoor
namespace Go.Proofs.YtbbpilohihldiaaGreatDoor
open Vc
set_option maxRecDepth 100000
def O8 (es:List qH) (x:List UInt8):Int×Bool:=sJ (fun k=>((k:Int),true)) ((0:Int),false) (es.findIdx? fun y=>decide (y.1=x))
theorem aEJ (c:C4) (x:List UInt8) (hl:c.2.2.2.1.length≤5000):CU c x=some (O8 c.2.2.2.1 x):=by
 have h:=yY (f:=M5 c x) (l:=c.2.2.2.1) (fun y=>decide (y.1=x)) (fun k=>((k:Int),true)) (fun i h=>by
  unfold M5
  rw[if_pos (rD h),if_pos (qE h),vS (t:=qT) h,if_pos (qV (by omega))]) (by
  unfold M5
  rw[if_neg (sE _)])
 unfold CU
 rw[h,BU]
 rfl
def O9 (ids:List (List UInt8×Bool)) (es:List qH):Prop:= ∀x,qK .str .bool ids x=es.any fun y=>decide (y.1=x)
theorem aEK {ids:List (List UInt8×Bool)}{es:List qH}(h:O9 ids es) (e:qH) (x:List UInt8) (he:e.1=x):O9 (r8 .str .bool x true ids) (es++[e]):=by
 intro y
 rw[AT,List.any_append,←h y]
 by_cases hy:y=x
 ·rw[if_pos hy];simp [he,hy]
 ·rw[if_neg hy]
  have:decide (e.1=y)=false:=by rw[he];simpa using fun hh=>hy hh.symm
  simp [this]
end Go.Proofs.YtbbpilohihldiaaGreatDoor
namespace Go.Proofs.YtbbpilohihldiaaGreatDoor
open Vc
set_option maxRecDepth 100000
abbrev eD:Ent:=([],([],([],([],([],(0,([],())))))))
def FJ (es:List Ent) (i:Nat):Bool:=((es.take i).any fun y=>decide (y.1=(es.getD i eD).1))|| !FD (es.getD i eD)
def wM (c:C4):Bool:=((DJ c.1&&zR c.2.1)&&AP c.2.2.1)&&(decide ((c.2.2.2.1.length:Int)≤1000)&& !((List.range c.2.2.2.1.length).any (FJ c.2.2.2.1)))
theorem TO {l:List Ent}{i:Nat}:pG qT l (i:Int)=l.getD i eD:=by unfold pG;rw[Int.toNat_natCast];rfl
structure CatFitP (c:C4):Prop where
 tag:fit c.1
 com:fit c.2.1∧∀y∈c.2.1,fit y
 fld:fit c.2.2.1∧∀y∈c.2.2.1,FldFit y
 len:c.2.2.2.1.length≤5000
 ent: ∀x∈c.2.2.2.1,EntFitP x
theorem aLJ {α:Type}{l:List α}{i:Nat}{d:α}(h:i<l.length):l.take (i+1)=l.take i++[l.getD i d]:=by
 rw[List.take_add_one,List.getElem?_eq_getElem h,List.getD_eq_getElem?_getD,List.getElem?_eq_getElem h];rfl
theorem aEM {c:C4}(hc:CatFitP c): ∀(n i:Nat) (m:List (List UInt8×Bool)),i+n=c.2.2.2.1.length→O9 m (c.2.2.2.1.take i)→
  pJ (H8 c) ((i:Int),m)=some (if (List.range' i n).any (FJ c.2.2.2.1)=true then .inr false else .inl ())
 |0,i,m,hi,_=>by
  have:i=c.2.2.2.1.length:=by omega
  subst this
  refine tJ ?_
  unfold H8
  dsimp only
  rw[if_neg (sE _)];rfl
 |n+1,i,m,hi,hm=>by
  have h:i<c.2.2.2.1.length:=by omega
  have he:=hc.ent _ (BW (d:=eD) h)
  have hl:=hc.len
  have hst:H8 c ((i:Int),m)=if FJ c.2.2.2.1 i=true then some (.inr (.inr false)) else some (.inl (((i+1:Nat):Int),r8 .str .bool (c.2.2.2.1.getD i eD).1 true m)):=by
   unfold H8
   dsimp only
   rw[if_pos (rD h),if_pos (qE h),TO,hm,aJ6 _ he,if_pos uB,if_pos (qV (by omega))]
   rfl
  rw[List.range'_succ,List.any_cons]
  by_cases hb:FJ c.2.2.2.1 i=true
  ·rw[if_pos hb] at hst
   rw[hb,Bool.true_or,if_pos rfl]
   exact tJ hst
  ·rw[if_neg hb] at hst
   rw[CN hst,aEM hc n (i+1) _ (by omega) (by rw[aLJ (d:=eD) h];exact aEK hm _ _ rfl)]
   simp only[Bool.not_eq_true] at hb
   rw[hb,Bool.false_or]
theorem aLK {c:C4}(hc:CatFitP c):H9 c=some (wM c):=by
 obtain⟨t1,t2⟩:=aDZ _ hc.com.1 hc.com.2
 have e2:=aD2 _ hc.fld.1 hc.fld.2
 have hlp:=aEM hc c.2.2.2.1.length 0 [] (by omega) (fun x=>by rfl)
 rw[←List.range_eq_range'] at hlp
 have hlp':pJ (H8 c) ((0:Int),[])=_:=hlp
 have a1:decide ((1000:Int)<(c.2.2.2.1.length:Int))= !decide ((c.2.2.2.1.length:Int)≤1000):=by rw[←decide_not];exact decide_eq_decide.2 (by omega)
 unfold H9
 rw[aJH,Option.bind_some,t1,t2,e2,if_pos uB,if_pos uB,hlp',a1]
 unfold wM
 show (if (((!DJ c.1)||(!zR c.2.1))||(!AP c.2.2.1)||_)=true then some false else _)=_
 generalize DJ c.1=b1
 generalize zR c.2.1=b2
 generalize AP c.2.2.1=b3
 generalize decide ((c.2.2.2.1.length:Int)≤1000)=b4
 generalize (List.range c.2.2.2.1.length).any (FJ c.2.2.2.1)=b5
 cases b1<;>cases b2<;>cases b3<;>cases b4<;>cases b5<;>rfl
theorem aLL {es:List Ent}{i:Nat}(h:i<es.length):decide ((O8 es (es.getD i eD).1).1=(i:Int))= !((es.take i).any fun y=>decide (y.1=(es.getD i eD).1)):=by
 have hx:es.getD i eD=es[i]:=by rw[List.getD_eq_getElem?_getD,List.getElem?_eq_getElem h];rfl
 unfold O8
 cases hf:es.findIdx? fun y=>decide (y.1=(es.getD i eD).1) with
 |none=>
  have:=List.findIdx?_eq_none_iff.1 hf es[i] (List.getElem_mem h)
  rw[hx] at this
  simp at this
 |some k=>
  obtain⟨hk,h1,h2⟩:=List.findIdx?_eq_some_iff_getElem.1 hf
  simp only[decide_eq_true_eq,decide_eq_false_iff_not] at h1 h2
  show decide ((k:Int)=(i:Int))=_
  rw[Bool.eq_iff_iff,decide_eq_true_eq,Bool.not_eq_true',List.any_eq_false]
  have hki:k≤i:=by
   rcases Nat.lt_or_ge i k with hlt|hge
   ·exact absurd (congrArg Prod.fst hx.symm) (h2 i hlt)
   ·exact hge
  constructor
  ·intro he x hxm
   obtain⟨j,hj,rfl⟩:=List.getElem_of_mem hxm
   rw[List.length_take] at hj
   rw[List.getElem_take]
   have:=h2 j (by omega)
   simpa using this
  ·intro hall
   rcases Nat.lt_or_ge k i with hlt|hge
   ·have:=hall es[k] (by rw[List.mem_take_iff_getElem];exact⟨k,by omega,rfl⟩)
    simp [h1] at this
   ·omega
theorem aLM (c:C4) (hc:CatFitP c):H7 c=some ((DJ c.1&&zR c.2.1)&&AP c.2.2.1):=by
 unfold H7
 rw[aJF _ hc.tag,Option.bind_some,aDY _ hc.com.1 hc.com.2,aD3 _ hc.fld.1 hc.fld.2,if_pos uB,if_pos uB]
 rfl
theorem aLN {c:C4}(hc:CatFitP c):HA c=some (wM c):=by
 have hl:=hc.len
 have h:=NS (f:=NM c) (n:=c.2.2.2.1.length) (FJ c.2.2.2.1) (fun _=>false) (fun i h=>by
  have he:=hc.ent _ (BW (d:=eD) h)
  obtain⟨u,v⟩:=aJ7 _ he
  unfold NM
  rw[if_pos (rD h),if_pos (qE h),TO,aEJ c _ hl,Option.bind_some,if_pos (fun _=>qE h),u,if_pos uB,v,aLL h,if_pos (qV (by omega)),Bool.not_not]
  rfl) (by
  unfold NM
  rw[if_neg (sE _)])
 have a1:decide ((1000:Int)<(c.2.2.2.1.length:Int))= !decide ((c.2.2.2.1.length:Int)≤1000):=by rw[←decide_not];exact decide_eq_decide.2 (by omega)
 unfold HA
 rw[aLM c hc,Option.bind_some,h,NT,a1]
 unfold wM
 generalize ((DJ c.1&&zR c.2.1)&&AP c.2.2.1)=b1
 generalize decide ((c.2.2.2.1.length:Int)≤1000)=b2
 generalize (List.range c.2.2.2.1.length).any (FJ c.2.2.2.1)=b3
 cases b1<;>cases b2<;>cases b3<;>rfl
def far:Nat:=140737488351232
theorem aEN {l:List (List UInt8)}(hl:l.length≤far) (hx: ∀x∈l,x.length≤far): ∀(m i:Nat) (n:Int),i+m=l.length→0≤n→n≤1125899906842624→
  ∃r,pJ (EJ l) (n,(i:Int))=some r∧n≤r∧r≤1125899906842624∧(r<1099511627776→∀x∈l.drop i,n+(x.length:Int)≤r)
 |0,i,n,hi,h0,h1=>by
  have:i=l.length:=by omega
  subst this
  refine⟨n,tJ ?_,Int.le_refl _,h1,fun _ x hx=>by rw[List.drop_length] at hx;cases hx⟩
  unfold EJ
  dsimp only
  rw[if_neg (by simp)]
 |m+1,i,n,hi,h0,h1=>by
  have h:i<l.length:=by omega
  by_cases hn:n<1099511627776
  ·have hxi:=hx _ (List.getElem_mem h)
   unfold far at hxi hl
   have hst:EJ l (n,(i:Int))=some (.inl (n+(l[i].length:Int),((i+1:Nat):Int))):=by
    unfold EJ
    dsimp only
    rw[if_pos (by simp [h,hn]),if_pos (qE h),vS (t:= .str) h,if_pos (by unfold p4;omega),if_pos (by unfold p4;omega)]
    rfl
   obtain⟨r,e,e1,e2,e3⟩:=aEN (by unfold far;exact hl) hx m (i+1) (n+(l[i].length:Int)) (by omega) (by omega) (by omega)
   refine⟨r,by rw[CN hst,e],by omega,e2,fun hr x hxm=> ?_⟩
   rw[List.drop_eq_getElem_cons h] at hxm
   rcases List.mem_cons.1 hxm with rfl|hxm
   ·omega
   ·have:=e3 hr x hxm
    omega
  ·refine⟨n,tJ ?_,Int.le_refl _,h1,fun hr=>by omega⟩
   unfold EJ
   dsimp only
   rw[if_neg (by simp [hn])]
theorem aEO {l:List qP}(hl:l.length≤far) (hx: ∀x∈l,x.1.length≤far∧x.2.1.length≤far): ∀(m i:Nat) (n:Int),i+m=l.length→0≤n→n≤1125899906842624→
  ∃r,pJ (EK l) (n,(i:Int))=some r∧n≤r∧r≤1125899906842624∧(r<1099511627776→∀x∈l.drop i,n+(x.1.length:Int)+(x.2.1.length:Int)≤r)
 |0,i,n,hi,h0,h1=>by
  have:i=l.length:=by omega
  subst this
  refine⟨n,tJ ?_,Int.le_refl _,h1,fun _ x hx=>by rw[List.drop_length] at hx;cases hx⟩
  unfold EK
  dsimp only
  rw[if_neg (by simp)]
 |m+1,i,n,hi,h0,h1=>by
  have h:i<l.length:=by omega
  by_cases hn:n<1099511627776
  ·have hxi:=hx _ (List.getElem_mem h)
   unfold far at hxi hl
   have hst:EK l (n,(i:Int))=some (.inl (n+(l[i].1.length:Int)+(l[i].2.1.length:Int),((i+1:Nat):Int))):=by
    unfold EK
    dsimp only
    rw[if_pos (by simp [h,hn]),if_pos (qE h),vS (t:= .pair .str (.pair .str .unit)) h,if_pos (by unfold p4;omega),if_pos (qE h),if_pos (by unfold p4;omega),if_pos (by unfold p4;omega)]
    rfl
   obtain⟨r,e,e1,e2,e3⟩:=aEO (by unfold far;exact hl) hx m (i+1) (n+(l[i].1.length:Int)+(l[i].2.1.length:Int)) (by omega) (by omega) (by omega)
   refine⟨r,by rw[CN hst,e],by omega,e2,fun hr x hxm=> ?_⟩
   rw[List.drop_eq_getElem_cons h] at hxm
   rcases List.mem_cons.1 hxm with rfl|hxm
   ·omega
   ·have:=e3 hr x hxm
    omega
  ·refine⟨n,tJ ?_,Int.le_refl _,h1,fun hr=>by omega⟩
   unfold EK
   dsimp only
   rw[if_neg (by simp [hn])]
def sml (l:List (List UInt8)):Prop:=l.length≤6000∧∀x∈l,x.length≤6000
def smlF (l:List qP):Prop:=l.length≤6000∧∀x∈l,x.1.length≤6000∧x.2.1.length≤6000
theorem a6c {l:List (List UInt8)}{f:List qP}(hl:l.length≤far) (hx: ∀x∈l,x.length≤far) (hf:f.length≤far) (hy: ∀x∈f,x.1.length≤far∧x.2.1.length≤far):
  ∃r,vV l f=some r∧0≤r∧r≤1125899906842624∧(r≤6000→sml l∧smlF f):=by
 have hl':=hl
 have hf':=hf
 unfold far at hl' hf'
 obtain⟨r,e,e1,e2,e3⟩:=aEN hl hx l.length 0 ((l.length:Int)+(f.length:Int)) (by omega) (by omega) (by omega)
 obtain⟨r',k,k1,k2,k3⟩:=aEO hf hy f.length 0 r (by omega) (by omega) e2
 have e':pJ (EJ l) ((l.length:Int)+(f.length:Int),(0:Int))=some r:=e
 have k':pJ (EK f) (r,(0:Int))=some r':=k
 refine⟨r',?_,by omega,k2,fun hr=>⟨⟨by omega,fun x hxm=> ?_⟩,⟨by omega,fun x hxm=> ?_⟩⟩⟩
 ·unfold vV
  rw[if_pos (by unfold p4;omega),e']
  unfold qB
  rw[Option.bind_some,k',Option.bind_some]
 ·have:=e3 (by omega) x (by rw[List.drop_zero];exact hxm)
  omega
 ·have:=k3 (by omega) x (by rw[List.drop_zero];exact hxm)
  omega
structure EntFar (x:Ent):Prop where
 id:x.1.length≤far
 src:x.2.1.length≤far
 tgt:x.2.2.1.length≤far
 com:x.2.2.2.1.length≤far∧∀y∈x.2.2.2.1,y.length≤far
 flg:x.2.2.2.2.1.length≤far∧∀y∈x.2.2.2.2.1,y.length≤far
 fld:x.2.2.2.2.2.2.1.length≤far∧∀y∈x.2.2.2.2.2.2.1,y.1.length≤far∧y.2.1.length≤far
structure EntFew (x:Ent):Prop where
 id:x.1.length≤6000
 src:x.2.1.length≤6000
 tgt:x.2.2.1.length≤6000
 com:sml x.2.2.2.1
 flg:sml x.2.2.2.2.1
 fld:smlF x.2.2.2.2.2.2.1
theorem aLO (x:Ent) (h:EntFar x): ∃b:Bool,JC x=some ()∧
  ((decide ((((List.length x.1:Int)+(List.length x.2.1:Int))+(List.length x.2.2.1:Int))≤(6000:Int)))&&(decide (((val (vV x.2.2.2.1 x.2.2.2.2.2.2.1))+(val (vV x.2.2.2.2.1 ([]:List pI))))≤(6000:Int))))=b∧(b=true→EntFew x):=by
 obtain⟨r,e,e1,e2,e3⟩:=a6c h.com.1 h.com.2 h.fld.1 h.fld.2
 obtain⟨r',k,k1,k2,k3⟩:=a6c (f:=[]) h.flg.1 h.flg.2 (by unfold far;simp) (fun x hx=>by cases hx)
 have a1:=h.id
 have a2:=h.src
 have a3:=h.tgt
 unfold far at a1 a2 a3
 refine⟨_,?_,rfl,fun hb=> ?_⟩
 ·unfold JC
  rw[e,k,if_pos (by unfold p4;omega),if_pos (by unfold p4;omega),if_pos uB,if_pos uB,if_pos (fun _=>by show p4 (r+r');unfold p4;omega)]
 ·rw[e,k] at hb
  simp only[Bool.and_eq_true,decide_eq_true_eq] at hb
  obtain⟨h1,h2⟩:=hb
  have h2:r+r'≤6000:=h2
  obtain⟨p,q⟩:=e3 (by omega)
  obtain⟨p',_⟩:=k3 (by omega)
  exact⟨by omega,by omega,by omega,p,p',q⟩
structure CatFar (c:C4):Prop where
 tag:c.1.length≤far
 com:c.2.1.length≤far∧∀y∈c.2.1,y.length≤far
 fld:c.2.2.1.length≤far∧∀y∈c.2.2.1,y.1.length≤far∧y.2.1.length≤far
 ent: ∀x∈c.2.2.2.1,EntFar x
structure CatFew (c:C4):Prop where
 tag:c.1.length≤100
 com:sml c.2.1
 fld:smlF c.2.2.1
 len:c.2.2.2.1.length≤12
 ent: ∀x∈c.2.2.2.1,EntFew x
theorem aEP {c:C4}(hc:CatFar c) (hl:c.2.2.2.1.length≤12): ∀(n i:Nat),i+n=c.2.2.2.1.length→
  ∃r,pJ (GY c) (i:Int)=some r∧(r= .inr false∨(r= .inl ()∧∀x∈c.2.2.2.1.drop i,EntFew x))
 |0,i,hi=>by
  have:i=c.2.2.2.1.length:=by omega
  subst this
  refine⟨.inl (),tJ ?_,.inr ⟨rfl,fun x hx=>by rw[List.drop_length] at hx;cases hx⟩⟩
  unfold GY
  rw[if_neg (sE _)]
 |n+1,i,hi=>by
  have h:i<c.2.2.2.1.length:=by omega
  obtain⟨b,e1,e2,e3⟩:=aLO _ (hc.ent _ (List.getElem_mem h))
  have hst:GY c (i:Int)=if (!b)=true then some (.inr (.inr false)) else some (.inl ((i+1:Nat):Int)):=by
   unfold GY
   rw[if_pos (rD h),if_pos (qE h),vS (t:=qT) h,e1,Option.bind_some,e2,if_pos (qV (by omega))]
   rfl
  cases b with
  |false=>exact⟨_,tJ hst,.inl rfl⟩
  |true=>
   obtain⟨r,k,k2⟩:=aEP hc hl n (i+1) (by omega)
   refine⟨r,by rw[CN hst,k],k2.imp id fun⟨a,b⟩=>⟨a,fun x hx=> ?_⟩⟩
   rw[List.drop_eq_getElem_cons h] at hx
   rcases List.mem_cons.1 hx with rfl|hx
   ·exact e3 rfl
   ·exact b x hx
theorem aLP {c:C4}(hc:CatFar c): ∃b,GZ c=some b∧(b=true→CatFew c):=by
 obtain⟨r,e,e1,e2,e3⟩:=a6c hc.com.1 hc.com.2 hc.fld.1 hc.fld.2
 unfold GZ
 rw[e,if_pos uB]
 by_cases hb:(((decide ((100:Int)<(List.length c.1:Int)))||(decide ((6000:Int)<(val (some r)))))||(decide ((12:Int)<(List.length c.2.2.2.1:Int))))=true
 ·rw[if_pos hb]
  exact⟨false,rfl,fun h=>by cases h⟩
 ·rw[if_neg hb]
  simp only[Bool.or_eq_true,decide_eq_true_eq] at hb
  have hr: ¬(6000:Int)<r:=fun h=>hb (.inl (.inr h))
  obtain⟨p,q⟩:=e3 (by omega)
  obtain⟨r',k,k2⟩:=aEP hc (by omega) c.2.2.2.1.length 0 (by omega)
  have k':pJ (GY c) (0:Int)=some r':=k
  rw[k']
  rcases k2 with rfl|⟨rfl,k3⟩
  ·exact⟨false,rfl,fun h=>by cases h⟩
  ·exact⟨true,rfl,fun _=>⟨by omega,p,q,by omega,by rw[List.drop_zero] at k3;exact k3⟩⟩
theorem DN {l:List UInt8}(h:l.length≤6000):fit l:=by unfold fit;omega
theorem a6d {l:List (List UInt8)}(h:sml l):fit l∧∀y∈l,fit y:=⟨by have:=h.1;unfold fit;omega,fun y hy=>DN (h.2 y hy)⟩
theorem aEQ {l:List qP}(h:smlF l):fit l∧∀y∈l,FldFit y:=⟨by have:=h.1;unfold fit;omega,fun y hy=>⟨DN (h.2 y hy).1,DN (h.2 y hy).2⟩⟩
theorem EntFew.fitP {x:Ent}(h:EntFew x):EntFitP x:=⟨DN h.id,DN h.src,DN h.tgt,a6d h.com,a6d h.flg,aEQ h.fld⟩
theorem CatFew.fitP {c:C4}(h:CatFew c):CatFitP c:=⟨DN (by have:=h.tag;omega),a6d h.com,aEQ h.fld,by have:=h.len;omega,fun x hx=>(h.ent x hx).fitP⟩
end Go.Proofs.YtbbpilohihldiaaGreatDoor
namespace Go.Proofs.YtbbpilohihldiaaGreatDoor
open Vc
set_option maxRecDepth 100000
theorem aER {σ ρ α:Type}{f:σ→Option (σ⊕ρ)}(st:Int→List α→σ) (out:List α→ρ) {n M B:Nat}(g:Nat→List α) (hg: ∀i,i<n→(g i).length≤B)
  (hf: ∀(i:Nat) s,i<n→s.length+B≤M→f (st i s)=some (.inl (st ((i:Int)+1) (s++g i)))) (he: ∀s,f (st n s)=some (.inr (out s))):
  ∀(k i:Nat) (s:List α),i+k=n→s.length+k*B≤M→pJ f (st i s)=some (out (s++(List.range' i k).flatMap g))
 |0,i,s,hi,_=>by
  have:i=n:=by omega
  subst this
  rw[tJ (he s)]
  simp
 |k+1,i,s,hi,hM=>by
  rw[Nat.succ_mul] at hM
  have hgi:=hg i (by omega)
  rw[CN (hf i s (by omega) (by omega)),show ((i:Int)+1)=((i+1:Nat):Int) by omega,aER st out g hg hf he k (i+1) (s++g i) (by omega) (by rw[List.length_append];omega),List.range'_succ,List.flatMap_cons,List.append_assoc]
theorem aES {α:Type}{g:Nat→List α}{B:Nat}: ∀(k i:Nat),(∀j,i≤j→j<i+k→(g j).length≤B)→((List.range' i k).flatMap g).length≤k*B
 |0,i,_=>by simp
 |k+1,i,h=>by
  rw[List.range'_succ,List.flatMap_cons,List.length_append,Nat.succ_mul]
  have h1:=aES k (i+1) fun j h1 h2=>h j (by omega) (by omega)
  have h2:=h i (by omega) (by omega)
  omega
theorem AU {σ ρ α:Type}{f:σ→Option (σ⊕ρ)}(st:Int→List α→σ) (out:List α→ρ) {n M B:Nat}(g:Nat→List α) (hg: ∀i,i<n→(g i).length≤B) (s:List α) (hM:s.length+n*B≤M)
  (hf: ∀(i:Nat) s,i<n→s.length+B≤M→f (st i s)=some (.inl (st ((i:Int)+1) (s++g i)))) (he: ∀s,f (st n s)=some (.inr (out s))):
  pJ f (st 0 s)=some (out (s++(List.range' 0 n).flatMap g)):=aER st out g hg hf he n 0 s (by omega) hM
theorem DO {α β:Type}{l:List α}{d:α}(h:α→List β):(List.range' 0 l.length).flatMap (fun i=>h (l.getD i d))=l.flatMap h:=by
 have e:(List.range' 0 l.length).map (fun i=>l.getD i d)=l:=by
  apply List.ext_getElem
  ·simp
  ·intro i h1 h2
   simp [List.getD_eq_getElem?_getD,h2]
 conv=>rhs;rw[←e]
 rw[List.flatMap_map]
theorem TP {α β:Type}{l:List α}{h:α→List β}{B:Nat}(hb: ∀x∈l,(h x).length≤B):(l.flatMap h).length≤l.length*B:=by
 induction l with
 |nil=>simp
 |cons x l ih=>
  rw[List.flatMap_cons,List.length_append,List.length_cons,Nat.succ_mul]
  have h1:=hb x List.mem_cons_self
  have h2:=ih fun y hy=>hb y (List.mem_cons_of_mem _ hy)
  omega
def C6 (n b:Nat) (first:Bool):List UInt8:=(DA (n:Int) (b:Int) first).getD []
theorem aLQ:((List.range 256).all fun b=>[true,false].all fun f=>decide (DA 3 (b:Int) f=some (C6 3 b f))&&(decide (ER 3 (b:Int) f=some (C6 3 b f))&&decide ((C6 3 b f).length≤6)))=true:=by kernel_rfl
theorem aLR:((List.range 256).all fun b=>[true,false].all fun f=>decide (DA 1 (b:Int) f=some (C6 1 b f))&&(decide (ER 1 (b:Int) f=some (C6 1 b f))&&decide ((C6 1 b f).length≤6)))=true:=by kernel_rfl
theorem a6e {n b:Nat}(hn:n=1∨n=3) (hb:b<256) (f:Bool):DA (n:Int) (b:Int) f=some (C6 n b f)∧ER (n:Int) (b:Int) f=some (C6 n b f)∧(C6 n b f).length≤6:=by
 have hf:f∈[true,false]:=by cases f<;>simp
 rcases hn with rfl|rfl
 ·have h:=List.all_eq_true.1 (List.all_eq_true.1 aLR b (by simpa using hb)) f hf
  simpa using h
 ·have h:=List.all_eq_true.1 (List.all_eq_true.1 aLQ b (by simpa using hb)) f hf
  simpa using h
def OA (n:Nat) (s:List UInt8) (i:Nat):List UInt8:=C6 n (s.getD i 0).toNat (decide (i=0))
def AV (n:Nat) (s:List UInt8):List UInt8:=(List.range' 0 s.length).flatMap (OA n s)
theorem a6f {n:Nat}(hn:n=1∨n=3) (s:List UInt8) (i:Nat):(OA n s i).length≤6:=(a6e hn (UInt8.toNat_lt _) _).2.2
theorem HN {n:Nat}(hn:n=1∨n=3) (s:List UInt8):(AV n s).length≤6*s.length:=by
 have:=aES (g:=OA n s) (B:=6) s.length 0 fun j _ _=>a6f hn s j
 unfold AV
 omega
theorem aET {s:List UInt8}{i:Nat}:pD s (i:Int)=((s.getD i 0).toNat:Int):=by unfold pD;rw[Int.toNat_natCast]
theorem aEU {i:Nat}:decide ((i:Int)=0)=decide (i=0):=decide_eq_decide.2 (by omega)
theorem OB {l:List Nat}{g:Nat→List UInt8}:l.flatMap (fun i=>qJ (g i))=qJ (l.flatMap g):=by
 induction l with
 |nil=>rfl
 |cons x l ih=>rw[List.flatMap_cons,List.flatMap_cons,zB,ih]
theorem xT (l:List UInt8):(qJ l).length=l.length:=by simp [qJ]
theorem aLS {n:Nat}(hn:n=1∨n=3) {s:List UInt8}(hs:fit s):BM (n:Int) s=some (AV n s):=by
 unfold fit at hs
 have hn4: ¬decide ((n:Int)=4)=true:=by simp;omega
 have h:=AU (f:=N2 (n:Int) s) (fun i b=>(i,b)) (fun b=>b) (n:=s.length) (M:=100000000) (B:=6) (fun i=>qJ (OA n s i)) (fun i _=>by rw[xT];exact a6f hn s i) [] (by simp;omega) (fun i b hi hM=>by
  obtain⟨e1,_,e3⟩:=a6e hn (UInt8.toNat_lt (s.getD i 0)) (decide (i=0))
  unfold N2
  dsimp only
  rw[if_pos (rD hi),if_neg hn4,if_pos (qE hi),aET,aEU,e1,Option.bind_some]
  unfold vU
  rw[if_pos (by dsimp only;omega),Option.bind_some,if_pos (qV (by omega))]
  rfl) (fun b=>by
  unfold N2
  dsimp only
  rw[if_neg (sE _)])
 unfold BM
 rw[if_neg (by simp;omega),h,OB]
 unfold qB
 rw[Option.bind_some,List.nil_append,HG];rfl
theorem aLT {n:Nat}(hn:n=1∨n=3) {s:List UInt8}(hs:fit s):BN (n:Int) s=some (AV n s):=by
 unfold fit at hs
 have h:=AU (f:=N3 (n:Int) s) (fun i b=>(b,i)) (fun b=>b) (n:=s.length) (M:=100000000) (B:=6) (fun i=>qJ (OA n s i)) (fun i _=>by rw[xT];exact a6f hn s i) [] (by simp;omega) (fun i b hi hM=>by
  obtain⟨_,e2,e3⟩:=a6e hn (UInt8.toNat_lt (s.getD i 0)) (decide (i=0))
  unfold N3
  dsimp only
  rw[if_pos (rD hi),if_pos (qE hi),aET,aEU,e2,Option.bind_some,if_pos (by omega),if_pos (qV (by omega))]
  rfl) (fun b=>by
  unfold N3
  dsimp only
  rw[if_neg (sE _)])
 unfold BN
 rw[if_neg (by simp;omega),h,OB]
 unfold qB
 rw[Option.bind_some,List.nil_append,HG];rfl
def DP (h:List UInt8) (l:List (List UInt8)) (t:List UInt8):List UInt8:=h++(l.flatten++t)
theorem aEV {f:(Int×List UInt8)→List Int→Option (List Int⊕List UInt8)}(hf: ∀it b,b.length+it.2.length≤140737488355328→f it b=some (.inl (b++qJ it.2))): ∀(l:List (Int×List UInt8)) (b:List Int),
  b.length+((l.map (·.2)).flatten).length≤140737488355328→yT f l b=some (.inl (b++qJ (l.map (·.2)).flatten))
 |[],b,_=>by simp [yT,qJ]
 |it::l,b,h=>by
  simp only[List.map_cons,List.flatten_cons,List.length_append] at h
  unfold yT
  rw[hf it b (by omega),Option.bind_some]
  show yT f l _=_
  rw[aEV hf l _ (by rw[List.length_append,xT];omega)]
  simp only[List.map_cons,List.flatten_cons,zB,List.append_assoc]
theorem aEW (d:s0):((yU d).map (·.2)).flatten=DP d.1 d.2.1 d.2.2.1:=by
 unfold yU DP
 have e:(List.range d.2.1.length).map (fun j=>d.2.1.getD j [])=d.2.1:=by
  apply List.ext_getElem
  ·simp
  ·intro i h1 h2
   simp [List.getD_eq_getElem?_getD,h2]
 have e2:(((List.range d.2.1.length).map fun j:Nat=>((j:Int)+1,d.2.1.getD j [])).map (·.2))=d.2.1:=by
  rw[List.map_map]
  exact e
 simp only[List.map_cons,List.map_append,List.map_nil,List.flatten_cons,List.flatten_append,List.flatten_nil,List.append_nil,e2,List.append_assoc]
theorem aEX (d:s0) (hl:d.2.1.length≤900000) (hb:(DP d.1 d.2.1 d.2.2.1).length≤140737488355328):GR d=some (DP d.1 d.2.1 d.2.2.1):=by
 have h:=aEV (f:=RR) (fun it b h=>by
  unfold RR vU
  rw[if_pos h,Option.bind_some]) (yU d) [] (by rw[aEW];simpa using hb)
 unfold GR
 rw[if_pos (by omega),h,aEW]
 unfold qS
 dsimp only
 rw[Option.bind_some]
 simp only[List.nil_append,HG]
theorem aLU (d:s0) (hl:d.2.1.length≤900000) (hb: ∀x∈([d.1]++d.2.1)++[d.2.2.1],x.length≤100000000000):GT d=some (DP d.1 d.2.1 d.2.2.1):=by
 obtain⟨L,hL⟩: ∃L,([d.1]++d.2.1)++[d.2.2.1]=L:=⟨_,rfl⟩
 have hLl:L.length=d.2.1.length+2:=by rw[←hL];simp
 rw[hL] at hb
 have h:=AU (f:=MN d) (fun i s=>(s,i)) (fun s=>s) (n:=L.length) (M:=1000000000000000000) (B:=100000000000) (fun i=>L.getD i []) (fun i hi=>hb _ (BW hi)) [] (by simp;omega) (fun i s hi hM=>by
  unfold MN
  dsimp only
  have:=hb _ (BW (d:=[]) hi)
  rw[hL,if_pos (rD hi),if_pos (qE hi),HE,if_pos (by rw[List.length_append];omega),if_pos (qV (by omega))]) (fun b=>by
  unfold MN
  dsimp only
  rw[hL,if_neg (sE _)])
 unfold GT CV
 rw[if_pos (by simp;omega),if_pos (by simp;omega),Option.bind_some,h]
 unfold qB
 rw[Option.bind_some,DO (l:=L) (d:=[]) (fun x=>x)]
 congr 1
 rw[List.nil_append,←hL]
 unfold DP
 simp
end Go.Proofs.YtbbpilohihldiaaGreatDoor
namespace Go.Proofs.YtbbpilohihldiaaGreatDoor
open Vc
set_option maxRecDepth 100000
end Go.Proofs.YtbbpilohihldiaaGreatDoor
namespace Go.Proofs.YtbbpilohihldiaaGreatDoor
open Vc
set_option maxRecDepth 100000
theorem aLV {l:List UInt8}:(vN l).1=4↔l=[]:=by
 cases l with
 |nil=>exact⟨fun _=>rfl,fun _=>rfl⟩
 |cons b t=>
  refine⟨fun h=> ?_,fun h=>by cases h⟩
  exfalso
  by_cases h1:b=123∨b=125
  ·rw[TA h1] at h;exact absurd h (show¬(3:Int)=4 by decide)
  ·by_cases h2:b=34
   ·rw[TB h1 h2] at h
    unfold wI at h
    cases he:sQ 34 t with
    |none=>rw[he] at h;exact absurd h (show¬(0:Int)=4 by decide)
    |some n=>
     rw[he] at h
     dsimp only at h
     split at h
     ·exact absurd h (show¬(0:Int)=4 by decide)
     ·exact absurd h (show¬(1:Int)=4 by decide)
   ·by_cases h3:zT b.toNat=true
    ·rw[TC h1 h2 h3] at h;exact absurd h (show¬(2:Int)=4 by decide)
    ·rw[O0 h1 h2 h3] at h;exact absurd h (show¬(0:Int)=4 by decide)
theorem k4 {s:List UInt8}{P:Nat}(hP:P≤s.length):kS s P=4↔¬P+(G (s.drop P)).1<s.length:=by
 unfold kS sM
 by_cases hg:(G (s.drop P)).2=true
 ·rw[if_pos hg]
  dsimp only
  rw[aLV,List.drop_drop,List.drop_eq_nil_iff]
  omega
 ·rw[if_neg hg]
  obtain⟨t,ht⟩:=O1 (s.drop P).length (s.drop P) (Nat.le_refl _) (by simpa using hg)
  refine⟨fun h=>absurd h (show¬(0:Int)=4 by decide),fun h=> ?_⟩
  rw[List.drop_drop,List.drop_eq_nil_of_le (by omega)] at ht
  cases ht
end Go.Proofs.YtbbpilohihldiaaGreatDoor
namespace Go.Proofs.YtbbpilohihldiaaGreatDoor
open Vc
set_option maxRecDepth 1000000
end Go.Proofs.YtbbpilohihldiaaGreatDoor
namespace Go.Proofs.YtbbpilohihldiaaGreatDoor
open Vc
set_option maxRecDepth 100000
theorem aEY {σ ρ:Type}{f:σ→Option (σ⊕ρ)}{n:Nat}(st:Nat→σ) {r:ρ}(h: ∀i,i<n→f (st i)=some (.inl (st (i+1)))) (he:f (st n)=some (.inr r)): ∀(k i:Nat),i+k=n→pJ f (st i)=some r
 |0,i,hi=>by
  have:i=n:=by omega
  subst this
  exact C5 he
 |k+1,i,hi=>by
  rw[TN (h i (by omega))]
  exact aEY st h he k (i+1) (by omega)
theorem aLW (d:s0) (h:d.2.1.length≤5000):D7 d d=some ([],0):=by
 have hn:((([d.1]:List (List UInt8))++d.2.1)++([d.2.2.1]:List (List UInt8))).length=d.2.1.length+2:=by simp
 have hA:CV d=some ():=by
  unfold CV
  rw[if_pos (by simp;omega),if_pos (by simp;omega)]
 have hloop:=aEY (f:=MO d d) (n:=d.2.1.length+2) (fun i=>(([]:List (Int×List UInt8×Unit)),(i:Int))) (r:=[])
  (fun i hi=>by
   unfold MO
   dsimp only
   rw[hn,if_pos (rD hi),if_pos (qE hi),if_pos (qE hi),if_neg (by simp),if_pos (qV (by omega))]
   rfl)
  (by
   unfold MO
   dsimp only
   rw[hn,if_neg (sE _)]) (d.2.1.length+2) 0 (by omega)
 unfold D7
 rw[if_neg (by simp),hA,Option.bind_some,Option.bind_some,show (([]:List (Int×List UInt8×Unit)),(0:Int))=(([]:List (Int×List UInt8×Unit)),((0:Nat):Int)) from rfl,hloop]
 rfl
theorem aLX (d:s0) (h:d.2.1.length≤5000):EV d d=some true:=by
 unfold EV
 rw[aLW d h]
 rfl
end Go.Proofs.YtbbpilohihldiaaGreatDoor
namespace Go.Proofs.YtbbpilohihldiaaGreatDoor
open Vc
set_option maxRecDepth 100000
theorem uC {l:List UInt8}{n:Nat}(h:l.length≤n) (hn:n≤9223372036854775807):(l.length:Int)≤9223372036854775807:=by omega
theorem FK {l:List (List UInt8)}(h:sml l) {i:Nat}(hi:i<l.length):(l.getD i []).length≤6000:=h.2 _ (BW hi)
theorem TQ {l:List qP}(h:smlF l) {i:Nat}(hi:i<l.length):(l.getD i fD).1.length≤6000∧(l.getD i fD).2.1.length≤6000:=h.2 _ (BW hi)
theorem a6g {n:Int}(h0:0≤n) (h1:n≤4):(pG .str vX n).length≤10:=by
  have:n=0∨n=1∨n=2∨n=3∨n=4:=by omega
  rcases this with rfl|rfl|rfl|rfl|rfl<;>decide
theorem aEZ {α β:Type}{f:α→β}{l:List α}:l.flatMap (fun x=>[f x])=l.map f:=by
  induction l with
  |nil=>rfl
  |cons x l ih=>rw[List.flatMap_cons,ih];rfl
theorem a6h {c:C4}(hok:wM c=true) {i:Nat}(hi:i<c.2.2.2.1.length):FD (c.2.2.2.1.getD i eD)=true:=by
  unfold wM at hok
  simp only[Bool.and_eq_true,Bool.not_eq_true',List.any_eq_false,List.mem_range] at hok
  have:=hok.2.2 i hi
  unfold FJ at this
  simp only[Bool.or_eq_true,Bool.not_eq_true',not_or,Bool.not_eq_false] at this
  exact this.2
theorem a6i {x:Ent}(h:FD x=true):0≤x.2.2.2.2.2.1∧x.2.2.2.2.2.1≤4:=by
  unfold FD at h
  simp only[Bool.and_eq_true,decide_eq_true_eq] at h
  exact h.1.2
end Go.Proofs.YtbbpilohihldiaaGreatDoor
namespace Go.Proofs.YtbbpilohihldiaaGreatDoor
open Vc
set_option maxRecDepth 100000
theorem aLY:JY=some true:=by kernel_rfl
def uD (a b:List UInt8):List UInt8:=((a++[32,61,32])++AV 1 b)++[10]
theorem xU {a b:List UInt8}(ha:a.length≤36002) (hb:b.length≤6000):(uD a b).length≤72006:=by
  have:=HN (n:=1) (.inl rfl) b
  simp only[uD,List.length_append,List.length_cons,List.length_nil]
  omega
theorem a6j {s:List UInt8}(h:s.length≤6000):BM (1:Int) s=some (AV 1 s):=aLS (n:=1) (.inl rfl) (DN h)
theorem a6k {s:List UInt8}(h:s.length≤6000):BN (1:Int) s=some (AV 1 s):=aLT (n:=1) (.inl rfl) (DN h)
theorem TR {b:List Int}{s:List UInt8}(h:b.length+s.length≤140737488355328):vU (b,()) s=some ():=by
  unfold vU
  exact if_pos h
theorem KF {w:List Int}{a b:List UInt8}(ha:a.length≤36002) (hb:b.length≤6000) (hw:w.length≤100000000000):xL (w,()) a b=some (w++qJ (uD a b)):=by
  have h1:=xU ha hb
  have h2:=HN (n:=1) (.inl rfl) b
  unfold uD at*
  unfold xL
  rw[if_pos (uC (n:=1000000000) (by simp only[List.length_append,List.length_cons,List.length_nil];omega) (by decide)),a6j hb,Option.bind_some,if_pos (uC (n:=1000000000) (by simp only[List.length_append,List.length_cons,List.length_nil];omega) (by decide)),if_pos (uC (n:=1000000000) (by simp only[List.length_append,List.length_cons,List.length_nil];omega) (by decide)),TR (by omega),Option.bind_some]
theorem KG {a b:List UInt8}(ha:a.length≤36002) (hb:b.length≤6000):yD a b=some (uD a b):=by
  have h2:=HN (n:=1) (.inl rfl) b
  unfold uD
  unfold yD
  rw[if_pos (uC (n:=1000000000) (by simp only[List.length_append,List.length_cons,List.length_nil];omega) (by decide)),a6k hb,Option.bind_some,if_pos (uC (n:=1000000000) (by simp only[List.length_append,List.length_cons,List.length_nil];omega) (by decide)),if_pos (uC (n:=1000000000) (by simp only[List.length_append,List.length_cons,List.length_nil];omega) (by decide))]
def DQ (s:List UInt8):List UInt8:=([35,46,32]++AV 1 s)++[10]
def HO (l:List (List UInt8)):List UInt8:=l.flatMap DQ
theorem a6l {s:List UInt8}(h:s.length≤6000):(DQ s).length≤36004:=by
  have:=HN (n:=1) (.inl rfl) s
  simp only[DQ,List.length_append,List.length_cons,List.length_nil]
  omega
theorem TS {l:List (List UInt8)}(h:sml l):(HO l).length≤216024000:=by
  have:=TP (l:=l) (h:=DQ) (B:=36004) fun x hx=>a6l (h.2 x hx)
  have h1:=h.1
  unfold HO
  calc _≤l.length*36004:=this
    _≤6000*36004:=Nat.mul_le_mul_right _ h1
theorem aE0 {l:List (List UInt8)}(h:sml l) {w:List Int}(hw:w.length≤1000000000):DF (w,()) l=some (w++qJ (HO l)):=by
  have hl:=h.1
  have k:=AU (f:=NB l) (fun i b=>(i,b)) (fun b=>b) (n:=l.length) (M:=100000000000) (B:=36004) (fun i=>qJ (DQ (l.getD i []))) (fun i hi=>by rw[xT];exact a6l (FK h hi)) w (by omega) (fun i s hi hM=>by
    have h1:=HN (n:=1) (.inl rfl) (l.getD i [])
    have h2:=FK h hi
    unfold NB
    dsimp only
    rw[if_pos (rD hi),if_pos (qE hi),HE,a6j h2,Option.bind_some,if_pos (uC (n:=1000000000) (by simp only[List.length_append,List.length_cons,List.length_nil];omega) (by decide)),if_pos (uC (n:=1000000000) (by simp only[List.length_append,List.length_cons,List.length_nil];omega) (by decide)),TR (by simp only[List.length_append,List.length_cons,List.length_nil];omega),Option.bind_some,if_pos (qV (by omega))]
    rfl) (fun b=>by
    unfold NB
    dsimp only
    rw[if_neg (sE _)])
  unfold DF
  rw[k,OB,DO (l:=l) (d:=[]) DQ]
  rfl
theorem aE1 {l:List (List UInt8)}(h:sml l):F0 l=some (HO l):=by
  have hl:=h.1
  have k:=AU (f:=ND l) (fun i s=>(s,i)) (fun s=>s) (n:=l.length) (M:=1000000000) (B:=36004) (fun i=>DQ (l.getD i [])) (fun i hi=>a6l (FK h hi)) [] (by simp;omega) (fun i s hi hM=>by
    have h1:=HN (n:=1) (.inl rfl) (l.getD i [])
    have h2:=FK h hi
    unfold ND
    dsimp only
    rw[if_pos (rD hi),if_pos (uC (n:=1000000000) (by simp only[List.length_append,List.length_cons,List.length_nil];omega) (by decide)),if_pos (qE hi),HE,a6k h2,Option.bind_some,if_pos (uC (n:=1000000000) (by simp only[List.length_append,List.length_cons,List.length_nil];omega) (by decide)),if_pos (uC (n:=1000000000) (by simp only[List.length_append,List.length_cons,List.length_nil];omega) (by decide)),if_pos (qV (by omega))]
    unfold DQ
    simp only[List.append_assoc]) (fun b=>by
    unfold ND
    dsimp only
    rw[if_neg (sE _)])
  unfold F0
  rw[k,DO (l:=l) (d:=[]) DQ]
  rfl
def FL (f:qP):List UInt8:=uD ([33,58]++f.1) f.2.1
def KH (l:List qP):List UInt8:=l.flatMap FL
theorem TT {f:qP}(h:f.1.length≤6000∧f.2.1.length≤6000):(FL f).length≤72006:=xU (by simp only[List.length_append,List.length_cons,List.length_nil];omega) h.2
theorem KI {l:List qP}(h:smlF l):(KH l).length≤432036000:=by
  have:=TP (l:=l) (h:=FL) (B:=72006) fun x hx=>TT (h.2 x hx)
  have h1:=h.1
  unfold KH
  calc _≤l.length*72006:=this
    _≤6000*72006:=Nat.mul_le_mul_right _ h1
theorem aE2 {l:List qP}(h:smlF l) {w:List Int}(hw:w.length≤2000000000):DG (w,()) l=some (w++qJ (KH l)):=by
  have hl:=h.1
  have k:=AU (f:=NC l) (fun i b=>(i,b)) (fun b=>b) (n:=l.length) (M:=10000000000) (B:=72006) (fun i=>qJ (FL (l.getD i fD))) (fun i hi=>by rw[xT];exact TT (TQ h hi)) w (by omega) (fun i s hi hM=>by
    have h2:=TQ h hi
    unfold NC
    dsimp only
    rw[if_pos (rD hi),if_pos (qE hi),SX,if_pos (uC (n:=1000000000) (by simp only[List.length_append,List.length_cons,List.length_nil];omega) (by decide)),KF (by simp only[List.length_append,List.length_cons,List.length_nil];omega) h2.2 (by omega),Option.bind_some,if_pos (qV (by omega))]
    rfl) (fun b=>by
    unfold NC
    dsimp only
    rw[if_neg (sE _)])
  unfold DG
  rw[k,OB,DO (l:=l) (d:=fD) FL]
  rfl
theorem aE3 {l:List qP}(h:smlF l):F2 l=some (KH l):=by
  have hl:=h.1
  have k:=AU (f:=NE l) (fun i s=>(s,i)) (fun s=>s) (n:=l.length) (M:=1000000000) (B:=72006) (fun i=>FL (l.getD i fD)) (fun i hi=>TT (TQ h hi)) [] (by simp;omega) (fun i s hi hM=>by
    have h2:=TQ h hi
    have h3:=TT h2
    unfold FL at h3
    unfold NE
    dsimp only
    rw[if_pos (rD hi),if_pos (qE hi),SX,if_pos (uC (n:=1000000000) (by simp only[List.length_append,List.length_cons,List.length_nil];omega) (by decide)),if_pos (qE hi),KG (by simp only[List.length_append,List.length_cons,List.length_nil];omega) h2.2,Option.bind_some,if_pos (uC (n:=1000000000) (by rw[List.length_append];omega) (by decide)),if_pos (qV (by omega))]
    rfl) (fun b=>by
    unfold NE
    dsimp only
    rw[if_neg (sE _)])
  unfold F2
  rw[k,DO (l:=l) (d:=fD) FL]
  rfl
abbrev HP:List UInt8:=[33,102,108,97,103]
abbrev a6m:List UInt8:=[33,115,111,117,114,99,101]
abbrev a6n:List UInt8:=[33,115,116,97,116,101]
abbrev OC:List UInt8:=[33,116,97,103]
def OD (l:List (List UInt8)):List UInt8:=l.flatMap (uD HP)
theorem a6o {l:List (List UInt8)}(h:sml l):(OD l).length≤432036000:=by
  have:=TP (l:=l) (h:=uD HP) (B:=72006) fun x hx=>xU (by decide) (h.2 x hx)
  have h1:=h.1
  unfold OD
  calc _≤l.length*72006:=this
    _≤6000*72006:=Nat.mul_le_mul_right _ h1
theorem aLZ {x:Ent}(h:EntFew x) {w:List Int}(hw:w.length≤2000000000):pJ (JK x) ((0:Int),w)=some (w++qJ (OD x.2.2.2.2.1)):=by
  have hl:=h.flg.1
  have k:=AU (f:=JK x) (fun i b=>(i,b)) (fun b=>b) (n:=x.2.2.2.2.1.length) (M:=10000000000) (B:=72006) (fun i=>qJ (uD HP (x.2.2.2.2.1.getD i []))) (fun i hi=>by rw[xT];exact xU (by decide) (FK h.flg hi)) w (by omega) (fun i s hi hM=>by
    unfold JK
    dsimp only
    rw[if_pos (rD hi),if_pos (qE hi),HE,KF (by decide) (FK h.flg hi) (by omega),Option.bind_some,if_pos (qV (by omega))]) (fun b=>by
    unfold JK
    dsimp only
    rw[if_neg (sE _)])
  rw[k,OB,DO (l:=x.2.2.2.2.1) (d:=[]) (uD HP)]
  rfl
theorem aL0 {x:Ent}(h:EntFew x) {s:List UInt8}(hs:s.length≤500000000):pJ (JL x) (s,(0:Int))=some (s++OD x.2.2.2.2.1):=by
  have hl:=h.flg.1
  have k:=AU (f:=JL x) (fun i s=>(s,i)) (fun s=>s) (n:=x.2.2.2.2.1.length) (M:=1000000000) (B:=72006) (fun i=>uD HP (x.2.2.2.2.1.getD i [])) (fun i hi=>xU (by decide) (FK h.flg hi)) s (by omega) (fun i s hi hM=>by
    have h2:=FK h.flg hi
    have h3:(uD [33,102,108,97,103] (x.2.2.2.2.1.getD i [])).length≤72006:=xU (a:=HP) (by decide) h2
    unfold JL
    dsimp only
    rw[if_pos (rD hi),if_pos (qE hi),HE,KG (by decide) h2,Option.bind_some,if_pos (uC (n:=1000000000) (by rw[List.length_append];omega) (by decide)),if_pos (qV (by omega))]) (fun b=>by
    unfold JL
    dsimp only
    rw[if_neg (sE _)])
  rw[k,DO (l:=x.2.2.2.2.1) (d:=[]) (uD HP)]
  rfl
def AW (x:Ent):List UInt8:=[10]++HO x.2.2.2.1
def zV (x:Ent):List UInt8:=AW x++(if x.2.1=[] then[] else uD a6m x.2.1)
def HR (x:Ent):List UInt8:=zV x++(if x.2.2.2.2.2.1=0 then[] else uD a6n (pG .str vX x.2.2.2.2.2.1))
def wN (x:Ent):List UInt8:=((HR x++OD x.2.2.2.2.1)++KH x.2.2.2.2.2.2.1)++uD (AV 1 x.1) x.2.2.1
section
variable {x:Ent}(h:EntFew x) (h0:0≤x.2.2.2.2.2.1) (h4:x.2.2.2.2.2.1≤4)
include h
theorem a6p:(AW x).length≤216024001:=by
  have h2:=TS h.com
  simp only[AW,List.length_append,List.length_cons,List.length_nil]
  omega
theorem a6q:(zV x).length≤216096007:=by
  have h1:=a6p h
  have h2:=xU (a:=a6m) (by decide) h.src
  unfold zV
  rw[List.length_append]
  split
  ·simp only[List.length_nil];omega
  ·omega
theorem TU:(AV 1 x.1).length≤36002:=by
  have:=HN (n:=1) (.inl rfl) x.1
  have:=h.id
  omega
include h0 h4
theorem a6r:(HR x).length≤216168013:=by
  have h1:=a6q h
  have h2:=xU (a:=a6n) (b:=pG .str vX x.2.2.2.2.2.1) (by decide) (by have:=a6g h0 h4;omega)
  unfold HR
  rw[List.length_append]
  split
  ·simp only[List.length_nil];omega
  ·omega
theorem aL1:(wN x).length≤2000000000:=by
  have h1:=a6r h h0 h4
  have h2:=a6o h.flg
  have h3:=KI h.fld
  have h5:=xU (TU h) h.tgt
  simp only[wN,List.length_append]
  omega
theorem aL2:H4 x=some (wN x):=by
  have lA:=a6p h
  have lB:=a6q h
  have lC:=a6r h h0 h4
  have lf:=a6o h.flg
  have lg:=KI h.fld
  have s4:=a6g h0 h4
  have eA:([]:List Int)++qJ ([10]:List UInt8)++qJ (HO x.2.2.2.1)=qJ (AW x):=by
    unfold AW
    rw[zB,List.nil_append]
  have eB: ∀K:List Int→Option (List UInt8),((if (!decide (x.2.1=([]:List UInt8)))=true then(xL (qJ (AW x),()) ([33,115,111,117,114,99,101]:List UInt8) x.2.1).bind fun O=>some (O) else some (qJ (AW x))).bind K)=K (qJ (zV x)):=by
    intro K
    unfold zV
    by_cases he:x.2.1=[]
    ·rw[if_neg (by simp [he]),if_pos he,List.append_nil,Option.bind_some]
    ·rw[if_pos (by simp [he]),if_neg he,KF (by decide) h.src (by rw[xT];omega),Option.bind_some,Option.bind_some,zB]
  have eC: ∀K:List Int→Option (List UInt8),((if (!decide (x.2.2.2.2.2.1=(0:Int)))=true then
    if 0≤x.2.2.2.2.2.1∧x.2.2.2.2.2.1<(List.length vX:Int) then
     (xL (qJ (zV x),()) ([33,115,116,97,116,101]:List UInt8) (pG .str vX x.2.2.2.2.2.1)).bind fun Z=>
     some (Z)
    else none
   else
    some (qJ (zV x))).bind K)=K (qJ (HR x)):=by
    intro K
    unfold HR
    by_cases he:x.2.2.2.2.2.1=0
    ·rw[if_neg (by simp [he]),if_pos he,List.append_nil,Option.bind_some]
    ·rw[if_pos (by simp [he]),if_neg he,if_pos ⟨h0,by show _<(5:Int);omega⟩,KF (by decide) (by omega) (by rw[xT];omega),Option.bind_some,Option.bind_some,zB]
  unfold H4
  rw[TR (by simp),Option.bind_some,aE0 h.com (by simp [qJ]),Option.bind_some,eA]
  unfold qB
  refine(eB _).trans ?_
  refine(eC _).trans ?_
  rw[aLZ h (by rw[xT];omega),Option.bind_some,aE2 h.fld (by rw[List.length_append,xT,xT];omega),Option.bind_some,a6j h.id,Option.bind_some,KF (TU h) h.tgt (by simp only[List.length_append,xT];omega),Option.bind_some,←zB,←zB,←zB,HG]
  rfl
theorem aL3:H5 x=some (wN x):=by
  have lA:=a6p h
  have lB:=a6q h
  have lC:=a6r h h0 h4
  have lf:=a6o h.flg
  have lg:=KI h.fld
  have s4:=a6g h0 h4
  have l1:(uD [33,115,111,117,114,99,101] x.2.1).length≤72006:=xU (a:=a6m) (by decide) h.src
  have l2:(uD [33,115,116,97,116,101] (pG .str vX x.2.2.2.2.2.1)).length≤72006:=xU (a:=a6n) (b:=pG .str vX x.2.2.2.2.2.1) (by decide) (by omega)
  have l3:=xU (TU h) h.tgt
  have hS:CX x.2.2.2.2.2.1=some ():=by
    unfold CX
    rw[if_pos ⟨h0,by show _<(5:Int);omega⟩]
  have eB: ∀K:List UInt8→Option (List UInt8),((if (!decide (x.2.1=([]:List UInt8)))=true then
     (yD ([33,115,111,117,114,99,101]:List UInt8) x.2.1).bind fun O=>
     if ((AW x++O).length:Int)≤9223372036854775807 then
      some ((AW x++O))
     else none
    else
     some (AW x)).bind K)=K (zV x):=by
    intro K
    unfold zV
    by_cases he:x.2.1=[]
    ·rw[if_neg (by simp [he]),if_pos he,List.append_nil,Option.bind_some]
    ·rw[if_pos (by simp [he]),if_neg he,KG (by decide) h.src,Option.bind_some,if_pos (uC (n:=1000000000) (by rw[List.length_append];omega) (by decide)),Option.bind_some]
  have eC: ∀K:List UInt8→Option (List UInt8),((if (!decide (x.2.2.2.2.2.1=(0:Int)))=true then
     (CX x.2.2.2.2.2.1).bind fun aA=>
     (yD ([33,115,116,97,116,101]:List UInt8) (pG .str vX x.2.2.2.2.2.1)).bind fun aB=>
     if ((zV x++aB).length:Int)≤9223372036854775807 then
      some ((zV x++aB))
     else none
    else
     some (zV x)).bind K)=K (HR x):=by
    intro K
    unfold HR
    by_cases he:x.2.2.2.2.2.1=0
    ·rw[if_neg (by simp [he]),if_pos he,List.append_nil,Option.bind_some]
    ·rw[if_pos (by simp [he]),if_neg he,hS,Option.bind_some,KG (by decide) (by omega),Option.bind_some,if_pos (uC (n:=1000000000) (by rw[List.length_append];omega) (by decide)),Option.bind_some]
  unfold H5
  rw[aE1 h.com,Option.bind_some]
  show (if ((AW x).length:Int)≤_ then _ else _)=_
  rw[if_pos (uC (n:=1000000000) (by omega) (by decide))]
  unfold qB
  refine(eB _).trans ?_
  refine(eC _).trans ?_
  rw[aL0 h (by omega),Option.bind_some,aE3 h.fld,Option.bind_some,if_pos (uC (n:=2000000000) (by simp only[List.length_append];omega) (by decide)),a6k h.id,Option.bind_some,KG (TU h) h.tgt,Option.bind_some,if_pos (uC (n:=2000000000) (by simp only[List.length_append];omega) (by decide))]
  rfl
end
def AX (c:C4):List UInt8:=((HO c.2.1++uD OC c.1)++KH c.2.2.1)++[37,37,10]
theorem aL4 {c:C4}(hc:CatFew c):(AX c).length≤900000000:=by
  have h1:(uD OC c.1).length≤72006:=xU (a:=OC) (b:=c.1) (by decide) (by have:=hc.tag;omega)
  have h2:=TS hc.com
  have h3:=KI hc.fld
  simp only[AX,List.length_append,List.length_cons,List.length_nil]
  omega
theorem aE4 {c:C4}(hc:CatFew c):BQ c=some (if wM c=true then(AX c,c.2.2.2.1.map wN,0) else([],[],1)):=by
  unfold BQ
  rw[aLK hc.fitP,Option.bind_some]
  by_cases hok:wM c=true
  · have hl:=hc.len
    have h1:(uD [33,116,97,103] c.1).length≤72006:=xU (a:=OC) (b:=c.1) (by decide) (by have:=hc.tag;omega)
    have h2:=TS hc.com
    have h3:=KI hc.fld
    have k:=AU (f:=NN c) (fun i b=>(i,b)) (fun b=>b) (n:=c.2.2.2.1.length) (M:=1000000) (B:=1) (fun i=>[wN (c.2.2.2.1.getD i eD)]) (fun i hi=>by simp) [] (by simp;omega) (fun i b hi hM=>by
      obtain⟨r0,r4⟩:=a6i (a6h hok hi)
      unfold NN
      dsimp only
      rw[if_pos (rD hi),if_pos (qE hi),TO,aL2 (hc.ent _ (BW hi)) r0 r4,Option.bind_some,if_pos (by simp;omega),if_pos (qV (by omega))]) (fun b=>by
      unfold NN
      dsimp only
      rw[if_neg (sE _)])
    rw[hok,if_neg (show¬(!true)=true from by decide),if_pos rfl,aE0 hc.com (by simp),Option.bind_some,KF (by decide) (by have:=hc.tag;omega) (by simp only[List.nil_append,xT];omega),Option.bind_some,aE2 hc.fld (by simp only[List.nil_append,List.length_append,xT];omega),Option.bind_some,TR (by simp only[List.nil_append,List.length_append,xT,List.length_cons,List.length_nil];omega),Option.bind_some,k,DO (l:=c.2.2.2.1) (d:=eD) (fun x=>[wN x])]
    unfold qB
    rw[Option.bind_some,List.nil_append,List.nil_append,←zB,←zB,←zB,HG,aEZ]
    rfl
  · simp only[Bool.not_eq_true] at hok
    rw[hok,if_pos (show (!false)=true from rfl),if_neg (by decide)]
theorem aE5 {c:C4}(hc:CatFew c):BR c=some (if wM c=true then(AX c,c.2.2.2.1.map wN,0) else([],[],1)):=by
  unfold BR
  rw[aLN hc.fitP,Option.bind_some]
  by_cases hok:wM c=true
  · have hl:=hc.len
    have h1:(uD [33,116,97,103] c.1).length≤72006:=xU (a:=OC) (b:=c.1) (by decide) (by have:=hc.tag;omega)
    have h2:=TS hc.com
    have h3:=KI hc.fld
    have k:=AU (f:=NO c) (fun i b=>(i,b)) (fun b=>b) (n:=c.2.2.2.1.length) (M:=1000000) (B:=1) (fun i=>[wN (c.2.2.2.1.getD i eD)]) (fun i hi=>by simp) [] (by simp;omega) (fun i b hi hM=>by
      obtain⟨r0,r4⟩:=a6i (a6h hok hi)
      unfold NO
      dsimp only
      rw[if_pos (rD hi),if_pos (qE hi),TO,aL3 (hc.ent _ (BW hi)) r0 r4,Option.bind_some,if_pos (by simp;omega),if_pos (qV (by omega))]) (fun b=>by
      unfold NO
      dsimp only
      rw[if_neg (sE _)])
    rw[hok,if_neg (show¬(!true)=true from by decide),if_pos rfl,aE1 hc.com,Option.bind_some,KG (by decide) (by have:=hc.tag;omega),Option.bind_some,if_pos (uC (n:=1000000000) (by rw[List.length_append];omega) (by decide)),aE3 hc.fld,Option.bind_some,if_pos (uC (n:=1000000000) (by simp only[List.length_append];omega) (by decide)),if_pos (uC (n:=1000000000) (by simp only[List.length_append,List.length_cons,List.length_nil];omega) (by decide)),k,DO (l:=c.2.2.2.1) (d:=eD) (fun x=>[wN x])]
    unfold qB
    rw[Option.bind_some,List.nil_append,aEZ]
    rfl
  · simp only[Bool.not_eq_true] at hok
    rw[hok,if_pos (show (!false)=true from rfl),if_neg (by decide)]
theorem aE6 {c:C4}(hc:CatFew c) (hok:wM c=true): ∀x∈([AX c]++c.2.2.2.1.map wN)++[[]],x.length≤2000000000:=by
  intro x hx
  simp only[List.mem_append,List.mem_singleton,List.mem_map] at hx
  rcases hx with(rfl|⟨y,hy,rfl⟩) |rfl
  ·have:=aL4 hc;omega
  · obtain⟨i,hi,rfl⟩:=List.getElem_of_mem hy
    have he:=a6h hok hi
    rw[List.getD_eq_getElem?_getD,List.getElem?_eq_getElem hi] at he
    obtain⟨r0,r4⟩:=a6i he
    have:=aL1 (hc.ent _ hy) r0 r4
    omega
  ·simp
def KJ (c:C4):List UInt8:=DP (AX c) (c.2.2.2.1.map wN) []
theorem aL5 {c:C4}(hc:CatFew c) (hok:wM c=true):(KJ c).length≤28000000000:=by
  have h:=aE6 hc hok
  have hl:=hc.len
  have e:KJ c=(([AX c]++c.2.2.2.1.map wN)++[[]]).flatMap (fun x=>x):=by
    unfold KJ DP
    simp [List.flatMap_def]
    rfl
  have:=TP (l:=([AX c]++c.2.2.2.1.map wN)++[[]]) (h:=fun x=>x) (B:=2000000000) h
  rw[e]
  simp only[List.length_append,List.length_singleton,List.length_map] at this
  omega
theorem aL6 {c:C4}(hc:CatFew c):F6 c=some (if wM c=true then(KJ c,0) else([],1)):=by
  unfold F6
  rw[aE4 hc,Option.bind_some]
  by_cases hok:wM c=true
  · have hl:=hc.len
    have:=aL5 hc hok
    rw[if_pos hok,if_pos hok]
    dsimp only
    rw[aEX (AX c,(c.2.2.2.1.map wN,([],()))) (by simp;omega) (by show (KJ c).length≤_;omega),Option.bind_some]
    rfl
  · rw[if_neg hok,if_neg hok]
    dsimp only
    rw[aEX ([],([],([],()))) (by simp) (by simp [DP]),Option.bind_some]
    rfl
theorem aL7 {c:C4}(hc:CatFew c):F7 c=some (if wM c=true then(KJ c,0) else([],1)):=by
  unfold F7
  rw[aE5 hc,Option.bind_some]
  by_cases hok:wM c=true
  · have hl:=hc.len
    rw[if_pos hok,if_pos hok]
    dsimp only
    rw[if_neg (show¬(!decide ((0:Int)=0))=true from by decide),aLU (AX c,(c.2.2.2.1.map wN,([],()))) (by simp;omega) (fun x hx=>by have:=aE6 hc hok x hx;omega),Option.bind_some]
    rfl
  · rw[if_neg hok,if_neg hok]
    dsimp only
    rw[if_pos (show (!decide ((1:Int)=0))=true from by decide)]
theorem aL8 {c:C4}(hc:CatFar c):HC c=some true:=by
  unfold HC
  rw[aLY,Option.bind_some,if_neg (by decide)]
  obtain⟨b,hb,hf⟩:=aLP hc
  rw[hb,Option.bind_some]
  cases b with
  |false=>rw[if_pos (show (!false)=true from rfl)]
  | true=>
    have hw:=hf rfl
    rw[if_neg (by decide),aL6 hw,aL7 hw,aE4 hw,aE5 hw]
    simp only[Option.bind_some]
    obtain⟨d,hd⟩: ∃d,(if wM c=true then(AX c,c.2.2.2.1.map wN,(0:Int)) else([],[],1))=d:=⟨_,rfl⟩
    have hdl:d.2.1.length≤5000:=by
      have hl:=hw.len
      rw[←hd]
      split
      ·simp;omega
      ·simp
    have hS:=aLX (d.1,(d.2.1,([],()))) hdl
    rw[hd,hS,if_pos HH]
    simp [val]
end Go.Proofs.YtbbpilohihldiaaGreatDoor
namespace Go.Proofs.YtbbpilohihldiaaGreatDoor
open Go.ChangeShapes Go.WideShapes Go.ChangeAt Go.RowKit
section
variable {H:Type}{enc:TypeId×Value→H}{P:Program}
theorem aL9 (hl:laidOutB P=true) {W W':World}(hb:Below W.heap.size W W'):
  ∀{ts:List TypeId}{vs:List Value}{ds:List (DataW H)}{ps:List MemPlace},(∀t∈ts,P.readableRec t=true∧t<P.types.size)→
  DataW.TrodAll enc P W 0 (fun _=>true) true ts vs ds ps→(∀x∈ps,x.block<W.heap.size)→
  DataW.TrodAll enc P W' 0 (fun b=>decide (b<W.heap.size)) true ts vs ds ps:=by
 intro ts
 induction ts with
 |nil=>
  intro vs ds ps _ h _
  obtain⟨rfl,rfl,rfl⟩:=trodAll_nil h
  exact trodAll_mk0
 |cons t ts ih=>
  intro vs ds ps hr h hlt
  obtain⟨v,vs',d,ds',p,q,rfl,rfl,rfl,h0,r0⟩:=trodAll_cons h
  exact trodAll_cons_mk (Below.trod hl (hr t (by simp)).1 (hr t (by simp)).2 h0 hb (fun x hx=>hlt x (by simp [hx]))) (ih (fun t' ht'=>hr t' (by simp [ht'])) r0 (fun x hx=>hlt x (by simp [hx])))
theorem aMa {f:Func}{s:ChangeSpec}{W W':World}{args:Array Value}{ds gs:List (DataW H)}{before:List MemPlace}{tb:TypeId}
  (hl:laidOutB P=true) (hr: ∀t∈f.params.toList,P.readableRec t=true∧t<P.types.size)
  (hW:DataW.Whole enc P f.params.toList s.vars false W args.toList ds gs before) (hv:s.vars=[])
  (hfn:s.fn H ds={results:=[.lit (.bool true)],args:=ds}) (hrt:f.resultTypes= #[tb]) (htb:P.underlying tb=some .bool)
  (hb:Below W.heap.size W W'):s.post enc P f false true false false W args (.bool true) W':=by
 have hW':=hW
 obtain⟨p,q,hA,hV,rfl,hfz,hnd⟩:=hW
 rw[hv] at hV
 obtain⟨rfl,rfl⟩:=trodVars_none hV
 have hlt: ∀x∈p,x.block<W.heap.size:=fun x hx=>by simpa using hW'.lt x (by simp [hx])
 refine⟨ds,[],p++[],[],p,[],hW',?_,?_,?_,hb.frame _,fun h=>by cases h⟩
 ·rw[List.append_nil,hfn,hrt]
  exact trodAll_mk1 (shut_bool htb true)
 ·rw[List.append_nil,hfn]
  exact aL9 hl hb hr hA hlt
 ·rw[hv,List.append_nil,hfn]
  rfl
end
end Go.Proofs.YtbbpilohihldiaaGreatDoor
namespace Go.Proofs.YtbbpilohihldiaaGreatDoor
open Go.ChangeShapes Go.WideShapes Go.ChangeAt Go.RowKit
end Go.Proofs.YtbbpilohihldiaaGreatDoor
namespace Go.Proofs.YtbbpilohihldiaaGreatDoor
open Go.ChangeShapes Go.WideShapes Go.ChangeAt Go.RowKit
section
variable {H:Type}{enc:TypeId×Value→H}
theorem aMb {C:Checked}{f:FuncId}{fn:Func}{s:ChangeSpec}{tb:TypeId}{C7:List (String×DataW Unit)}(own:ownKnob C.prog.godebug=none) {os:Os}(started:os.Started) (F:Stop.Interp)
  (noInit:C.prog.inits.idxOf? f=none) (hfn:C.prog.funcs[f]? =some fn)
  (hl:laidOutB C.prog=true) (hr: ∀t∈fn.params.toList,C.prog.readableRec t=true∧t<C.prog.types.size) (hv:s.vars=[])
  (hrt:fn.resultTypes= #[tb]) (htb:C.prog.underlying tb=some .bool)
  (hspec: ∀(ds:List (DataW H)) (W:World) (args:Array Value) ps,DataW.TrodAll enc C.prog W 0 (fun _=>true) true fn.params.toList args.toList ds ps→s.fn H ds={results:=[.lit (.bool true)],args:=ds})
  (witness: ∃(w:World) (tape:Tape) (i:Input),w.os=os∧(w.forCall tape i).Shaped C.prog∧i.vars=[]∧Input.okWide C.prog (w.forCall tape i) .any w.heap.size f i∧
   (OpenSpec.ofChange s).preRow enc C.prog fn [] false C7 (w.forCall tape i).memory i.args∧Assume.holds {} C.prog (lone (Frame.enter C.prog f i.args .normal) [] (w.forCall tape i)))
  (contract: ∀(W:World) (base:Nat) (args:Array Value) (ds:List (DataW H)) (ps:List MemPlace),
   (∀(j:Nat) t v,fn.params[j]? =some t→args[j]? =some v→Value.okWide C.prog W .any base t v)→
   DataW.TrodAll enc C.prog W 0 (fun _=>true) true fn.params.toList args.toList ds ps→
   (∀x∈ps,x.block<W.heap.size)→(DataW.weightsEach C.prog fn.params.toList ds).all (·≤reachBytes)=true→laidMetH C.prog C7 W→W.ShapedOpen C.prog→
   Calls C.prog f args W fun e W'=>e= .returned (.bool true)∧Below W.heap.size W W'):
  ReturnsInHanded {} C os f .any ((OpenSpec.ofChange s).preRow enc C.prog fn [] false C7) (s.post enc C.prog fn false true false false):=by
 refine returnsInHanded_of_row (C:=C) (s:=OpenSpec.ofChange s) (F:=F) own started noInit hfn witness ?_
 intro W base args ds gs before hval hW _ _ hsz hL hsh _
 have hW':=hW
 obtain⟨p,q,hA,hV,rfl,hfz,hnd⟩:=hW
 have hV':DataW.TrodVars enc C.prog W (fun _=>true) s.vars gs q:=hV
 rw[hv] at hV'
 obtain⟨rfl,rfl⟩:=trodVars_none hV'
 have hlt: ∀x∈p,x.block<W.heap.size:=fun x hx=>by simpa using hW'.lt x (by simp [hx])
 have hvt:(OpenSpec.ofChange s).bare.plain.varTypes C.prog=[]:=by
  simp [OpenSpec.ofChange,ChangeSpec.plain,hv];rfl
 rw[hvt,List.append_nil,List.append_nil] at hsz
 refine(contract W base args ds p hval hA hlt hsz hL hsh).mono fun e W' ⟨he,hb⟩=> ?_
 subst he
 exact⟨_,rfl,aMa hl hr hW' hv (hspec ds W args p hA) hrt htb hb⟩
end
end Go.Proofs.YtbbpilohihldiaaGreatDoor
namespace Go.Proofs.YtbbpilohihldiaaGreatDoor
open Go.Shelf Go.Lib
open Vc
set_option maxRecDepth 100000
theorem aMc:(Rows.laid_unicode_utf8_first:DataW Unit)=Lib.firstData:=by kernel_rfl
theorem aMd:(Rows.laid_unicode_utf8_acceptRanges:DataW Unit)=Lib.acceptData:=by kernel_rfl
def aE7:List Int:=[0,1,56,2,57,49,28,3,61,58,42,50,38,29,17,4,62,47,59,36,45,43,51,22,53,39,33,30,24,18,12,5,63,55,48,27,60,41,37,16,46,35,44,21,52,32,23,11,54,26,40,15,34,20,31,10,25,14,19,9,13,8,7,6]
theorem aMe:(Rows.laid_math_bits_deBruijn64tab:DataW Unit)=Lib.tabData .u8 aE7:=by kernel_rfl
theorem aMf {P:Program}{w:World}{g:Nat}{t:TypeId}{k:IntKind}{zero:Array Value}(h:w.ShapedOpen P) (hg:g<P.globals.size)
  (h0:((begin P (fun _ _=>0) default).world.heap[g]?).bind Obj.row? =some (zero,t)) (hz:zero.size=1)
  (hb:P.buildable t=true) (hc:P.cellTypes P.depth t=some [t]) (hu:P.underlying t=some (.int k)): ∃m,w.cell? ⟨g,0,none⟩=some (.int k m):=by
 obtain⟨cs,hh,hs,hr⟩:=h.1 g zero t hg h0
 obtain⟨ts,hts,_,hall⟩:=hr hb
 rw[hc] at hts
 cases hts
 have h1:0<cs.size:=by omega
 obtain⟨u,hu',hok⟩:=hall 0 cs[0] (by simp [h1])
 have:u=t:=by simpa using hu'.symm
 subst this
 have hcell:w.cell? ⟨g,0,none⟩=some cs[0]:=by simp [World.cell?,hh,h1]
 rw[hcell]
 unfold Cell.ok at hok
 rw[hu] at hok
 cases hv:cs[0]<;>rw[hv] at hok<;>simp at hok
 rename_i k' m
 exact⟨m,by rw[hok.1]⟩
theorem aMg {W:World}(hsh:W.ShapedOpen Tryz.prog): ∃m,W.cell? ⟨0,0,none⟩=some (.int .i64 m):=
 aMf (t:=3) (zero:= #[.int .i64 0]) hsh (of_decide_eq_true (by kernel_rfl)) (by kernel_rfl) rfl (by kernel_rfl) (by kernel_rfl) Tryz.underlying3
def aMh:Ren:=⟨fun x=>x,fun x=>if x=5 then 5 else if x=119 then 254 else if x=138 then 256 else 257,fun x=>if x=3 then 1 else 2⟩
theorem aMi {w:World}{a:Addr}{v:Value}(h:w.cell? a=some v):a.block<w.heap.size:=by
 unfold World.cell? at h
 split at h
 ·rename_i hb;exact(Array.getElem?_eq_some_iff.1 hb).1
 ·cases h
theorem aMj {W:World}(hL:laidMet Tryz.prog Rows.treePrintRow.laid W) (hsh:W.ShapedOpen Tryz.prog):Tabs W:=by
 obtain⟨m,hm⟩:=aMg hsh
 have h0:=laidMet.reads hL (.tail _ (.head _))
 have h1:=laidMet.reads hL (.tail _ (.tail _ (.tail _ (.head _))))
 have h2:=laidMet.reads hL (.tail _ (.tail _ (.tail _ (.tail _ (.head _)))))
 rw[aMe] at h0
 rw[aMc] at h2
 rw[aMd] at h1
 have hU:Lib.Utf8Tabs 1 2 W:=utf8Tabs_of_readsT (ρ:=aMh) ⟨by kernel_rfl,by kernel_rfl,by kernel_rfl,by kernel_rfl⟩ ⟨by kernel_rfl,by kernel_rfl,by kernel_rfl,by kernel_rfl,by kernel_rfl,by kernel_rfl,by kernel_rfl⟩ h2 h1
 have hT:W.cell? ⟨5,15,none⟩=some (.int .u8 4):=by
  obtain⟨g,t,cs,fuel,p,hg,ht,hv,hd⟩:=h0
  have hg0:Tryz.prog.globalNamed "math/bits.deBruijn64tab" =some 5:=by kernel_rfl
  have ht0:(Tryz.prog.globals[5]?).map (·.type)=some 289:=by kernel_rfl
  obtain rfl:=Option.some.inj (hg0.symm.trans hg)
  obtain rfl:=Option.some.inj (ht0.symm.trans ht)
  have hc:=cells_of_tab Tryz.underlying289 Tryz.underlying5 (by kernel_rfl) (by kernel_rfl) hd
  rw[World.var?_cell hg hv 15,←Array.getElem?_toList,hc]
  rfl
 refine⟨?_,hU,⟨m,hm⟩,fun x hx=> ?_⟩
 ·have b0:5<W.heap.size:=aMi hT
  show 6≤W.heap.size
  omega
 ·unfold a6u at hx
  obtain rfl:=List.mem_singleton.1 hx
  exact⟨by decide,hT⟩
noncomputable def TV (os:Os):World:=
 let w0:=World.holding Tryz.prog os ⟨#[],#[],[]⟩
 let rH (h:Array Obj) (g:Nat) (cs:Array Value):Array Obj:=h.modify g fun
  | .cells _ t frozen=> .cells cs t frozen
  |o=>o
 let h1:=rH w0.heap 1 (Lib.firstTab.map fun z=>Value.int .u8 z).toArray
 let h2:=rH h1 2 ((List.range 16).flatMap fun i=>[Value.int .u8 (Lib.accLo i),Value.int .u8 (Lib.accHi i)]).toArray
 let h3:=rH h2 5 (aE7.map fun z=>Value.int .u8 z).toArray
 let h4:=rH h3 4 (([0,1,28,2,29,14,24,3,30,22,20,15,25,17,4,8,31,27,13,23,21,19,16,7,26,12,18,6,11,5,10,9]:List Int).map fun z=>Value.int .u8 z).toArray
 let h5:=rH h4 3 ((List.range 20).map fun i=>Value.int .u64 (10^i)).toArray
 {w0 with heap:=h5}
theorem aMk (os:Os) (args:Array Value):laidMet Tryz.prog Rows.treePrintRow.laid ((TV os).forCall (fun _ _=>0) ⟨#[],args,[]⟩).memory:=
 (LaidIn.of_run [4,5,3,2,1] 8 (by kernel_rfl) (by kernel_rfl) (by kernel_rfl) (by kernel_rfl):LaidIn Tryz.prog _ Rows.treePrintRow.laid _).met
end Go.Proofs.YtbbpilohihldiaaGreatDoor
namespace Go.Proofs.YtbbpilohihldiaaGreatDoor
open Vc Go.RowKit
inductive IsIx where
 |ty (t:TypeId) |fs (o:Nat) (l:List Field)
inductive IsT (P:Program):IsIx→Ty→Prop
 |bool {t}:P.underlying t=some .bool→IsT P (.ty t) .bool
 |int {t k}:P.underlying t=some (.int k)→IsT P (.ty t) (.int k)
 |str {t}:P.underlying t=some .string→IsT P (.ty t) .str
 |list {t e u}:P.underlying t=some (.slice e)→P.cellsOf e=u.cells→0<u.cells→0<P.bytesOf e→IsT P (.ty e) u→IsT P (.ty t) (.list u)
 |struct {t fs ty}:ty.isRow=true→P.underlying t=some (.struct fs)→P.cellsOf t=ty.cells→IsT P (.fs 0 fs.toList) ty→IsT P (.ty t) ty
 |nil {o}:IsT P (.fs o []) .unit
 |cons {o}{f:Field}{r a b}:f.offset=o→P.cellsOf f.type=a.cells→IsT P (.ty f.type) a→IsT P (.fs (o+a.cells) r) b→IsT P (.fs o (f::r)) (.pair a b)
def Bd:(t:Ty)→t.den→Prop
 | .str,s=>List.length s≤140737488351232
 | .int k,n=>(Lit.int k n).wf=true
 | .list u,l=>List.length l≤140737488351232∧∀x:u.den,x∈(l:List u.den)→Bd u x
 | .pair a b,x=>Bd a x.1∧Bd b x.2
 |_,_=>True
def FM (w:World):Gh:=⟨fun b _=>b<w.heap.size,fun _=>none,fun _ _=>none⟩
theorem aE8 {α:Type}{R:α→List Value→Prop}{w:World}{S:Nat→Nat→Prop}{c b:Nat}: ∀{l:List α}{o:Nat},(∀i x,l[i]? =some x→∃cs,cs.length=c∧w.rangeAt b (o+i*c) cs∧(∀j,j<c→S b (o+i*c+j))∧R x cs)→vH R w S c b o l
 |[],_,_=>trivial
 |x::l,o,h=>by
  refine⟨?_,aE8 fun i y hy=> ?_⟩
  ·obtain⟨cs,h1,h2,h3,h4⟩:=h 0 x rfl
   exact⟨cs,h1,by simpa using h2,by simpa using h3,h4⟩
  ·obtain⟨cs,h1,h2,h3,h4⟩:=h (i+1) y (by simpa using hy)
   have e:o+(i+1)*c=o+c+i*c:=by rw[Nat.succ_mul];omega
   exact⟨cs,h1,by rw[←e];exact h2,by rw[←e];exact h3,h4⟩
section
variable {H:Type}{enc:TypeId×Value→H}{P:Program}{W:World}
theorem aE9 {e:TypeId}: ∀{l:List (DataW H)}{i:Nat}{d:DataW H},l[i]? =some d→∀n∈d.weights P e,n∈DataW.weightsAll P e l
 |d0::l,0,d,h,n,hn=>by
  simp only[List.getElem?_cons_zero,Option.some.injEq] at h
  subst h
  simp only[DataW.weightsAll,List.mem_append]
  exact .inl hn
 |d0::l,i+1,d,h,n,hn=>by
  simp only[List.getElem?_cons_succ] at h
  simp only[DataW.weightsAll,List.mem_append]
  exact .inr (aE9 h n hn)
 |[],_,_,h,_,_=>by simp at h
def aMl (enc:TypeId×Value→H) (P:Program) (W:World):IsIx→Ty→Prop
 | .ty t,u=> ∀(fuel:Nat) (cs:List Value) (y:DataW H×List MemPlace),DataW.trod enc P W 0 (fun _=>true) true fuel t cs=some y→(∀n∈y.1.weights P t,n≤reachBytes)→∃x:u.den,Rd (FM W) W u x cs∧Bd u x
 | .fs o l,u=> ∀(fuel:Nat) (cs:List Value) (xs:List (DataW H×List MemPlace)),cs.length=o+u.cells→xs.length=l.length→(∀(i:Nat) (f:Field),l[i]? =some f→DataW.trod enc P W 0 (fun _=>true) true fuel f.type ((cs.drop f.offset).take (P.cellsOf f.type))=xs[i]?)→(∀n∈DataW.weightsEach P (l.map (·.type)) (xs.map (·.1)),n≤reachBytes)→∃x:u.den,Rd (FM W) W u x (cs.drop o)∧Bd u x
theorem aMm {e:TypeId}{u:Ty}{a:Addr}{len cap:Nat}(hc:P.cellsOf e=u.cells) (hpos:0<u.cells) (hcap:len≤cap)
  (each: ∀i,i<len→∃(cs:List Value) (x:u.den),W.cells? 0 (a.add (i*u.cells)) u.cells=some cs∧Rd (FM W) W u x cs∧Bd u x):
  ∃l:List u.den,l.length=len∧Rd (FM W) W (.list u) l [.slice (some a) len cap]∧∀x∈l,Bd u x:=by
 have build: ∀k,k≤len→∃l:List u.den,l.length=k∧∀i x,l[i]? =some x→∃cs:List Value,W.cells? 0 (a.add (i*u.cells)) u.cells=some cs∧Rd (FM W) W u x cs∧Bd u x:=by
  intro k
  induction k with
  |zero=>intro _;exact⟨[],rfl,fun i x h=>by simp at h⟩
  |succ k ih=>
   intro hk
   obtain⟨l,h1,h2⟩:=ih (by omega)
   obtain⟨cs,x,h3,h4⟩:=each k (by omega)
   refine⟨l++[x],by simp [h1],fun i y hy=> ?_⟩
   rw[List.getElem?_append] at hy
   split at hy
   ·exact h2 i y hy
   ·rename_i hi
    obtain⟨j,hj⟩: ∃j,i=l.length+j:=⟨i-l.length,by omega⟩
    subst hj
    rw[Nat.add_sub_cancel_left] at hy
    cases j with
    |zero=>
     simp only[List.getElem?_cons_zero,Option.some.injEq] at hy
     subst hy
     exact⟨cs,by rw[Nat.add_zero,h1];exact h3,h4⟩
    |succ j=>simp at hy
 obtain⟨l,hll,hle⟩:=build len (Nat.le_refl _)
 refine⟨l,hll,?_,fun x hx=> ?_⟩
 ·subst hll
  by_cases hl0:l=[]
  ·subst hl0
   exact⟨some a,cap,rfl,hcap,.inl rfl⟩
  ·obtain⟨b,off,spot⟩:=a
   have hlp:0<l.length:=List.length_pos_iff.2 hl0
   have hspot:spot=none:=by
    obtain⟨cs,x,h3,_⟩:=each 0 hlp
    have h4:=(World.cells?_some h3).2.2 0 hpos
    have hlen0:=(World.cells?_some h3).2.1
    rw[List.getElem?_eq_getElem (by omega)] at h4
    simpa[Addr.add] using World.cell?_spot h4
   subst hspot
   refine⟨_,cap,rfl,hcap,.inr ⟨b,off,rfl,aE8 fun i x hx=> ?_⟩⟩
   obtain⟨cs,h3,h4,_⟩:=hle i x hx
   obtain⟨_,h5,h6⟩:=World.cells?_some h3
   have hcell: ∀j v,cs[j]? =some v→W.cell? ⟨b,off+i*u.cells+j,none⟩=some v:=by
    intro j v hv
    have hj:j<u.cells:=by have:=(List.getElem?_eq_some_iff.1 hv).1;omega
    have:=h6 j hj
    rw[hv] at this
    rw[Addr.add_lit,Addr.add_lit] at this
    exact this
   refine⟨cs,h5,hcell,fun j hj=> ?_,h4⟩
   exact Vc.PV (hcell 0 _ (List.getElem?_eq_getElem (by omega)))
 ·obtain⟨i,hi,he⟩:=List.getElem_of_mem hx
  obtain⟨cs,h3,h4,h5⟩:=hle i x (by rw[List.getElem?_eq_getElem hi,he])
  exact h5
theorem aMn {ix:IsIx}{u:Ty}(h:IsT P ix u):aMl enc P W ix u:=by
 induction h with
 |bool ht=>
  intro fuel cs y hy _
  obtain⟨b,rfl,_⟩:=DataW.trod_bool ht hy
  exact⟨b,rfl,trivial⟩
 |int ht=>
  intro fuel cs y hy _
  obtain⟨n,rfl,_,hw⟩:=DataW.trod_int ht hy
  exact⟨n,rfl,hw⟩
 |str ht=>
  intro fuel cs y hy hw
  obtain⟨s,rfl,rfl,_⟩:=DataW.trod_string ht hy
  refine⟨s.data.toList,by show [Value.string s]=[Value.string ⟨s.data.toList.toArray⟩];rw[Array.toArray_toList],?_⟩
  exact hw _ (by simp [DataW.weights])
 | @list t e u ht hc hpos hb _ ih=>
  intro fuel cs y hy hw
  rcases DataW.trod_slice ht hy with⟨rfl,_⟩ |⟨a,len,cap,elems,rest,n,_,rfl,rfl,_,hl,_,hlen,hall,_,_⟩
  ·exact⟨[],⟨none,0,rfl,Nat.le_refl _,.inl rfl⟩,by simp,fun x hx=>by cases hx⟩
  ·have hws:DataW.weights P t (.slice (elems.map (·.1)) (rest.map (·.1)))=((elems.map (·.1)).length+(rest.map (·.1)).length)*P.bytesOf e::(DataW.weightsAll P e (elems.map (·.1))++DataW.weightsAll P e (rest.map (·.1))):=by
    simp [DataW.weights,ht]
   rw[hws] at hw
   have hn:=hw _ List.mem_cons_self
   obtain⟨l,h1,h2,h3⟩:=aMm (W:=W) (a:=a) (cap:=cap) hc hpos hl fun i hi=>by
    have h1:=hall i hi
    rw[hc,List.getElem?_eq_getElem (by omega),Option.bind_eq_some_iff] at h1
    obtain⟨cs,h2,h3⟩:=h1
    obtain⟨x,hx⟩:=ih n cs _ h3 fun m hm=>hw m (by
     refine List.mem_cons_of_mem _ (List.mem_append.2 (.inl (aE9 (i:=i) ?_ m hm)))
     rw[List.getElem?_map,List.getElem?_eq_getElem (by omega)];rfl)
    exact⟨cs,x,h2,hx⟩
   refine⟨l,h2,?_,h3⟩
   have:elems.length≤(elems.length+rest.length)*P.bytesOf e:=by
    calc elems.length≤(elems.length+rest.length)*1:=by omega
     _≤_:=Nat.mul_le_mul_left _ hb
   simp only[List.length_map] at hn
   have hr:reachBytes=140737488351232:=rfl
   show l.length≤_
   omega
 |struct hrow ht hcl _ ih=>
  intro fuel cs y hy hw
  obtain⟨xs,n,rfl,rfl,hl,hlen,hf⟩:=DataW.trod_struct ht hy
  have:=ih n cs xs (by rw[hl,hcl];omega) (by rw[hlen];simp) (fun i f hi=>hf i f (by simpa using hi)) fun m hm=>hw m (by simpa[DataW.weights,ht] using hm)
  rwa [List.drop_zero] at this
 |nil=>
  intro fuel cs xs hl _ _ _
  refine⟨(),?_,trivial⟩
  show cs.drop _=[]
  exact List.drop_of_length_le (by simp [Ty.cells] at hl;omega)
 | @cons o f r a b ho hc _ _ iha ihb=>
  intro fuel cs xs hl hx hf hw
  cases xs with
  |nil=>simp at hx
  |cons x0 xs=>
   have h0:=hf 0 f rfl
   rw[hc,ho] at h0
   obtain⟨xa,ra,ba⟩:=iha fuel _ x0 h0 fun m hm=>hw m (by simp only[List.map_cons,DataW.weightsEach,List.mem_append];exact .inl hm)
   obtain⟨xb,rb,bb⟩:=ihb fuel cs xs (by simp only[Ty.cells] at hl;omega) (by simpa using hx) (fun i f' hi=>by have:=hf (i+1) f' (by simpa using hi);simpa using this) fun m hm=>hw m (by simp only[List.map_cons,DataW.weightsEach,List.mem_append];exact .inr hm)
   refine⟨(xa,xb),⟨_,_,(List.take_append_drop a.cells (cs.drop o)).symm,ra,?_⟩,ba,bb⟩
   rw[List.drop_drop]
   exact rb
theorem aMo {t:TypeId}{u:Ty}{base:Nat}{v:Value}{d:DataW H}{ps:List MemPlace}(h:IsT P (.ty t) u) (hok:Value.okWide P W .any base t v) (hT:DataW.Trod enc P W 0 (fun _=>true) true t v d ps) (hw: ∀n∈d.weights P t,n≤reachBytes): ∃x:u.den,r7 (FM W) W u x v∧Bd u x:=by
 obtain⟨fuel,hf⟩:=hT
 obtain⟨x,hx,hb⟩:=aMn (enc:=enc) (W:=W) h fuel _ _ hf hw
 refine⟨x,?_,hb⟩
 cases h with
 |bool ht=>obtain⟨b,rfl⟩:=Go.WideShapes.okWide_bool ht hok;exact .inr ⟨rfl,hx⟩
 |int ht=>obtain⟨b,rfl⟩:=Go.WideShapes.okWide_int ht hok;exact .inr ⟨rfl,hx⟩
 |str ht=>obtain⟨b,rfl⟩:=Go.WideShapes.okWide_string ht hok;exact .inr ⟨rfl,hx⟩
 |list ht=>obtain⟨a,l,c,rfl⟩:=Go.WideShapes.okWide_slice ht hok;exact .inr ⟨rfl,hx⟩
 |struct hrow ht=>obtain⟨cs,rfl,_⟩:=Go.WideShapes.okWide_struct ht hok;exact .inl ⟨hrow,cs.toList,by rw[Array.toArray_toList],hx⟩
end
end Go.Proofs.YtbbpilohihldiaaGreatDoor
namespace Go.Proofs.YtbbpilohihldiaaGreatDoor
open Vc
open Go.ChangeShapes Go.WideShapes Go.ChangeAt Go.RowKit
set_option maxRecDepth 100000
theorem HS:IsT Tryz.prog (.ty 9) .str:= .str Tryz.underlying9
theorem a6s:IsT Tryz.prog (.ty 23) (.list .str):= .list Tryz.underlying23 (by kernel_rfl) (by decide) (of_decide_eq_true (by kernel_rfl)) HS
theorem aMp:IsT Tryz.prog (.ty 149) (.pair .str (.pair .str .unit)):=by
 refine .struct rfl Tryz.underlying149 (by kernel_rfl) ?_
 exact .cons rfl (by kernel_rfl) HS (.cons rfl (by kernel_rfl) HS .nil)
theorem aFa:IsT Tryz.prog (.ty 24) (.list (.pair .str (.pair .str .unit))):= .list Tryz.underlying24 (by kernel_rfl) (by decide) (of_decide_eq_true (by kernel_rfl)) aMp
theorem aMq:IsT Tryz.prog (.ty 55) qT:=by
 refine .struct rfl Tryz.underlying55 (by kernel_rfl) ?_
 exact .cons rfl (by kernel_rfl) HS (.cons rfl (by kernel_rfl) HS (.cons rfl (by kernel_rfl) HS (.cons rfl (by kernel_rfl) a6s (.cons rfl (by kernel_rfl) a6s (.cons rfl (by kernel_rfl) (.int Tryz.underlying3) (.cons rfl (by kernel_rfl) aFa .nil))))))
theorem aMr:IsT Tryz.prog (.ty 25) (.list qT):= .list Tryz.underlying25 (by kernel_rfl) (by decide) (of_decide_eq_true (by kernel_rfl)) aMq
theorem aMs:IsT Tryz.prog (.ty 27) uT:=by
 refine .struct rfl Tryz.underlying27 (by kernel_rfl) ?_
 exact .cons rfl (by kernel_rfl) HS (.cons rfl (by kernel_rfl) a6s (.cons rfl (by kernel_rfl) aFa (.cons rfl (by kernel_rfl) aMr .nil)))
theorem aMt {x:Ent}(h:Bd qT x):EntFar x:=by
 obtain⟨h1,h2,h3,⟨h4,k4⟩,⟨h5,k5⟩,_,⟨h7,k7⟩,_⟩:=h
 exact⟨h1,h2,h3,⟨h4,k4⟩,⟨h5,k5⟩,h7,fun y hy=>⟨(k7 y hy).1,(k7 y hy).2.1⟩⟩
theorem aMu {c:C4}(h:Bd uT c):CatFar c:=by
 obtain⟨h1,⟨h2,k2⟩,⟨h3,k3⟩,⟨h4,k4⟩,_⟩:=h
 exact⟨h1,⟨h2,k2⟩,⟨h3,fun y hy=>⟨(k3 y hy).1,(k3 y hy).2.1⟩⟩,fun x hx=>aMt (k4 x hx)⟩
theorem aMv {W:World}(hT:Tabs W) (v:Value) (c:C4) (hv:r7 (FM W) W uT c v) (hB:Bd uT c):
  Calls Tryz.prog 11 #[v] W fun e W'=>e= .returned (.bool true)∧Below W.heap.size W W':=by
 have hC:a5F (NQ c) SM=some (K0 c):=aJC _
 have ht:=aL8 (aMu hB)
 refine(aJE.1.2 (FM W) W (NQ c) [v] [] _ ⟨(fun i b h=>by cases h),(fun i j bi bj b o _ h=>by cases h),fun b o h=>h,hT,(fun i blk b o h=>by cases h)⟩ ⟨v,[],rfl,⟨hv,trivial⟩,rfl⟩ hC ?_).mono fun e W' ⟨v,g',he,r⟩=> ?_
 ·intro p hp
  have:p=((HC c).isSome=true):=by simpa[K0] using hp
  rw[this,ht];rfl
 ·have hv:v= .bool true:=by
   have h1:=r.ret
   unfold K0 at h1
   rw[ht] at h1
   exact uG h1.1
  subst hv
  exact⟨he,⟨r.fr.os,r.fr.tape,r.fr.output,r.fr.size,fun k hk=>r.fr.blk k hk (fun o ⟨i,blk,hi,_⟩=>by cases hi)⟩⟩
end Go.Proofs.YtbbpilohihldiaaGreatDoor
namespace Go.Proofs.YtbbpilohihldiaaGreatDoor
open Go.ChangeShapes Go.WideShapes Go.ChangeAt Go.RowKit Go.Lib
set_option maxRecDepth 100000
theorem aMw:(Rows.propsPrintRow.inPlace==Tryz.prog.inPlace 11)=true:=by kernel_rfl
theorem aMx:(Rows.propsPrintRow.unfollowed==Tryz.prog.unfollowed 11)=true:=by kernel_rfl
theorem aMy:(Rows.propsPrintRow.recurses==Tryz.prog.recurses 11)=true:=by kernel_rfl
theorem aMz:(Rows.propsPrintRow.named==Tryz.prog.varsNamed 11)=true:=by kernel_rfl
theorem aMA:joinedFacts Tryz.prog 11 Tryz.f11 Rows.propsPrintSpec Rows.propsPrintRow=true:=by
 unfold joinedFacts
 rw[aMw,aMx,aMy,aMz]
 kernel_rfl
end Go.Proofs.YtbbpilohihldiaaGreatDoor
namespace Go.Proofs.YtbbpilohihldiaaGreatDoor
open Go.ChangeShapes Go.WideShapes Go.ChangeAt Go.RowKit Go.Lib
set_option maxRecDepth 100000
namespace propsPrintLaw
theorem own:ownKnob Tryz.prog.godebug=none:=by kernel_rfl
theorem C7:laidOutB Tryz.prog=true:=by kernel_rfl
theorem aMB:Tryz.prog.readableRec 27=true:=by kernel_rfl
theorem kR:27<Tryz.prog.types.size:=of_decide_eq_true (by kernel_rfl)
def OE:Value:= .agg #[.string ⟨#[]⟩,.slice none 0 0,.slice none 0 0,.slice none 0 0]
theorem aMD (os:Os) {H:Type}(enc:TypeId×Value→H):
  (OpenSpec.ofChange Rows.propsPrintSpec).preRow enc Tryz.prog Tryz.f11 [] false Rows.propsPrintRow.laid ((TV os).forCall (fun _ _=>0) ⟨#[],#[OE],[]⟩).memory #[OE]:=by
 have hw:(DataW.whole enc Tryz.prog ((TV os).forCall (fun _ _=>0) ⟨#[],#[OE],[]⟩).memory Tryz.f11.params.toList (OpenSpec.ofChange Rows.propsPrintSpec).vars false #[OE].toList 8).map (fun x=>(x.1,x.2.1))=
   some ([.agg [.lit (.string []),.nil,.nil,.nil]],[]):=by kernel_rfl
 obtain⟨⟨x1,x2,x3⟩,hx,hx1⟩:=Option.map_eq_some_iff.1 hw
 simp only[Prod.mk.injEq] at hx1
 obtain⟨rfl,rfl⟩:=hx1
 exact OpenSpec.preRow_of_cond 8 hx (by kernel_rfl) (fun k hk=>by cases hk) (by kernel_rfl) (aMk os _)
theorem lifted (os:Os) (started:os.Started) (H:Type) (enc:TypeId×Value→H) (F:Stop.Interp):
  ReturnsInHanded {} Tryz.checked os 11 .any ((OpenSpec.ofChange Rows.propsPrintSpec).preRow enc Tryz.prog Tryz.f11 [] false Rows.propsPrintRow.laid) (Rows.propsPrintSpec.post enc Tryz.prog Tryz.f11 false true false false):=by
 refine aMb (C:=Tryz.checked) (tb:=4) own started F (by kernel_rfl) Tryz.func11 C7 ?_ rfl rfl Tryz.underlying4 ?_
  (witness_row_atRef (enc:=enc) (C:=Tryz.checked) false (TV os) #[OE] rfl (by kernel_rfl) (by kernel_rfl) (by kernel_rfl) (aMD os enc)) ?_
 ·intro t ht
  rw[Tryz.params11] at ht
  simp only[List.mem_cons,List.not_mem_nil,or_false] at ht
  rcases ht with rfl
  exact⟨aMB,kR⟩
 ·intro ds W args ps h
  have h':DataW.TrodAll enc Tryz.prog W 0 (fun _=>true) true Tryz.f11.params.toList args.toList ds ps:=h
  rw[Tryz.params11] at h'
  obtain⟨v0,d0,rfl,rfl,h0⟩:=trodAll_one h'
  rfl
 ·intro W base args ds ps hval0 hA0 hlt hsz0 hL hsh
  have hval: ∀(j:Nat) t v,Tryz.f11.params[j]? =some t→args[j]? =some v→Value.okWide Tryz.prog W .any base t v:=hval0
  have hA:DataW.TrodAll enc Tryz.prog W 0 (fun _=>true) true Tryz.f11.params.toList args.toList ds ps:=hA0
  have hsz:(DataW.weightsEach Tryz.prog Tryz.f11.params.toList ds).all (·≤reachBytes)=true:=hsz0
  rw[Tryz.params11] at hA hval hsz
  obtain⟨v0,d0,rfl,rfl,h0⟩:=trodAll_one hA
  obtain⟨c,hv,hB⟩:=aMo aMs (hval 0 27 v0 rfl rfl) h0 (fun n hn=>by
   have:=List.all_eq_true.1 hsz n (DataW.weights_mem_each (j:=0) rfl rfl n hn)
   simpa using this)
  exact aMv (aMj hL hsh) v0 c hv hB
end propsPrintLaw
theorem aFb:Rows.PropsPrintSaid:=
 OpenClaim.holds_of_wide 11 Tryz.f11 rfl rfl rfl rfl rfl rfl rfl ⟨rfl,rfl,rfl,rfl,rfl⟩ rfl rfl rfl rfl rfl (by kernel_rfl) Tryz.func11 aMA
  (of_decide_eq_true (by kernel_rfl)) (by unfold Func.isWrapper;first|(rw[if_pos (by decide+kernel)];kernel_rfl) |(rw[if_neg (by decide+kernel)];exact⟨rfl,rfl⟩))
  (fun os started H enc _=>by rw[OpenClaim.pre_eq_preRow];exact propsPrintLaw.lifted os started H enc (fun _ _ _=>0))
#print axioms aFb
end Go.Proofs.YtbbpilohihldiaaGreatDoor
namespace Go.Proofs.YtbbpilohihldiaaGreatDoor
open Go
set_option maxRecDepth 100000
theorem aME:Rows.propsPrintRow.wfByText (OpenSpec.ofChange Rows.propsPrintSpec)=true:=by kernel_rfl
theorem aMF:Tryz.prog.mainIs=some (true, "a32bce6e8aa7af12dc4e9cc10fcfd390a8b62eedc0063c9f8df073b3dc5897a3".toList):=by kernel_rfl
theorem aMG:false=Tryz.prog.looks []:=by kernel_rfl
theorem aMH:false=Rows.propsPrintRow.goesBy Tryz.prog:=by kernel_rfl
theorem aMI:Tryz.prog.funcNamed "calque/calquelaw38.PropsPrint" =some 11:=by kernel_rfl
theorem aMJ:([27].all fun u=> !Tryz.prog.wantsStandIn u)=true:=by kernel_rfl
theorem propsPrintCard_holds:Rows.PropsPrintCardSaid:=
 Claim7.holds_tied_plain_at .later [] [.data,.data,.data,.data,.pinned] true (true, "a32bce6e8aa7af12dc4e9cc10fcfd390a8b62eedc0063c9f8df073b3dc5897a3") false
  aFb (fun _ h=>by cases h) aME (fun _ h=>by cases h) propsPrint_row_tie rfl ⟨rfl,rfl⟩ aMF rfl
  (fun f fn hf hfn=>by
   obtain rfl:f=11:=Option.some.inj (aMI.symm.trans hf) |>.symm
   obtain rfl:fn=Tryz.f11:=(Option.some.inj (Tryz.func11.symm.trans hfn)).symm
   exact⟨aMG,fun j t ht=>by
    rw[Tryz.params11] at ht
    have hm:t∈[27]:=by simpa using Array.mem_of_getElem? ht
    exact(show Tryz.prog.wantsStandIn t=false by simpa using List.all_eq_true.1 aMJ t hm)⟩)
  aMH
#print axioms propsPrintCard_holds
end Go.Proofs.YtbbpilohihldiaaGreatDoor
