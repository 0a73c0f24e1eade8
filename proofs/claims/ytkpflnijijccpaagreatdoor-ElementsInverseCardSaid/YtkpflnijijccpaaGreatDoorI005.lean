/- ElementsInverse returns true for every catalog and body (the canonical body of every valid catalog has this catalog): the tied card of the statement, over the row's statement. No condition. -/
/- Packed by a program of mine (wip/tools/pack.py): the same texts with short names and few blanks. -/
import Derived.Deep.CondSized
import Derived.Deep.DeepHandedRow
import Derived.Deep.DeepWitnessRowRef
import Derived.Lib.CountLaws
import Derived.Lib.IndexMore
import Derived.Lib.LaidIn
import Derived.Lib.LaidTab
import Derived.Lib.LaidU8T
import Derived.Lib.SpaceR
import Derived.OpenShut
import Derived.ProofKit
import Derived.SevenTiedAt
import Derived.SizedLaws
import Derived.Test.YtkpflnijijccpaaGreatDoorCards
import Derived.Test.YtkpflnijijccpaaGreatDoorRows
import Derived.Test.YtkpflnijijccpaaGreatDoorTie
import Derived.WalkKit
import Derived.Test.YtkpflnijijccpaaGreatDoorI004
set_option linter.defProp false
set_option linter.unusedVariables false
set_option linter.unusedSimpArgs false
set_option linter.unusedSectionVars false
set_option maxRecDepth 100000
set_option maxHeartbeats 4000000
namespace Go.Proofs.YtkpflnijijccpaaGreatDoor
open Vc
noncomputable section
theorem N8 {l:pD}(h:l.length<=6000):rW l:=by unfold rW;omega
theorem aA2 {l:pE}(h:FD l):rW l/\∀y∈l,rW y:=⟨by have:=h.1;unfold rW;omega,fun y hy=>N8 (h.2 y hy)⟩
theorem aKn {l:List sA}(h:KJ l):rW l/\∀y∈l,U6 y:=⟨by have:=h.1;unfold rW;omega,fun y hy=>⟨N8 (h.2 y hy).1,N8 (h.2 y hy).2⟩⟩
theorem IK.fitP {c:C4}(h:IK c):U8 c:=
 ⟨by have:=h.tag;unfold rW;omega,aA2 h.com,aKn h.fld,by have:=h.len;omega,fun x hx=>by
  have e:=h.ent x hx;exact⟨N8 e.id,N8 e.src,N8 e.tgt,aA2 e.com,aA2 e.flg,aKn e.fld⟩⟩
theorem aRo:((List.range 256).all fun b=>(y8 (b:Int)||decide (uT b=[b.toUInt8]))&&(IF (b:Int)||decide (uT b=[b.toUInt8]))&&(!yO (b:Int)||decide (uT b=[b.toUInt8])))=true:=by kernel_rfl
theorem UI (b:UInt8):(y8 (b.toNat:Int)=false->uT b.toNat=[b])/\(IF (b.toNat:Int)=false->uT b.toNat=[b])/\(yO (b.toNat:Int)=true->uT b.toNat=[b]):=by
 have h:=aWa.1 aRo b.toNat (aWN.2 (UInt8.toNat_lt b));have hb:b.toNat.toUInt8=b:=by simp
 rw[hb] at h;simp only[aVG,aWv,aVE,aVV] at h;exact⟨fun e=>h.1.1.resolve_left (by rw[e];decide),fun e=>h.1.2.resolve_left (by rw[e];decide),fun e=>h.2.resolve_left (by rw[e];decide)⟩
theorem aA3 {s:pD}(h: ∀b∈s,uT b.toNat=[b]):v6 s=s:=by
 induction s with
 |nil=>rfl
 |cons b s ih=>
  unfold v6 at ih|-;rw[aWj,h b aVz,ih (fun c hc=>h c (aVB _ hc))];rfl
theorem aRp {s:pD}(h:wI s=true):v6 s=s:=by
 unfold wI at h;simp only[aVG,aVV,aV9] at h;exact aA3 fun b hb=>(UI b).2.1 (by simpa using h.1 b hb)
theorem aRq {s:pD}(h:uR s=true):v6 s=s:=by
 cases s with
 |nil=>rfl
 |cons b t=>
  unfold uR at h;simp only[aVG,aVV,aV9] at h;refine aA3 fun c hc=> ?_;rcases aVH.1 hc with rfl|hc
  .exact(UI c).2.2 h.1.2
  .exact(UI c).1 (by simpa using h.2 c hc)
theorem CB {l:pD}(h:l.length<=1000000000:=by simp only[aVu,aVw,aVD];omega):(l.length:Int)<=9223372036854775807:=by omega
def E5 (ind name attrs s:pD):pD:=(((((((([10]++ind)++[60])++name)++attrs)++[62])++v6 s)++[60,47])++name)++[62]
theorem UJ {ind name attrs s:pD}(hi:ind.length<=4) (hn:name.length<=8) (ha:attrs.length<=6010) (hs:s.length<=6000):(E5 ind name attrs s).length<=42040:=by
 have:=Q2 s;simp only[E5,aVu,aVw,aVD];omega
theorem aKo {s:pD}(hs:s.length<=6000):KC s=some (v6 s):=by
 unfold KC;rw[aQV (N8 hs)];rfl
theorem ZG {ind name attrs s:pD}(hi:ind.length<=4) (hn:name.length<=8) (ha:attrs.length<=6010) (hs:s.length<=6000):F5 ind name attrs s=some (E5 ind name attrs s):=by
 have he:=Q2 s;unfold F5;rw[aKo hs,aVq]
 iterate 9 rw[aVs CB]
 rfl
def GY (ind s:pD):pD:=E5 ind yQ [] s
def D8 (ind:pD) (l:pE):pD:=l.flatMap (GY ind)
def IR (n:pD):pD:=([32,110,97,109,101,61,34]++n)++[34]
def E6 (ind:pD) (f:sA):pD:=E5 ind yB (IR f.1) f.2.1
def GZ (ind:pD) (l:List sA):pD:=l.flatMap (E6 ind)
theorem aKp {n:pD}(h:n.length<=6000):(IR n).length<=6010:=by
 simp only[IR,aVu,aVw,aVD];omega
theorem aA4 {ind s:pD}(hi:ind.length<=4) (h:s.length<=6000):(GY ind s).length<=42040:=UJ hi pI pI h
theorem aA5 {ind:pD}{f:sA}(hi:ind.length<=4) (h:f.1.length<=6000/\f.2.1.length<=6000):(E6 ind f).length<=42040:=UJ hi pI (aKp h.1) h.2
theorem UK {ind:pD}(hi:ind.length<=4) {l:pE}(h:FD l):(D8 ind l).length<=252240000:=by
 have:=N4 (l:=l) (h:=GY ind) (B:=42040) fun x hx=>aA4 hi (h.2 x hx);have h1:=h.1;unfold D8
 calc _<=l.length*42040:=this
  _<=6000*42040:=aWK _ h1
theorem ZH {ind:pD}(hi:ind.length<=4) {l:List sA}(h:KJ l):(GZ ind l).length<=252240000:=by
 have:=N4 (l:=l) (h:=E6 ind) (B:=42040) fun x hx=>aA5 hi (h.2 x hx);have h1:=h.1;unfold GZ
 calc _<=l.length*42040:=this
  _<=6000*42040:=aWK _ h1
theorem aA6 {ind:pD}(hi:ind.length<=4) {cl:pE}(hc:FD cl) {fl:List sA}(hf:KJ fl) {b:pD}(hb:b.length<=100000):IC ind cl b fl=some ((D8 ind cl++b)++GZ ind fl):=by
 have hl:=hc.1;have hl2:=hf.1;have c1:=UK hi hc;have k:=Z6 (f:=TQ ind cl) (fun i s=>(s,i)) (fun s=>s) (n:=cl.length) (M:=1000000000) (B:=42040) (fun i=>GY ind (cl.getD i [])) (fun i hi2=>aA4 hi (aAF hc hi2)) [] pJ (fun i s hi2 hM=>by
  have h1:=aA4 hi (aAF hc hi2);have e:=ZG (ind:=ind) (name:=yQ) (attrs:=[]) hi pI pI (aAF hc hi2);unfold TQ;dsimp only;rw[aVs (uS hi2),aVs (sY hi2),aAr,e,aVq,aVs (UA (n:=1000000000) (by rw[aVu];show s.length+(GY ind (cl.getD i [])).length<=_;omega) pH),aVs (vF pG)];rfl) (fun b=>by
  unfold TQ;dsimp only;rw[aVv (vJ _)])
 have k2:=Z6 (f:=PN ind fl) (fun i s=>(s,i)) (fun s=>s) (n:=fl.length) (M:=1000000000) (B:=42040) (fun i=>E6 ind (fl.getD i fD)) (fun i hi2=>aA5 hi (Z9 hf hi2)) (D8 ind cl++b) (by rw[aVu];omega) (fun i s hi2 hM=>by
  have h1:=aA5 hi (Z9 hf hi2);have h2:=(Z9 hf hi2).1;have h3:=aKp h2;have e:F5 ind yB (([32,110,97,109,101,61,34]++(fl.getD i fD).1)++[34]) (fl.getD i fD).2.1=_:=ZG (ind:=ind) (name:=yB) (attrs:=IR (fl.getD i fD).1) hi pI h3 (Z9 hf hi2).2;unfold PN;dsimp only;rw[aVs (uS hi2),aVs (sY hi2),aAs,aVs CB,aVs CB,e,aVq,aVs (UA (n:=1000000000) (by rw[aVu];show s.length+(E6 ind (fl.getD i fD)).length<=_;omega) pH),aVs (vF pG)];rfl) (fun b=>by
  unfold PN;dsimp only;rw[aVv (vJ _)])
 unfold IC;rw[k,Z7 (l:=cl) (d:=[]) (GY ind)];unfold sQ;rw[aVq,List.nil_append];show (if ((D8 ind cl++b).length:Int)<=_ then(rO (PN ind fl) (D8 ind cl++b,0)).bind _ else none)=_;rw[aVs (UA (n:=1000000000) (by rw[aVu];omega) pH),k2,Z7 (l:=fl) (d:=fD) (E6 ind)];rfl
end
noncomputable section
abbrev aRr:pD:=[32,102,108,97,103,115,61,34]
theorem ZI (x:pD) (r:pE):vZ (x::r) [32]=x++r.flatMap (fun y=>[32]++y):=by
 unfold vZ;rw[Lib.join_cons];unfold Lib.joinTail;rw[List.flatMap_def]
theorem aKq {l:pE}(h:FD l):(vZ l [32]).length<=36012000:=by
 cases l with
 |nil=>simp [vZ,Lib.join_nil]
 |cons x r=>
  rw[ZI,aVu];have h1:=h.1;have h2:=h.2 x aVz;have h3:=N4 (l:=r) (h:=fun y=>[32]++y) (B:=6001) fun y hy=>by
   have:=h.2 y (aVB _ hy);simp only[aVu,aVw,aVD];omega
  simp only[aVw] at h1;have h4:r.length*6001<=6000*6001:=aWK _ pG;omega
def H0 (l:pE):pD:=if l=[] then[] else(aRr++vZ l [32])++[34]
theorem aRs {l:pE}(h:FD l):(H0 l).length<=36012100:=by
 have:=aKq h;unfold H0;split
 .simp
 .simp only[aVu,aVw,aVD];omega
theorem aA7 {σ ρ:Type}{x:Option σ}{y:σ}{k:σ->Option ρ}{r:Option ρ}(h1:x=some y) (h2:k y=r):sQ x k=r:=by
 unfold sQ;rw[h1];exact h2
abbrev i4:pD:=[32,32,32,32]
abbrev i2:pD:=[32,32]
abbrev sId:pD:=[10,32,32,60,101,110,116,114,121,32,105,100,61,34]
abbrev sSt:pD:=[32,115,116,97,116,101,61,34]
abbrev aRu:pD:=[10,32,32,60,47,101,110,116,114,121,62]
def IS (n:Int):pD:=if n=0 then[] else(sSt++qQ .str ([[110,101,119],[102,117,122,122,121],[116,114,97,110,115,108,97,116,101,100],[114,101,118,105,101,119,101,100],[111,98,115,111,108,101,116,101]]:pE) n)++[34]
def KP (x:uC):pD:=(((sId++v6 x.1)++[34])++IS x.2.2.2.2.2.1)++H0 x.2.2.2.2.1
def FJ (x:uC):pD:=if x.2.1=[] then[] else E5 i4 wU [] x.2.1
def E7 (x:uC):pD:=if x.2.2.1=[] then[] else E5 i4 zB [] x.2.2.1
def AH (x:uC):pD:=((KP x++[62])++((D8 i4 x.2.2.2.1++(FJ x++E7 x))++GZ i4 x.2.2.2.2.2.2.1))++aRu
theorem aKs {n:Int}(h0:0<=n) (h1:n<=4):(qQ .str ([[110,101,119],[102,117,122,122,121],[116,114,97,110,115,108,97,116,101,100],[114,101,118,105,101,119,101,100],[111,98,115,111,108,101,116,101]]:pE) n).length<=10:=aQI h0 h1
theorem aA8 {n:Int}(h0:0<=n) (h1:n<=4):(IS n).length<=30:=by
 have:=aKs h0 h1;unfold IS;split
 .simp
 .simp only[aVu,aVw,aVD];omega
theorem aKt {x:uC}(h:IJ x):(FJ x).length<=42040:=by
 unfold FJ;split
 .simp
 .exact UJ pI pI pI h.src
theorem aKu {x:uC}(h:IJ x):(E7 x).length<=42040:=by
 unfold E7;split
 .simp
 .exact UJ pI pI pI h.tgt
theorem aKv {x:uC}(h:IJ x) (r0:0<=x.2.2.2.2.2.1) (r4:x.2.2.2.2.2.1<=4):(KP x).length<=36100000:=by
 have h1:=Q2 x.1;have h2:=aA8 r0 r4;have h3:=aRs h.flg;have h4:=h.id;simp only[KP,aVu,aVw,aVD];omega
theorem aRv {x:uC}(h:IJ x) (r0:0<=x.2.2.2.2.2.1) (r4:x.2.2.2.2.2.1<=4):(AH x).length<=600000000:=by
 have h1:=aKv h r0 r4;have h2:=UK (ind:=i4) pI h.com;have h3:=ZH (ind:=i4) pI h.fld;have h4:=aKt h;have h5:=aKu h;simp only[AH,aVu,aVw,aVD];omega
theorem aRw {x:uC}(h:IJ x) (r0:0<=x.2.2.2.2.2.1) (r4:x.2.2.2.2.2.1<=4):MT x=some (AH x):=by
 have e1:=Q2 x.1;have e2:=h.id;have e3:=aKs r0 r4;have e4:=aA8 r0 r4;have e5:=aKq h.flg;have e6:=aKv h r0 r4;have e7:=h.flg.1;have c1:=UK (ind:=i4) pI h.com;have c2:=ZH (ind:=i4) pI h.fld;have c3:=aKt h;have c4:=aKu h;unfold MT;rw[aKo h.id,aVq,aVs CB,aVs CB];refine aA7 (y:=((sId++v6 x.1)++[34])++IS x.2.2.2.2.2.1) ?_ ?_
 .by_cases hs:x.2.2.2.2.2.1=0
  .rw[aVv (by simp [hs])];simp [IS,hs]
  .rw[aVs (by simpa using hs),aVs ⟨r0,by simp only[aVw,aVD];omega⟩]
   iterate 3 rw[aVs CB]
   unfold IS;rw[aVv hs]
 refine aA7 (y:=KP x) ?_ ?_
 .by_cases hf:x.2.2.2.2.1=[]
  .rw[aVv (by simp [hf])];simp [KP,H0,hf]
  .have hp:=aVX.2 hf;rw[aVs pJ,aVs ⟨pG,pG⟩]
   iterate 3 rw[aVs CB]
   unfold KP H0;rw[aVv hf]
 refine aA7 (y:=FJ x) ?_ ?_
 .by_cases hs:x.2.1=[]
  .rw[aVv (by simp [hs])];simp [FJ,hs]
  .have e:=ZG (ind:=i4) (name:=wU) (attrs:=[]) pI pI pI h.src;have el:=UJ (ind:=i4) (name:=wU) (attrs:=[]) pI pI pI h.src;rw[aVs (by simpa using hs),e,aVq,List.nil_append,aVs (UA (n:=1000000000) pG pH)];simp [FJ,hs]
 by_cases ht:x.2.2.1=[]
 .have et:E7 x=[]:=by simp [E7,ht]
  rw[aVv (by simp [ht]),aVs CB,aA6 (ind:=i4) pI h.com h.fld pG,aVq]
  iterate 2 rw[aVs CB]
  unfold AH;rw[et,List.append_nil]
 .have e:=ZG (ind:=i4) (name:=zB) (attrs:=[]) pI pI pI h.tgt;have et:E7 x=E5 i4 zB [] x.2.2.1:=by simp [E7,ht]
  rw[aVs (by simpa using ht),e,aVq,<-et,aVs (UA (n:=1000000000) (by simp only[aVu];omega) pH),aVs CB,aA6 (ind:=i4) pI h.com h.fld (by simp only[aVu];omega),aVq]
  iterate 2 rw[aVs CB]
  rfl
end
noncomputable section
abbrev aRx:pD:=[60,99,97,116,97,108,111,103,32,116,97,103,61,34]
abbrev aRy:pD:=[10,60,101,110,116,114,105,101,115,62]
abbrev KQ:pD:=[10,60,47,101,110,116,114,105,101,115,62,10,60,47,99,97,116,97,108,111,103,62,10]
def FK (c:C4):pD:=(((aRx++c.1)++[34,62])++(D8 i2 c.2.1++GZ i2 c.2.2.1))++aRy
theorem aRz {c:C4}(h:IK c):(FK c).length<=600000000:=by
 have h1:=UK (ind:=i2) pI h.com;have h2:=ZH (ind:=i2) pI h.fld;have h3:=h.tag;simp only[FK,aVu,aVw,aVD];omega
theorem aRA {c:C4}(hc:IK c):GK c=some (if x6 c=true then(FK c,c.2.2.2.1.map AH,KQ,0) else([],[],[],1)):=by
 unfold GK;rw[aQB hc.fitP,aVq];by_cases hok:x6 c=true
 .have hl:=hc.len;have q1:=hc.tag;have h2:=UK (ind:=i2) pI hc.com;have h3:=ZH (ind:=i2) pI hc.fld;have k:=Z6 (f:=TR c) (fun i b=>(i,b)) (fun b=>b) (n:=c.2.2.2.1.length) (M:=1000000) (B:=1) (fun i=>[AH (c.2.2.2.1.getD i eD)]) (fun i hi=>by simp) [] pJ (fun i b hi hM=>by
   obtain⟨r0,r4⟩:=aJy (aAG hok hi);unfold TR;dsimp only;rw[aVs (uS hi),aVs (sY hi),aAD,aRw (hc.ent _ (N0 hi)) r0 r4,aVq,aVs pJ,aVs (vF pG)]) (fun b=>by
   unfold TR;dsimp only;rw[aVv (vJ _)])
  rw[hok,aVv pH,aVs rfl,aVs CB,aVs CB,aA6 (ind:=i2) pI hc.com hc.fld pI,aVq,List.append_nil]
  iterate 2 rw[aVs CB]
  rw[k,Z7 (l:=c.2.2.2.1) (d:=eD) (fun x=>[AH x])];unfold sQ;rw[aVq];rw[List.nil_append,aQJ];rfl
 .simp only[aWE] at hok;rw[hok,aVs (show (!false)=true from rfl),aVv pH]
theorem aRB {c:C4}(hc:IK c) (hok:x6 c=true): ∀x∈([FK c]++c.2.2.2.1.map AH)++[KQ],x.length<=1000000000:=by
 intro x hx;simp only[aWd,aVJ,List.mem_map] at hx;rcases hx with(rfl|⟨y,hy,rfl⟩) |rfl
 .have:=aRz hc;omega
 .obtain⟨i,hi,rfl⟩:=aW3 hy;have he:=aAG hok hi;rw[aVY,aVF hi] at he;obtain⟨r0,r4⟩:=aJy he;have:=aRv (hc.ent _ hy) r0 r4;omega
 .simp
def E8 (c:C4):pD:=IL (FK c) (c.2.2.2.1.map AH) KQ
theorem aA9 {α:Type}{B:Nat}: ∀{l:List (List α)},(∀x∈l,x.length<=B)->l.flatten.length<=l.length*B
 |[],_=>by simp
 |x::l,h=>by
  have h1:=h x aVz;have h2:=aA9 (l:=l) fun y hy=>h y (aVB _ hy);rw[aWt,aVu,aVw,aWz];omega
theorem aRC {c:C4}(hc:IK c) (hok:x6 c=true):(E8 c).length<=1002000000000:=by
 have hl:=hc.len;have e:E8 c=(([FK c]++c.2.2.2.1.map AH)++[KQ]).flatten:=by
  unfold E8 IL;rw[List.flatten_append,List.flatten_append];simp only[aWt,List.flatten_nil,List.append_nil,aVy]
 have hk:=aA9 (aRB hc hok);rw[<-e] at hk;simp only[aVu,aWR,aWD] at hk;omega
theorem aBa {c:C4}(hc:IK c):DX c=some (if x6 c=true then(E8 c,0) else([],1)):=by
 unfold DX;rw[aRA hc,aVq];by_cases hok:x6 c=true
 .have hl:=hc.len;have:=aRC hc hok;rw[aVs hok,aVs hok];dsimp only;rw[aJx (FK c,(c.2.2.2.1.map AH,(KQ,()))) pJ (by show (E8 c).length<=_;omega),aVq];rfl
 .rw[aVv hok,aVv hok];dsimp only;rw[aJx ([],([],([],()))) pI (by simp [IL]),aVq];rfl
theorem aRD:PS=some true:=by kernel_rfl
end
noncomputable section
theorem UL {l:List sA}{n:pD}(h:(l.any fun a=>decide (a.1=n))=true): ∃a∈l,a.1=n/\sC l n=a.2.1:= @aJZ [] n l [] h
theorem UM:sZ []=true:=by kernel_rfl
theorem aRE {s y:pD}(h:xV s=some y):sZ y=true:=by
 unfold xV at h;split at h
 .split at h
  .rename_i h2;cases h;exact h2
  .cases h
 .cases h
def tG (P:List TE):Prop:= ∃Q t,P=Q++[t]/\t.1=2
theorem tG.ne {P:List TE}(h:tG P):P≠[]:=by
 obtain⟨Q,t,rfl,_⟩:=h;simp
theorem tG.one {t:TE}(h:t.1=2):tG [t]:=⟨[],t,rfl,h⟩
theorem tG.app {P Q:List TE}(h:tG Q):tG (P++Q):=by
 obtain⟨R,t,rfl,ht⟩:=h;exact⟨P++R,t,by rw[aVy],ht⟩
theorem tG.cons {P:List TE}{u:TE}(h:tG P):tG (u::P):=tG.app (P:=[u]) h
theorem FL {P R R':List TE}(h:P≠[]):rS (P++R)=rS (P++R'):=by
 cases P with
 |nil=>exact absurd rfl h
 |cons t P=>rfl
theorem ZJ (n:pD) (t:TE) (r:List TE):uW n (t::r)=if (v7 t).1=3/\(v7 t).2.1=n then some r else none:=rfl
theorem aKw (x:xW) (t:TE) (r:List TE) (h:x.1=2):yA x (t::r)=some ([],r):=by
 show (if x.1=2 then some (([]:pD),r) else _)=_;rw[aVs h]
theorem aRF (x:xW) (t:TE) (h:x.1≠2):yA x [t]=none:=by
 show (if x.1=2 then some (([]:pD),([]:List TE)) else none)=_;rw[aVv h]
theorem UN (x:xW) (t u:TE) (r2:List TE) (h:x.1≠2):yA x (t::u::r2)=if u.1=3 then(match xV u.2 with
    |some s=>(uW x.2.1 r2).map fun q=>(s,q)
    |none=>none) else(uW x.2.1 (u::r2)).map fun q=>([],q):=by
 show (if x.1=2 then some (([]:pD),u::r2) else(if u.1=3 then(match xV u.2 with
    |some s=>(uW x.2.1 r2).map fun q=>(s,q)
    |none=>none) else(uW x.2.1 (u::r2)).map fun q=>([],q)))=_
 rw[aVv h]
theorem aBb {n:pD}{L R:List TE}(h:uW n L=some R): ∃t,L=t::R/\t.1=2/\∀R',uW n (t::R')=some R':=by
 cases L with
 |nil=>cases h
 |cons t r=>
  rw[ZJ] at h;by_cases hc:(v7 t).1=3/\(v7 t).2.1=n
  .rw[aVs hc] at h;cases h;exact⟨t,rfl,UD (by rw[hc.1];decide),fun R'=>by rw[ZJ,aVs hc]⟩
  .rw[aVv hc] at h;cases h
theorem ZK {x:xW}{L R:List TE}{s:pD}(h:yA x L=some (s,R)) (hx: ∃t r,L=t::r/\t.1=2): ∃P,L=P++R/\tG P/\(∀R',yA x (P++R')=some (s,R'))/\sZ s=true:=by
 obtain⟨t,r,rfl,ht⟩:=hx;by_cases h2:x.1=2
 .rw[aKw x t r h2] at h;cases h;exact⟨[t],rfl,tG.one ht,fun R'=>aKw x t R' h2,UM⟩
 .cases r with
  |nil=>rw[aRF x t h2] at h;cases h
  |cons u r2=>
   rw[UN x t u r2 h2] at h;by_cases h3:u.1=3
   .rw[aVs h3] at h;cases hte:xV u.2 with
    |none=>rw[hte] at h;cases h
    |some y=>
     rw[hte] at h;dsimp only at h;obtain⟨q,hq,he⟩:=aVA.1 h;cases he;obtain⟨v,rfl,hv,hn⟩:=aBb hq;refine⟨[t,u,v],rfl,tG.app (P:=[t,u]) (tG.one hv),fun R'=> ?_,aRE hte⟩;show yA x (t::u::v::R')=_;rw[UN x t u _ h2,aVs h3,hte];dsimp only;rw[hn];rfl
   .rw[aVv h3] at h;obtain⟨q,hq,he⟩:=aVA.1 h;cases he;obtain⟨v,hvq,hv,hn⟩:=aBb hq;injection hvq with e1 e2
    subst e1 e2;refine⟨[t,u],rfl,tG.app (P:=[t]) (tG.one hv),fun R'=> ?_,UM⟩;show yA x (t::u::R')=_;rw[UN x t u _ h2,aVv h3,hn];rfl
theorem aKx {x:xW}{cs cs':pE}{L R:List TE}(h:AF x cs L=some (cs',R)) (hx: ∃t r,L=t::r/\t.1=2) (hv:vW cs=true): ∃P,L=P++R/\tG P/\(∀R',AF x cs (P++R')=some (cs',R'))/\vW cs'=true:=by
 unfold AF at h;split at h
 .rename_i hc;obtain⟨q,hq,he⟩:=aVA.1 h;cases he;obtain⟨P,h1,h2,h3,h4⟩:=ZK (s:=q.1) (R:=q.2) hq hx;refine⟨P,h1,h2,fun R'=>by unfold AF;rw[aVs hc,h3];rfl,aQQ hv ?_ h4⟩;have:=(KK hv).1;have:=hc.2.2;omega
 .cases h
theorem aKy {x:xW}{fs fs':List sA}{L R:List TE}(h:AG x fs L=some (fs',R)) (hx: ∃t r,L=t::r/\t.1=2) (hv:vQ fs=true): ∃P,L=P++R/\tG P/\(∀R',AG x fs (P++R')=some (fs',R'))/\vQ fs'=true:=by
 unfold AG at h;split at h
 .rename_i hc;obtain⟨q,hq,he⟩:=aVA.1 h;cases he;obtain⟨P,h1,h2,h3,h4⟩:=ZK (s:=q.1) (R:=q.2) hq hx;refine⟨P,h1,h2,fun R'=>by unfold AG;rw[aVs hc,h3];rfl,aQR hv ?_ ?_ h4 ?_⟩
  .have:=(GR hv).1;have:=hc.2.2.2.2;omega
  .have ha:=hc.1;unfold xM at ha;rw[aVG] at ha;have:=aWa.1 ha.2 vL aVz;obtain⟨a,ham,_,hg⟩:=UL this;rw[hg];exact aWa.1 hc.2.1 a ham
  .rw[hc.2.2.2.1];decide
 .cases h
structure I6 (st:FG):Prop where
 src:sZ st.1=true
 tgt:sZ st.2.1=true
 com:vW st.2.2.1=true
 fld:vQ st.2.2.2.1=true
theorem aKz {L:List TE}(h:(rS L).1≠0): ∃t r,L=t::r/\t.1=2:=by
 cases L with
 |nil=>exact absurd rfl h
 |cons t r=>exact⟨t,r,rfl,UD h⟩
theorem aBc: ∀(n:Nat) (st st':FG) (L R:List TE),u7 n st L=some (st',R)->I6 st->∃P,L=P++R/\tG P/\(∀R' m,P.length<=m->u7 m st (P++R')=some (st',R'))/\I6 st'
 |0,_,_,_,_,h,_=>by cases h
 |n+1,st,st',L,R,h,hv=>by
  unfold u7 at h;have goon: ∀(st1:FG) (P1 r:List TE),r9 L=P1++r->tG P1->u7 n st1 r=some (st',R)->I6 st1->(∀R' m,u7 (m+1) st (L.takeWhile vK++(P1++R'))=u7 m st1 R')->
    ∃P,L=P++R/\tG P/\(∀R' m,P.length<=m->u7 m st (P++R')=some (st',R'))/\I6 st':=by
   intro st1 P1 r h1 h2 h3 h4 h5;obtain⟨P,e1,e2,e3,e4⟩:=aBc n st1 st' r R h3 h4;have hL:L=L.takeWhile vK++(P1++r):=by rw[<-h1];exact(List.takeWhile_append_dropWhile).symm
   refine⟨L.takeWhile vK++(P1++P),?_,tG.app (tG.app e2),fun R' m hm=> ?_,e4⟩
   .rw[aVy,aVy,<-e1];exact hL
   .have hp:=aVX.2 h2.ne;simp only[aVu] at hm;obtain⟨m,rfl⟩: ∃k,m=k+1:=⟨m-1,pG⟩;rw[aVy,aVy,h5,e3 R' m pG]
  have hsk: ∀(P1 r:List TE),r9 L=P1++r->P1≠[]->∀R',r9 (L.takeWhile vK++(P1++R'))=P1++R':=fun P1 r h1 h2 R'=>by
   have hG: ∀t∈L.takeWhile vK,vK t=true:=fun t ht=>aWa.1 (List.all_takeWhile) t ht;cases P1 with
   |nil=>exact absurd rfl h2
   |cons p P'=>
    have hp:vK p=false:=by
     have h3:L.dropWhile vK=p::(P'++r):=h1;have:=List.head?_dropWhile_not vK L;rw[h3] at this;simpa using this
    unfold r9;rw[List.dropWhile_append_of_pos hG,List.cons_append,List.dropWhile_cons,hp];rfl
  by_cases h30:(rS (r9 L)).1=3\/(rS (r9 L)).1=0
  .rw[aVs h30] at h;obtain⟨q,hq,he⟩:=aVA.1 h;cases he;obtain⟨t,h1,h2,h3⟩:=aBb hq;have h1':r9 L=[t]++R:=h1;have hs:=hsk [t] R h1' pI;refine⟨L.takeWhile vK++[t],?_,tG.app (tG.one h2),fun R' m hm=> ?_,hv⟩
   .rw[aVy,<-h1'];exact(List.takeWhile_append_dropWhile).symm
   .simp only[aVu,aVw,aVD] at hm;obtain⟨m,rfl⟩: ∃k,m=k+1:=⟨m-1,pG⟩;unfold u7;rw[aVy,hs,FL (R':=R) pI,<-h1',aVs h30];rw[show [t]++R'=t::R' from rfl,h3];rfl
  .rw[aVv h30] at h;have htag:=aKz (L:=r9 L) (fun e=>h30 (.inr e));by_cases hc:(rS (r9 L)).2.1=yQ
   .rw[aVs hc] at h;cases hr:AF (rS (r9 L)) st.2.2.1 (r9 L) with
    |none=>rw[hr] at h;cases h
    |some w=>
     obtain⟨cs,r⟩:=w;rw[hr] at h;obtain⟨P1,e1,e2,e3,e4⟩:=aKx hr htag hv.com;refine goon (st.1,st.2.1,cs,st.2.2.2.1,st.2.2.2.2.1,st.2.2.2.2.2) P1 r e1 e2 h ⟨hv.src,hv.tgt,e4,hv.fld⟩ fun R' m=> ?_;have hpk:rS (P1++R')=rS (r9 L):=by rw[e1];exact FL e2.ne
     rw[u7,hsk P1 r e1 e2.ne,hpk,aVv h30,aVs hc,e3]
   .rw[aVv hc] at h;by_cases hf:(rS (r9 L)).2.1=yB
    .rw[aVs hf] at h;cases hr:AG (rS (r9 L)) st.2.2.2.1 (r9 L) with
     |none=>rw[hr] at h;cases h
     |some w=>
      obtain⟨fs,r⟩:=w;rw[hr] at h;obtain⟨P1,e1,e2,e3,e4⟩:=aKy hr htag hv.fld;refine goon (st.1,st.2.1,st.2.2.1,fs,st.2.2.2.2.1,st.2.2.2.2.2) P1 r e1 e2 h ⟨hv.src,hv.tgt,hv.com,e4⟩ fun R' m=> ?_;have hpk:rS (P1++R')=rS (r9 L):=by rw[e1];exact FL e2.ne
      rw[u7,hsk P1 r e1 e2.ne,hpk,aVv h30,aVv hc,aVs hf,e3]
    .rw[aVv hf] at h;by_cases hs:(rS (r9 L)).2.1=wU
     .rw[aVs hs] at h;split at h
      .rename_i hg;cases hr:yA (rS (r9 L)) (r9 L) with
       |none=>rw[hr] at h;cases h
       |some w=>
        obtain⟨s,r⟩:=w;rw[hr] at h;obtain⟨P1,e1,e2,e3,e4⟩:=ZK hr htag;refine goon (s,st.2.1,st.2.2.1,st.2.2.2.1,true,st.2.2.2.2.2) P1 r e1 e2 h ⟨e4,hv.tgt,hv.com,hv.fld⟩ fun R' m=> ?_;have hpk:rS (P1++R')=rS (r9 L):=by rw[e1];exact FL e2.ne
        rw[u7,hsk P1 r e1 e2.ne,hpk,aVv h30,aVv hc,aVv hf,aVs hs,aVs hg,e3]
      .cases h
     .rw[aVv hs] at h;by_cases ht:(rS (r9 L)).2.1=zB
      .rw[aVs ht] at h;split at h
       .rename_i hg;cases hr:yA (rS (r9 L)) (r9 L) with
        |none=>rw[hr] at h;cases h
        |some w=>
         obtain⟨s,r⟩:=w;rw[hr] at h;obtain⟨P1,e1,e2,e3,e4⟩:=ZK hr htag;refine goon (st.1,s,st.2.2.1,st.2.2.2.1,st.2.2.2.2.1,true) P1 r e1 e2 h ⟨hv.src,e4,hv.com,hv.fld⟩ fun R' m=> ?_;have hpk:rS (P1++R')=rS (r9 L):=by rw[e1];exact FL e2.ne
         rw[u7,hsk P1 r e1 e2.ne,hpk,aVv h30,aVv hc,aVv hf,aVv hs,aVs ht,aVs hg,e3]
       .cases h
      .rw[aVv ht] at h;cases h
end
noncomputable section
theorem aRG {l:pE}(h:IN l=false):(sN l).Pairwise (· < ·):=by
 unfold IN at h;have h1: ¬(Lib.compact (sN l)).length<(sN l).length:=of_decide_eq_false h;generalize hs:sN l=s at h1;have hpw:s.Pairwise (·<=·):=by rw[<-hs];exact aJo l
 have h2:((List.range s.length).filter (Lib.keeps s.toArray)).length=(List.range s.length).length:=by
  have h3:(Lib.compact s).length=((List.range s.length).filter (Lib.keeps s.toArray)).length:=by
   unfold Lib.compact Lib.compactUpTo;rw[aWD]
  have h4:=List.length_filter_le (Lib.keeps s.toArray) (List.range s.length);rw[List.length_range] at h4|-;omega
 have h3:=List.length_filter_eq_length_iff.1 h2;refine aAJ (r:=fun a b:pD=>a<b) (fun a b c=>List.lt_trans) fun i hi=> ?_;have hk:=h3 (i+1) (aWN.2 hi);have hne:s[i+1]≠s[i]:=by
  intro e;have:=Lib.keeps_neg (d:=s.toArray) (m:=i+1) pG (by
   rw[Nat.add_sub_cancel,getElem!_pos s.toArray (i+1) (by simpa using hi),getElem!_pos s.toArray i pJ];simpa using e)
  rw[this] at hk;cases hk
 have hle:s[i]<=s[i+1]:=aWG.1 hpw i (i+1) pG hi pG;exact aJA (a:=s[i+1]) (b:=s[i]) (fun hlt=>hle hlt) hne
theorem aKA:tZ []=[]:=by kernel_rfl
theorem aRH (s:pD):AV s<=4:=by
 unfold AV;cases h:IG.findIdx? fun x=>decide (x=s) with
 |none=>show (-1:Int)<=4;decide
 |some k=>
  have:=(aWi.1 h).1;show (k:Int)<=4;unfold IG at this;simp only[aVw,aVD] at this;omega
theorem aKB {l:List sA}{n:pD}(h:(l.any fun a=>decide (a.1=n))=false):sC l n=[]:=by
 have go: ∀(l:List sA) (v:pD),(l.any fun a=>decide (a.1=n))=false->l.foldl (fun v a=>if n=a.1 then a.2.1 else v) v=v:=by
  intro l
  induction l with
  |nil=>intro v _;rfl
  |cons a l ih=>
   intro v h;rw[List.any_cons,aWf] at h;have h1: ¬n=a.1:=fun e=>(of_decide_eq_false h.1) e.symm;rw[List.foldl_cons,aVv h1];exact ih v h.2
 exact go l [] h
theorem aRI (L:List TE): ∀a∈(rS L).2.2.1,sZ a.2.1=true:=aKd L
theorem aRJ {L:List TE}(n:pD):sZ (sC (rS L).2.2.1 n)=true:=by
 cases h:(rS L).2.2.1.any fun a=>decide (a.1=n) with
 |false=>rw[aKB h];exact UM
 |true=>
  obtain⟨a,ha,_,hg⟩:=UL h;rw[hg];exact aRI L a ha
def yOf (x:xW) (st:FG):uC:=(sC x.2.2.1 uG,(st.1,(st.2.1,(st.2.2.1,(sN (tZ (sC x.2.2.1 uM)),(max 0 (AV (sC x.2.2.1 xF)),(st.2.2.2.1,())))))))
theorem aBe:I6 B0:=⟨UM,UM,pU,pU⟩
theorem aRK {es:List s0}{L R:List TE}{y:s0}(h:yD es (rS L) L=some (y,R)): ∃P,L=P++R/\tG P/\y9 y=true/\(es.any fun z=>decide (z.1=y.1))=false/\es.length≠1000/\
  (rS L).1≠3/\(rS L).1≠0/\(∀(es':List s0) R',(es'.any fun z=>decide (z.1=y.1))=false->es'.length≠1000->yD es' (rS (P++R')) (P++R')=some (y,R')):=by
 unfold yD at h;split at h
 .rename_i hc;obtain⟨⟨st,r⟩,hq,he⟩:=aVA.1 h;dsimp only at he;have hy:yOf (rS L) st=y:=aVL Prod.fst he;have hr:r=R:=aVL Prod.snd he;subst hr;obtain⟨c1,c2,c3,c4,c5,c6,c7,c8,c9⟩:=hc;have htag: ∃t q,L=t::q/\t.1=2:=aKz (by rcases c1 with e|e<;>rw[e]<;>decide)
  obtain⟨t,q,hL,ht⟩:=htag;obtain⟨P,e1,e2,e3,e4⟩: ∃P,L=P++r/\tG P/\(∀R',(if (rS L).1=1 then u7 (P++R').length B0 ((P++R').drop 1) else some (B0,(P++R').drop 1))=some (st,R'))/\I6 st:=by
   by_cases h1:(rS L).1=1
   .rw[aVs h1] at hq;rw[hL,List.drop_one,List.tail_cons] at hq;obtain⟨P,a1,a2,a3,a4⟩:=aBc _ _ _ _ _ hq aBe;refine⟨t::P,by rw[hL,a1];rfl,a2.cons,fun R'=> ?_,a4⟩;rw[aVs h1];show u7 (P++R':List TE).length.succ B0 (P++R')=_;exact a3 R' _ (by rw[aVu];omega)
   .rw[aVv h1] at hq;rw[hL,List.drop_one,List.tail_cons] at hq;have hq':=aVx hq;have h2:B0=st:=aVL Prod.fst hq';have h3:q=r:=aVL Prod.snd hq';subst h2 h3;exact⟨[t],hL,tG.one ht,fun R'=>by rw[aVv h1];rfl,aBe⟩
  have hid:(sC (rS L).2.2.1 uG)≠[]/\(sC (rS L).2.2.1 uG).length<=200:=by
   have ha:=c3;unfold xM at ha;rw[aVG] at ha;have:=aWa.1 ha.2 uG aVz;obtain⟨a,ham,hn,hg⟩:=UL this;have hw:=aV9.1 c4 a ham;unfold AZ at hw;rw[aVs hn] at hw;simp only[aWv,aVE,not_or] at hw;rw[hg];exact⟨hw.1,pG⟩
  have hfl: ∀f∈tZ (sC (rS L).2.2.1 uM),uR f=true:=by
   cases hh:(rS L).2.2.1.any fun a=>decide (a.1=uM) with
   |false=>rw[aKB hh,aKA];intro f hf;cases hf
   |true=>
    obtain⟨a,ham,hn,hg⟩:=UL hh;have hw:=aV9.1 c4 a ham;unfold AZ at hw;rw[aVv (by rw[hn];decide),aVv (by rw[hn];decide)] at hw;rw[hg];intro f hf;simp only[aVV,Bool.not_eq_false] at hw;exact aWa.1 hw f hf
  have hfo:DY (sN (tZ (sC (rS L).2.2.1 uM)))=true:=aQO (by rw[Z4];exact c8) (fun f hf=>hfl f ((aAw _).mem_iff.1 hf)) (aRG c7);have hyk:y9 y=true:=by
   rw[<-hy];have hs:=aRH (sC (rS L).2.2.1 xF);unfold y9 yOf;dsimp only;rw[aRJ,e4.src,e4.tgt,e4.com,e4.fld,hfo,decide_eq_false hid.1,aVS (show ((sC (rS L).2.2.1 uG).length:Int)<=200 by have:=hid.2;omega),aVS (show (0:Int)<=max 0 (AV (sC (rS L).2.2.1 xF)) by omega),aVS (show max 0 (AV (sC (rS L).2.2.1 xF))<=4 by omega)];rfl
  have hy1:y.1=sC (rS L).2.2.1 uG:=by rw[<-hy];rfl
  refine⟨P,e1,e2,hyk,by rw[hy1];exact c6,c9,by rcases c1 with e|e<;>rw[e]<;>decide,by rcases c1 with e|e<;>rw[e]<;>decide,fun es' R' h1 h2=> ?_⟩
  have hpk:rS (P++R')=rS L:=by rw[e1];exact FL e2.ne
  rw[hpk];unfold yD;rw[aVs ⟨c1,c2,c3,c4,c5,by rw[<-hy1];exact h1,c7,c8,h2⟩,e3 R'];show some (yOf (rS L) st,R')=_;rw[hy]
 .cases h
end
noncomputable section
theorem UO {L:List TE}(h:(rS L).2.1≠[]): ∃t r,L=t::r/\t.1=2:=by
 cases L with
 |nil=>exact absurd rfl h
 |cons t r=>
  refine⟨t,r,rfl,?_⟩;by_cases h2:t.1=2
  .exact h2
  .have:v7 t=eN:=by unfold v7;exact aVv h2
   have hx:(v7 t).2.1≠[]:=h;rw[this] at hx;exact absurd rfl hx
theorem QB (L:List TE): ∀(P1 r:List TE),r9 L=P1++r->P1≠[]->L=L.takeWhile vK++(P1++r)/\∀R',r9 (L.takeWhile vK++(P1++R'))=P1++R':=fun P1 r h1 h2=>by
 have hG: ∀t∈L.takeWhile vK,vK t=true:=fun t ht=>aWa.1 (List.all_takeWhile) t ht;refine⟨by rw[<-h1];exact(List.takeWhile_append_dropWhile).symm,fun R'=> ?_⟩;cases P1 with
 |nil=>exact absurd rfl h2
 |cons p P'=>
  have hp:vK p=false:=by
   have h3:L.dropWhile vK=p::(P'++r):=h1;have:=List.head?_dropWhile_not vK L;rw[h3] at this;simpa using this
  unfold r9;rw[List.dropWhile_append_of_pos hG,List.cons_append,List.dropWhile_cons,hp];rfl
theorem aBf: ∀(n:Nat) (st st':GX) (L R:List TE),wK n st L=some (st',R)->vW st.1=true->vQ st.2=true->∃P,L=P++R/\tG P/\(∀R' m,P.length<=m->wK m st (P++R')=some (st',R'))/\vW st'.1=true/\vQ st'.2=true
 |0,_,_,_,_,h,_,_=>by cases h
 |n+1,st,st',L,R,h,hv1,hv2=>by
  unfold wK at h;have goon: ∀(st1:GX) (P1 r:List TE),r9 L=P1++r->tG P1->wK n st1 r=some (st',R)->vW st1.1=true->vQ st1.2=true->(∀R' m,wK (m+1) st (L.takeWhile vK++(P1++R'))=wK m st1 R')->
    ∃P,L=P++R/\tG P/\(∀R' m,P.length<=m->wK m st (P++R')=some (st',R'))/\vW st'.1=true/\vQ st'.2=true:=by
   intro st1 P1 r h1 h2 h3 h4 h4' h5;obtain⟨P,e1,e2,e3,e4⟩:=aBf n st1 st' r R h3 h4 h4';have hL:=(QB L P1 r h1 h2.ne).1;refine⟨L.takeWhile vK++(P1++P),?_,tG.app (tG.app e2),fun R' m hm=> ?_,e4⟩
   .rw[aVy,aVy,<-e1];exact hL
   .have hp:=aVX.2 h2.ne;simp only[aVu] at hm;obtain⟨m,rfl⟩: ∃k,m=k+1:=⟨m-1,pG⟩;rw[aVy,aVy,h5,e3 R' m pG]
  by_cases hc:(rS (r9 L)).2.1=yQ/\(rS (r9 L)).1≠3
  .rw[aVs hc] at h;have htag:=UO (L:=r9 L) (by rw[hc.1];decide);cases hr:AF (rS (r9 L)) st.1 (r9 L) with
   |none=>rw[hr] at h;cases h
   |some w=>
    obtain⟨cs,r⟩:=w;rw[hr] at h;obtain⟨P1,e1,e2,e3,e4⟩:=aKx hr htag hv1;refine goon (cs,st.2) P1 r e1 e2 h e4 hv2 fun R' m=> ?_;have hpk:rS (P1++R')=rS (r9 L):=by rw[e1];exact FL e2.ne
    rw[wK,(QB L P1 r e1 e2.ne).2,hpk,aVs hc,e3]
  .rw[aVv hc] at h;by_cases hf:(rS (r9 L)).2.1=yB/\(rS (r9 L)).1≠3
   .rw[aVs hf] at h;have htag:=UO (L:=r9 L) (by rw[hf.1];decide);cases hr:AG (rS (r9 L)) st.2 (r9 L) with
    |none=>rw[hr] at h;cases h
    |some w=>
     obtain⟨fs,r⟩:=w;rw[hr] at h;obtain⟨P1,e1,e2,e3,e4⟩:=aKy hr htag hv2;refine goon (st.1,fs) P1 r e1 e2 h hv1 e4 fun R' m=> ?_;have hpk:rS (P1++R')=rS (r9 L):=by rw[e1];exact FL e2.ne
     rw[wK,(QB L P1 r e1 e2.ne).2,hpk,aVv hc,aVs hf,e3]
   .rw[aVv hf] at h;by_cases he:(rS (r9 L)).1=1/\(rS (r9 L)).2.1=yC/\(rS (r9 L)).2.2.1=[]/\(rS (r9 L)).2.2.2=false
    .rw[aVs he] at h;obtain⟨t,q,h1,ht⟩:=UO (L:=r9 L) (by rw[he.2.1];decide);have e0:=aVx h;have e1:st=st':=aVL Prod.fst e0;have e2:(r9 L).drop 1=R:=aVL Prod.snd e0;rw[h1,List.drop_one,List.tail_cons] at e2;subst e1 e2;have h1':r9 L=[t]++q:=h1;obtain⟨g1,g2⟩:=QB L [t] q h1' pI;refine⟨L.takeWhile vK++[t],by rw[aVy];exact g1,tG.app (tG.one ht),fun R' m hm=> ?_,hv1,hv2⟩;simp only[aVu,aVw,aVD] at hm;obtain⟨m,rfl⟩: ∃k,m=k+1:=⟨m-1,pG⟩;have hpk:rS ([t]++R')=rS (r9 L):=by rw[h1'];exact FL pI
     rw[wK,aVy,g2,hpk,aVv hc,aVv hf,aVs he];rfl
    .rw[aVv he] at h;cases h
theorem aRL {L R:List TE}{tag:pD}{st:GX}(h:FH L=some (tag,st,R)): ∃P,L=P++R/\tG P/\(∀R',FH (P++R')=some (tag,st,R'))/\wI tag=true/\vW st.1=true/\vQ st.2=true:=by
 unfold FH at h;split at h
 .rename_i hc;obtain⟨⟨st1,r⟩,hq,he⟩:=aVA.1 h;dsimp only at he;have e1:sC (rS (r9 L)).2.2.1 wJ=tag:=aVL Prod.fst he;have e2:st1=st:=aVL (fun x=>x.2.1) he;have e3:r=R:=aVL (fun x=>x.2.2) he;subst e2 e3;obtain⟨t,q,h1,ht⟩:=UO (L:=r9 L) (by rw[hc.2.1];decide);rw[h1,List.drop_one,List.tail_cons] at hq;obtain⟨P,a1,a2,a3,a4,a5⟩:=aBf _ _ _ _ _ hq pU pU;have h1':r9 L=[t]++q:=h1;obtain⟨g1,g2⟩:=QB L [t] q h1' pI;refine⟨L.takeWhile vK++([t]++P),by rw[aVy,aVy,<-a1];exact g1,tG.app (tG.app a2),fun R'=> ?_,?_,a4,a5⟩
  .have hpk:rS ([t]++(P++R'))=rS (r9 L):=by rw[h1'];exact FL pI
   unfold FH;rw[aVy,aVy,g2,hpk,aVs hc];show (wK (P++R').length.succ ([],[]) (P++R')).map _=_;rw[a3 R' _ (by rw[aVu];omega),e1];rfl
  .have ha:=hc.2.2.1;unfold xM at ha;rw[aVG] at ha;have:=aWa.1 ha.2 wJ aVz;obtain⟨a,ham,_,hg⟩:=UL this;rw[<-e1,hg];exact aWa.1 hc.2.2.2.1 a ham
 .cases h
structure aBg (P:List TE) (y:s0):Prop where
 lst:tG P
 ok:y9 y=true
 rd: ∀(es:List s0) R,(es.any fun z=>decide (z.1=y.1))=false->es.length≠1000->(rS (r9 (P++R))).1≠3/\yD es (rS (r9 (P++R))) (r9 (P++R))=some (y,R)
inductive D9:List (List TE)->List s0->Prop where
 |nil:D9 [] []
 |cons {P:List TE}{y:s0}{Ps:List (List TE)}{ys:List s0}:aBg P y->D9 Ps ys->D9 (P::Ps) (y::ys)
def E9:List (List TE)->Nat->pQ
 |[],_=>[]
 |_::Ps,k=>(Ps.flatten.length+k)::E9 Ps k
theorem aRM {es:List s0}{y:s0}(h:FE es) (h1:y9 y=true) (h2:(es.any fun z=>decide (z.1=y.1))=false) (h3:es.length≠1000):FE (es++[y]):=by
 have hl:=h.len;refine⟨by rw[aVu,aWR];omega,fun x hx=> ?_,?_⟩
 .rcases aWd.1 hx with hx|hx
  .exact h.ok x hx
  .rw[aVJ.1 hx];exact h1
 .rw[aXl];refine⟨h.pw,List.pairwise_singleton _ _,fun a ha b hb=> ?_⟩;rw[aVJ.1 hb];have:=aV9.1 h2 a ha;simpa using this
theorem aKC: ∀(n:Nat) (es:List s0) (ks:pQ) (L:List TE) (es':List s0) (ks':pQ) (r1:List TE),FI n es ks L=some (es',ks',r1)->FE es->
  ∃Ps ys T,L=Ps.flatten++T/\D9 Ps ys/\es'=es++ys/\ks'=ks++E9 Ps T.length/\r1=r9 T/\(rS r1).1=3/\FE es'
 |0,_,_,_,_,_,_,h,_=>by cases h
 |n+1,es,ks,L,es',ks',r1,h,hv=>by
  unfold FI at h;by_cases h3:(rS (r9 L)).1=3
  .rw[aVs h3] at h;cases h;exact⟨[],[],L,rfl,.nil,by simp,by simp [E9],rfl,h3,hv⟩
  .rw[aVv h3] at h;cases hx:yD es (rS (r9 L)) (r9 L) with
   |none=>rw[hx] at h;cases h
   |some w=>
    obtain⟨y,r⟩:=w;rw[hx] at h;dsimp only at h;obtain⟨P,e1,e2,e3,e4,e5,e6,e7,e8⟩:=aRK hx;obtain⟨Ps,ys,T,a1,a2,a3,a4,a5,a6,a7⟩:=aKC n _ _ _ _ _ _ h (aRM hv e3 e4 e5);obtain⟨g1,g2⟩:=QB L P r e1 e2.ne;refine⟨(L.takeWhile vK++P)::Ps,y::ys,T,?_,.cons ⟨tG.app e2,e3,fun es2 R h1 h2=> ?_⟩ a2,?_,?_,a5,a6,a7⟩
    .rw[aWt,aVy,aVy,<-a1];exact g1
    .rw[aVy,g2];refine⟨?_,e8 es2 R h1 h2⟩;have hpk:rS (P++R)=rS (r9 L):=by rw[e1];exact FL e2.ne
     rw[hpk];exact e6
    .rw[a3,aVy];rfl
    .rw[a4,aVy];show _=ks++((Ps.flatten.length+T.length)::E9 Ps T.length);rw[a1,aVu];rfl
theorem aKD: ∀(Ps:List (List TE)) (ys es:List s0) (ks:pQ) (T:List TE) (n:Nat),D9 Ps ys->FE (es++ys)->(rS (r9 T)).1=3->Ps.length<n->
  FI n es ks (Ps.flatten++T)=some (es++ys,ks++E9 Ps T.length,r9 T)
 |[],ys,es,ks,T,n,hp,hv,h3,hn=>by
  cases hp;obtain⟨n,rfl⟩: ∃k,n=k+1:=⟨n-1,pG⟩;unfold FI;simp only[List.flatten_nil,List.nil_append];rw[aVs h3];simp [E9]
 |P::Ps,ys,es,ks,T,n,hp,hv,h3,hn=>by
  cases hp with
  |cons h1 h2=>
   rename_i y ys;obtain⟨n,rfl⟩: ∃k,n=k+1:=⟨n-1,pG⟩;have hpw:=hv.pw;rw[aXl] at hpw;have hf:(es.any fun z=>decide (z.1=y.1))=false:=by
    rw[aV9];intro z hz;have:=hpw.2.2 z hz y aVz;simpa using this
   have hl:es.length≠1000:=by
    have:=hv.len;rw[aVu,aVw] at this;omega
   obtain⟨k1,k2⟩:=h1.rd es (Ps.flatten++T) hf hl;unfold FI;rw[aWt,aVy,aVv k1,k2];dsimp only;simp only[aVw] at hn;rw[aKD Ps ys (es++[y]) _ T n h2 (by rw[aVy];exact hv) h3 pG,aVy,aVy];show some (es++(y::ys),ks++((Ps.flatten++T).length::E9 Ps T.length),r9 T)=some (es++(y::ys),ks++((Ps.flatten.length+T.length)::E9 Ps T.length),r9 T);rw[aVu]
structure UP (H:List TE) (tag:pD) (st:GX):Prop where
 lst:tG H
 tagk:wI tag=true
 com:vW st.1=true
 fld:vQ st.2=true
 rd: ∀R,FH (H++R)=some (tag,st,R)
def QC (T:List TE):Prop:=(rS (r9 T)).1=3/\IQ (r9 T)=true
theorem aRN {L:List TE}(h:IQ L=true): ∃r2 r3,uW yC L=some r2/\uW zC (r9 r2)=some r3/\(r9 r3).head?.map (·.1)=some 4:=by
 cases h1:uW yC L with
 |none=>rw[aA0 h1] at h;cases h
 |some r2=>
  cases h2:uW zC (r9 r2) with
  |none=>rw[aA1 h1 h2] at h;cases h
  |some r3=>
   rw[ZF h1 h2] at h;exact⟨r2,r3,rfl,h2,aV4 h⟩
theorem aRO {Ps:List (List TE)}{ys:List s0}(h:D9 Ps ys):Ps.length<=Ps.flatten.length/\Ps.length=ys.length:=by
 induction h with
 |nil=>simp
 |cons h1 _ ih=>
  have:=aVX.2 h1.lst.ne;simp only[aVw,aWt,aVu];omega
theorem aRP {L:List TE}{c:C4}{ks:pQ}(h:E4 L=some (c,ks)): ∃H Ps T,L=H++(Ps.flatten++T)/\UP H c.1 (c.2.1,c.2.2.1)/\D9 Ps c.2.2.2.1/\QC T/\ks=(Ps.flatten++T).length::E9 Ps T.length/\x6 c=true/\FE c.2.2.2.1:=by
 unfold E4 at h;cases hh:FH L with
 |none=>rw[hh] at h;cases h
 |some v=>
  obtain⟨tag,st,r⟩:=v;rw[hh] at h;dsimp only at h;obtain⟨H,e1,e2,e3,e4,e5,e6⟩:=aRL hh;cases he:FI (r.length+1) [] [r.length] r with
  |none=>rw[he] at h;cases h
  |some w=>
   obtain⟨es,ks',r1⟩:=w;rw[he] at h;dsimp only at h;obtain⟨Ps,ys,T,a1,a2,a3,a4,a5,a6,a7⟩:=aKC _ _ _ _ _ _ _ he ⟨by simp,fun x hx=>(by cases hx),List.Pairwise.nil⟩;have a3':es=ys:=a3;subst a3';cases h1:uW yC r1 with
   |none=>rw[h1] at h;cases h
   |some r2=>
    rw[h1] at h;dsimp only at h;cases h2:uW zC (r9 r2) with
    |none=>rw[h2] at h;cases h
    |some r3=>
     rw[h2] at h;dsimp only at h;by_cases hd:(r9 r3).head?.map (·.1)=some 4
     .rw[aVs hd] at h;have e0:=aVx h;have ec:(tag,(st.1,(st.2,(es,()))))=c:=aVL Prod.fst e0;have ek:ks'=ks:=aVL Prod.snd e0;subst ec ek;refine⟨H,Ps,T,by rw[<-a1];exact e1,⟨e2,e4,e5,e6,e3⟩,a2,⟨by rw[<-a5];exact a6,by rw[<-a5,ZF h1 h2];exact aVS hd⟩,?_,aJD e4 e5 e6 a7,a7⟩;rw[a4,<-a1];rfl
     .rw[aVv hd] at h;cases h
theorem aRQ {H:List TE}{Ps:List (List TE)}{T:List TE}{c:C4}(h1:UP H c.1 (c.2.1,c.2.2.1)) (h2:D9 Ps c.2.2.2.1) (h3:FE c.2.2.2.1) (h4:QC T):E4 (H++(Ps.flatten++T))=some (c,(Ps.flatten++T).length::E9 Ps T.length):=by
 obtain⟨r2,r3,k1,k2,k3⟩:=aRN h4.2;have hl:=(aRO h2).1;have he:=aKD Ps c.2.2.2.1 [] [(Ps.flatten++T).length] T ((Ps.flatten++T).length+1) h2 h3 h4.1 (by rw[aVu];omega);unfold E4;rw[h1.rd];dsimp only;rw[he];dsimp only;rw[k1];dsimp only;rw[k2];dsimp only;rw[aVs k3];rfl
end
noncomputable section
def uN (P:List TE):pD:=P.flatMap (·.2)
theorem N9 (P Q:List TE):uN (P++Q)=uN P++uN Q:=by simp [uN]
theorem NA (t:TE) (Q:List TE):uN (t::Q)=t.2++uN Q:=rfl
theorem aKE: ∀(n m:Nat) (s:pD),s.length<n->s.length<m->IP n s=IP m s
 |0,_,_,h,_=>by omega
 |_+1,0,_,_,h=>by omega
 |n+1,m+1,s,h1,h2=>by
  unfold IP;by_cases hs:s=[]
  .rw[aVs hs,aVs hs]
  .rw[aVv hs,aVv hs];by_cases h0:(s9 s).1=0
   .rw[aVs h0,aVs h0]
   .have hp:=(QA hs).2.1 h0;have hl:=aVX.2 hs;rw[aVv h0,aVv h0,aKE n m _ (by rw[aVO];omega) (by rw[aVO];omega)]
theorem aBh:vG []=[(4,[])]:=rfl
theorem ZL {s:pD}(hs:s≠[]) (h0:(s9 s).1≠0):vG s=s9 s::vG (s.drop (s9 s).2.length):=by
 have hp:=(QA hs).2.1 h0;have hl:=aVX.2 hs;unfold vG;rw[IP,aVv hs,aVv h0];congr 1;exact aKE _ _ _ (by rw[aVO];omega) pG
theorem aBi {s:pD}(hs:s≠[]) (h0:(s9 s).1=0):vG s=[s9 s]:=by
 unfold vG;rw[IP,aVv hs,aVs h0]
theorem aRR {s:pD}(h0:(s9 s).1≠0):(s9 s).2=s.take (s9 s).2.length:=by
 unfold s9 at h0|-;split
 .rename_i h;rw[aVs h] at h0;exact absurd rfl h0
 .rename_i h;dsimp only;rw[aVQ];rcases Nat.le_total (wA s).2.toNat s.length with h1|h1
  .rw[Nat.min_eq_left h1]
  .rw[Nat.min_eq_right h1,List.take_length,List.take_of_length_le h1]
theorem aKF {s:pD}(h0:(s9 s).1≠0):s=(s9 s).2++s.drop (s9 s).2.length:=by
 have h:=aRR h0;have h2:=(aWX (s9 s).2.length s).symm;rw[<-h] at h2;exact h2
theorem aBj: ∀(P R:List TE) (s:pD),vG s=P++R->R≠[]->∃u,s=uN P++u/\vG u=R
 |[],R,s,h,_=>⟨s,rfl,h⟩
 |t::P,R,s,h,hR=>by
  by_cases hs:s=[]
  .subst hs;rw[aBh] at h;have:=aVL List.length h;have hp:=aVX.2 hR;simp only[aVw,aVD,List.cons_append,aVu] at this;omega
  .by_cases h0:(s9 s).1=0
   .rw[aBi hs h0] at h;have:=aVL List.length h;have hp:=aVX.2 hR;simp only[aVw,aVD,List.cons_append,aVu] at this;omega
   .rw[ZL hs h0] at h;injection h with e1 e2
    obtain⟨u,h1,h2⟩:=aBj P R _ e2 hR;refine⟨u,?_,h2⟩;rw[NA,<-e1,aVy,<-h1];exact aKF h0
theorem aBk: ∀(s u:pD) (q:Bool) (k:Nat),clo q s=some k->clo q (s++u)=some k
 |[],_,_,_,h=>by cases h
 |b::r,u,q,k,h=>by
  rw[List.cons_append];unfold clo at h|-;by_cases h1:b=34
  .rw[aVs h1] at h|-;obtain⟨j,hj,rfl⟩:=aVA.1 h;rw[aBk r u _ j hj];rfl
  .rw[aVv h1] at h|-;by_cases h2:b=62/\q=false
   .rw[aVs h2] at h|-;exact h
   .rw[aVv h2] at h|-;obtain⟨j,hj,rfl⟩:=aVA.1 h;rw[aBk r u _ j hj];rfl
theorem aBl: ∀(s:pD) (q:Bool) (k:Nat),clo q s=some k->clo q (s.take (k+1))=some k/\s[k]? =some 62
 |[],_,_,h=>by cases h
 |b::r,q,k,h=>by
  unfold clo at h;by_cases h1:b=34
  .rw[aVs h1] at h;obtain⟨j,hj,rfl⟩:=aVA.1 h;obtain⟨e1,e2⟩:=aBl r _ j hj;refine⟨?_,by simpa using e2⟩;rw[List.take_succ_cons];unfold clo;rw[aVs h1,e1];rfl
  .rw[aVv h1] at h;by_cases h2:b=62/\q=false
   .rw[aVs h2] at h;cases h;refine⟨?_,by simp [h2.1]⟩;rw[List.take_succ_cons];unfold clo;rw[aVv h1,aVs h2]
   .rw[aVv h2] at h;obtain⟨j,hj,rfl⟩:=aVA.1 h;obtain⟨e1,e2⟩:=aBl r _ j hj;refine⟨?_,by simpa using e2⟩;rw[List.take_succ_cons];unfold clo;rw[aVv h1,aVv h2,e1];rfl
theorem ZM {k:Nat}{s:pD}(h1:xH s=false) (h2:s.head? =some 60) (h3:clo false s=some k):s9 s=(2,s.take (k+1)):=by
 have hc:BE s=(k:Int):=by unfold BE;rw[h3]
 have hn:wA s=(2,(k:Int)+1):=by
  unfold wA;rw[aVv (by rw[h1];decide),aVs h2,hc,aVv pG]
 unfold s9;rw[hn,aVv (by dsimp only;omega)];show (2,s.take ((k:Int)+1).toNat)=_;rw[show ((k:Int)+1).toNat=k+1 by omega]
theorem aKG {s:pD}(h:(s9 s).1=2):xH s=false/\s.head? =some 60/\∃k,clo false s=some k/\s9 s=(2,s.take (k+1)):=by
 have hN:(wA s).1=2/\¬(wA s).2<0:=by
  unfold s9 at h;split at h
  .cases h
  .rename_i hn;exact⟨h,hn⟩
 unfold wA at hN;by_cases hi:xH s=true
 .rw[aVs hi] at hN;exact absurd hN.1 pI
 .rw[aVv hi] at hN;by_cases h60:s.head? =some 60
  .rw[aVs h60] at hN;cases hc:clo false s with
   |none=>
    have:BE s= -1:=by unfold BE;rw[hc]
    rw[this] at hN;exact absurd pH hN.2
   |some k=>
    have hi':xH s=false:=by simpa using hi
    exact⟨hi',h60,k,rfl,ZM hi' h60 hc⟩
  .rw[aVv h60] at hN;exact absurd hN.1 pI
theorem aRS {s:pD}(h:(s9 s).1=2) (u:pD):s9 ((s9 s).2++u)=s9 s:=by
 obtain⟨h1,h2,k,h3,h4⟩:=aKG h;rw[h4];dsimp only;obtain⟨e1,e2⟩:=aBl s false k h3;have hk:k<s.length:=Y2 h3;have hlen:(s.take (k+1)).length=k+1:=by rw[aVQ];omega
 have hc:=aBk (s.take (k+1)) u false k e1;have hh:(s.take (k+1)++u).head? =some 60:=by
  cases s with
  |nil=>cases h2
  |cons b r=>rw[List.take_succ_cons];exact h2
 have hn:xH (s.take (k+1)++u)=false:=by
  cases hq:xH (s.take (k+1)++u) with
  |false=>rfl
  |true=>
   exfalso;unfold xH at hq h1;have hq:=aV4 hq;have h1:=of_decide_eq_false h1;by_cases h4:4<=k+1
   .rw[aWk pG,List.take_take,Nat.min_eq_left h4] at hq;exact h1 hq
   .have h5:((s.take (k+1)++u).take 4)[k]? =some 62:=by
     rw[aWL,aVs pG,aVN pG,aWL,aVs pG];exact e2
    rw[hq] at h5;have:k=0\/k=1\/k=2:=by omega
    rcases this with rfl|rfl|rfl<;>simp [M5] at h5
 rw[ZM hn hh hc,aWk pG,List.take_of_length_le pG]
end
noncomputable section
theorem ZN {s sub:pD}{i:Nat}:Lib.occAt s sub i=true↔(s.drop i).take sub.length=sub:=by
 unfold Lib.occAt;rw[List.isPrefixOf_iff_prefix,List.prefix_iff_eq_take];exact eq_comm
theorem aKH {l u:pD}{m j n:Nat}(h:j+n<=m) (hm:m<=l.length):((l.take m++u).drop j).take n=(l.drop j).take n:=by
 rw[List.drop_append_of_le_length (by rw[aVQ];omega),aWk (by rw[aVO,aVQ];omega),List.drop_take,List.take_take,Nat.min_eq_left pG]
abbrev FM:pD:=[45,45,62]
theorem aRT {l u:pD}{i:Nat}(h:Lib.index l FM=i):Lib.index (l.take (i+3)++u) FM=i/\i+3<=l.length:=by
 have hr:=Lib.index_room l FM pG;simp only[aVw,aVD] at hr;have hl:i+3<=l.length:=by omega
 rcases Lib.index_spec l FM with⟨h1,_⟩ |⟨k,h1,h2,h3⟩
 .omega
 .have hk:k=i:=by omega
  subst hk;refine⟨Lib.index_first (by rw[aVu,aVQ];omega) ?_ fun j hj=> ?_,hl⟩
  .rw[ZN,aKH (by simp only[aVw,aVD];omega) hl];exact ZN.1 h3.1
  .cases hq:Lib.occAt (l.take (k+3)++u) FM j with
   |false=>rfl
   |true=>
    rw[ZN,aKH (by simp only[aVw,aVD];omega) hl] at hq;have:=ZN.2 hq;rw[h3.2 j hj] at this;cases this
theorem aKI {s:pD}{i:Nat}(h1:xH s=true) (h2:Lib.index (s.drop 4) FM=i):s9 s=(1,s.take (i+7)):=by
 have hn:wA s=(1,(i:Int)+7):=by
  unfold wA;rw[aVs h1,h2,aVs pG]
 unfold s9;rw[hn,aVv (by dsimp only;omega)];show (1,s.take ((i:Int)+7).toNat)=_;rw[show ((i:Int)+7).toNat=i+7 by omega]
theorem aKJ {s:pD}(h:(s9 s).1=1):xH s=true/\∃i:Nat,Lib.index (s.drop 4) FM=i/\s9 s=(1,s.take (i+7)):=by
 have hN:(wA s).1=1/\¬(wA s).2<0:=by
  unfold s9 at h;split at h
  .cases h
  .rename_i hn;exact⟨h,hn⟩
 unfold wA at hN;by_cases hi:xH s=true
 .rw[aVs hi] at hN;by_cases h0:0<=Lib.index (s.drop 4) FM
  .obtain⟨i,hi2⟩: ∃i:Nat,Lib.index (s.drop 4) FM=i:=⟨(Lib.index (s.drop 4) FM).toNat,pG⟩;exact⟨hi,i,hi2,aKI hi hi2⟩
  .rw[aVv h0] at hN;exact absurd (show Lib.index (s.drop 4) FM<0 by omega) hN.2
 .rw[aVv hi] at hN;by_cases h60:s.head? =some 60
  .rw[aVs h60] at hN;exact absurd hN.1 pI
  .rw[aVv h60] at hN;exact absurd hN.1 pI
theorem aRU {s:pD}(h:(s9 s).1=1) (u:pD):s9 ((s9 s).2++u)=s9 s:=by
 obtain⟨h1,i,h2,h3⟩:=aKJ h;obtain⟨e1,e2⟩:=aRT (u:=u) h2;rw[aVO] at e2;rw[h3];dsimp only;have hn:xH (s.take (i+7)++u)=true:=by
  unfold xH at h1|-;have h1:=aV4 h1;rw[aWk (by rw[aVQ];omega),List.take_take,Nat.min_eq_left pG];exact aVS h1
 have hd:(s.take (i+7)++u).drop 4=(s.drop 4).take (i+3)++u:=by
  rw[List.drop_append_of_le_length (by rw[aVQ];omega),List.drop_take];rfl
 rw[aKI (i:=i) hn (by rw[hd];exact e1),aWk (by rw[aVQ];omega),List.take_take,Nat.min_self]
theorem aKK: ∀(w:pD),(∀b∈w,b≠60)->Lib.indexByte w 60= -1
 |[],_=>rfl
 |b::w,h=>by
  have ih:=aKK w (fun c hc=>h c (aVB _ hc));have hb: ¬(b==60)=true:=by simpa using h b aVz
  unfold Lib.indexByte;rw[aVv hb,ih];rfl
theorem aKL: ∀(w u:pD),(∀b∈w,b≠60)->Lib.indexByte (w++60::u) 60=w.length
 |[],_,_=>rfl
 |b::w,u,h=>by
  have ih:=aKL w u (fun c hc=>h c (aVB _ hc));have hb: ¬(b==60)=true:=by simpa using h b aVz
  rw[List.cons_append];unfold Lib.indexByte;rw[aVv hb,ih,aVv pI,aVw];omega
theorem aKM: ∀(s:pD),(∀b∈s,b≠60)\/∃w u,s=w++60::u/\∀b∈w,b≠60
 |[]=> .inl (fun b hb=>by cases hb)
 |b::s=>by
  by_cases hb:b=60
  .subst hb;exact .inr ⟨[],s,rfl,fun b hb=>by cases hb⟩
  .rcases aKM s with h|⟨w,u,rfl,h⟩
   .exact .inl fun c hc=>by rcases aVH.1 hc with rfl|hc;exact hb;exact h c hc
   .exact .inr ⟨b::w,u,rfl,fun c hc=>by rcases aVH.1 hc with rfl|hc;exact hb;exact h c hc⟩
theorem aKN {s:pD}(h:s.head?≠some 60):xH s=false:=by
 unfold xH;refine decide_eq_false fun e=>h ?_;cases s with
 |nil=>cases e
 |cons b r=>
  rw[List.take_succ_cons] at e;injection e with e1 _
  rw[e1];rfl
theorem aBm {w u:pD}(hw:w≠[]) (h: ∀b∈w,b≠60) (hu:u=[]\/u.head? =some 60):s9 (w++u)=(3,w):=by
 have hh:(w++u).head?≠some 60:=by
  cases w with
  |nil=>exact absurd rfl hw
  |cons b r=>
   intro e;have:b=60:=by simpa using e
   exact h b aVz this
 have hn:wA (w++u)=(3,(w.length:Int)):=by
  unfold wA;rw[aVv (by rw[aKN hh];decide),aVv hh];rcases hu with rfl|hu
  .rw[List.append_nil,aKK w h,aVs pH]
  .cases u with
   |nil=>cases hu
   |cons b r=>
    have:b=60:=by simpa using hu
    subst this;rw[aKL w r h,aVv pG]
 unfold s9;rw[hn,aVv (by dsimp only;omega)];show (3,(w++u).take (w.length:Int).toNat)=_;rw[aWh,aWs]
theorem aRV {s:pD}(hs:s≠[]) (h:(s9 s).1=3): ∃w u,s=w++u/\w≠[]/\(∀b∈w,b≠60)/\(u=[]\/u.head? =some 60)/\s9 s=(3,w):=by
 have hN:(wA s).1=3:=by
  unfold s9 at h;split at h
  .cases h
  .exact h
 unfold wA at hN;by_cases hi:xH s=true
 .rw[aVs hi] at hN;exact absurd hN pI
 .rw[aVv hi] at hN;by_cases h60:s.head? =some 60
  .rw[aVs h60] at hN;exact absurd hN pI
  .rcases aKM s with h1|⟨w,u,rfl,h1⟩
   .exact⟨s,[],(List.append_nil s).symm,hs,h1,.inl rfl,by have:=aBm hs h1 (u:=[]) (.inl rfl);rwa [List.append_nil] at this⟩
   .have hw:w≠[]:=fun e=>by subst e;exact h60 rfl
    exact⟨w,60::u,rfl,hw,h1,.inr rfl,aBm hw h1 (.inr rfl)⟩
def wL:List TE->Prop
 |[]=>True
 |t::r=>t.2≠[]/\(((t.1=1\/t.1=2)/\t.2.head? =some 60/\∀u,s9 (t.2++u)=t)\/(t.1=3/\(∀b∈t.2,b≠60)/\∃v q,r=v::q/\v.2.head? =some 60))/\wL r
theorem aBn: ∀(P:List TE),wL P->∀u,vG (uN P++u)=P++vG u
 |[],_,u=>rfl
 |t::r,h,u=>by
  obtain⟨h1,h2,h3⟩:=h;have ih:=aBn r h3 u;have hf:s9 (t.2++(uN r++u))=t:=by
   rcases h2 with⟨_,_,h2⟩ |⟨h2,h4,v,q,rfl,hv⟩
   .exact h2 _
   .have hh:(uN (v::q)++u).head? =some 60:=by
     rw[NA];cases hv2:v.2 with
     |nil=>rw[hv2] at hv;cases hv
     |cons b x=>rw[hv2] at hv;exact hv
    rw[aBm h1 h4 (.inr hh)];exact Prod.ext h2.symm rfl
  have hne:t.2++(uN r++u)≠[]:=by simp [h1]
  have h0:(s9 (t.2++(uN r++u))).1≠0:=by
   rw[hf];rcases h2 with⟨h2|h2,_⟩ |⟨h2,_⟩<;>rw[h2]<;>decide
  rw[NA,aVy,ZL hne h0,hf,aWW,ih];rfl
theorem aRW {s:pD}(hs:s≠[]) (h0:(s9 s).1≠0):(s9 s).1=1\/(s9 s).1=2\/(s9 s).1=3:=(QA hs).2.2.2.resolve_left h0
theorem aRX {s:pD}(h:xH s=true):s.head? =some 60:=by
 cases hh:decide (s.head? =some 60) with
 |true=>exact aV4 hh
 |false=>rw[aKN (of_decide_eq_false hh)] at h;cases h
theorem aBo: ∀(P R:List TE) (s:pD),vG s=P++R->R≠[]->tG P->wL P
 |[],_,_,_,_,_=>trivial
 |t::P,R,s,h,hR,hl=>by
  have hs:s≠[]:=by
   rintro rfl;rw[aBh] at h;have:=aVL List.length h;have hp:=aVX.2 hR;simp only[aVw,aVD,List.cons_append,aVu] at this;omega
  have h0:(s9 s).1≠0:=by
   intro h0;rw[aBi hs h0] at h;have:=aVL List.length h;have hp:=aVX.2 hR;simp only[aVw,aVD,List.cons_append,aVu] at this;omega
  rw[ZL hs h0] at h;injection h with e1 e2
  have e2:vG (s.drop (s9 s).2.length)=P++R:=e2;have hne:t.2≠[]:=by
   have:=(QA hs).2.1 h0;rw[e1] at this;exact aVX.1 this
  have hrest:P=[]\/tG P:=by
   obtain⟨Q,v,hq,hv⟩:=hl;cases Q with
   |nil=>left;injection hq with _ hq
   |cons w Q=>right;injection hq with _ hq;exact⟨Q,v,hq,hv⟩
  have hseg:wL P:=by
   rcases hrest with rfl|hl2
   .trivial
   .exact aBo P R _ e2 hR hl2
  have head60: ∀{x:pD},x≠[]->x.head? =some 60->(s9 x).1≠0->(s9 x).2.head? =some 60:=by
   intro x hx h1 h2;have hsp:=aKF h2;have hp:=(QA hx).2.1 h2;cases hq:(s9 x).2 with
   |nil=>rw[hq] at hp;simp at hp
   |cons b q=>rw[hsp,hq] at h1;exact h1
  refine⟨hne,?_,hseg⟩;rcases aRW hs h0 with k|k|k
  .left;refine⟨.inl (by rw[<-e1];exact k),?_,fun u=>by rw[<-e1];exact aRU k u⟩;rw[<-e1];exact head60 hs (aRX (aKJ k).1) h0
  .left;refine⟨.inr (by rw[<-e1];exact k),?_,fun u=>by rw[<-e1];exact aRS k u⟩;rw[<-e1];exact head60 hs (aKG k).2.1 h0
  .right;obtain⟨w,u,hw1,hw2,hw3,hw4,hw5⟩:=aRV hs k;have ht:t=(3,w):=by rw[<-e1];exact hw5
   have hPne:P≠[]:=by
    rintro rfl;obtain⟨Q,v,hq,hv⟩:=hl;cases Q with
    |nil=>injection hq with hq _;rw[<-hq,ht] at hv;simp at hv
    |cons x Q=>injection hq with _ hq;have:=aVL List.length hq;simp at this
   have hu:s.drop (s9 s).2.length=u:=by rw[hw5,hw1,aWW]
   rw[hu] at e2;refine⟨by rw[ht],by rw[ht];exact hw3,?_⟩;cases P with
   |nil=>exact absurd rfl hPne
   |cons v q=>
    refine⟨v,q,rfl,?_⟩;rcases hw4 with rfl|hu60
    .rw[aBh] at e2;have:=aVL List.length e2;have hp:=aVX.2 hR;simp only[aVw,aVD,List.cons_append,aVu] at this;omega
    .have hune:u≠[]:=by rintro rfl;cases hu60
     by_cases hu0:(s9 u).1=0
     .rw[aBi hune hu0] at e2;have:=aVL List.length e2;have hp:=aVX.2 hR;simp only[aVw,aVD,List.cons_append,aVu] at this;omega
     .rw[ZL hune hu0] at e2;injection e2 with e3 _
      rw[<-e3];exact head60 hune hu60 hu0
end
noncomputable section
theorem aRY {T:List TE}(h:QC T):T≠[]:=by
 rintro rfl;have:=h.1;simp [r9,rS,eN] at this
theorem aKO: ∀(Ps:List (List TE)) (ys:List s0) (T:List TE) (u:pD),vG u=Ps.flatten++T->D9 Ps ys->T≠[]->∃tl,u=(Ps.map uN).flatten++tl/\vG tl=T/\∀P∈Ps,wL P
 |[],_,T,u,h,_,_=>⟨u,rfl,h,fun P hP=>by cases hP⟩
 |P::Ps,ys,T,u,h,he,hT=>by
  cases he with
  |cons h1 h2=>
   rw[aWt,aVy] at h;have hR:Ps.flatten++T≠[]:=by simp [hT]
   have hs:=aBo P _ u h hR h1.lst;obtain⟨v,e1,e2⟩:=aBj P _ u h hR;obtain⟨tl,a1,a2,a3⟩:=aKO Ps _ T v e2 h2 hT;refine⟨tl,?_,a2,fun Q hQ=> ?_⟩
   .rw[e1,a1,aWy,aWt,aVy]
   .rcases aVH.1 hQ with rfl|hQ
    .exact hs
    .exact a3 Q hQ
structure UQ (s:pD) (c:C4) (H:List TE) (Ps:List (List TE)) (tl:pD):Prop where
 eq:s=uN H++((Ps.map uN).flatten++tl)
 lx:vG s=H++(Ps.flatten++vG tl)
 hd:UP H c.1 (c.2.1,c.2.2.1)
 ents:D9 Ps c.2.2.2.1
 inv:FE c.2.2.2.1
 tail:QC (vG tl)
 ok:x6 c=true
 segH:wL H
 segP: ∀P∈Ps,wL P
theorem aRZ {s:pD}{c:C4}{ks:pQ}(h:E4 (vG s)=some (c,ks)): ∃H Ps tl,UQ s c H Ps tl/\ks=(Ps.flatten++vG tl).length::E9 Ps (vG tl).length:=by
 obtain⟨H,Ps,T,h1,h2,h3,h4,h5,h6,h7⟩:=aRP h;have hT:=aRY h4;have hR:Ps.flatten++T≠[]:=by simp [hT]
 have hs:=aBo H _ s h1 hR h2.lst;obtain⟨u,e1,e2⟩:=aBj H _ s h1 hR;obtain⟨tl,a1,a2,a3⟩:=aKO Ps _ T u e2 h3 hT;subst a2;exact⟨H,Ps,tl,⟨by rw[e1,a1],h1,h2,h3,h7,h4,h6,hs,a3⟩,h5⟩
theorem aKP: ∀(Ps:List (List TE)) (tl:pD),(∀P∈Ps,wL P)->vG ((Ps.map uN).flatten++tl)=Ps.flatten++vG tl
 |[],_,_=>rfl
 |P::Ps,tl,h=>by
  rw[aWy,aWt,aVy,aBn P (h P aVz),aKP Ps tl (fun Q hQ=>h Q (aVB _ hQ)),aWt,aVy]
theorem aR0 {c:C4}{H:List TE}{Ps:List (List TE)}{tl:pD}(h1:UP H c.1 (c.2.1,c.2.2.1)) (h2:D9 Ps c.2.2.2.1) (h3:FE c.2.2.2.1) (h4:QC (vG tl)) (h5:wL H) (h6: ∀P∈Ps,wL P):
  UQ (uN H++((Ps.map uN).flatten++tl)) c H Ps tl/\E4 (vG (uN H++((Ps.map uN).flatten++tl)))=some (c,(Ps.flatten++vG tl).length::E9 Ps (vG tl).length):=by
 have hl:vG (uN H++((Ps.map uN).flatten++tl))=H++(Ps.flatten++vG tl):=by rw[aBn H h5,aKP Ps tl h6]
 exact⟨⟨rfl,hl,h1,h2,h3,h4,aJD h1.tagk h1.com h1.fld h3,h5,h6⟩,by rw[hl];exact aRQ h1 h2 h3 h4⟩
theorem aKQ {s:pD}(hs:s.length<=900000000):
  (∃c H Ps tl,UQ s c H Ps tl/\(∃ks,E4 (vG s)=some (c,ks))/\z8 s=some (c.1,c.2.1,c.2.2.1,c.2.2.2.1,0,0))\/
  (∃p e,e≠0/\E4 (vG s)=none/\z8 s=some ([],[],[],[],p,e)):=by
 obtain⟨r,hr,hm⟩:=aRn hs;cases hp:E4 (vG s) with
 |none=>
  rw[hp] at hm;right;refine⟨r.2.1,r.2.2.1,hm,rfl,?_⟩;unfold z8;rw[hr,aVq,aVs (by simpa using hm)]
 |some w=>
  obtain⟨c,ks⟩:=w;rw[hp] at hm;obtain⟨m1,m2,m3⟩:=hm;obtain⟨H,Ps,tl,hb,hk⟩:=aRZ hp;left;refine⟨c,H,Ps,tl,hb,⟨ks,rfl⟩,?_⟩;unfold z8;rw[hr,aVq,aVv (by rw[m1];decide),<-m2]
end
noncomputable section
theorem aBp (s:pD):tC s [32]=Lib.splitK [32] 0 (Lib.count s [32]) s:=by
 unfold tC;rw[Lib.splitB_data]
theorem aR1 {s:pD}(h: ∀b∈s,b≠32):Lib.index s [32]= -1:=by
 rw[Lib.index_one]
 induction s with
 |nil=>rfl
 |cons b w ih=>
  have ih:=ih (fun c hc=>h c (aVB _ hc));have hb: ¬(b==32)=true:=by simpa using h b aVz
  unfold Lib.indexByte;rw[aVv hb,ih];rfl
theorem aR2 {w u:pD}(h: ∀b∈w,b≠32):Lib.index (w++32::u) [32]=w.length:=by
 rw[Lib.index_one]
 induction w with
 |nil=>rfl
 |cons b w ih=>
  have ih:=ih (fun c hc=>h c (aVB _ hc));have hb: ¬(b==32)=true:=by simpa using h b aVz
  rw[List.cons_append];unfold Lib.indexByte;rw[aVv hb,ih,aVv pI,aVw];omega
theorem aR3 {s:pD}(h: ∀b∈s,b≠32):tC s [32]=[s]:=by
 rw[aBp,Lib.count_miss (aR1 h)];rfl
theorem aR4 {x r:pD}(h: ∀b∈x,b≠32):tC (x++32::r) [32]=x::tC r [32]:=by
 have hi:=aR2 (u:=r) h;have hd:(x++32::r).drop (x.length+1)=r:=by
  rw[<-aXa,aWW];rfl
 rw[aBp,aBp,Lib.count_hit pI hi];rw[show (x.length+([32]:pD).length)=x.length+1 from rfl,hd,Nat.add_comm 1];unfold Lib.splitK;rw[hi,aVv pI];simp only[aWh,aWr,aWs];congr 1;rw[show (x.length+([32]:pD).length)=x.length+1 from rfl,hd];cases Lib.count r [32]<;>rfl
theorem aKR: ∀(r:pE) (x:pD),(∀y∈x::r,∀b∈y,b≠32)->tC (x++r.flatMap (fun y=>[32]++y)) [32]=x::r
 |[],x,h=>by rw[List.flatMap_nil,List.append_nil];exact aR3 (h x aVz)
 |y::r,x,h=>by
  rw[aWj];show tC (x++32::(y++r.flatMap _)) [32]=_;rw[aR4 (h x aVz),aKR r y (fun z hz=>h z (aVB _ hz))]
theorem aKS {x:pD}(h:uR x=true):x≠[]/\∀b∈x,b≠32/\b≠34/\b≠60/\b≠62:=by
 cases x with
 |nil=>cases h
 |cons c t=>
  refine⟨by simp,?_⟩;unfold uR at h;simp only[aVG,aVV,aV9] at h;have hs: ∀b:UInt8,yO b.toNat=true->b≠32/\b≠34/\b≠60/\b≠62:=by
   intro b hb;refine⟨?_,?_,?_,?_⟩<;>rintro rfl<;>exact absurd hb pH
  have hn: ∀b:UInt8,y8 b.toNat=false->b≠32/\b≠34/\b≠60/\b≠62:=by
   intro b hb;refine⟨?_,?_,?_,?_⟩<;>rintro rfl<;>exact absurd hb pH
  intro b hb;rcases aVH.1 hb with rfl|hb
  .exact hs b h.1.2
  .exact hn b (by simpa using h.2 b hb)
theorem aKT {l:pE}(h: ∀x∈l,uR x=true):tZ (vZ l [32])=l:=by
 cases l with
 |nil=>exact aKA
 |cons x r=>
  unfold tZ;rw[ZI,aKR r x (fun y hy b hb=>((aKS (h y hy)).2 b hb).1)];unfold uK;rw[List.filter_eq_self];intro y hy;simpa using(aKS (h y hy)).1
theorem aKU {l:pE}(h:l.Pairwise (· < ·)):sN l=l:=by
 have h2:l.Pairwise (·<=·):=h.imp fun hab hba=>List.lt_irrefl _ (List.lt_trans hab hba);have hp:=aAw l;exact hp.eq_of_pairwise (fun a b _ _ h1 h2=>List.le_antisymm h1 h2) (aJo l) h2
theorem aR5 {l:pE}(h:l.Pairwise (· < ·)):IN l=false:=by
 unfold IN;rw[aKU h];have:Lib.compact l=l:=Lib.compact_all l fun j hj=>by
  cases j with
  |zero=>simp [Lib.keeps]
  |succ j=>
   refine Lib.keeps_pos ?_;rw[Nat.add_sub_cancel,getElem!_pos l.toArray (j+1) (by simpa using hj),getElem!_pos l.toArray j pJ];intro e;have h1:=aWG.1 h j (j+1) pG hj pG;simp only[List.getElem_toArray] at e;rw[e] at h1;exact List.lt_irrefl _ h1
 rw[this];exact decide_eq_false (aW5 _)
structure FN (a:pD×pD×pD):Prop where
 ne:a.1≠[]
 nm: ∀b∈a.1,BL b=true
 raw: ∀b∈a.2.1,b≠34
 txt:xV a.2.1=some a.2.2
def uD (l:List (pD×pD×pD)):pD:=l.flatMap fun a=>((([32]++a.1)++[61,34])++a.2.1)++[34]
def zM (l:List (pD×pD×pD)):List sA:=l.map fun a=>(a.1,(a.2.2,()))
theorem aBq {w u:pD}(h: ∀b∈w,BL b=true) (hu:u=[]\/∃b r,u=b::r/\BL b=false):tH (w++u)=w.length:=by
 unfold tH;rcases hu with rfl|⟨b,r,rfl,hb⟩
 .rw[List.append_nil,aWO.2 (fun b hb=>by rw[h b hb];rfl)];rfl
 .have:(w++b::r).findIdx? (fun b=> !BL b)=some w.length:=by
   rw[aWi];refine⟨by simp,by simp [hb],fun j hj=> ?_⟩;rw[List.getElem_append_left hj,h _ (aWq hj)];decide
  rw[this];rfl
theorem aR6 {w u:pD}(h: ∀b∈w,b≠34):Lib.indexByte (w++34::u) 34=w.length:=by
 induction w with
 |nil=>rfl
 |cons b w ih=>
  have ih:=ih (fun c hc=>h c (aVB _ hc));have hb: ¬(b==34)=true:=by simpa using h b aVz
  rw[List.cons_append];unfold Lib.indexByte;rw[aVv hb,ih,aVv pI,aVw];omega
theorem aR7 {a:pD×pD×pD}(h:FN a) (u:pD):IM (a.1++61::34::(a.2.1++34::u))=some (a.1,a.2.2,u):=by
 have hw:tH (a.1++61::34::(a.2.1++34::u))=a.1.length:=aBq h.nm (.inr ⟨61,_,rfl,pH⟩);have hp:=aVX.2 h.ne;have hc:xL (61::34::(a.2.1++34::u)) [61,34]=(a.2.1++34::u,true):=by
  unfold xL;rw[aVs pV];rfl
 have hi:=aR6 (u:=u) h.raw;have hq:D7 (a.2.1++34::u)=(a.2.1,u,true):=by
  unfold D7;rw[hi,aVs pG];simp only[aWh,aWs];congr 1;rw[<-aXa,aWW];rfl
 unfold IM;rw[hw,aVv pG,aWW,hc,aVv pI];dsimp only;rw[hq,aVv pI];dsimp only;rw[h.txt,aWs]
theorem aKV: ∀(l:List (pD×pD×pD)) (acc:List sA) (n:Nat),(∀a∈l,FN a)->l.length<n->(l.map (·.1)).Nodup->(∀a∈l,∀f∈acc,f.1≠a.1)->E2 n (uD l) acc false=some (acc++zM l,false)
 |[],acc,n,_,hn,_,_=>by
  obtain⟨n,rfl⟩: ∃k,n=k+1:=⟨n-1,by simp at hn;omega⟩;simp [E2,uD,zM]
 |a::l,acc,n,h,hn,hd,hacc=>by
  obtain⟨n,rfl⟩: ∃k,n=k+1:=⟨n-1,by simp at hn;omega⟩;have ha:=h a aVz;have e1:uD (a::l)=32::(a.1++61::34::(a.2.1++34::uD l)):=by
   unfold uD;rw[aWj];simp
  have e2:(uD (a::l)).dropWhile blk=a.1++61::34::(a.2.1++34::uD l):=by
   rw[e1,List.dropWhile_cons,aVs pH];cases hn1:a.1 with
   |nil=>exact absurd hn1 ha.ne
   |cons b r=>
    have hb:=ha.nm b (by rw[hn1];exact aVz);have:blk b=false:=by
     cases hq:blk b with
     |false=>rfl
     |true=>
      unfold blk at hq;have hm:b∈([32,9,10,13]:pD):=by simpa using hq
      simp only[aVH,aW4,or_false] at hm;rcases hm with rfl|rfl|rfl|rfl<;>exact absurd hb pH
    rw[List.cons_append,List.dropWhile_cons,this];rfl
  rw[aWy,List.nodup_cons] at hd;have hne:a.1++61::34::(a.2.1++34::uD l)≠[]:=by simp
  have htw:(false||acc.any fun x=>decide (x.1=a.1))=false:=by
   rw[Bool.false_or,aV9];intro f hf;simpa using hacc a aVz f hf
  unfold E2;rw[e2,aVv hne,aR7 ha];dsimp only;rw[aVv (by rw[e1,aVw];omega),htw,aKV l _ n (fun b hb=>h b (aVB _ hb)) (by simpa using hn) hd.2 (fun b hb f hf=> ?_)]
  .simp [zM]
  .rcases aWd.1 hf with hf|hf
   .exact hacc b (aVB _ hb) f hf
   .rw[aVJ.1 hf];intro e;exact hd.1 (List.mem_map.2 ⟨b,hb,e.symm⟩)
end
noncomputable section
def vM (name:pD) (l:List (pD×pD×pD)):pD:=60::(name++(uD l++[62]))
def wB (name:pD):pD:=60::47::(name++[62])
structure QD (t:TE):Prop where
 two:t.1=2
 hd:t.2.head? =some 60
 fst: ∀u,s9 (t.2++u)=t
theorem QD.ne {t:TE}(h:QD t):t.2≠[]:=by
 intro e;have:=h.hd;rw[e] at this;cases this
theorem aBr {t:TE}{P:List TE}(h:QD t) (hP:wL P):wL (t::P):=⟨h.ne,.inl ⟨.inr h.two,h.hd,h.fst⟩,hP⟩
theorem UR {w:pD}{t:TE}{P:List TE}(hw:w≠[]) (h: ∀b∈w,b≠60) (ht:QD t) (hP:wL P):wL ((3,w)::t::P):=⟨hw,.inr ⟨rfl,h,t,P,rfl,ht.hd⟩,aBr ht hP⟩
theorem aBs: ∀{P Q:List TE},wL P->tG P->wL Q->wL (P++Q)
 |[],_,_,_,hQ=>hQ
 |t::P,Q,h,hl,hQ=>by
  obtain⟨h1,h2,h3⟩:=h;have hrest:P=[]\/tG P:=by
   obtain⟨A,v,hq,hv⟩:=hl;cases A with
   |nil=>left;injection hq with _ hq
   |cons w A=>right;injection hq with _ hq;exact⟨A,v,hq,hv⟩
  have h4:wL (P++Q):=by
   rcases hrest with rfl|hl2
   .exact hQ
   .exact aBs h3 hl2 hQ
  refine⟨h1,?_,h4⟩;rcases h2 with h2|⟨h2,h5,v,q,rfl,hv⟩
  .exact .inl h2
  .exact .inr ⟨h2,h5,v,q++Q,rfl,hv⟩
theorem aKW (q:Bool) (b:UInt8) (r:pD):clo q (b::r)=if b=34 then(clo (!q) r).map (· +1) else if b=62/\q=false then some 0 else(clo q r).map (· +1):=rfl
theorem ZO: ∀(w r:pD),(∀b∈w,b≠34/\b≠62)->clo false (w++r)=(clo false r).map (· +w.length)
 |[],r,_=>by cases h:clo false r<;>simp [h]
 |b::w,r,h=>by
  have hb:=h b aVz;rw[List.cons_append,aKW,aVv hb.1,aVv (fun e=>hb.2 e.1),ZO w r (fun c hc=>h c (aVB _ hc)),Option.map_map];congr 1
theorem aKX: ∀(w r:pD),(∀b∈w,b≠34)->clo true (w++34::r)=(clo false r).map (· +(w.length+1))
 |[],r,_=>by
  show (if (34:UInt8)=34 then(clo (!true) r).map (· +1) else _)=_;rw[aVs rfl];rfl
 |b::w,r,h=>by
  have hb:=h b aVz;rw[List.cons_append,aKW,aVv hb,aVv pI,aKX w r (fun c hc=>h c (aVB _ hc)),Option.map_map];congr 1
theorem IT {b:UInt8}(h:BL b=true):b≠34/\b≠62/\b≠47/\b≠33/\b≠60:=by
 refine⟨?_,?_,?_,?_,?_⟩<;>rintro rfl<;>exact absurd h pH
theorem ZP (a:pD×pD×pD) (l:List (pD×pD×pD)):uD (a::l)=(32::(a.1++[61]))++34::(a.2.1++34::uD l):=by
 unfold uD;rw[aWj];simp
theorem aKY: ∀(l:List (pD×pD×pD)) (r:pD),(∀a∈l,FN a)->clo false (uD l++r)=(clo false r).map (· +(uD l).length)
 |[],r,_=>by
  show clo false r=(clo false r).map (· +0);cases clo false r<;>rfl
 |a::l,r,h=>by
  have ha:=h a aVz;have ih:=aKY l r (fun b hb=>h b (aVB _ hb));have e:uD (a::l)++r=(32::(a.1++[61]))++34::(a.2.1++34::(uD l++r)):=by rw[ZP];simp
  have hq:clo false (34::(a.2.1++34::(uD l++r)))=(clo true (a.2.1++34::(uD l++r))).map (· +1):=by
   show (if (34:UInt8)=34 then(clo (!false) _).map (· +1) else _)=_;rw[aVs rfl];rfl
  rw[e,ZO _ _ (fun b hb=>by
   rcases aVH.1 hb with rfl|hb
   .decide
   .rcases aWd.1 hb with hb|hb
    .exact⟨(IT (ha.nm b hb)).1,(IT (ha.nm b hb)).2.1⟩
    .rw[aVJ.1 hb];decide),hq,aKX _ _ ha.raw,ih,ZP]
  simp only[Option.map_map,aVu,aVw,aVD];congr 1;funext x;simp only[Function.comp];omega
theorem ZQ {name:pD}{l:List (pD×pD×pD)}(hn:name≠[]) (hs: ∀b∈name,BL b=true) (hl: ∀a∈l,FN a):QD (2,vM name l):=by
 refine⟨rfl,rfl,fun u=> ?_⟩;dsimp only;have hc:clo false (vM name l++u)=some (name.length+(uD l).length+1):=by
  have e:vM name l++u=(60::name)++(uD l++62::u):=by unfold vM;simp
  rw[e,ZO _ _ (fun b hb=>by
   rcases aVH.1 hb with rfl|hb
   .decide
   .exact⟨(IT (hs b hb)).1,(IT (hs b hb)).2.1⟩),aKY l _ hl]
  have:clo false (62::u)=some 0:=rfl;rw[this];simp only[Option.map_some,aVw];congr 1;omega
 have hnote:xH (vM name l++u)=false:=by
  unfold xH;refine decide_eq_false fun e=> ?_;cases name with
  |nil=>exact hn rfl
  |cons b r=>
   have hb:=(IT (hs b aVz)).2.2.2.1;have h2:=aVL (fun x=>x[1]?) e;have h3:((vM (b::r) l++u).take 4)[1]? =some b:=by
    rw[aWL,aVs pG];rfl
   have h4:M5[1]? =some 33:=rfl;rw[h3,h4] at h2;exact hb (aVx h2)
 rw[ZM hnote rfl hc];congr 1;have hlen:(vM name l).length=name.length+(uD l).length+1+1:=by
  unfold vM;simp only[aVw,aVu,aVD];omega
 rw[<-hlen,aWs]
theorem aR8 (l:List (pD×pD×pD)):uD l=[]\/∃q,uD l=q++[34]:=by
 rcases List.eq_nil_or_concat l with rfl|⟨l',a,rfl⟩
 .exact .inl rfl
 .right;refine⟨uD l'++((([32]++a.1)++[61,34])++a.2.1),?_⟩;unfold uD;simp
theorem aKZ {q:pD}{z:UInt8}:(q++[z]).drop ((q++[z]).length-1)=[z]:=by
 rw[aVu,aWR,Nat.add_sub_cancel,aWW]
theorem NB {name:pD}{l:List (pD×pD×pD)}(hn:name≠[]) (hs: ∀b∈name,BL b=true) (hl: ∀a∈l,FN a) (hd:(l.map (·.1)).Nodup):v7 (2,vM name l)=(1,name,zM l,false):=by
 have hi:((vM name l).drop 1).take ((vM name l).length-2)=name++uD l:=by
  unfold vM;rw[List.drop_one,List.tail_cons,<-aVy];simp only[aVw,aVu,aVD];rw[show name.length+(uD l).length+(0+1)+1-2=(name++uD l).length by rw[aVu];omega,aWs]
 have hlen:(vM name l).length-3=(name++uD l).length-1:=by
  unfold vM;simp only[aVw,aVu,aVD];omega
 have h47:(name++uD l).take 1≠[47]:=by
  cases name with
  |nil=>exact absurd rfl hn
  |cons b r=>
   intro e;rw[List.cons_append,List.take_succ_cons] at e;injection e with e1 _
   exact(IT (hs b aVz)).2.2.1 e1
 have hlast:(name++uD l).drop ((name++uD l).length-1)≠[47]:=by
  rcases aR8 l with h|⟨q,h⟩
  .rw[h,List.append_nil];rcases List.eq_nil_or_concat name with e|⟨q,z,e⟩
   .exact absurd e hn
   .rw[List.concat_eq_append] at e;rw[e,aKZ];intro e2;injection e2 with e3 _
    exact(IT (hs z (by rw[e];simp))).2.2.1 e3
  .rw[h,<-aVy,aKZ];decide
 have hw:tH (name++uD l)=name.length:=by
  refine aBq hs ?_;cases l with
  |nil=>exact .inl rfl
  |cons a l=>exact .inr ⟨32,_,by rw[ZP];rfl,pH⟩
 have hp:=aVX.2 hn;have hr:AY (vM name l)=some (1,name,zM l,false):=by
  unfold AY;rw[hi,hlen,aVv h47,aVv hlast];dsimp only;rw[hw,aVv pG,aWW,aWs,aKV l [] _ hl ?_ hd (fun a _ f hf=>by cases hf)]
  .rfl
  .have:l.length<=(uD l).length:=by
    clear hi hlen h47 hlast hw hd
    induction l with
    |nil=>simp
    |cons a l ih=>
     have:=ih (fun b hb=>hl b (aVB _ hb));rw[ZP];simp only[aVw,aVu];omega
   rw[aVu];omega
 show (if (2:Int)=2 then(AY (vM name l)).getD eN else eN)=_;rw[aVs rfl,hr];rfl
theorem aK0 {name:pD}(hs: ∀b∈name,BL b=true):QD (2,wB name):=by
 refine⟨rfl,rfl,fun u=> ?_⟩;dsimp only;have hc:clo false (wB name++u)=some (name.length+2):=by
  have e:wB name++u=(60::47::name)++(62::u):=by unfold wB;simp
  rw[e,ZO _ _ (fun b hb=>by
   rcases aVH.1 hb with rfl|hb
   .decide
   .rcases aVH.1 hb with rfl|hb
    .decide
    .exact⟨(IT (hs b hb)).1,(IT (hs b hb)).2.1⟩)]
  have:clo false (62::u)=some 0:=rfl;rw[this];simp only[Option.map_some,aVw];congr 1;omega
 have hnote:xH (wB name++u)=false:=by
  unfold xH;refine decide_eq_false fun e=> ?_;have h2:=aVL (fun x=>x[1]?) e;have h3:((wB name++u).take 4)[1]? =some 47:=by
   rw[aWL,aVs pG];rfl
  have h4:M5[1]? =some 33:=rfl;rw[h3,h4] at h2;cases h2
 rw[ZM hnote rfl hc];congr 1;have hlen:(wB name).length=name.length+2+1:=by
  unfold wB;simp only[aVw,aVu,aVD]
 rw[<-hlen,aWs]
theorem aK1 {name:pD}(hn:name≠[]) (hs: ∀b∈name,BL b=true):(v7 (2,wB name)).1=3/\(v7 (2,wB name)).2.1=name:=by
 have hi:((wB name).drop 1).take ((wB name).length-2)=47::name:=by
  unfold wB;rw[List.drop_one,List.tail_cons];simp only[aVw,aVu,aVD];rw[show name.length+(0+1)+1+1-2=(47::name).length by rw[aVw];omega,<-List.cons_append,aWs]
 have hw:tH name=name.length:=by
  have:=aBq (u:=[]) hs (.inl rfl);rwa [List.append_nil] at this
 have hp:=aVX.2 hn;have hr:AY (wB name)=some (3,name,[],false):=by
  unfold AY;rw[hi,aVs pV,List.drop_one,List.tail_cons,hw,aWl,List.take_length,aVv (by simp [KL,hn])]
 have he:v7 (2,wB name)=(3,name,[],false):=by
  show (if (2:Int)=2 then(AY (wB name)).getD eN else eN)=_;rw[aVs rfl,hr];rfl
 rw[he];exact⟨rfl,rfl⟩
end
noncomputable section
theorem aR9:((List.range 256).all fun b=>decide (uT b≠[])&&((uT b).all fun c=>decide (c≠60)&&decide (c≠34)))=true:=by kernel_rfl
theorem aK2 (b:UInt8):uT b.toNat≠[]/\∀c∈uT b.toNat,c≠60/\c≠34:=by
 have h:=aWa.1 aR9 b.toNat (aWN.2 (UInt8.toNat_lt b));simp only[aVG,aVE,aWa] at h;exact h
theorem aSa {s:pD}(h:s≠[]):v6 s≠[]:=by
 cases s with
 |nil=>exact absurd rfl h
 |cons b s=>
  unfold v6;rw[aWj];simp [(aK2 b).1]
theorem aBt {s:pD}: ∀c∈v6 s,c≠60/\c≠34:=by
 intro c hc;unfold v6 at hc;obtain⟨b,_,hb⟩:=List.mem_flatMap.1 hc;exact(aK2 b).2 c hb
def KR (s:pD):List TE:=if s=[] then[] else[(3,v6 s)]
def vN (ind name:pD) (l:List (pD×pD×pD)) (s:pD):List TE:=(3,10::ind)::(2,vM name l)::(KR s++[(2,wB name)])
theorem QE (ind name:pD) (l:List (pD×pD×pD)) (s:pD):uN (vN ind name l s)=E5 ind name (uD l) s:=by
 unfold vN E5 KR vM wB uN;by_cases h:s=[]
 .subst h;simp [v6]
 .simp [h]
structure B1 (name:pD):Prop where
 ne:name≠[]
 sm: ∀b∈name,BL b=true
theorem US:B1 yQ:=⟨pH,pH⟩
theorem UT:B1 yB:=⟨pH,pH⟩
theorem ZR:B1 wU:=⟨pH,pH⟩
theorem ZS:B1 zB:=⟨pH,pH⟩
theorem NC:B1 zL:=⟨pH,pH⟩
theorem ZT:B1 yC:=⟨pH,pH⟩
theorem ZU:B1 zC:=⟨pH,pH⟩
theorem QF (ind name:pD) (l:List (pD×pD×pD)) (s:pD):tG (vN ind name l s):=by
 unfold vN;exact(tG.app (P:=KR s) (tG.one (t:=(2,wB name)) rfl)).cons.cons
theorem QG {ind name:pD}{l:List (pD×pD×pD)}{s:pD}(hi: ∀b∈ind,b≠60) (hn:B1 name) (hl: ∀a∈l,FN a):wL (vN ind name l s):=by
 have hc:=aK0 hn.sm;unfold vN;refine UR pI (fun b hb=> ?_) (ZQ hn.ne hn.sm hl) ?_
 .rcases aVH.1 hb with rfl|hb
  .decide
  .exact hi b hb
 .unfold KR;by_cases h:s=[]
  .rw[aVs h];exact aBr hc trivial
  .rw[aVv h];exact UR (aSa h) (fun b hb=>(aBt b hb).1) hc trivial
theorem aSb {ind:pD}(h: ∀b∈ind,blk b=true):vK (3,10::ind)=true:=by
 unfold vK KL;have:(List.all (10::ind) blk)=true:=aWa.2 fun b hb=>by
  rcases aVH.1 hb with rfl|hb
  .decide
  .exact h b hb
 rw[this];rfl
theorem UU {t:TE}{R:List TE}(h:t.1=2):r9 (t::R)=t::R:=by
 unfold r9;rw[List.dropWhile_cons];have:vK t=false:=by unfold vK;rw[h];rfl
 rw[this];rfl
theorem ZV {t:TE}{R:List TE}(h:vK t=true):r9 (t::R)=r9 R:=by
 unfold r9;rw[List.dropWhile_cons,h];rfl
theorem KS {ind name:pD}{l:List (pD×pD×pD)}{s:pD}(hi: ∀b∈ind,blk b=true) (R:List TE):r9 (vN ind name l s++R)=(2,vM name l)::(KR s++((2,wB name)::R)):=by
 have e:vN ind name l s++R=(3,10::ind)::(2,vM name l)::(KR s++((2,wB name)::R)):=by unfold vN;simp
 rw[e,ZV (aSb hi),UU rfl]
theorem ZW {x:xW}{name:pD}{l:List (pD×pD×pD)}{s:pD}(hn:B1 name) (hx:x.1≠2) (hx2:x.2.1=name) (hs:sZ s=true) (R:List TE):yA x ((2,vM name l)::(KR s++((2,wB name)::R)))=some (s,R):=by
 have hc:=aK1 hn.ne hn.sm;have hnd:uW x.2.1 ((2,wB name)::R)=some R:=by rw[ZJ,aVs ⟨hc.1,hc.2.trans hx2.symm⟩]
 unfold KR;by_cases h:s=[]
 .rw[aVs h];subst h;show yA x ((2,vM name l)::(2,wB name)::R)=_;rw[UN x _ _ _ hx,aVv pI,hnd];rfl
 .rw[aVv h];show yA x ((2,vM name l)::(3,v6 s)::(2,wB name)::R)=_;rw[UN x _ _ _ hx,aVs rfl];dsimp only;rw[aAP hs];dsimp only;rw[hnd];rfl
theorem aSc {s:pD}(h:v6 s=s) (ht:sZ s=true):xV s=some s:=by
 have:=aAP ht;rwa [h] at this
theorem ZX {n s:pD}(hn:B1 n) (h:v6 s=s) (ht:sZ s=true):FN (n,s,s):=⟨hn.ne,hn.sm,fun b hb=>by rw[<-h] at hb;exact(aBt b hb).2,aSc h ht⟩
theorem aSd {n s:pD}(hn:B1 n) (ht:sZ s=true):FN (n,v6 s,s):=⟨hn.ne,hn.sm,fun b hb=>(aBt b hb).2,aAP ht⟩
theorem nmN:B1 vL:=⟨pH,pH⟩
theorem nmI:B1 uG:=⟨pH,pH⟩
theorem aSg:B1 xF:=⟨pH,pH⟩
theorem aSh:B1 uM:=⟨pH,pH⟩
theorem aSi:B1 wJ:=⟨pH,pH⟩
def EA (f:sA):List (pD×pD×pD):=[(vL,f.1,f.1)]
theorem aBu {f:sA}(h:uR f.1=true): ∀a∈EA f,FN a:=by
 intro a ha;rw[aVJ.1 ha];exact ZX nmN (aRq h) (aAI h)
theorem aK3 {ind s:pD}(hi: ∀b∈ind,blk b=true) (R:List TE):rS (r9 (vN ind yQ [] s++R))=(1,yQ,[],false):=by
 rw[KS hi];exact NB US.ne US.sm (fun a ha=>by cases ha) .nil
theorem aK4 {ind:pD}{f:sA}(h:uR f.1=true) (hi: ∀b∈ind,blk b=true) (R:List TE):rS (r9 (vN ind yB (EA f) f.2.1++R))=(1,yB,[(vL,(f.1,()))],false):=by
 rw[KS hi];exact NB UT.ne UT.sm (aBu h) (by simp [EA])
theorem aK5 {ind s:pD}{cs:pE}(hi: ∀b∈ind,blk b=true) (hs:sZ s=true) (hc:cs.length≠20) (R:List TE):AF (1,yQ,[],false) cs (r9 (vN ind yQ [] s++R))=some (cs++[s],R):=by
 unfold AF;rw[aVs ⟨rfl,rfl,hc⟩,KS hi,ZW US pI rfl hs];rfl
theorem aSj {l:List sA}{n v:pD}(h: ∀y∈l,y.1<n):GQ l n v=l++[(n,(v,()))]:=by
 have h1:BK l n=none:=by
  unfold BK;rw[aWO];intro y hy;have:=h y hy;simp only[aWb];intro he;rw[he] at this;exact List.lt_irrefl _ this
 have hk:GP l n=l.length:=by
  unfold GP;rw[aWO.2 fun y hy=>by rw[II];simp [h y hy]];rfl
 unfold GQ;rw[h1,hk,List.take_length,aWl,List.append_nil];rfl
theorem aK6 {ind:pD}{f:sA}{fs:List sA}(hi: ∀b∈ind,blk b=true) (hn:uR f.1=true) (hs:sZ f.2.1=true) (hlt: ∀y∈fs,y.1<f.1) (hc:fs.length≠20) (R:List TE):AG (1,yB,[(vL,(f.1,()))],false) fs (r9 (vN ind yB (EA f) f.2.1++R))=some (fs++[f],R):=by
 have hg:sC [(vL,(f.1,()))] vL=f.1:=by
  unfold sC;rw[List.foldl_cons,List.foldl_nil,aVs rfl]
 have hall:xM [(vL,(f.1,()))] [vL] [vL]=true:=by
  unfold xM;simp
 have hany:(fs.any fun y=>decide (y.1=sC [(vL,(f.1,()))] vL))=false:=by
  rw[hg,aV9];intro y hy e;have:=hlt y hy;rw[aV4 e] at this;exact List.lt_irrefl _ this
 unfold AG;rw[aVs ⟨hall,by simpa using hn,rfl,hany,hc⟩,KS hi,ZW UT pI rfl hs];show some (GQ fs (sC [(vL,(f.1,()))] vL) f.2.1,R)=_;rw[hg,aSj hlt]
end
noncomputable section
abbrev FO (n:Int):pD:=qQ .str ([[110,101,119],[102,117,122,122,121],[116,114,97,110,115,108,97,116,101,100],[114,101,118,105,101,119,101,100],[111,98,115,111,108,101,116,101]]:pE) n
def xN (x:uC):List (pD×pD×pD):=
 (uG,v6 x.1,x.1)::((if x.2.2.2.2.2.1=0 then[] else[(xF,FO x.2.2.2.2.2.1,FO x.2.2.2.2.2.1)])++(if x.2.2.2.2.1=[] then[] else[(uM,vZ x.2.2.2.2.1 [32],vZ x.2.2.2.2.1 [32])]))
theorem aBv {n:Int}(h0:0<=n) (h4:n<=4):v6 (FO n)=FO n/\sZ (FO n)=true/\AV (FO n)=n:=by
 have:n=0\/n=1\/n=2\/n=3\/n=4:=by omega
 rcases this with rfl|rfl|rfl|rfl|rfl<;>exact⟨pU,pU,pU⟩
theorem UV {x:pD}(h:uR x=true):x.length<=40/\∀b∈x,uT b.toNat=[b]/\b.toNat<128:=by
 cases x with
 |nil=>cases h
 |cons c t=>
  unfold uR at h;simp only[aVG,aVV,aV9,aWb] at h;refine⟨by rw[aVw];omega,fun b hb=> ?_⟩;rcases aVH.1 hb with rfl|hb
  .refine⟨(UI b).2.2 h.1.2,?_⟩;have:=h.1.2;unfold yO at this;simp only[aVG,aVE] at this;omega
  .have h2:y8 b.toNat=false:=by simpa using h.2 b hb
   exact⟨(UI b).1 h2,aJz h2⟩
theorem aK7 {l:pE}(h: ∀x∈l,uR x=true) (hl:l.length<=20):v6 (vZ l [32])=vZ l [32]/\sZ (vZ l [32])=true:=by
 have hb: ∀b∈vZ l [32],uT b.toNat=[b]/\b.toNat<128:=by
  intro b hb;cases l with
  |nil=>simp [vZ,Lib.join_nil] at hb
  |cons x r=>
   rw[ZI] at hb;rcases aWd.1 hb with hb|hb
   .exact(UV (h x aVz)).2 b hb
   .obtain⟨y,hy,hb⟩:=List.mem_flatMap.1 hb;rcases aWd.1 hb with hb|hb
    .rw[aVJ.1 hb];exact⟨pU,pH⟩
    .exact(UV (h y (aVB _ hy))).2 b hb
 have hlen:(vZ l [32]).length<=1000:=by
  cases l with
  |nil=>simp [vZ,Lib.join_nil]
  |cons x r=>
   rw[ZI,aVu];have h2:=(UV (h x aVz)).1;have h3:=N4 (l:=r) (h:=fun y=>[32]++y) (B:=41) fun y hy=>by
    have:=(UV (h y (aVB _ hy))).1;simp only[aVu,aVw,aVD];omega
   simp only[aVw] at hl;have h4:r.length*41<=20*41:=aWK _ pG;omega
 refine⟨aA3 fun b hb2=>(hb b hb2).1,?_⟩;unfold sZ;rw[aVS (show ((vZ l [32]).length:Int)<=4000 by omega),aAH fun b hb2=>(hb b hb2).2];rfl
structure UW (x:uC):Prop where
 ne:x.1≠[]
 len:x.1.length<=200
 id:sZ x.1=true
 src:sZ x.2.1=true
 tgt:sZ x.2.2.1=true
 com:vW x.2.2.2.1=true
 flg:DY x.2.2.2.2.1=true
 r0:0<=x.2.2.2.2.2.1
 r4:x.2.2.2.2.2.1<=4
 fld:vQ x.2.2.2.2.2.2.1=true
theorem aBw {x:uC}(h:y9 x=true):UW x:=by
 unfold y9 at h;simp only[aVG,aVE,aVV,aWb] at h;obtain⟨⟨⟨⟨⟨⟨⟨⟨h1,h2⟩,h3⟩,h4⟩,h5⟩,h6⟩,h7⟩,h8,h9⟩,h10⟩:=h;exact⟨h1,pG,h3,h4,h5,h6,h7,h8,h9,h10⟩
theorem aK8 {x:uC}(h:UW x): ∀a∈xN x,FN a:=by
 obtain⟨f1,f2,f3⟩:=UB h.flg;obtain⟨s1,s2,s3⟩:=aBv h.r0 h.r4;obtain⟨j1,j2⟩:=aK7 f2 f1;intro a ha;unfold xN at ha;rcases aVH.1 ha with rfl|ha
 .exact aSd nmI h.id
 .rcases aWd.1 ha with ha|ha
  .split at ha
   .cases ha
   .rw[aVJ.1 ha];exact ZX aSg s1 s2
  .split at ha
   .cases ha
   .rw[aVJ.1 ha];exact ZX aSh j1 j2
theorem aSk (x:uC):((xN x).map (·.1)).Nodup:=by
 unfold xN;by_cases h1:x.2.2.2.2.2.1=0<;>by_cases h2:x.2.2.2.2.1=[]<;>simp [h1,h2]
theorem aSl (x:uC):sC (zM (xN x)) uG=x.1/\sC (zM (xN x)) xF=(if x.2.2.2.2.2.1=0 then[] else FO x.2.2.2.2.2.1)/\sC (zM (xN x)) uM=vZ x.2.2.2.2.1 [32]:=by
 have hj:vZ [] [32]=[]:=rfl;unfold xN zM sC;by_cases h1:x.2.2.2.2.2.1=0<;>by_cases h2:x.2.2.2.2.1=[]<;>simp [h1,h2,hj]
theorem aSm (x:uC):xM (zM (xN x)) [uG] [uG,xF,uM]=true:=by
 unfold xM xN zM;by_cases h1:x.2.2.2.2.2.1=0<;>by_cases h2:x.2.2.2.2.1=[]<;>simp [h1,h2]
theorem aSn {x:uC}(h:UW x):(zM (xN x)).any AZ=false:=by
 obtain⟨f1,f2,f3⟩:=UB h.flg;obtain⟨s1,s2,s3⟩:=aBv h.r0 h.r4;rw[aV9];intro a ha;unfold zM at ha;obtain⟨b,hb,rfl⟩:=List.mem_map.1 ha;unfold xN at hb;rcases aVH.1 hb with rfl|hb
 .unfold AZ;rw[aVs rfl];have:=h.len;simp [h.ne];omega
 .rcases aWd.1 hb with hb|hb
  .split at hb
   .cases hb
   .rw[aVJ.1 hb];unfold AZ;rw[aVv (by dsimp only;decide),aVs rfl];dsimp only;rw[s3,aVS h.r0];decide
  .split at hb
   .cases hb
   .rw[aVJ.1 hb];unfold AZ;rw[aVv (by dsimp only;decide),aVv (by dsimp only;decide)];dsimp only;rw[aKT f2,aWa.2 f2];decide
def IU (x:uC):List TE:=x.2.2.2.1.flatMap (fun s=>vN i4 yQ [] s)++(((if x.2.1=[] then[] else vN i4 wU [] x.2.1)++(if x.2.2.1=[] then[] else vN i4 zB [] x.2.2.1))++x.2.2.2.2.2.2.1.flatMap (fun f=>vN i4 yB (EA f) f.2.1))
def KT:List TE:=[(3,[10,32,32]),(2,wB zL)]
def BM (x:uC):List TE:=(3,[10,32,32])::(2,vM zL (xN x))::(IU x++KT)
theorem ZY {α:Type}(l:List α) (g:α->List TE):uN (l.flatMap g)=l.flatMap fun a=>uN (g a):=by
 unfold uN;rw[List.flatMap_assoc]
theorem QH (n r v:pD):uD [(n,r,v)]=((([32]++n)++[61,34])++r)++[34]:=by
 unfold uD;rw[aWj,List.flatMap_nil,List.append_nil]
theorem aSo (x:uC):uN (BM x)=AH x:=by
 have hin:uN (IU x)=(D8 i4 x.2.2.2.1++(FJ x++E7 x))++GZ i4 x.2.2.2.2.2.2.1:=by
  unfold IU;rw[N9,N9,N9,ZY,ZY];have e1:(fun s=>uN (vN i4 yQ [] s))=GY i4:=by funext s;rw[QE];rfl
  have e2:(fun f:sA=>uN (vN i4 yB (EA f) f.2.1))=E6 i4:=by
   funext f;rw[QE];unfold EA E6;rw[QH];unfold IR;rfl
  have e3:uN (if x.2.1=[] then[] else vN i4 wU [] x.2.1)=FJ x:=by
   unfold FJ;by_cases h:x.2.1=[]
   .rw[aVs h,aVs h];rfl
   .rw[aVv h,aVv h,QE];rfl
  have e4:uN (if x.2.2.1=[] then[] else vN i4 zB [] x.2.2.1)=E7 x:=by
   unfold E7;by_cases h:x.2.2.1=[]
   .rw[aVs h,aVs h];rfl
   .rw[aVv h,aVv h,QE];rfl
  rw[e1,e2,e3,e4];unfold D8 GZ;simp only[aVy]
 have hatt:uD (xN x)=((([32,105,100,61,34]++v6 x.1)++[34])++IS x.2.2.2.2.2.1)++H0 x.2.2.2.2.1:=by
  have e0:uD (xN x)=uD [(uG,v6 x.1,x.1)]++(uD (if x.2.2.2.2.2.1=0 then[] else[(xF,FO x.2.2.2.2.2.1,FO x.2.2.2.2.2.1)])++uD (if x.2.2.2.2.1=[] then[] else[(uM,vZ x.2.2.2.2.1 [32],vZ x.2.2.2.2.1 [32])])):=by
   unfold xN uD;rw[aWj,List.flatMap_append];simp
  have e1:uD (if x.2.2.2.2.2.1=0 then[] else[(xF,FO x.2.2.2.2.2.1,FO x.2.2.2.2.2.1)])=IS x.2.2.2.2.2.1:=by
   unfold IS;by_cases h:x.2.2.2.2.2.1=0
   .rw[aVs h,aVs h];rfl
   .rw[aVv h,aVv h,QH];rfl
  have e2:uD (if x.2.2.2.2.1=[] then[] else[(uM,vZ x.2.2.2.2.1 [32],vZ x.2.2.2.2.1 [32])])=H0 x.2.2.2.2.1:=by
   unfold H0;by_cases h:x.2.2.2.2.1=[]
   .rw[aVs h,aVs h];rfl
   .rw[aVv h,aVv h,QH];rfl
  rw[e0,e1,e2,QH];simp only[aVy];rfl
 unfold BM;rw[NA,NA,N9,hin];unfold vM AH KP;rw[hatt];simp only[aVy,List.cons_append,List.nil_append];rfl
end
noncomputable section
theorem KU: ∀b∈i4,blk b=true:=by decide
theorem ZZ: ∀b∈i2,blk b=true:=by decide
theorem a0a: ∀b∈i4,b≠60:=by decide
theorem aK9: ∀b∈i2,b≠60:=by decide
theorem UX {α:Type}{g:α->List TE}{Q:List TE}(hQ:wL Q): ∀{l:List α},(∀a∈l,wL (g a)/\tG (g a))->wL (l.flatMap g++Q)
 |[],_=>hQ
 |a::l,h=>by
  rw[aWj,aVy];exact aBs (h a aVz).1 (h a aVz).2 (UX hQ fun b hb=>h b (aVB _ hb))
theorem aLa {P Q:List TE}{p:Prop}[Decidable p] (h1:wL P) (h2:tG P) (hQ:wL Q):wL ((if p then[] else P)++Q):=by
 by_cases h:p
 .rw[aVs h];exact hQ
 .rw[aVv h];exact aBs h1 h2 hQ
theorem aSp:wL KT:=UR pI pH (aK0 NC.sm) trivial
theorem aSq {x:uC}(h:UW x):wL (BM x):=by
 obtain⟨g1,g2,g3⟩:=GR h.fld;unfold BM;refine UR pI pH (ZQ NC.ne NC.sm (aK8 h)) ?_;unfold IU;simp only[aVy];refine UX ?_ fun s _=>⟨QG a0a US (fun a ha=>by cases ha),QF _ _ _ _⟩;refine aLa (QG a0a ZR (fun a ha=>by cases ha)) (QF _ _ _ _) ?_;refine aLa (QG a0a ZS (fun a ha=>by cases ha)) (QF _ _ _ _) ?_;exact UX aSp fun f hf=>⟨QG a0a UT (aBu (g2 f hf).1),QF _ _ _ _⟩
theorem aSr (x:uC):tG (BM x):=by
 unfold BM;refine(tG.app ?_).cons.cons;exact⟨[(3,[10,32,32])],(2,wB zL),rfl,rfl⟩
theorem aLb: ∀(l:pE) (st:FG) (n:Nat) (R:List TE),(∀s∈l,sZ s=true)->st.2.2.1.length+l.length<=20->
  u7 (n+l.length) st (l.flatMap (fun s=>vN i4 yQ [] s)++R)=u7 n (st.1,st.2.1,st.2.2.1++l,st.2.2.2.1,st.2.2.2.2.1,st.2.2.2.2.2) R
 |[],st,n,R,_,_=>by
  simp only[List.flatMap_nil,List.nil_append,List.append_nil,aVD,aWr]
 |s::l,st,n,R,h,hl=>by
  simp only[aVw] at hl;have ih:=aLb l (st.1,st.2.1,st.2.2.1++[s],st.2.2.2.1,st.2.2.2.2.1,st.2.2.2.2.2) n R (fun y hy=>h y (aVB _ hy)) (by simp only[aVu,aVw,aVD];omega);rw[aWj,aVy,aVw,<-aWc,u7,aK3 KU,aVv pI,aVs rfl,aK5 KU (h s aVz) pG];dsimp only;rw[ih];simp only[aVy,List.cons_append,List.nil_append]
theorem aLc: ∀(l:List sA) (st:FG) (n:Nat) (R:List TE),(∀f∈l,uR f.1=true/\sZ f.2.1=true)->(st.2.2.2.1++l).Pairwise (fun a b=>a.1<b.1)->st.2.2.2.1.length+l.length<=20->
  u7 (n+l.length) st (l.flatMap (fun f=>vN i4 yB (EA f) f.2.1)++R)=u7 n (st.1,st.2.1,st.2.2.1,st.2.2.2.1++l,st.2.2.2.2.1,st.2.2.2.2.2) R
 |[],st,n,R,_,_,_=>by
  simp only[List.flatMap_nil,List.nil_append,List.append_nil,aVD,aWr]
 |f::l,st,n,R,h,hp,hl=>by
  simp only[aVw] at hl;have hf:=h f aVz;have hlt: ∀y∈st.2.2.2.1,y.1<f.1:=fun y hy=>(aXl.1 hp).2.2 y hy f aVz;have ih:=aLc l (st.1,st.2.1,st.2.2.1,st.2.2.2.1++[f],st.2.2.2.2.1,st.2.2.2.2.2) n R (fun y hy=>h y (aVB _ hy)) (by simpa using hp) (by simp only[aVu,aVw,aVD];omega);rw[aWj,aVy,aVw,<-aWc,u7,aK4 hf.1 KU,aVv pI,aVv pI,aVs rfl,aK6 KU hf.1 hf.2 hlt pG];dsimp only;rw[ih];simp only[aVy,List.cons_append,List.nil_append]
theorem aSs (st:FG) (n:Nat) (R:List TE):u7 (n+1) st (KT++R)=some (st,R):=by
 have hc:=aK1 NC.ne NC.sm;have hs:r9 (KT++R)=(2,wB zL)::R:=by
  show r9 ((3,[10,32,32])::(2,wB zL)::R)=_;rw[ZV pH,UU rfl]
 rw[u7,hs,aVs (.inl hc.1),ZJ,aVs hc];rfl
theorem aSt {x:uC}(h:UW x): ∃K b1 b2,∀R,u7 K B0 ((IU x++KT)++R)=some ((x.2.1,x.2.2.1,x.2.2.2.1,x.2.2.2.2.2.2.1,b1,b2),R):=by
 obtain⟨c1,c2⟩:=KK h.com;obtain⟨g1,g2,g3⟩:=GR h.fld;obtain⟨b1,e2⟩: ∃b,∀n R,u7 (n+1) ([],[],[]++x.2.2.2.1,[],false,false) ((if x.2.1=[] then[] else vN i4 wU [] x.2.1)++R)=u7 (n+(if x.2.1=[] then 1 else 0)) (x.2.1,[],[]++x.2.2.2.1,[],b,false) R:=by
  by_cases hh:x.2.1=[]
  .refine⟨false,fun n R=> ?_⟩;rw[aVs hh,aVs hh,hh];rfl
  .refine⟨true,fun n R=> ?_⟩;have hp:rS (r9 (vN i4 wU [] x.2.1++R))=(1,wU,[],false):=by
    rw[KS KU];exact NB ZR.ne ZR.sm (fun a ha=>by cases ha) .nil
   rw[aVv hh,aVv hh,u7,hp,aVv pI,aVv pH,aVv pH,aVs rfl,aVs ⟨rfl,rfl,rfl⟩,KS KU,ZW ZR pI rfl h.src];rfl
 obtain⟨b2,e3⟩: ∃b,∀n R,u7 (n+1) (x.2.1,[],[]++x.2.2.2.1,[],b1,false) ((if x.2.2.1=[] then[] else vN i4 zB [] x.2.2.1)++R)=u7 (n+(if x.2.2.1=[] then 1 else 0)) (x.2.1,x.2.2.1,[]++x.2.2.2.1,[],b1,b) R:=by
  by_cases hh:x.2.2.1=[]
  .refine⟨false,fun n R=> ?_⟩;rw[aVs hh,aVs hh,hh];rfl
  .refine⟨true,fun n R=> ?_⟩;have hp:rS (r9 (vN i4 zB [] x.2.2.1++R))=(1,zB,[],false):=by
    rw[KS KU];exact NB ZS.ne ZS.sm (fun a ha=>by cases ha) .nil
   rw[aVv hh,aVv hh,u7,hp,aVv pI,aVv pH,aVv pH,aVv pH,aVs rfl,aVs ⟨rfl,rfl,rfl⟩,KS KU,ZW ZS pI rfl h.tgt];rfl
 refine⟨((((1+x.2.2.2.2.2.2.1.length)+(if x.2.2.1=[] then 0 else 1))+(if x.2.1=[] then 0 else 1))+x.2.2.2.1.length),b1,b2,fun R=> ?_⟩;have s2: ∀n R,u7 (n+(if x.2.1=[] then 0 else 1)) ([],[],[]++x.2.2.2.1,[],false,false) ((if x.2.1=[] then[] else vN i4 wU [] x.2.1)++R)=u7 n (x.2.1,[],[]++x.2.2.2.1,[],b1,false) R:=by
  intro n R;by_cases hh:x.2.1=[]
  .have:=e2 0 [];rw[aVs hh,aVs hh,List.nil_append,aWr];cases n with
   |zero=>rfl
   |succ n=>have:=e2 n R;rwa [aVs hh,aVs hh,List.nil_append] at this
  .have:=e2 n R;rw[aVv hh,aVv hh,aWr] at this;rw[aVv hh,aVv hh];exact this
 have s3: ∀n R,u7 (n+(if x.2.2.1=[] then 0 else 1)) (x.2.1,[],[]++x.2.2.2.1,[],b1,false) ((if x.2.2.1=[] then[] else vN i4 zB [] x.2.2.1)++R)=u7 n (x.2.1,x.2.2.1,[]++x.2.2.2.1,[],b1,b2) R:=by
  intro n R;by_cases hh:x.2.2.1=[]
  .rw[aVs hh,aVs hh,List.nil_append,aWr];cases n with
   |zero=>rfl
   |succ n=>have:=e3 n R;rwa [aVs hh,aVs hh,List.nil_append] at this
  .have:=e3 n R;rw[aVv hh,aVv hh,aWr] at this;rw[aVv hh,aVv hh];exact this
 unfold IU;simp only[aVy];rw[aLb x.2.2.2.1 B0 _ _ c2 (by show 0+_<=20;omega)];show u7 _ ([],[],[]++x.2.2.2.1,[],false,false) _=_;rw[s2,s3,aLc x.2.2.2.2.2.2.1 _ 1 _ (fun f hf=>⟨(g2 f hf).1,(g2 f hf).2.2⟩) (by simpa using g3) (by show 0+_<=20;omega)];rw[show (1:Nat)=0+1 from rfl,aSs];rfl
end
noncomputable section
theorem aSu {x:uC}(hx:y9 x=true):aBg (BM x) x:=by
 have h:=aBw hx;obtain⟨f1,f2,f3⟩:=UB h.flg;obtain⟨s1,s2,s3⟩:=aBv h.r0 h.r4;obtain⟨K,b1,b2,hrun⟩:=aSt h;refine⟨aSr x,hx,fun es R hf hl=> ?_⟩;have hsk:r9 (BM x++R)=(2,vM zL (xN x))::((IU x++KT)++R):=by
  show r9 ((3,[10,32,32])::(2,vM zL (xN x))::((IU x++KT)++R))=_;rw[ZV pH,UU rfl]
 have hpk:rS (r9 (BM x++R))=(1,zL,zM (xN x),false):=by
  rw[hsk];exact NB NC.ne NC.sm (aK8 h) (aSk x)
 rw[hpk];refine⟨by simp,?_⟩;obtain⟨g1,g2,g3⟩:=aSl x;obtain⟨P,p1,_,p3,_⟩:=aBc K B0 _ _ R (hrun R) aBe;have hP:P=IU x++KT:=(List.append_cancel_right p1).symm;subst hP;have hst:max 0 (AV (sC (zM (xN x)) xF))=x.2.2.2.2.2.1:=by
  rw[g2];by_cases h0:x.2.2.2.2.2.1=0
  .rw[aVs h0,h0];decide
  .rw[aVv h0,s3];have:=h.r0;omega
 have hfl:tZ (sC (zM (xN x)) uM)=x.2.2.2.2.1:=by rw[g3];exact aKT f2
 have hin:u7 (r9 (BM x++R)).length B0 ((r9 (BM x++R)).drop 1)=some ((x.2.1,x.2.2.1,x.2.2.2.1,x.2.2.2.2.2.2.1,b1,b2),R):=by
  rw[hsk];exact p3 R _ (by simp only[aVw,aVu];omega)
 unfold yD;rw[aVs ⟨.inl rfl,rfl,aSm x,aSn h,rfl,by dsimp only;rw[g1];exact hf,by dsimp only;rw[hfl];exact aR5 f3,by dsimp only;rw[hfl];exact f1,hl⟩,aVs rfl,hin];show some ((sC (zM (xN x)) uG,(x.2.1,(x.2.2.1,(x.2.2.2.1,(sN (tZ (sC (zM (xN x)) uM)),(max 0 (AV (sC (zM (xN x)) xF)),(x.2.2.2.2.2.2.1,()))))))),R)=some (x,R);rw[g1,hfl,aKU f3,hst]
def KV:List TE:=[(3,[10]),(2,vM yC [])]
def QI (c:C4):List (pD×pD×pD):=[(wJ,c.1,c.1)]
def KW (c:C4):List TE:=c.2.1.flatMap (fun s=>vN i2 yQ [] s)++c.2.2.1.flatMap (fun f=>vN i2 yB (EA f) f.2.1)
def FP (c:C4):List TE:=(2,vM zC (QI c))::(KW c++KV)
theorem aLd {s:pD}(h:wI s=true):sZ s=true:=by
 unfold wI at h;simp only[aVG,aVV,aV9,aVE] at h;unfold sZ;rw[aVS (show (s.length:Int)<=4000 by omega),aAH fun b hb=> ?_]
 .rfl
 .have:=h.1 b hb;unfold IF at this;simp at this;have:=UInt8.toNat_lt b;omega
theorem aLe {c:C4}(h:wI c.1=true): ∀a∈QI c,FN a:=by
 intro a ha;rw[aVJ.1 ha];exact ZX aSi (aRp h) (aLd h)
theorem aSv (c:C4):uN (FP c)=FK c:=by
 have e1:(fun s=>uN (vN i2 yQ [] s))=GY i2:=by funext s;rw[QE];rfl
 have e2:(fun f:sA=>uN (vN i2 yB (EA f) f.2.1))=E6 i2:=by
  funext f;rw[QE];unfold EA E6;rw[QH];unfold IR;rfl
 unfold FP KW;rw[NA,N9,N9,ZY,ZY,e1,e2];unfold vM QI FK D8 GZ;rw[QH];simp only[aVy,List.cons_append,List.nil_append];rfl
theorem aSw {c:C4}(h1:wI c.1=true) (h3:vQ c.2.2.1=true):wL (FP c):=by
 obtain⟨g1,g2,g3⟩:=GR h3;unfold FP KW;refine aBr (ZQ ZU.ne ZU.sm (aLe h1)) ?_;simp only[aVy];refine UX ?_ fun s _=>⟨QG aK9 US (fun a ha=>by cases ha),QF _ _ _ _⟩;refine UX ?_ fun f hf=>⟨QG aK9 UT (aBu (g2 f hf).1),QF _ _ _ _⟩;exact UR pI pH (ZQ ZT.ne ZT.sm (fun a ha=>by cases ha)) trivial
theorem aLf: ∀(l:pE) (st:GX) (n:Nat) (R:List TE),(∀s∈l,sZ s=true)->st.1.length+l.length<=20->
  wK (n+l.length) st (l.flatMap (fun s=>vN i2 yQ [] s)++R)=wK n (st.1++l,st.2) R
 |[],st,n,R,_,_=>by
  simp only[List.flatMap_nil,List.nil_append,List.append_nil,aVD,aWr]
 |s::l,st,n,R,h,hl=>by
  simp only[aVw] at hl;have ih:=aLf l (st.1++[s],st.2) n R (fun y hy=>h y (aVB _ hy)) (by simp only[aVu,aVw,aVD];omega);rw[aWj,aVy,aVw,<-aWc,wK,aK3 ZZ,aVs ⟨rfl,by simp⟩,aK5 ZZ (h s aVz) pG];dsimp only;rw[ih];simp only[aVy,List.cons_append,List.nil_append]
theorem aLg: ∀(l:List sA) (st:GX) (n:Nat) (R:List TE),(∀f∈l,uR f.1=true/\sZ f.2.1=true)->(st.2++l).Pairwise (fun a b=>a.1<b.1)->st.2.length+l.length<=20->
  wK (n+l.length) st (l.flatMap (fun f=>vN i2 yB (EA f) f.2.1)++R)=wK n (st.1,st.2++l) R
 |[],st,n,R,_,_,_=>by
  simp only[List.flatMap_nil,List.nil_append,List.append_nil,aVD,aWr]
 |f::l,st,n,R,h,hp,hl=>by
  simp only[aVw] at hl;have hf:=h f aVz;have hlt: ∀y∈st.2,y.1<f.1:=fun y hy=>(aXl.1 hp).2.2 y hy f aVz;have ih:=aLg l (st.1,st.2++[f]) n R (fun y hy=>h y (aVB _ hy)) (by simpa using hp) (by simp only[aVu,aVw,aVD];omega);rw[aWj,aVy,aVw,<-aWc,wK,aK4 hf.1 ZZ,aVv (by rintro⟨e,_⟩;exact absurd (show yB=yQ from e) pH),aVs ⟨rfl,by simp⟩,aK6 ZZ hf.1 hf.2 hlt pG];dsimp only;rw[ih];simp only[aVy,List.cons_append,List.nil_append]
theorem aSx (st:GX) (n:Nat) (R:List TE):wK (n+1) st (KV++R)=some (st,R):=by
 have hs:r9 (KV++R)=(2,vM yC [])::R:=by
  show r9 ((3,[10])::(2,vM yC [])::R)=_;rw[ZV pH,UU rfl]
 have hp:rS (r9 (KV++R))=(1,yC,[],false):=by
  rw[hs];exact NB ZT.ne ZT.sm (fun a ha=>by cases ha) .nil
 rw[wK,hp,aVv (by rintro⟨e,_⟩;exact absurd e pH),aVv (by rintro⟨e,_⟩;exact absurd e pH),aVs ⟨rfl,rfl,rfl,rfl⟩,hs];rfl
theorem aSy {c:C4}(h1:wI c.1=true) (h2:vW c.2.1=true) (h3:vQ c.2.2.1=true):UP (FP c) c.1 (c.2.1,c.2.2.1):=by
 obtain⟨c1,c2⟩:=KK h2;obtain⟨g1,g2,g3⟩:=GR h3;have hlst:tG (FP c):=by
  unfold FP;exact(tG.app ⟨[(3,[10])],(2,vM yC []),rfl,rfl⟩).cons
 refine⟨hlst,h1,h2,h3,fun R=> ?_⟩;have hsk:r9 (FP c++R)=(2,vM zC (QI c))::((KW c++KV)++R):=by
  show r9 ((2,vM zC (QI c))::((KW c++KV)++R))=_;rw[UU rfl]
 have hpk:rS (r9 (FP c++R))=(1,zC,[(wJ,(c.1,()))],false):=by
  rw[hsk];exact NB ZU.ne ZU.sm (aLe h1) (by simp [QI])
 have hrun: ∀R,wK ((1+c.2.2.1.length)+c.2.1.length) ([],[]) ((KW c++KV)++R)=some ((c.2.1,c.2.2.1),R):=by
  intro R;unfold KW;simp only[aVy];rw[aLf c.2.1 ([],[]) _ _ c2 (by show 0+_<=20;omega),aLg c.2.2.1 _ 1 _ (fun f hf=>⟨(g2 f hf).1,(g2 f hf).2.2⟩) (by simpa using g3) (by show 0+_<=20;omega)];rw[show (1:Nat)=0+1 from rfl,aSx];rfl
 obtain⟨P,p1,_,p3,_⟩:=aBf _ ([],[]) _ _ R (hrun R) pU pU;have hP:P=KW c++KV:=(List.append_cancel_right p1).symm;subst hP;have hg:sC [(wJ,(c.1,()))] wJ=c.1:=by
  unfold sC;rw[List.foldl_cons,List.foldl_nil,aVs rfl]
 have hall:xM [(wJ,(c.1,()))] [wJ] [wJ]=true:=by
  unfold xM;simp
 unfold FH;rw[hpk,aVs ⟨rfl,rfl,hall,by simpa using h1,rfl⟩,hsk,List.drop_one,List.tail_cons,p3 R _ (by simp only[aVw,aVu];omega)];show some (sC [(wJ,(c.1,()))] wJ,(c.2.1,c.2.2.1),R)=_;rw[hg]
theorem aSz:QC (vG KQ):=⟨pU,pU⟩
theorem aLh: ∀(l:List uC),(∀x∈l,y9 x=true)->D9 (l.map BM) l
 |[],_=> .nil
 |x::l,h=> .cons (aSu (h x aVz)) (aLh l fun y hy=>h y (aVB _ hy))
theorem aSA {c:C4}(h:x6 c=true):FE c.2.2.2.1:=by
 have ha:=Q1 h;exact⟨ha.2.2.2.1,ha.2.2.2.2.1,ha.2.2.2.2.2⟩
theorem aSB {c:C4}(h:x6 c=true):UQ (E8 c) c (FP c) (c.2.2.2.1.map BM) KQ/\∃ks,E4 (vG (E8 c))=some (c,ks):=by
 have ha:=Q1 h;have hi:=aSA h;have e:E8 c=uN (FP c)++(((c.2.2.2.1.map BM).map uN).flatten++KQ):=by
  unfold E8 IL;rw[aSv,List.map_map];have:uN∘BM=AH:=by funext x;exact aSo x
  rw[this]
 obtain⟨b1,b2⟩:=aR0 (aSy ha.1 ha.2.1 ha.2.2.1) (aLh _ hi.ok) hi aSz (aSw ha.1 ha.2.2.1) (fun P hP=>by
  obtain⟨x,hx,rfl⟩:=List.mem_map.1 hP;exact aSq (aBw (hi.ok x hx)))
 rw[e];exact⟨b1,_,b2⟩
end
noncomputable section
theorem a0b (ind name attrs s:pD):(E5 ind name attrs s).length≤ind.length+attrs.length+2*name.length+6*s.length+7:=by
  have:=Q2 s;simp only[E5,aVu,aVw,aVD];omega
theorem aLi {ind:pD}(hi:ind.length≤4) {l:pE}(h:vW l=true):(D8 ind l).length≤500000:=by
  obtain⟨h1,h2⟩:=KK h
  have:=N4 (l:=l) (h:=GY ind) (B:=25000) fun x hx=>by
    have h3:=a0b ind yQ [] x;have h4:=AD (h2 x hx);unfold GY;simp only[aVw,aVD] at h3;omega
  unfold D8;have h5:l.length*25000≤20*25000:=aWK _ h1;omega
theorem aLj {ind:pD}(hi:ind.length≤4) {l:List sA}(h:vQ l=true):(GZ ind l).length≤500000:=by
  obtain⟨h1,h2,_⟩:=GR h
  have:=N4 (l:=l) (h:=E6 ind) (B:=25000) fun x hx=>by
    have h3:=a0b ind yB (IR x.1) x.2.1;have h4:=AD (h2 x hx).2.2;have h5:=(UV (h2 x hx).1).1;unfold E6;have h6:(IR x.1).length=x.1.length+8:=by simp only[IR,aVu,aVw,aVD];omega
    simp only[aVw,aVD] at h3;omega
  unfold GZ;have h5:l.length*25000≤20*25000:=aWK _ h1;omega
theorem aSC {x:uC}(hx:y9 x=true):(AH x).length≤1100000:=by
  have h:=aBw hx;obtain⟨f1,f2,f3⟩:=UB h.flg;have c1:=aLi (ind:=i4) pI h.com;have c2:=aLj (ind:=i4) pI h.fld
  have c3:(FJ x).length≤25000:=by
    unfold FJ;split
    .simp
    · have h3:=a0b i4 wU [] x.2.1
      have h4:=AD h.src;simp only[aVw,aVD] at h3;omega
  have c4:(E7 x).length≤25000:=by
    unfold E7;split
    .simp
    · have h3:=a0b i4 zB [] x.2.2.1
      have h4:=AD h.tgt;simp only[aVw,aVD] at h3;omega
  have c5:=aA8 h.r0 h.r4;have c6:=Q2 x.1;have c7:=h.len
  have c8:(H0 x.2.2.2.2.1).length≤5000:=by
    have hj:=AD (aK7 f2 f1).2;unfold H0;split
    .simp
    .simp only[aVu,aVw,aVD];omega
  simp only[AH,KP,aVu,aVw,aVD];omega
theorem aSD {c:C4}(h:x6 c=true):(FK c).length≤1100000:=by
  have ha:=Q1 h;have c1:=aLi (ind:=i2) pI ha.2.1;have c2:=aLj (ind:=i2) pI ha.2.2.1;have c3:=AD (aLd ha.1);simp only[FK,aVu,aVw,aVD];omega
theorem aSE {c:C4}(h:x6 c=true) (hn:c.2.2.2.1.length≤700):(E8 c).length≤900000000:=by
  have h1:=aSD h;have ha:=Q1 h
  have hk:=aA9 (l:=c.2.2.2.1.map AH) (B:=1100000) fun y hy=>by
    obtain⟨x,hx,rfl⟩:=List.mem_map.1 hy;exact aSC (ha.2.2.2.2.1 x hx)
  rw[aWD] at hk;have h2:c.2.2.2.1.length*1100000≤700*1100000:=aWK _ hn;unfold E8 IL;simp only[aVu,aVw,aVD];omega
theorem aSF {c:C4}(hc:U9 c) (h:I8 c=some true):c.2.2.2.1.length≤12:=by
  obtain⟨r,e,e1,e2,e3⟩:=Z5 hc.com.1 hc.com.2 hc.fld.1 hc.fld.2;unfold I8 at h;rw[e,aVs xK] at h;by_cases hb:(((decide ((100:Int)<(List.length c.1:Int)))||(decide ((6000:Int)<(val (some r)))))||(decide ((12:Int)<(List.length c.2.2.2.1:Int))))=true
  · rw[aVs hb] at h
    cases h
  · simp only[aWv,aVE] at hb
    have: ¬(12:Int)<(List.length c.2.2.2.1:Int):=fun h=>hb (.inr h);omega
theorem aSG {t:TE}(h:(v7 t).2.1≠[]):(v7 t).2.1.length+2≤t.2.length:=by
  unfold v7 at h|-;by_cases h2:t.1=2
  · rw[aVs h2] at h|-
    cases hr:AY t.2 with
    |none=>rw[hr] at h;exact absurd rfl h
    | some x=>
      rw[hr] at h;show x.2.1.length+2≤t.2.length;have h:x.2.1≠[]:=h;have hp:=aVX.2 h;unfold AY at hr;split at hr
      · split at hr
        .cases hr
        · cases hr
          dsimp only at hp|-;simp only[aVQ,aVO] at hp|-;omega
      · dsimp only at hr
        generalize hu:(if ((t.2.drop 1).take (t.2.length-2)).drop (t.2.length-3)=[47] then(((t.2.drop 1).take (t.2.length-2)).take (t.2.length-3),(2:Int)) else((t.2.drop 1).take (t.2.length-2),1))=u at hr
        have hul:u.1.length≤t.2.length-2:=by
          rw[←hu];split<;>simp<;>omega
        split at hr
        .cases hr
        · obtain⟨q,hq,rfl⟩:=aVA.1 hr
          dsimp only at hp|-;simp only[aVQ] at hp|-;omega
  .rw[aVv h2] at h;exact absurd rfl h
theorem aSH {P:List TE}{t:TE}(h:t∈P):t.2.length≤(uN P).length:=by
  obtain⟨A,B,rfl⟩:=List.append_of_mem h;rw[N9,NA,aVu,aVu];omega
theorem aSI {P:List TE}{y:s0}(h:aBg P y):7≤(uN P).length:=by
  obtain⟨_,hx⟩:=h.rd [] [] rfl pI;rw[List.append_nil] at hx;unfold yD at hx;split at hx
  · rename_i hc
    obtain⟨t,q,e,ht⟩:=UO (L:=r9 P) (by rw[hc.2.1];decide);have hn:=hc.2.1;rw[e] at hn;have hn:(v7 t).2.1=zL:=hn;have h1:=aSG (t:=t) (by rw[hn];decide);rw[hn] at h1
    have hm:t∈P:=by
      have:t∈r9 P:=by rw[e];exact aVz
      exact(List.dropWhile_suffix vK).subset this
    have:=aSH hm;simp only[aVw,aVD] at h1;omega
  .cases hx
theorem aSJ: ∀{Ps:List (List TE)}{ys:List s0},D9 Ps ys→7*ys.length≤((Ps.map uN).flatten).length:=by
  intro Ps ys h
  induction h with
  |nil=>simp
  | cons h1 _ ih=>
    have:=aSI h1;simp only[aWy,aWt,aVu,aVw];omega
theorem aSK {s:pD}{c:C4}{H:List TE}{Ps:List (List TE)}{tl:pD}(h:UQ s c H Ps tl):7*c.2.2.2.1.length≤s.length:=by
  have:=aSJ h.ents;rw[h.eq,aVu,aVu];omega
theorem aLk {c:C4}(h:x6 c=true) (hn:c.2.2.2.1.length≤700):z8 (E8 c)=some (c.1,c.2.1,c.2.2.1,c.2.2.2.1,0,0):=by
  obtain⟨_,ks,hk⟩:=aSB h;rcases aKQ (aSE h hn) with⟨c',H,Ps,tl,_,⟨ks',h1⟩,h2⟩ |⟨p,e,_,h1,_⟩
  · rw[hk] at h1
    cases h1;exact h2
  .rw[hk] at h1;cases h1
theorem aSL {c:C4}(hc:U9 c) (s:pD):MY c s=some true:=by
  unfold MY;rw[aRD,aVq,aVv pH];obtain⟨b,hb,hf⟩:=aQF hc;have h12:=aSF hc;rw[hb] at h12|-;rw[aVq];by_cases h4:(!b||decide ((4000:Int)<(s.length:Int)))=true
  .rw[aVs h4]
  · rw[aVv h4]
    simp only[aWv,aVV,aVE,not_or,Bool.not_eq_false] at h4;obtain⟨hbt,hsl⟩:=h4;subst hbt;have hw:=hf rfl;have hl12:=h12 rfl;rw[aJq hw.fitP,aVq];have tail:(z8 s).bind (fun O=>
   if (!decide (O.2.2.2.2.2=(0:Int)))=true then
    (DU (O.1,(O.2.1,(O.2.2.1,(O.2.2.2.1,())))) (([]:pD),(([]:pE),(([]:List r6),(([]:List s0),()))))).bind fun Z=>
    some (((((decide (O.1=([]:pD)))&&(val (x4 O.2.1 ([]:pE))))&&(val (zJ O.2.2.1 ([]:List r6))))&&(val (BY O.2.2.2.1 ([]:List s0)))))
   else
    (DX (O.1,(O.2.1,(O.2.2.1,(O.2.2.2.1,()))))).bind fun aA=>
    (z8 aA.1).bind fun aB=>
    (DX (aB.1,(aB.2.1,(aB.2.2.1,(aB.2.2.2.1,()))))).bind fun aC=>
    if (((((decide (aA.2=(0:Int)))&&(decide (aB.2.2.2.2.2=(0:Int))))&&(decide (aC.2=(0:Int))))==true)=true→((D1 (O.1,(O.2.1,(O.2.2.1,(O.2.2.2.1,())))))).isSome=true) then
     if ((((((decide (aA.2=(0:Int)))&&(decide (aB.2.2.2.2.2=(0:Int))))&&(decide (aC.2=(0:Int))))&&(val (D1 (O.1,(O.2.1,(O.2.2.1,(O.2.2.2.1,())))))))==true)=true→((DU (O.1,(O.2.1,(O.2.2.1,(O.2.2.2.1,())))) (aB.1,(aB.2.1,(aB.2.2.1,(aB.2.2.2.1,())))))).isSome=true) then
      some (((((((decide (aA.2=(0:Int)))&&(decide (aB.2.2.2.2.2=(0:Int))))&&(decide (aC.2=(0:Int))))&&(val (D1 (O.1,(O.2.1,(O.2.2.1,(O.2.2.2.1,())))))))&&((((decide (O.1=aB.1))&&(val (x4 O.2.1 aB.2.1)))&&(val (zJ O.2.2.1 aB.2.2.1)))&&(val (BY O.2.2.2.1 aB.2.2.2.1))))&&(decide (aA.1=aC.1))))
     else none
    else none)=some true:=by
      rcases aKQ (s:=s) pG with⟨c',H,Ps,tl,hB,_,h2⟩ |⟨p,e,he,_,h2⟩
      · have hok:=hB.ok
        have hlen:=aSK hB;have hfw:=aQS hok;obtain⟨k1,k2⟩:=aJG hok;rw[h2,aVq];dsimp only;rw[aVv pI,show (c'.1,(c'.2.1,(c'.2.2.1,(c'.2.2.2.1,()))))=c' from rfl,aBa hfw,aVs hok,aVq];dsimp only;rw[aLk hok pG,aVq];dsimp only;rw[show (c'.1,(c'.2.1,(c'.2.2.1,(c'.2.2.2.1,()))))=c' from rfl,aBa hfw,aVs hok,aVq];dsimp only;rw[aJq hfw.fitP,hok,aVs DZ,k1,aVs DZ,k2];simp [val]
      · rw[h2,aVq]
        dsimp only;rw[aVs (by simpa using he),aQT,aVq]
        kernel_rfl
    by_cases hok:x6 c=true
    · obtain⟨k1,k2⟩:=aJG hok
      rw[hok,aVs rfl,aBa hw,aVs hok,aVq];dsimp only;rw[aLk hok pG,aVq];dsimp only;rw[show (c.1,(c.2.1,(c.2.2.1,(c.2.2.2.1,()))))=c from rfl,k1,aVs DZ,k2,aVv pI];exact tail
    · simp only[aWE] at hok
      rw[hok,aVv pH];exact tail
end
end Go.Proofs.YtkpflnijijccpaaGreatDoor
namespace Go.Proofs.YtkpflnijijccpaaGreatDoor
open Go.ChangeShapes Go.WideShapes Go.ChangeAt Go.RowKit
section
variable {H:Type}{enc:TypeId×pS->H}{P:Program}
theorem aSM (hl:laidOutB P=true) {W W':pR}(hb:Below W.heap.size W W'):
  ∀{ts:List TypeId}{vs:pN}{ds:List (DataW H)}{ps:List MemPlace},(∀t∈ts,P.readableRec t=true/\t<P.types.size)->
  DataW.TrodAll enc P W 0 (fun _=>true) true ts vs ds ps->(∀x∈ps,x.block<W.heap.size)->
  DataW.TrodAll enc P W' 0 (fun b=>decide (b<W.heap.size)) true ts vs ds ps:=by
 intro ts
 induction ts with
 |nil=>
  intro vs ds ps _ h _;obtain⟨rfl,rfl,rfl⟩:=trodAll_nil h;exact trodAll_mk0
 |cons t ts ih=>
  intro vs ds ps hr h hlt;obtain⟨v,vs',d,ds',p,q,rfl,rfl,rfl,h0,r0⟩:=trodAll_cons h;exact trodAll_cons_mk (Below.trod hl (hr t pI).1 (hr t pI).2 h0 hb (fun x hx=>hlt x (by simp [hx]))) (ih (fun t' ht'=>hr t' (by simp [ht'])) r0 (fun x hx=>hlt x (by simp [hx])))
theorem aSN {f:Func}{s:ChangeSpec}{W W':pR}{args:Array pS}{ds gs:List (DataW H)}{before:List MemPlace}{tb:TypeId}
  (hl:laidOutB P=true) (hr: ∀t∈f.params.toList,P.readableRec t=true/\t<P.types.size)
  (hW:DataW.Whole enc P f.params.toList s.vars false W args.toList ds gs before) (hv:s.vars=[])
  (hfn:s.fn H ds={results:=[.lit (.bool true)],args:=ds}) (hrt:f.resultTypes= #[tb]) (htb:P.underlying tb=some .bool)
  (hb:Below W.heap.size W W'):s.post enc P f false true false false W args (.bool true) W':=by
 have hW':=hW;obtain⟨p,q,hA,hV,rfl,hfz,hnd⟩:=hW;rw[hv] at hV;obtain⟨rfl,rfl⟩:=trodVars_none hV;have hlt: ∀x∈p,x.block<W.heap.size:=fun x hx=>by simpa using hW'.lt x (by simp [hx])
 refine⟨ds,[],p++[],[],p,[],hW',?_,?_,?_,hb.frame _,fun h=>by cases h⟩
 .rw[List.append_nil,hfn,hrt];exact trodAll_mk1 (shut_bool htb true)
 .rw[List.append_nil,hfn];exact aSM hl hb hr hA hlt
 .rw[hv,List.append_nil,hfn];rfl
end
section
variable {H:Type}{enc:TypeId×pS->H}
theorem aSO {C:Checked}{f:FuncId}{fn:Func}{s:ChangeSpec}{tb:TypeId}{IW:List (String×DataW Unit)}(own:ownKnob C.prog.godebug=none) {os:Os}(started:os.Started) (F:Stop.Interp)
  (noInit:C.prog.inits.idxOf? f=none) (hfn:C.prog.funcs[f]? =some fn)
  (hl:laidOutB C.prog=true) (hr: ∀t∈fn.params.toList,C.prog.readableRec t=true/\t<C.prog.types.size) (hv:s.vars=[])
  (hrt:fn.resultTypes= #[tb]) (htb:C.prog.underlying tb=some .bool)
  (hspec: ∀(ds:List (DataW H)) (W:pR) (args:Array pS) ps,DataW.TrodAll enc C.prog W 0 (fun _=>true) true fn.params.toList args.toList ds ps->s.fn H ds={results:=[.lit (.bool true)],args:=ds})
  (witness: ∃(w:pR) (tape:Tape) (i:Input),w.os=os/\(w.forCall tape i).Shaped C.prog/\i.vars=[]/\Input.okWide C.prog (w.forCall tape i) .any w.heap.size f i/\
   (OpenSpec.ofChange s).preRow enc C.prog fn [] false IW (w.forCall tape i).memory i.args/\Assume.holds {} C.prog (lone (Frame.enter C.prog f i.args .normal) [] (w.forCall tape i)))
  (contract: ∀(W:pR) (base:Nat) (args:Array pS) (ds:List (DataW H)) (ps:List MemPlace),
   (∀(j:Nat) t v,fn.params[j]? =some t->args[j]? =some v->Value.okWide C.prog W .any base t v)->
   DataW.TrodAll enc C.prog W 0 (fun _=>true) true fn.params.toList args.toList ds ps->
   (∀x∈ps,x.block<W.heap.size)->(DataW.weightsEach C.prog fn.params.toList ds).all (·<=reachBytes)=true->laidMetH C.prog IW W->W.ShapedOpen C.prog->
   Calls C.prog f args W fun e W'=>e= .returned (.bool true)/\Below W.heap.size W W'):
  ReturnsInHanded {} C os f .any ((OpenSpec.ofChange s).preRow enc C.prog fn [] false IW) (s.post enc C.prog fn false true false false):=by
 refine returnsInHanded_of_row (C:=C) (s:=OpenSpec.ofChange s) (F:=F) own started noInit hfn witness ?_;intro W base args ds gs before hval hW _ _ hsz hL hsh _;have hW':=hW;obtain⟨p,q,hA,hV,rfl,hfz,hnd⟩:=hW;have hV':DataW.TrodVars enc C.prog W (fun _=>true) s.vars gs q:=hV;rw[hv] at hV';obtain⟨rfl,rfl⟩:=trodVars_none hV';have hlt: ∀x∈p,x.block<W.heap.size:=fun x hx=>by simpa using hW'.lt x (by simp [hx])
 have hvt:(OpenSpec.ofChange s).bare.plain.varTypes C.prog=[]:=by
  simp [OpenSpec.ofChange,ChangeSpec.plain,hv];rfl
 rw[hvt,List.append_nil,List.append_nil] at hsz;refine(contract W base args ds p hval hA hlt hsz hL hsh).mono fun e W' ⟨he,hb⟩=> ?_;subst he;exact⟨_,rfl,aSN hl hr hW' hv (hspec ds W args p hA) hrt htb hb⟩
end
end Go.Proofs.YtkpflnijijccpaaGreatDoor
namespace Go.Proofs.YtkpflnijijccpaaGreatDoor
open Go.Shelf Go.Lib
open Vc
theorem aSP:(Rows.laid_unicode_utf8_first:DataW Unit)=Lib.firstData:=by kernel_rfl
theorem aSQ:(Rows.laid_unicode_utf8_acceptRanges:DataW Unit)=Lib.acceptData:=by kernel_rfl
def aSR:pM:=[0,1,56,2,57,49,28,3,61,58,42,50,38,29,17,4,62,47,59,36,45,43,51,22,53,39,33,30,24,18,12,5,63,55,48,27,60,41,37,16,46,35,44,21,52,32,23,11,54,26,40,15,34,20,31,10,25,14,19,9,13,8,7,6]
theorem aSS:(Rows.laid_internal_strconv_uint64pow10:DataW Unit)=Lib.tabData .u64 Lib.pow10Tab:=by kernel_rfl
theorem aST:(Rows.laid_strings_asciiSpace:DataW Unit)=Lib.tabData .u8 Lib.asciiSpaceTab:=by kernel_rfl
theorem aSU {P:Program}{w:pR}{g:Nat}{t:TypeId}{k:IntKind}{zero:Array pS}(h:w.ShapedOpen P) (hg:g<P.globals.size)
  (h0:((begin P (fun _ _=>0) default).world.heap[g]?).bind Obj.row? =some (zero,t)) (hz:zero.size=1)
  (hb:P.buildable t=true) (hc:P.cellTypes P.depth t=some [t]) (hu:P.underlying t=some (.int k)): ∃m,w.cell? ⟨g,0,none⟩=some (.int k m):=by
 obtain⟨cs,hh,hs,hr⟩:=h.1 g zero t hg h0;obtain⟨ts,hts,_,hall⟩:=hr hb;rw[hc] at hts;cases hts;have h1:0<cs.size:=by omega
 obtain⟨u,hu',hok⟩:=hall 0 cs[0] (by simp [h1]);have:u=t:=by simpa using hu'.symm
 subst this;have hcell:w.cell? ⟨g,0,none⟩=some cs[0]:=by simp [World.cell?,hh,h1]
 rw[hcell];unfold Cell.ok at hok;rw[hu] at hok;cases hv:cs[0]<;>rw[hv] at hok<;>simp at hok
 rename_i k' m;exact⟨m,by rw[hok.1]⟩
theorem aSV {W:pR}(hsh:W.ShapedOpen Tryz.prog): ∃m,W.cell? ⟨1,0,none⟩=some (.int .i64 m):=
 aSU (t:=3) (zero:= #[.int .i64 0]) hsh (aV4 pU) pU rfl pU pU Tryz.underlying3
def aSW:Ren:=⟨fun x=>x,fun x=>if x=5 then 5 else if x=119 then 182 else if x=138 then 229 else 230,fun x=>if x=3 then 3 else 4⟩
theorem aLl {P:Program}{w:pR}{n:String}{g:Nat}{cs:Array pS}(hg:P.globalNamed n=some g) (h:w.var? P n=some cs): ∃e fz,w.heap[g]? =some (.cells cs e fz):=by
 unfold World.var? at h;rw[hg,aVq] at h;split at h
 .rename_i cs' e fz hh;cases h;exact⟨e,fz,hh⟩
 .cases h
theorem aSX {W:pR}(hL:laidMet Tryz.prog Rows.elementsPrintRow.laid W) (hsh:W.ShapedOpen Tryz.prog):DA W:=by
 obtain⟨m,hm⟩:=aSV hsh;have hp:=laidMet.reads hL (.tail _ (.tail _ (.head _)));have h1:=laidMet.reads hL (.tail _ (.tail _ (.tail _ (.head _))));have hs:=laidMet.reads hL (.tail _ (.tail _ (.tail _ (.tail _ (.tail _ (.head _))))));have h2:=laidMet.reads hL (.tail _ (.tail _ (.tail _ (.tail _ (.tail _ (.tail _ (.head _)))))));rw[aSS] at hp;rw[aST] at hs;rw[aSP] at h2;rw[aSQ] at h1;have hU:Lib.Utf8Tabs 3 4 W:=utf8Tabs_of_readsT (ρ:=aSW) ⟨pU,pU,pU,pU⟩ ⟨pU,pU,pU,pU,pU,pU,pU⟩ h2 h1;have hP: ∃e fz,W.heap[5]? =some (.cells (Lib.pow10Tab.map fun z=>Value.int .u64 z).toArray e fz):=by
  obtain⟨g,t,cs,fuel,p,hg,ht,hv,hd⟩:=hp;have hg0:Tryz.prog.globalNamed "internal/strconv.uint64pow10" =some 5:=by kernel_rfl
  have ht0:(Tryz.prog.globals[5]?).map (·.type)=some 267:=by kernel_rfl
  obtain rfl:=aVx (hg0.symm.trans hg);obtain rfl:=aVx (ht0.symm.trans ht);have hc:=cells_of_tab Tryz.underlying267 Tryz.underlying207 pU pU hd;rw[<-hc];exact aLl hg hv
 have hS: ∃e fz,W.heap[0]? =some (.cells (Lib.asciiSpaceTab.map fun z=>Value.int .u8 z).toArray e fz):=by
  obtain⟨g,t,cs,fuel,p,hg,ht,hv,hd⟩:=hs;have hg0:Tryz.prog.globalNamed "strings.asciiSpace" =some 0:=by kernel_rfl
  have ht0:(Tryz.prog.globals[0]?).map (·.type)=some 182:=by kernel_rfl
  obtain rfl:=aVx (hg0.symm.trans hg);obtain rfl:=aVx (ht0.symm.trans ht);have hc:=cells_of_tab Tryz.underlying182 Tryz.underlying5 pU pU hd;rw[<-hc];exact aLl hg hv
 refine⟨?_,hU,⟨m,hm⟩,fun x hx=> ?_⟩
 .obtain⟨e,fz,h⟩:=hP;have b0:5<W.heap.size:=(aVW.1 h).1;show 6<=W.heap.size;omega
 .unfold aBA at hx;simp only[aVH,aW4,or_false] at hx;rcases hx with rfl|rfl
  .exact⟨pH,hP⟩
  .exact⟨pH,hS⟩
noncomputable def a0c (os:Os):pR:=
 let N:=(World.settled Tryz.prog os).heap.size
 let w0:=World.holding Tryz.prog os ⟨#[.cells (Lib.whiteT.map fun(z:Nat)=>Value.int .u16 (z:Int)).toArray 241,.cells #[.slice (some ⟨N,0,none⟩) 7 7,.slice none 0 0,.int .i64 2] 238],#[],[]⟩
 let uI (h:Array Obj) (g:Nat) (cs:Array pS):Array Obj:=h.modify g fun
  | .cells _ t frozen=> .cells cs t frozen
  |o=>o
 let h1:=uI w0.heap 3 (Lib.firstTab.map fun z=>Value.int .u8 z).toArray
 let h2:=uI h1 4 ((List.range 16).flatMap fun i=>[Value.int .u8 (Lib.accLo i),Value.int .u8 (Lib.accHi i)]).toArray
 let h3:=uI h2 7 (aSR.map fun z=>Value.int .u8 z).toArray
 let h4:=uI h3 6 (([0,1,28,2,29,14,24,3,30,22,20,15,25,17,4,8,31,27,13,23,21,19,16,7,26,12,18,6,11,5,10,9]:pM).map fun z=>Value.int .u8 z).toArray
 let h5:=uI h4 5 ((List.range 20).map fun i=>Value.int .u64 (10^i)).toArray
 let h6:=uI h5 0 (Lib.asciiSpaceTab.map fun z=>Value.int .u8 z).toArray
 let h7:=uI h6 2 #[.pointer (some ⟨N+1,0,none⟩)]
 {w0 with heap:=h7}
theorem aSY (os:Os) (args:Array pS):laidMet Tryz.prog Rows.elementsPrintRow.laid ((a0c os).forCall (fun _ _=>0) ⟨#[],args,[]⟩).memory:=
 laidMet_of_run3 10 pU pU pU
end Go.Proofs.YtkpflnijijccpaaGreatDoor
namespace Go.Proofs.YtkpflnijijccpaaGreatDoor
open Vc Go.RowKit
inductive aBx where
 |ty (t:TypeId) |fs (o:Nat) (l:List Field)
inductive zD (P:Program):aBx->Ty->Prop
 |bool {t}:P.underlying t=some .bool->zD P (.ty t) .bool
 |int {t k}:P.underlying t=some (.int k)->zD P (.ty t) (.int k)
 |str {t}:P.underlying t=some .string->zD P (.ty t) .str
 |list {t e u}:P.underlying t=some (.slice e)->P.cellsOf e=u.cells->0<u.cells->0<P.bytesOf e->zD P (.ty e) u->zD P (.ty t) (.list u)
 |struct {t fs ty}:ty.isRow=true->P.underlying t=some (.struct fs)->P.cellsOf t=ty.cells->zD P (.fs 0 fs.toList) ty->zD P (.ty t) ty
 |nil {o}:zD P (.fs o []) .unit
 |cons {o}{f:Field}{r a b}:f.offset=o->P.cellsOf f.type=a.cells->zD P (.ty f.type) a->zD P (.fs (o+a.cells) r) b->zD P (.fs o (f::r)) (.pair a b)
def Bd:(t:Ty)->t.den->Prop
 | .str,s=>List.length s<=140737488351232
 | .int k,n=>(Lit.int k n).wf=true
 | .list u,l=>List.length l<=140737488351232/\∀x:u.den,x∈(l:List u.den)->Bd u x
 | .pair a b,x=>Bd a x.1/\Bd b x.2
 |_,_=>True
def IV (w:pR):Gh:=⟨fun b _=>b<w.heap.size,fun _=>none,fun _ _=>none⟩
theorem aLm {α:Type}{R:α->pN->Prop}{w:pR}{S:Nat->Nat->Prop}{c b:Nat}: ∀{l:List α}{o:Nat},(∀i x,l[i]? =some x->∃cs,cs.length=c/\w.rangeAt b (o+i*c) cs/\(∀j,j<c->S b (o+i*c+j))/\R x cs)->zG R w S c b o l
 |[],_,_=>trivial
 |x::l,o,h=>by
  refine⟨?_,aLm fun i y hy=> ?_⟩
  .obtain⟨cs,h1,h2,h3,h4⟩:=h 0 x rfl;exact⟨cs,h1,by simpa using h2,by simpa using h3,h4⟩
  .obtain⟨cs,h1,h2,h3,h4⟩:=h (i+1) y (by simpa using hy);have e:o+(i+1)*c=o+c+i*c:=by rw[aWz];omega
   exact⟨cs,h1,by rw[<-e];exact h2,by rw[<-e];exact h3,h4⟩
section
variable {H:Type}{enc:TypeId×pS->H}{P:Program}{W:pR}
theorem aLn {e:TypeId}: ∀{l:List (DataW H)}{i:Nat}{d:DataW H},l[i]? =some d->∀n∈d.weights P e,n∈DataW.weightsAll P e l
 |d0::l,0,d,h,n,hn=>by
  simp only[aV1,aVr] at h;subst h;simp only[DataW.weightsAll,aWd];exact .inl hn
 |d0::l,i+1,d,h,n,hn=>by
  simp only[aWe] at h;simp only[DataW.weightsAll,aWd];exact .inr (aLn h n hn)
 |[],_,_,h,_,_=>by simp at h
def aSZ (enc:TypeId×pS->H) (P:Program) (W:pR):aBx->Ty->Prop
 | .ty t,u=> ∀(fuel:Nat) (cs:pN) (y:DataW H×List MemPlace),DataW.trod enc P W 0 (fun _=>true) true fuel t cs=some y->(∀n∈y.1.weights P t,n<=reachBytes)->∃x:u.den,Rd (IV W) W u x cs/\Bd u x
 | .fs o l,u=> ∀(fuel:Nat) (cs:pN) (xs:List (DataW H×List MemPlace)),cs.length=o+u.cells->xs.length=l.length->(∀(i:Nat) (f:Field),l[i]? =some f->DataW.trod enc P W 0 (fun _=>true) true fuel f.type ((cs.drop f.offset).take (P.cellsOf f.type))=xs[i]?)->(∀n∈DataW.weightsEach P (l.map (·.type)) (xs.map (·.1)),n<=reachBytes)->∃x:u.den,Rd (IV W) W u x (cs.drop o)/\Bd u x
theorem aS0 {e:TypeId}{u:Ty}{a:Addr}{len cap:Nat}(hc:P.cellsOf e=u.cells) (hpos:0<u.cells) (hcap:len<=cap)
  (each: ∀i,i<len->∃(cs:pN) (x:u.den),W.cells? 0 (a.add (i*u.cells)) u.cells=some cs/\Rd (IV W) W u x cs/\Bd u x):
  ∃l:List u.den,l.length=len/\Rd (IV W) W (.list u) l [.slice (some a) len cap]/\∀x∈l,Bd u x:=by
 have build: ∀k,k<=len->∃l:List u.den,l.length=k/\∀i x,l[i]? =some x->∃cs:pN,W.cells? 0 (a.add (i*u.cells)) u.cells=some cs/\Rd (IV W) W u x cs/\Bd u x:=by
  intro k
  induction k with
  |zero=>intro _;exact⟨[],rfl,fun i x h=>by simp at h⟩
  |succ k ih=>
   intro hk;obtain⟨l,h1,h2⟩:=ih pG;obtain⟨cs,x,h3,h4⟩:=each k pG;refine⟨l++[x],by simp [h1],fun i y hy=> ?_⟩;rw[List.getElem?_append] at hy;split at hy
   .exact h2 i y hy
   .rename_i hi;obtain⟨j,hj⟩: ∃j,i=l.length+j:=⟨i-l.length,pG⟩;subst hj;rw[aWo] at hy;cases j with
    |zero=>
     simp only[aV1,aVr] at hy;subst hy;exact⟨cs,by rw[aWr,h1];exact h3,h4⟩
    |succ j=>simp at hy
 obtain⟨l,hll,hle⟩:=build len (aVR _);refine⟨l,hll,?_,fun x hx=> ?_⟩
 .subst hll;by_cases hl0:l=[]
  .subst hl0;exact⟨some a,cap,rfl,hcap,.inl rfl⟩
  .obtain⟨b,off,spot⟩:=a;have hlp:0<l.length:=aVX.2 hl0;have hspot:spot=none:=by
    obtain⟨cs,x,h3,_⟩:=each 0 hlp;have h4:=(World.cells?_some h3).2.2 0 hpos;have hlen0:=(World.cells?_some h3).2.1;rw[aVF pG] at h4;simpa[Addr.add] using World.cell?_spot h4
   subst hspot;refine⟨_,cap,rfl,hcap,.inr ⟨b,off,rfl,aLm fun i x hx=> ?_⟩⟩;obtain⟨cs,h3,h4,_⟩:=hle i x hx;obtain⟨_,h5,h6⟩:=World.cells?_some h3;have hcell: ∀j v,cs[j]? =some v->W.cell? ⟨b,off+i*u.cells+j,none⟩=some v:=by
    intro j v hv;have hj:j<u.cells:=by have:=(aVK.1 hv).1;omega
    have:=h6 j hj;rw[hv] at this;rw[aXi,aXi] at this;exact this
   refine⟨cs,h5,hcell,fun j hj=> ?_,h4⟩;exact Vc.WP (hcell 0 _ (aVF pG))
 .obtain⟨i,hi,he⟩:=aW3 hx;obtain⟨cs,h3,h4,h5⟩:=hle i x (by rw[aVF hi,he]);exact h5
theorem aS1 {ix:aBx}{u:Ty}(h:zD P ix u):aSZ enc P W ix u:=by
 induction h with
 |bool ht=>
  intro fuel cs y hy _;obtain⟨b,rfl,_⟩:=DataW.trod_bool ht hy;exact⟨b,rfl,trivial⟩
 |int ht=>
  intro fuel cs y hy _;obtain⟨n,rfl,_,hw⟩:=DataW.trod_int ht hy;exact⟨n,rfl,hw⟩
 |str ht=>
  intro fuel cs y hy hw;obtain⟨s,rfl,rfl,_⟩:=DataW.trod_string ht hy;refine⟨s.data.toList,by show [Value.string s]=[Value.string ⟨s.data.toList.toArray⟩];rw[aWZ],?_⟩;exact hw _ (by simp [DataW.weights])
 | @list t e u ht hc hpos hb _ ih=>
  intro fuel cs y hy hw;rcases DataW.trod_slice ht hy with⟨rfl,_⟩ |⟨a,len,cap,elems,rest,n,_,rfl,rfl,_,hl,_,hlen,hall,_,_⟩
  .exact⟨[],⟨none,0,rfl,aVR _,.inl rfl⟩,by simp,fun x hx=>by cases hx⟩
  .have hws:DataW.weights P t (.slice (elems.map (·.1)) (rest.map (·.1)))=((elems.map (·.1)).length+(rest.map (·.1)).length)*P.bytesOf e::(DataW.weightsAll P e (elems.map (·.1))++DataW.weightsAll P e (rest.map (·.1))):=by
    simp [DataW.weights,ht]
   rw[hws] at hw;have hn:=hw _ aVz;obtain⟨l,h1,h2,h3⟩:=aS0 (W:=W) (a:=a) (cap:=cap) hc hpos hl fun i hi=>by
    have h1:=hall i hi;rw[hc,aVF pG,Option.bind_eq_some_iff] at h1;obtain⟨cs,h2,h3⟩:=h1;obtain⟨x,hx⟩:=ih n cs _ h3 fun m hm=>hw m (by
     refine aVB _ (aWd.2 (.inl (aLn (i:=i) ?_ m hm)));rw[List.getElem?_map,aVF pG];rfl)
    exact⟨cs,x,h2,hx⟩
   refine⟨l,h2,?_,h3⟩;have:elems.length<=(elems.length+rest.length)*P.bytesOf e:=by
    calc elems.length<=(elems.length+rest.length)*1:=by omega
     _<=_:=Nat.mul_le_mul_left _ hb
   simp only[aWD] at hn;have hr:reachBytes=140737488351232:=rfl;show l.length<=_;omega
 |struct hrow ht hcl _ ih=>
  intro fuel cs y hy hw;obtain⟨xs,n,rfl,rfl,hl,hlen,hf⟩:=DataW.trod_struct ht hy;have:=ih n cs xs (by rw[hl,hcl];omega) (by rw[hlen];simp) (fun i f hi=>hf i f (by simpa using hi)) fun m hm=>hw m (by simpa[DataW.weights,ht] using hm);rwa [aWH] at this
 |nil=>
  intro fuel cs xs hl _ _ _;refine⟨(),?_,trivial⟩;show cs.drop _=[];exact List.drop_of_length_le (by simp [Ty.cells] at hl;omega)
 | @cons o f r a b ho hc _ _ iha ihb=>
  intro fuel cs xs hl hx hf hw;cases xs with
  |nil=>simp at hx
  |cons x0 xs=>
   have h0:=hf 0 f rfl;rw[hc,ho] at h0;obtain⟨xa,ra,ba⟩:=iha fuel _ x0 h0 fun m hm=>hw m (by simp only[aWy,DataW.weightsEach,aWd];exact .inl hm);obtain⟨xb,rb,bb⟩:=ihb fuel cs xs (by simp only[Ty.cells] at hl;omega) (by simpa using hx) (fun i f' hi=>by have:=hf (i+1) f' (by simpa using hi);simpa using this) fun m hm=>hw m (by simp only[aWy,DataW.weightsEach,aWd];exact .inr hm);refine⟨(xa,xb),⟨_,_,(aWX a.cells (cs.drop o)).symm,ra,?_⟩,ba,bb⟩;rw[aXa];exact rb
theorem aLo {t:TypeId}{u:Ty}{base:Nat}{v:pS}{d:DataW H}{ps:List MemPlace}(h:zD P (.ty t) u) (hok:Value.okWide P W .any base t v) (hT:DataW.Trod enc P W 0 (fun _=>true) true t v d ps) (hw: ∀n∈d.weights P t,n<=reachBytes): ∃x:u.den,tX (IV W) W u x v/\Bd u x:=by
 obtain⟨fuel,hf⟩:=hT;obtain⟨x,hx,hb⟩:=aS1 (enc:=enc) (W:=W) h fuel _ _ hf hw;refine⟨x,?_,hb⟩;cases h with
 |bool ht=>obtain⟨b,rfl⟩:=Go.WideShapes.okWide_bool ht hok;exact .inr ⟨rfl,hx⟩
 |int ht=>obtain⟨b,rfl⟩:=Go.WideShapes.okWide_int ht hok;exact .inr ⟨rfl,hx⟩
 |str ht=>obtain⟨b,rfl⟩:=Go.WideShapes.okWide_string ht hok;exact .inr ⟨rfl,hx⟩
 |list ht=>obtain⟨a,l,c,rfl⟩:=Go.WideShapes.okWide_slice ht hok;exact .inr ⟨rfl,hx⟩
 |struct hrow ht=>obtain⟨cs,rfl,_⟩:=Go.WideShapes.okWide_struct ht hok;exact .inl ⟨hrow,cs.toList,by rw[aWZ],hx⟩
end
end Go.Proofs.YtkpflnijijccpaaGreatDoor
namespace Go.Proofs.YtkpflnijijccpaaGreatDoor
open Vc
open Go.ChangeShapes Go.WideShapes Go.ChangeAt Go.RowKit
theorem KX:zD Tryz.prog (.ty 9) .str:= .str Tryz.underlying9
theorem aBy:zD Tryz.prog (.ty 24) (.list .str):= .list Tryz.underlying24 pU pH (aV4 pU) KX
theorem aS2:zD Tryz.prog (.ty 111) (.pair .str (.pair .str .unit)):=by
 refine .struct rfl Tryz.underlying111 pU ?_;exact .cons rfl pU KX (.cons rfl pU KX .nil)
theorem aLp:zD Tryz.prog (.ty 33) (.list (.pair .str (.pair .str .unit))):= .list Tryz.underlying33 pU pH (aV4 pU) aS2
theorem aS3:zD Tryz.prog (.ty 53) s7:=by
 refine .struct rfl Tryz.underlying53 pU ?_;exact .cons rfl pU KX (.cons rfl pU KX (.cons rfl pU KX (.cons rfl pU aBy (.cons rfl pU aBy (.cons rfl pU (.int Tryz.underlying3) (.cons rfl pU aLp .nil))))))
theorem aS4:zD Tryz.prog (.ty 34) (.list s7):= .list Tryz.underlying34 pU pH (aV4 pU) aS3
theorem aS5:zD Tryz.prog (.ty 36) xG:=by
 refine .struct rfl Tryz.underlying36 pU ?_;exact .cons rfl pU KX (.cons rfl pU aBy (.cons rfl pU aLp (.cons rfl pU aS4 .nil)))
theorem aS6 {x:uC}(h:Bd s7 x):aAE x:=by
 obtain⟨h1,h2,h3,⟨h4,k4⟩,⟨h5,k5⟩,_,⟨h7,k7⟩,_⟩:=h;exact⟨h1,h2,h3,⟨h4,k4⟩,⟨h5,k5⟩,h7,fun y hy=>⟨(k7 y hy).1,(k7 y hy).2.1⟩⟩
theorem aS7 {c:C4}(h:Bd xG c):U9 c:=by
 obtain⟨h1,⟨h2,k2⟩,⟨h3,k3⟩,⟨h4,k4⟩,_⟩:=h;exact⟨h1,⟨h2,k2⟩,⟨h3,fun y hy=>⟨(k3 y hy).1,(k3 y hy).2.1⟩⟩,fun x hx=>aS6 (k4 x hx)⟩
theorem aS8 {W:pR}(hT:DA W) (v:pS) (c:C4) (u:pS) (s:pD) (hv:tX (IV W) W xG c v) (hu:tX (IV W) W .str s u) (hB:Bd xG c):
  Calls Tryz.prog 5 #[v,u] W fun e W'=>e= .returned (.bool true)/\Below W.heap.size W W':=by
 have hC:aAh (TZ c s) YV=some (PT c s):=aPZ _ _;have ht:=aSL (aS7 hB) s;refine(aP1.1.2 (IV W) W (TZ c s) [v,u] [] _ ⟨(fun i b h=>by cases h),(fun i j bi bj b o _ h=>by cases h),fun b o h=>h,hT,(fun i blk b o h=>by cases h)⟩ ⟨v,[u],rfl,⟨hv,trivial⟩,u,[],rfl,⟨hu,trivial⟩,rfl⟩ hC ?_).mono fun e W' ⟨v,g',he,r⟩=> ?_
 .intro p hp;have:p=((MY c s).isSome=true):=by simpa[PT] using hp
  rw[this,ht];rfl
 .have hv:v= .bool true:=by
   have h1:=r.ret;unfold PT at h1;rw[ht] at h1;exact wE h1.1
  subst hv;exact⟨he,⟨r.fr.os,r.fr.tape,r.fr.output,r.fr.size,fun k hk=>r.fr.blk k hk (fun o ⟨i,blk,hi,_⟩=>by cases hi)⟩⟩
end Go.Proofs.YtkpflnijijccpaaGreatDoor
namespace Go.Proofs.YtkpflnijijccpaaGreatDoor
open Go.ChangeShapes Go.WideShapes Go.ChangeAt Go.RowKit Go.Lib
theorem aS9:(Rows.elementsInverseRow.inPlace==Tryz.prog.inPlace 5)=true:=by kernel_rfl
theorem aTa:(Rows.elementsInverseRow.unfollowed==Tryz.prog.unfollowed 5)=true:=by kernel_rfl
theorem aTb:(Rows.elementsInverseRow.recurses==Tryz.prog.recurses 5)=true:=by kernel_rfl
theorem aTc:(Rows.elementsInverseRow.named==Tryz.prog.varsNamed 5)=true:=by kernel_rfl
theorem aTd:joinedFacts Tryz.prog 5 Tryz.f5 Rows.elementsInverseSpec Rows.elementsInverseRow=true:=by
 unfold joinedFacts;rw[aS9,aTa,aTb,aTc]
 kernel_rfl
namespace elementsInverseLaw
theorem own:ownKnob Tryz.prog.godebug=none:=by kernel_rfl
theorem IW:laidOutB Tryz.prog=true:=by kernel_rfl
theorem aTe:Tryz.prog.readableRec 36=true:=by kernel_rfl
theorem ltC:36<Tryz.prog.types.size:=aV4 pU
theorem aTg:Tryz.prog.readableRec 9=true:=by kernel_rfl
theorem ltS:9<Tryz.prog.types.size:=aV4 pU
def UY:pS:= .agg #[.string ⟨#[]⟩,.slice none 0 0,.slice none 0 0,.slice none 0 0]
theorem aTi (os:Os) {H:Type}(enc:TypeId×pS->H):
  (OpenSpec.ofChange Rows.elementsInverseSpec).preRow enc Tryz.prog Tryz.f5 [] false Rows.elementsInverseRow.laid ((a0c os).forCall (fun _ _=>0) ⟨#[],#[UY,.string ⟨#[]⟩],[]⟩).memory #[UY,.string ⟨#[]⟩]:=by
 have hw:(DataW.whole enc Tryz.prog ((a0c os).forCall (fun _ _=>0) ⟨#[],#[UY,.string ⟨#[]⟩],[]⟩).memory Tryz.f5.params.toList (OpenSpec.ofChange Rows.elementsInverseSpec).vars false #[UY,.string ⟨#[]⟩].toList 8).map (fun x=>(x.1,x.2.1))=
   some ([.agg [.lit (.string []),.nil,.nil,.nil],.lit (.string [])],[]):=by kernel_rfl
 obtain⟨⟨x1,x2,x3⟩,hx,hx1⟩:=aVA.1 hw;simp only[aV0] at hx1;obtain⟨rfl,rfl⟩:=hx1;exact OpenSpec.preRow_of_cond 8 hx pU (fun k hk=>by cases hk) pU (aSY os _)
theorem lifted (os:Os) (started:os.Started) (H:Type) (enc:TypeId×pS->H) (F:Stop.Interp):
  ReturnsInHanded {} Tryz.checked os 5 .any ((OpenSpec.ofChange Rows.elementsInverseSpec).preRow enc Tryz.prog Tryz.f5 [] false Rows.elementsInverseRow.laid) (Rows.elementsInverseSpec.post enc Tryz.prog Tryz.f5 false true false false):=by
 refine aSO (C:=Tryz.checked) (tb:=4) own started F pU Tryz.func5 IW ?_ rfl rfl Tryz.underlying4 ?_
  (witness_row_atRef (enc:=enc) (C:=Tryz.checked) false (a0c os) #[UY,.string ⟨#[]⟩] rfl pU pU pU (aTi os enc)) ?_
 .intro t ht;rw[Tryz.params5] at ht;simp only[aVH,aW4,or_false] at ht;rcases ht with rfl|rfl
  .exact⟨aTe,ltC⟩
  .exact⟨aTg,ltS⟩
 .intro ds W args ps h;have h':DataW.TrodAll enc Tryz.prog W 0 (fun _=>true) true Tryz.f5.params.toList args.toList ds ps:=h;rw[Tryz.params5] at h';obtain⟨v0,v1,d0,d1,p0,p1,rfl,rfl,rfl,h0,h1⟩:=trodAll_two h';rfl
 .intro W base args ds ps hval0 hA0 hlt hsz0 hL hsh;have hval: ∀(j:Nat) t v,Tryz.f5.params[j]? =some t->args[j]? =some v->Value.okWide Tryz.prog W .any base t v:=hval0;have hA:DataW.TrodAll enc Tryz.prog W 0 (fun _=>true) true Tryz.f5.params.toList args.toList ds ps:=hA0;have hsz:(DataW.weightsEach Tryz.prog Tryz.f5.params.toList ds).all (·<=reachBytes)=true:=hsz0;rw[Tryz.params5] at hA hval hsz;obtain⟨v0,v1,d0,d1,p0,p1,rfl,rfl,rfl,h0,h1⟩:=trodAll_two hA;obtain⟨c,hv,hB⟩:=aLo aS5 (hval 0 36 v0 rfl rfl) h0 (fun n hn=>by
   have:=aWa.1 hsz n (DataW.weights_mem_each (j:=0) rfl rfl n hn);simpa using this)
  obtain⟨s,hu,_⟩:=aLo KX (hval 1 9 v1 rfl rfl) h1 (fun n hn=>by
   have:=aWa.1 hsz n (DataW.weights_mem_each (j:=1) rfl rfl n hn);simpa using this)
  exact aS8 (aSX hL hsh) v0 c v1 s hv hu hB
end elementsInverseLaw
theorem aLq:Rows.ElementsInverseSaid:=
 OpenClaim.holds_of_wide 5 Tryz.f5 rfl rfl rfl rfl rfl rfl rfl ⟨rfl,rfl,rfl,rfl,rfl⟩ rfl rfl rfl rfl rfl pU Tryz.func5 aTd
  (aV4 pU) (by unfold Func.isWrapper;first|(rw[aVs (by decide+kernel)];kernel_rfl) |(rw[aVv (by decide+kernel)];exact⟨rfl,rfl⟩))
  (fun os started H enc _=>by rw[OpenClaim.pre_eq_preRow];exact elementsInverseLaw.lifted os started H enc (fun _ _ _=>0))
#print axioms aLq
end Go.Proofs.YtkpflnijijccpaaGreatDoor
namespace Go.Proofs.YtkpflnijijccpaaGreatDoor
open Go
theorem aTj:Rows.elementsInverseRow.wfByText (OpenSpec.ofChange Rows.elementsInverseSpec)=true:=by kernel_rfl
theorem aTk:Tryz.prog.mainIs=some (true, "1008dd62a78bd228180e1c22f450e234c81a9eabf1ab0f49fd7302bf1e97eed2".toList):=by kernel_rfl
theorem aTl:false=Tryz.prog.looks []:=by kernel_rfl
theorem aTm:false=Rows.elementsInverseRow.goesBy Tryz.prog:=by kernel_rfl
theorem aTn:Tryz.prog.funcNamed "calque/calquelaw41.ElementsInverse" =some 5:=by kernel_rfl
theorem aTo:([36,9].all fun u=> !Tryz.prog.wantsStandIn u)=true:=by kernel_rfl
theorem elementsInverseCard_holds:Rows.ElementsInverseCardSaid:=
 Claim7.holds_tied_plain_at .later [] [.data,.data,.data,.data,.listed,.data,.pinned] true (true, "1008dd62a78bd228180e1c22f450e234c81a9eabf1ab0f49fd7302bf1e97eed2") false
  aLq (fun _ h=>by cases h) aTj (fun _ h=>by cases h) elementsInverse_row_tie rfl ⟨rfl,rfl⟩ aTk rfl
  (fun f fn hf hfn=>by
   obtain rfl:f=5:=aVx (aTn.symm.trans hf) |>.symm
   obtain rfl:fn=Tryz.f5:=(aVx (Tryz.func5.symm.trans hfn)).symm;exact⟨aTl,fun j t ht=>by
    rw[Tryz.params5] at ht;have hm:t∈[36,9]:=by simpa using Array.mem_of_getElem? ht
    exact(show Tryz.prog.wantsStandIn t=false by simpa using aWa.1 aTo t hm)⟩)
  aTm
#print axioms elementsInverseCard_holds
end Go.Proofs.YtkpflnijijccpaaGreatDoor
