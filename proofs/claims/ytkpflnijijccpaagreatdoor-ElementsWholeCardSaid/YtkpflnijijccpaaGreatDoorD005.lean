/- ElementsWhole returns true for every body (the pieces of a body, one after the other, are the body, with one item for each entry): the tied card of the statement, over the row's statement. No condition. -/
/- Packed by a program of mine (wip/tools/pack.py): the same texts with short names and few blanks. -/
import Derived.Deep.CondSized
import Derived.Deep.DeepHandedRow
import Derived.Deep.DeepWitnessRowRef
import Derived.Lib.LaidIn
import Derived.Lib.LaidTab
import Derived.Lib.LaidU8T
import Derived.Lib.SpaceR
import Derived.OpenShut
import Derived.ProofKit
import Derived.SevenTiedAt
import Derived.SizedLaws
import Derived.Test.YtkpflnijijccpaaGreatDoorCards
import Derived.Test.YtkpflnijijccpaaGreatDoorRows
import Derived.Test.YtkpflnijijccpaaGreatDoorTie
import Derived.WalkKit
import Derived.Test.YtkpflnijijccpaaGreatDoorD004
set_option linter.defProp false
set_option linter.unusedVariables false
set_option linter.unusedSimpArgs false
set_option linter.unusedSectionVars false
set_option maxRecDepth 100000
set_option maxHeartbeats 4000000
namespace Go.Proofs.YtkpflnijijccpaaGreatDoor
open Vc
noncomputable section
abbrev F2 (n:Int):pC:=qU .str ([[110,101,119],[102,117,122,122,121],[116,114,97,110,115,108,97,116,101,100],[114,101,118,105,101,119,101,100],[111,98,115,111,108,101,116,101]]:pD) n
def xF (x:uE):List (pC×pC×pC):=
 (tZ,uW x.1,x.1)::((if x.2.2.2.2.2.1=0 then[] else[(x8,F2 x.2.2.2.2.2.1,F2 x.2.2.2.2.2.1)])++(if x.2.2.2.2.1=[] then[] else[(uB,vN x.2.2.2.2.1 [32],vN x.2.2.2.2.1 [32])]))
theorem a9a {n:Int}(h0:0<=n) (h4:n<=4):uW (F2 n)=F2 n/\sW (F2 n)=true/\AG (F2 n)=n:=by
 have:n=0\/n=1\/n=2\/n=3\/n=4:=by omega
 rcases this with rfl|rfl|rfl|rfl|rfl<;>exact⟨pT,pT,pT⟩
theorem T5 {x:pC}(h:uQ x=true):x.length<=40/\∀b∈x,uG b.toNat=[b]/\b.toNat<128:=by
 cases x with
 |nil=>cases h
 |cons c t=>
  unfold uQ at h;simp only[aRw,aRK,aRV,aR1] at h;refine⟨by rw[aRj];omega,fun b hb=> ?_⟩;rcases aRu.1 hb with rfl|hb
  .refine⟨(SS b).2.2 h.1.2,?_⟩;have:=h.1.2;unfold zH at this;simp only[aRw,aRG] at this;omega
  .have h2:yP b.toNat=false:=by simpa using h.2 b hb
   exact⟨(SS b).1 h2,aF6 h2⟩
theorem aHN {l:pD}(h: ∀x∈l,uQ x=true) (hl:l.length<=20):uW (vN l [32])=vN l [32]/\sW (vN l [32])=true:=by
 have hb: ∀b∈vN l [32],uG b.toNat=[b]/\b.toNat<128:=by
  intro b hb;cases l with
  |nil=>simp [vN,Lib.join_nil] at hb
  |cons x r=>
   rw[XU] at hb;rcases aR2.1 hb with hb|hb
   .exact(T5 (h x aRm)).2 b hb
   .obtain⟨y,hy,hb⟩:=List.mem_flatMap.1 hb;rcases aR2.1 hb with hb|hb
    .rw[aRv.1 hb];exact⟨pT,pG⟩
    .exact(T5 (h y (aRo _ hy))).2 b hb
 have hlen:(vN l [32]).length<=1000:=by
  cases l with
  |nil=>simp [vN,Lib.join_nil]
  |cons x r=>
   rw[XU,aRg];have h2:=(T5 (h x aRm)).1;have h3:=LZ (l:=r) (h:=fun y=>[32]++y) (B:=41) fun y hy=>by
    have:=(T5 (h y (aRo _ hy))).1;simp only[aRg,aRj,aRq];omega
   simp only[aRj] at hl;have h4:r.length*41<=20*41:=aSu _ pF;omega
 refine⟨a8I fun b hb2=>(hb b hb2).1,?_⟩;unfold sW;rw[aRF (show ((vN l [32]).length:Int)<=4000 by omega),a8l fun b hb2=>(hb b hb2).2];rfl
structure T6 (x:uE):Prop where
 ne:x.1≠[]
 len:x.1.length<=200
 id:sW x.1=true
 src:sW x.2.1=true
 tgt:sW x.2.2.1=true
 com:wG x.2.2.2.1=true
 flg:FX x.2.2.2.2.1=true
 r0:0<=x.2.2.2.2.2.1
 r4:x.2.2.2.2.2.1<=4
 fld:vU x.2.2.2.2.2.2.1=true
theorem a9b {x:uE}(h:yQ x=true):T6 x:=by
 unfold yQ at h;simp only[aRw,aRG,aRK,aR1] at h;obtain⟨⟨⟨⟨⟨⟨⟨⟨h1,h2⟩,h3⟩,h4⟩,h5⟩,h6⟩,h7⟩,h8,h9⟩,h10⟩:=h;exact⟨h1,pF,h3,h4,h5,h6,h7,h8,h9,h10⟩
theorem aHO {x:uE}(h:T6 x): ∀a∈xF x,F1 a:=by
 obtain⟨f1,f2,f3⟩:=SK h.flg;obtain⟨s1,s2,s3⟩:=a9a h.r0 h.r4;obtain⟨j1,j2⟩:=aHN f2 f1;intro a ha;unfold xF at ha;rcases aRu.1 ha with rfl|ha
 .exact aOr nmI h.id
 .rcases aR2.1 ha with ha|ha
  .split at ha
   .cases ha
   .rw[aRv.1 ha];exact YA aOu s1 s2
  .split at ha
   .cases ha
   .rw[aRv.1 ha];exact YA aOv j1 j2
theorem aOy (x:uE):((xF x).map (·.1)).Nodup:=by
 unfold xF;by_cases h1:x.2.2.2.2.2.1=0<;>by_cases h2:x.2.2.2.2.1=[]<;>simp [h1,h2]
theorem aOz (x:uE):s0 (zA (xF x)) tZ=x.1/\s0 (zA (xF x)) x8=(if x.2.2.2.2.2.1=0 then[] else F2 x.2.2.2.2.2.1)/\s0 (zA (xF x)) uB=vN x.2.2.2.2.1 [32]:=by
 have hj:vN [] [32]=[]:=rfl;unfold xF zA s0;by_cases h1:x.2.2.2.2.2.1=0<;>by_cases h2:x.2.2.2.2.1=[]<;>simp [h1,h2,hj]
theorem aOA (x:uE):xE (zA (xF x)) [tZ] [tZ,x8,uB]=true:=by
 unfold xE xF zA;by_cases h1:x.2.2.2.2.2.1=0<;>by_cases h2:x.2.2.2.2.1=[]<;>simp [h1,h2]
theorem aOB {x:uE}(h:T6 x):(zA (xF x)).any AI=false:=by
 obtain⟨f1,f2,f3⟩:=SK h.flg;obtain⟨s1,s2,s3⟩:=a9a h.r0 h.r4;rw[aRV];intro a ha;unfold zA at ha;obtain⟨b,hb,rfl⟩:=List.mem_map.1 ha;unfold xF at hb;rcases aRu.1 hb with rfl|hb
 .unfold AI;rw[aRf rfl];have:=h.len;simp [h.ne];omega
 .rcases aR2.1 hb with hb|hb
  .split at hb
   .cases hb
   .rw[aRv.1 hb];unfold AI;rw[aRk (by dsimp only;decide),aRf rfl];dsimp only;rw[s3,aRF h.r0];decide
  .split at hb
   .cases hb
   .rw[aRv.1 hb];unfold AI;rw[aRk (by dsimp only;decide),aRk (by dsimp only;decide)];dsimp only;rw[aHz f2,aRX.2 f2];decide
def HV (x:uE):List TE:=x.2.2.2.1.flatMap (fun s=>vF i4 yD [] s)++(((if x.2.1=[] then[] else vF i4 wI [] x.2.1)++(if x.2.2.1=[] then[] else vF i4 yR [] x.2.2.1))++x.2.2.2.2.2.2.1.flatMap (fun f=>vF i4 xW (DP f) f.2.1))
def JN:List TE:=[(3,[10,32,32]),(2,vV z7)]
def zI (x:uE):List TE:=(3,[10,32,32])::(2,vE z7 (xF x))::(HV x++JN)
theorem YB {α:Type}(l:List α) (g:α->List TE):sP (l.flatMap g)=l.flatMap fun a=>sP (g a):=by
 unfold sP;rw[List.flatMap_assoc]
theorem OX (n r v:pC):tV [(n,r,v)]=((([32]++n)++[61,34])++r)++[34]:=by
 unfold tV;rw[aR9,List.flatMap_nil,List.append_nil]
theorem aHP (x:uE):sP (zI x)=yT x:=by
 have hin:sP (HV x)=(CX i4 x.2.2.2.1++(EY x++DM x))++G5 i4 x.2.2.2.2.2.2.1:=by
  unfold HV;rw[HT,HT,HT,YB,YB];have e1:(fun s=>sP (vF i4 yD [] s))=G4 i4:=by funext s;rw[OU];rfl
  have e2:(fun f:rZ=>sP (vF i4 xW (DP f) f.2.1))=DL i4:=by
   funext f;rw[OU];unfold DP DL;rw[OX];unfold HQ;rfl
  have e3:sP (if x.2.1=[] then[] else vF i4 wI [] x.2.1)=EY x:=by
   unfold EY;by_cases h:x.2.1=[]
   .rw[aRf h,aRf h];rfl
   .rw[aRk h,aRk h,OU];rfl
  have e4:sP (if x.2.2.1=[] then[] else vF i4 yR [] x.2.2.1)=DM x:=by
   unfold DM;by_cases h:x.2.2.1=[]
   .rw[aRf h,aRf h];rfl
   .rw[aRk h,aRk h,OU];rfl
  rw[e1,e2,e3,e4];unfold CX G5;simp only[aRl]
 have hatt:tV (xF x)=((([32,105,100,61,34]++uW x.1)++[34])++HS x.2.2.2.2.2.1)++G6 x.2.2.2.2.1:=by
  have e0:tV (xF x)=tV [(tZ,uW x.1,x.1)]++(tV (if x.2.2.2.2.2.1=0 then[] else[(x8,F2 x.2.2.2.2.2.1,F2 x.2.2.2.2.2.1)])++tV (if x.2.2.2.2.1=[] then[] else[(uB,vN x.2.2.2.2.1 [32],vN x.2.2.2.2.1 [32])])):=by
   unfold xF tV;rw[aR9,List.flatMap_append];simp
  have e1:tV (if x.2.2.2.2.2.1=0 then[] else[(x8,F2 x.2.2.2.2.2.1,F2 x.2.2.2.2.2.1)])=HS x.2.2.2.2.2.1:=by
   unfold HS;by_cases h:x.2.2.2.2.2.1=0
   .rw[aRf h,aRf h];rfl
   .rw[aRk h,aRk h,OX];rfl
  have e2:tV (if x.2.2.2.2.1=[] then[] else[(uB,vN x.2.2.2.2.1 [32],vN x.2.2.2.2.1 [32])])=G6 x.2.2.2.2.1:=by
   unfold G6;by_cases h:x.2.2.2.2.1=[]
   .rw[aRf h,aRf h];rfl
   .rw[aRk h,aRk h,OX];rfl
  rw[e0,e1,e2,OX];simp only[aRl];rfl
 unfold zI;rw[M4,M4,HT,hin];unfold vE yT JJ;rw[hatt];simp only[aRl,List.cons_append,List.nil_append];rfl
end
noncomputable section
theorem JO: ∀b∈i4,blk b=true:=by decide
theorem YC: ∀b∈i2,blk b=true:=by decide
theorem YD: ∀b∈i4,b≠60:=by decide
theorem aHQ: ∀b∈i2,b≠60:=by decide
theorem T7 {α:Type}{g:α->List TE}{Q:List TE}(hQ:wA Q): ∀{l:List α},(∀a∈l,wA (g a)/\t8 (g a))->wA (l.flatMap g++Q)
 |[],_=>hQ
 |a::l,h=>by
  rw[aR9,aRl];exact a87 (h a aRm).1 (h a aRm).2 (T7 hQ fun b hb=>h b (aRo _ hb))
theorem aHR {P Q:List TE}{p:Prop}[Decidable p] (h1:wA P) (h2:t8 P) (hQ:wA Q):wA ((if p then[] else P)++Q):=by
 by_cases h:p
 .rw[aRf h];exact hQ
 .rw[aRk h];exact a87 h1 h2 hQ
theorem aOC:wA JN:=T1 pH pG (aHG M6.sm) trivial
theorem aOD {x:uE}(h:T6 x):wA (zI x):=by
 obtain⟨g1,g2,g3⟩:=HL h.fld;unfold zI;refine T1 pH pG (Y3 M6.ne M6.sm (aHO h)) ?_;unfold HV;simp only[aRl];refine T7 ?_ fun s _=>⟨OW YD T2 (fun a ha=>by cases ha),OV _ _ _ _⟩;refine aHR (OW YD Y4 (fun a ha=>by cases ha)) (OV _ _ _ _) ?_;refine aHR (OW YD Y5 (fun a ha=>by cases ha)) (OV _ _ _ _) ?_;exact T7 aOC fun f hf=>⟨OW YD T3 (a89 (g2 f hf).1),OV _ _ _ _⟩
theorem aOE (x:uE):t8 (zI x):=by
 unfold zI;refine(t8.app ?_).cons.cons;exact⟨[(3,[10,32,32])],(2,vV z7),rfl,rfl⟩
theorem aHS: ∀(l:pD) (st:EU) (n:Nat) (R:List TE),(∀s∈l,sW s=true)->st.2.2.1.length+l.length<=20->
  tP (n+l.length) st (l.flatMap (fun s=>vF i4 yD [] s)++R)=tP n (st.1,st.2.1,st.2.2.1++l,st.2.2.2.1,st.2.2.2.2.1,st.2.2.2.2.2) R
 |[],st,n,R,_,_=>by
  simp only[List.flatMap_nil,List.nil_append,List.append_nil,aRq,aSg]
 |s::l,st,n,R,h,hl=>by
  simp only[aRj] at hl;have ih:=aHS l (st.1,st.2.1,st.2.2.1++[s],st.2.2.2.1,st.2.2.2.2.1,st.2.2.2.2.2) n R (fun y hy=>h y (aRo _ hy)) (by simp only[aRg,aRj,aRq];omega);rw[aR9,aRl,aRj,<-aRZ,tP,aHJ JO,aRk pH,aRf rfl,aHL JO (h s aRm) pF];dsimp only;rw[ih];simp only[aRl,List.cons_append,List.nil_append]
theorem aHT: ∀(l:List rZ) (st:EU) (n:Nat) (R:List TE),(∀f∈l,uQ f.1=true/\sW f.2.1=true)->(st.2.2.2.1++l).Pairwise (fun a b=>a.1<b.1)->st.2.2.2.1.length+l.length<=20->
  tP (n+l.length) st (l.flatMap (fun f=>vF i4 xW (DP f) f.2.1)++R)=tP n (st.1,st.2.1,st.2.2.1,st.2.2.2.1++l,st.2.2.2.2.1,st.2.2.2.2.2) R
 |[],st,n,R,_,_,_=>by
  simp only[List.flatMap_nil,List.nil_append,List.append_nil,aRq,aSg]
 |f::l,st,n,R,h,hp,hl=>by
  simp only[aRj] at hl;have hf:=h f aRm;have hlt: ∀y∈st.2.2.2.1,y.1<f.1:=fun y hy=>(aS7.1 hp).2.2 y hy f aRm;have ih:=aHT l (st.1,st.2.1,st.2.2.1,st.2.2.2.1++[f],st.2.2.2.2.1,st.2.2.2.2.2) n R (fun y hy=>h y (aRo _ hy)) (by simpa using hp) (by simp only[aRg,aRj,aRq];omega);rw[aR9,aRl,aRj,<-aRZ,tP,aHK hf.1 JO,aRk pH,aRk pH,aRf rfl,aHM JO hf.1 hf.2 hlt pF];dsimp only;rw[ih];simp only[aRl,List.cons_append,List.nil_append]
theorem aOF (st:EU) (n:Nat) (R:List TE):tP (n+1) st (JN++R)=some (st,R):=by
 have hc:=aHH M6.ne M6.sm;have hs:qZ (JN++R)=(2,vV z7)::R:=by
  show qZ ((3,[10,32,32])::(2,vV z7)::R)=_;rw[Y8 pG,T4 rfl]
 rw[tP,hs,aRf (.inl hc.1),XV,aRf hc];rfl
theorem aOG {x:uE}(h:T6 x): ∃K b1 b2,∀R,tP K AJ ((HV x++JN)++R)=some ((x.2.1,x.2.2.1,x.2.2.2.1,x.2.2.2.2.2.2.1,b1,b2),R):=by
 obtain⟨c1,c2⟩:=M0 h.com;obtain⟨g1,g2,g3⟩:=HL h.fld;obtain⟨b1,e2⟩: ∃b,∀n R,tP (n+1) ([],[],[]++x.2.2.2.1,[],false,false) ((if x.2.1=[] then[] else vF i4 wI [] x.2.1)++R)=tP (n+(if x.2.1=[] then 1 else 0)) (x.2.1,[],[]++x.2.2.2.1,[],b,false) R:=by
  by_cases hh:x.2.1=[]
  .refine⟨false,fun n R=> ?_⟩;rw[aRf hh,aRf hh,hh];rfl
  .refine⟨true,fun n R=> ?_⟩;have hp:rD (qZ (vF i4 wI [] x.2.1++R))=(1,wI,[],false):=by
    rw[JM JO];exact M5 Y4.ne Y4.sm (fun a ha=>by cases ha) .nil
   rw[aRk hh,aRk hh,tP,hp,aRk pH,aRk pG,aRk pG,aRf rfl,aRf ⟨rfl,rfl,rfl⟩,JM JO,Y9 Y4 pH rfl h.src];rfl
 obtain⟨b2,e3⟩: ∃b,∀n R,tP (n+1) (x.2.1,[],[]++x.2.2.2.1,[],b1,false) ((if x.2.2.1=[] then[] else vF i4 yR [] x.2.2.1)++R)=tP (n+(if x.2.2.1=[] then 1 else 0)) (x.2.1,x.2.2.1,[]++x.2.2.2.1,[],b1,b) R:=by
  by_cases hh:x.2.2.1=[]
  .refine⟨false,fun n R=> ?_⟩;rw[aRf hh,aRf hh,hh];rfl
  .refine⟨true,fun n R=> ?_⟩;have hp:rD (qZ (vF i4 yR [] x.2.2.1++R))=(1,yR,[],false):=by
    rw[JM JO];exact M5 Y5.ne Y5.sm (fun a ha=>by cases ha) .nil
   rw[aRk hh,aRk hh,tP,hp,aRk pH,aRk pG,aRk pG,aRk pG,aRf rfl,aRf ⟨rfl,rfl,rfl⟩,JM JO,Y9 Y5 pH rfl h.tgt];rfl
 refine⟨((((1+x.2.2.2.2.2.2.1.length)+(if x.2.2.1=[] then 0 else 1))+(if x.2.1=[] then 0 else 1))+x.2.2.2.1.length),b1,b2,fun R=> ?_⟩;have s2: ∀n R,tP (n+(if x.2.1=[] then 0 else 1)) ([],[],[]++x.2.2.2.1,[],false,false) ((if x.2.1=[] then[] else vF i4 wI [] x.2.1)++R)=tP n (x.2.1,[],[]++x.2.2.2.1,[],b1,false) R:=by
  intro n R;by_cases hh:x.2.1=[]
  .have:=e2 0 [];rw[aRf hh,aRf hh,List.nil_append,aSg];cases n with
   |zero=>rfl
   |succ n=>have:=e2 n R;rwa [aRf hh,aRf hh,List.nil_append] at this
  .have:=e2 n R;rw[aRk hh,aRk hh,aSg] at this;rw[aRk hh,aRk hh];exact this
 have s3: ∀n R,tP (n+(if x.2.2.1=[] then 0 else 1)) (x.2.1,[],[]++x.2.2.2.1,[],b1,false) ((if x.2.2.1=[] then[] else vF i4 yR [] x.2.2.1)++R)=tP n (x.2.1,x.2.2.1,[]++x.2.2.2.1,[],b1,b2) R:=by
  intro n R;by_cases hh:x.2.2.1=[]
  .rw[aRf hh,aRf hh,List.nil_append,aSg];cases n with
   |zero=>rfl
   |succ n=>have:=e3 n R;rwa [aRf hh,aRf hh,List.nil_append] at this
  .have:=e3 n R;rw[aRk hh,aRk hh,aSg] at this;rw[aRk hh,aRk hh];exact this
 unfold HV;simp only[aRl];rw[aHS x.2.2.2.1 AJ _ _ c2 (by show 0+_<=20;omega)];show tP _ ([],[],[]++x.2.2.2.1,[],false,false) _=_;rw[s2,s3,aHT x.2.2.2.2.2.2.1 _ 1 _ (fun f hf=>⟨(g2 f hf).1,(g2 f hf).2.2⟩) (by simpa using g3) (by show 0+_<=20;omega)];rw[show (1:Nat)=0+1 from rfl,aOF];rfl
end
noncomputable section
theorem aOH {x:uE}(hx:yQ x=true):a8U (zI x) x:=by
 have h:=a9b hx;obtain⟨f1,f2,f3⟩:=SK h.flg;obtain⟨s1,s2,s3⟩:=a9a h.r0 h.r4;obtain⟨K,b1,b2,hrun⟩:=aOG h;refine⟨aOE x,hx,fun es R hf hl=> ?_⟩;have hsk:qZ (zI x++R)=(2,vE z7 (xF x))::((HV x++JN)++R):=by
  show qZ ((3,[10,32,32])::(2,vE z7 (xF x))::((HV x++JN)++R))=_;rw[Y8 pG,T4 rfl]
 have hpk:rD (qZ (zI x++R))=(1,z7,zA (xF x),false):=by
  rw[hsk];exact M5 M6.ne M6.sm (aHO h) (aOy x)
 rw[hpk];refine⟨by simp,?_⟩;obtain⟨g1,g2,g3⟩:=aOz x;obtain⟨P,p1,_,p3,_⟩:=a8Q K AJ _ _ R (hrun R) a8S;have hP:P=HV x++JN:=(List.append_cancel_right p1).symm;subst hP;have hst:max 0 (AG (s0 (zA (xF x)) x8))=x.2.2.2.2.2.1:=by
  rw[g2];by_cases h0:x.2.2.2.2.2.1=0
  .rw[aRf h0,h0];decide
  .rw[aRk h0,s3];have:=h.r0;omega
 have hfl:tK (s0 (zA (xF x)) uB)=x.2.2.2.2.1:=by rw[g3];exact aHz f2
 have hin:tP (qZ (zI x++R)).length AJ ((qZ (zI x++R)).drop 1)=some ((x.2.1,x.2.2.1,x.2.2.2.1,x.2.2.2.2.2.2.1,b1,b2),R):=by
  rw[hsk];exact p3 R _ (by simp only[aRj,aRg];omega)
 unfold xY;rw[aRf ⟨.inl rfl,rfl,aOA x,aOB h,rfl,by dsimp only;rw[g1];exact hf,by dsimp only;rw[hfl];exact aOj f3,by dsimp only;rw[hfl];exact f1,hl⟩,aRf rfl,hin];show some ((s0 (zA (xF x)) tZ,(x.2.1,(x.2.2.1,(x.2.2.2.1,(sG (tK (s0 (zA (xF x)) uB)),(max 0 (AG (s0 (zA (xF x)) x8)),(x.2.2.2.2.2.2.1,()))))))),R)=some (x,R);rw[g1,hfl,aHA f3,hst]
def JP:List TE:=[(3,[10]),(2,vE xX [])]
def OY (c:C4):List (pC×pC×pC):=[(w7,c.1,c.1)]
def JQ (c:C4):List TE:=c.2.1.flatMap (fun s=>vF i2 yD [] s)++c.2.2.1.flatMap (fun f=>vF i2 xW (DP f) f.2.1)
def F3 (c:C4):List TE:=(2,vE yS (OY c))::(JQ c++JP)
theorem aHU {s:pC}(h:xC s=true):sW s=true:=by
 unfold xC at h;simp only[aRw,aRK,aRV,aRG] at h;unfold sW;rw[aRF (show (s.length:Int)<=4000 by omega),a8l fun b hb=> ?_]
 .rfl
 .have:=h.1 b hb;unfold LT at this;simp at this;have:=UInt8.toNat_lt b;omega
theorem aHV {c:C4}(h:xC c.1=true): ∀a∈OY c,F1 a:=by
 intro a ha;rw[aRv.1 ha];exact YA aOw (aND h) (aHU h)
theorem aHW (c:C4):sP (F3 c)=CY c:=by
 have e1:(fun s=>sP (vF i2 yD [] s))=G4 i2:=by funext s;rw[OU];rfl
 have e2:(fun f:rZ=>sP (vF i2 xW (DP f) f.2.1))=DL i2:=by
  funext f;rw[OU];unfold DP DL;rw[OX];unfold HQ;rfl
 unfold F3 JQ;rw[M4,HT,HT,YB,YB,e1,e2];unfold vE OY CY CX G5;rw[OX];simp only[aRl,List.cons_append,List.nil_append];rfl
theorem aOI {c:C4}(h1:xC c.1=true) (h3:vU c.2.2.1=true):wA (F3 c):=by
 obtain⟨g1,g2,g3⟩:=HL h3;unfold F3 JQ;refine a86 (Y3 Y7.ne Y7.sm (aHV h1)) ?_;simp only[aRl];refine T7 ?_ fun s _=>⟨OW aHQ T2 (fun a ha=>by cases ha),OV _ _ _ _⟩;refine T7 ?_ fun f hf=>⟨OW aHQ T3 (a89 (g2 f hf).1),OV _ _ _ _⟩;exact T1 pH pG (Y3 Y6.ne Y6.sm (fun a ha=>by cases ha)) trivial
theorem aHX: ∀(l:pD) (st:G3) (n:Nat) (R:List TE),(∀s∈l,sW s=true)->st.1.length+l.length<=20->
  w9 (n+l.length) st (l.flatMap (fun s=>vF i2 yD [] s)++R)=w9 n (st.1++l,st.2) R
 |[],st,n,R,_,_=>by
  simp only[List.flatMap_nil,List.nil_append,List.append_nil,aRq,aSg]
 |s::l,st,n,R,h,hl=>by
  simp only[aRj] at hl;have ih:=aHX l (st.1++[s],st.2) n R (fun y hy=>h y (aRo _ hy)) (by simp only[aRg,aRj,aRq];omega);rw[aR9,aRl,aRj,<-aRZ,w9,aHJ YC,aRf ⟨rfl,by simp⟩,aHL YC (h s aRm) pF];dsimp only;rw[ih];simp only[aRl,List.cons_append,List.nil_append]
theorem aHY: ∀(l:List rZ) (st:G3) (n:Nat) (R:List TE),(∀f∈l,uQ f.1=true/\sW f.2.1=true)->(st.2++l).Pairwise (fun a b=>a.1<b.1)->st.2.length+l.length<=20->
  w9 (n+l.length) st (l.flatMap (fun f=>vF i2 xW (DP f) f.2.1)++R)=w9 n (st.1,st.2++l) R
 |[],st,n,R,_,_,_=>by
  simp only[List.flatMap_nil,List.nil_append,List.append_nil,aRq,aSg]
 |f::l,st,n,R,h,hp,hl=>by
  simp only[aRj] at hl;have hf:=h f aRm;have hlt: ∀y∈st.2,y.1<f.1:=fun y hy=>(aS7.1 hp).2.2 y hy f aRm;have ih:=aHY l (st.1,st.2++[f]) n R (fun y hy=>h y (aRo _ hy)) (by simpa using hp) (by simp only[aRg,aRj,aRq];omega);rw[aR9,aRl,aRj,<-aRZ,w9,aHK hf.1 YC,aRk (by rintro⟨e,_⟩;exact absurd (show xW=yD from e) pG),aRf ⟨rfl,by simp⟩,aHM YC hf.1 hf.2 hlt pF];dsimp only;rw[ih];simp only[aRl,List.cons_append,List.nil_append]
theorem aOJ (st:G3) (n:Nat) (R:List TE):w9 (n+1) st (JP++R)=some (st,R):=by
 have hs:qZ (JP++R)=(2,vE xX [])::R:=by
  show qZ ((3,[10])::(2,vE xX [])::R)=_;rw[Y8 pG,T4 rfl]
 have hp:rD (qZ (JP++R))=(1,xX,[],false):=by
  rw[hs];exact M5 Y6.ne Y6.sm (fun a ha=>by cases ha) .nil
 rw[w9,hp,aRk (by rintro⟨e,_⟩;exact absurd e pG),aRk (by rintro⟨e,_⟩;exact absurd e pG),aRf ⟨rfl,rfl,rfl,rfl⟩,hs];rfl
theorem aOK {c:C4}(h1:xC c.1=true) (h2:wG c.2.1=true) (h3:vU c.2.2.1=true):SZ (F3 c) c.1 (c.2.1,c.2.2.1):=by
 obtain⟨c1,c2⟩:=M0 h2;obtain⟨g1,g2,g3⟩:=HL h3;have hlst:t8 (F3 c):=by
  unfold F3;exact(t8.app ⟨[(3,[10])],(2,vE xX []),rfl,rfl⟩).cons
 refine⟨hlst,h1,h2,h3,fun R=> ?_⟩;have hsk:qZ (F3 c++R)=(2,vE yS (OY c))::((JQ c++JP)++R):=by
  show qZ ((2,vE yS (OY c))::((JQ c++JP)++R))=_;rw[T4 rfl]
 have hpk:rD (qZ (F3 c++R))=(1,yS,[(w7,(c.1,()))],false):=by
  rw[hsk];exact M5 Y7.ne Y7.sm (aHV h1) (by simp [OY])
 have hrun: ∀R,w9 ((1+c.2.2.1.length)+c.2.1.length) ([],[]) ((JQ c++JP)++R)=some ((c.2.1,c.2.2.1),R):=by
  intro R;unfold JQ;simp only[aRl];rw[aHX c.2.1 ([],[]) _ _ c2 (by show 0+_<=20;omega),aHY c.2.2.1 _ 1 _ (fun f hf=>⟨(g2 f hf).1,(g2 f hf).2.2⟩) (by simpa using g3) (by show 0+_<=20;omega)];rw[show (1:Nat)=0+1 from rfl,aOJ];rfl
 obtain⟨P,p1,_,p3,_⟩:=a8T _ ([],[]) _ _ R (hrun R) pT pT;have hP:P=JQ c++JP:=(List.append_cancel_right p1).symm;subst hP;have hg:s0 [(w7,(c.1,()))] w7=c.1:=by
  unfold s0;rw[List.foldl_cons,List.foldl_nil,aRf rfl]
 have hall:xE [(w7,(c.1,()))] [w7] [w7]=true:=by
  unfold xE;simp
 unfold EW;rw[hpk,aRf ⟨rfl,rfl,hall,by simpa using h1,rfl⟩,hsk,List.drop_one,List.tail_cons,p3 R _ (by simp only[aRj,aRg];omega)];show some (s0 [(w7,(c.1,()))] w7,(c.2.1,c.2.2.1),R)=_;rw[hg]
theorem aOL:OS (tT DN):=⟨pT,pT⟩
theorem aHZ: ∀(l:List uE),(∀x∈l,yQ x=true)->CZ (l.map zI) l
 |[],_=> .nil
 |x::l,h=> .cons (aOH (h x aRm)) (aHZ l fun y hy=>h y (aRo _ hy))
theorem aOM {c:C4}(h:xU c=true):ES c.2.2.2.1:=by
 have ha:=SL h;exact⟨ha.2.2.2.1,ha.2.2.2.2.1,ha.2.2.2.2.2⟩
end
noncomputable section
theorem YE (ind name attrs s:pC):(DK ind name attrs s).length≤ind.length+attrs.length+2*name.length+6*s.length+7:=by
  have:=OI s;simp only[DK,aRg,aRj,aRq];omega
theorem aH0 {ind:pC}(hi:ind.length≤4) {l:pD}(h:wG l=true):(CX ind l).length≤500000:=by
  obtain⟨h1,h2⟩:=M0 h
  have:=LZ (l:=l) (h:=G4 ind) (B:=25000) fun x hx=>by
    have h3:=YE ind yD [] x;have h4:=zY (h2 x hx);unfold G4;simp only[aRj,aRq] at h3;omega
  unfold CX;have h5:l.length*25000≤20*25000:=aSu _ h1;omega
theorem aH1 {ind:pC}(hi:ind.length≤4) {l:List rZ}(h:vU l=true):(G5 ind l).length≤500000:=by
  obtain⟨h1,h2,_⟩:=HL h
  have:=LZ (l:=l) (h:=DL ind) (B:=25000) fun x hx=>by
    have h3:=YE ind xW (HQ x.1) x.2.1;have h4:=zY (h2 x hx).2.2;have h5:=(T5 (h2 x hx).1).1;unfold DL;have h6:(HQ x.1).length=x.1.length+8:=by simp only[HQ,aRg,aRj,aRq];omega
    simp only[aRj,aRq] at h3;omega
  unfold G5;have h5:l.length*25000≤20*25000:=aSu _ h1;omega
theorem aON {x:uE}(hx:yQ x=true):(yT x).length≤1100000:=by
  have h:=a9b hx;obtain⟨f1,f2,f3⟩:=SK h.flg;have c1:=aH0 (ind:=i4) pH h.com;have c2:=aH1 (ind:=i4) pH h.fld
  have c3:(EY x).length≤25000:=by
    unfold EY;split
    .simp
    · have h3:=YE i4 wI [] x.2.1
      have h4:=zY h.src;simp only[aRj,aRq] at h3;omega
  have c4:(DM x).length≤25000:=by
    unfold DM;split
    .simp
    · have h3:=YE i4 yR [] x.2.2.1
      have h4:=zY h.tgt;simp only[aRj,aRq] at h3;omega
  have c5:=a8N h.r0 h.r4;have c6:=OI x.1;have c7:=h.len
  have c8:(G6 x.2.2.2.2.1).length≤5000:=by
    have hj:=zY (aHN f2 f1).2;unfold G6;split
    .simp
    .simp only[aRg,aRj,aRq];omega
  simp only[yT,JJ,aRg,aRj,aRq];omega
theorem aOO {c:C4}(h:xU c=true):(CY c).length≤1100000:=by
  have ha:=SL h;have c1:=aH0 (ind:=i2) pH ha.2.1;have c2:=aH1 (ind:=i2) pH ha.2.2.1;have c3:=zY (aHU ha.1);simp only[CY,aRg,aRj,aRq];omega
theorem aOP {c:C4}(h:xU c=true) (hn:c.2.2.2.1.length≤700):(DO c).length≤900000000:=by
  have h1:=aOO h;have ha:=SL h
  have hk:=a8O (l:=c.2.2.2.1.map yT) (B:=1100000) fun y hy=>by
    obtain⟨x,hx,rfl⟩:=List.mem_map.1 hy;exact aON (ha.2.2.2.2.1 x hx)
  rw[aR6] at hk;have h2:c.2.2.2.1.length*1100000≤700*1100000:=aSu _ hn;unfold DO ER;simp only[aRg,aRj,aRq];omega
theorem aOQ {t:TE}(h:(uX t).2.1≠[]):(uX t).2.1.length+2≤t.2.length:=by
  unfold uX at h|-;by_cases h2:t.1=2
  · rw[aRf h2] at h|-
    cases hr:AH t.2 with
    |none=>rw[hr] at h;exact absurd rfl h
    | some x=>
      rw[hr] at h;show x.2.1.length+2≤t.2.length;have h:x.2.1≠[]:=h;have hp:=aRL.2 h;unfold AH at hr;split at hr
      · split at hr
        .cases hr
        · cases hr
          dsimp only at hp|-;simp only[aRD,aRA] at hp|-;omega
      · dsimp only at hr
        generalize hu:(if ((t.2.drop 1).take (t.2.length-2)).drop (t.2.length-3)=[47] then(((t.2.drop 1).take (t.2.length-2)).take (t.2.length-3),(2:Int)) else((t.2.drop 1).take (t.2.length-2),1))=u at hr
        have hul:u.1.length≤t.2.length-2:=by
          rw[←hu];split<;>simp<;>omega
        split at hr
        .cases hr
        · obtain⟨q,hq,rfl⟩:=aRn.1 hr
          dsimp only at hp|-;simp only[aRD] at hp|-;omega
  .rw[aRk h2] at h;exact absurd rfl h
theorem aOR {P:List TE}{t:TE}(h:t∈P):t.2.length≤(sP P).length:=by
  obtain⟨A,B,rfl⟩:=List.append_of_mem h;rw[HT,M4,aRg,aRg];omega
theorem aOS {P:List TE}{y:sF}(h:a8U P y):7≤(sP P).length:=by
  obtain⟨_,hx⟩:=h.rd [] [] rfl pH;rw[List.append_nil] at hx;unfold xY at hx;split at hx
  · rename_i hc
    obtain⟨t,q,e,ht⟩:=SY (L:=qZ P) (by rw[hc.2.1];decide);have hn:=hc.2.1;rw[e] at hn;have hn:(uX t).2.1=z7:=hn;have h1:=aOQ (t:=t) (by rw[hn];decide);rw[hn] at h1
    have hm:t∈P:=by
      have:t∈qZ P:=by rw[e];exact aRm
      exact(List.dropWhile_suffix vC).subset this
    have:=aOR hm;simp only[aRj,aRq] at h1;omega
  .cases hx
theorem aOT: ∀{Ps:List (List TE)}{ys:List sF},CZ Ps ys→7*ys.length≤((Ps.map sP).flatten).length:=by
  intro Ps ys h
  induction h with
  |nil=>simp
  | cons h1 _ ih=>
    have:=aOS h1;simp only[aSi,aR8,aRg,aRj];omega
theorem aOU {s:pC}{c:C4}{H:List TE}{Ps:List (List TE)}{tl:pC}(h:JK s c H Ps tl):7*c.2.2.2.1.length≤s.length:=by
  have:=aOT h.ents;rw[h.eq,aRg,aRg];omega
end
noncomputable section
theorem aOV {s:pC}{c:C4}{H:List TE}{Ps:List (List TE)}{tl:pC}(hs:s.length<=900000000) (hB:JK s c H Ps tl) (hp:CW (tT s)=some (c,(Ps.flatten++tT tl).length::A2 Ps (tT tl).length)):zX s=some (sP H,Ps.map sP,tl,0):=by
 obtain⟨r,hr,hm⟩:=aGW hs;rw[hp] at hm;obtain⟨m1,m2,m3⟩:=hm;refine aHw hs hB.eq ?_ hr m1 ?_
 .rw[aR6,(T0 hB.ents).2];exact hB.inv.len
 .rw[m3];exact aHv hs hB
theorem aOW (c:C4):DO c=sP (F3 c)++(((c.2.2.2.1.map zI).map sP).flatten++DN):=by
 unfold DO ER;rw[aHW,List.map_map];have:sP∘zI=yT:=by funext x;exact aHP x
 rw[this]
theorem aOX {c:C4}(h:xU c=true):JK (DO c) c (F3 c) (c.2.2.2.1.map zI) DN/\CW (tT (DO c))=some (c,((c.2.2.2.1.map zI).flatten++tT DN).length::A2 (c.2.2.2.1.map zI) (tT DN).length):=by
 have ha:=SL h;have hi:=aOM h;have hm:=aOc (aOK ha.1 ha.2.1 ha.2.2.1) (aHZ _ hi.ok) hi aOL (aOI ha.1 ha.2.2.1) (fun P hP=>by
  obtain⟨x,hx,rfl⟩:=List.mem_map.1 hP;exact aOD (a9b (hi.ok x hx)))
 rw[aOW];exact hm
theorem aOY {c:C4}(h:xU c=true) (hn:c.2.2.2.1.length<=700):zX (DO c)=some (CY c,c.2.2.2.1.map yT,DN,0):=by
 obtain⟨hB,hp⟩:=aOX h;rw[aOV (aOP h hn) hB hp,aHW,List.map_map];have:sP∘zI=yT:=by funext x;exact aHP x
 rw[this]
theorem aOZ {s:pC}{c:C4}{H:List TE}{Ps:List (List TE)}{tl:pC}(hs:s.length<=900000000) (hB:JK s c H Ps tl):H4 (sP H,(Ps.map sP,(tl,())))=some s:=by
 have e:ER (sP H) (Ps.map sP) tl=s:=by unfold ER;exact hB.eq.symm
 have hl:=(T0 hB.ents).2;have hi:=hB.inv.len;rw[a8i (sP H,(Ps.map sP,(tl,()))) (by simp only[aR6];omega) (by dsimp only;rw[e];omega)];dsimp only;rw[e]
theorem aO0 (s:pC):LS s=some true:=by
 unfold LS;rw[aNR,aRe,aRk pG];by_cases hl:(4000:Int)<(s.length:Int)
 .rw[aRf (aRF hl)]
 .rw[aRk (by simpa using hl)];rcases aOe (s:=s) pF with⟨c,H,Ps,tl,hB,_,h2,h3⟩ |⟨p,e,he,_,h2,h3⟩
  .have hok:=hB.ok;have hlen:=aOU hB;have hfw:=aM9 hok;have hpl:=(T0 hB.ents).2;rw[h3,h2];simp only[aRe];rw[aRk pG,show (c.1,(c.2.1,(c.2.2.1,(c.2.2.2.1,()))))=c from rfl,aNQ hfw,aRf hok,aRe];dsimp only;rw[aOY hok pF,aRe,aG6 hfw,aRf hok,aRe];dsimp only;rw[aOZ pF hB,aRe];have hS:=aMU (CY c,(c.2.2.2.1.map yT,(DN,()))) (by simp only[aR6];omega);rw[hS,aRf aMQ];simp [val,hpl]
  .rw[h3,h2];simp only[aRe];rw[aRf (by simp [he])];simp
end
end Go.Proofs.YtkpflnijijccpaaGreatDoor
namespace Go.Proofs.YtkpflnijijccpaaGreatDoor
open Go.ChangeShapes Go.WideShapes Go.ChangeAt Go.RowKit
section
variable {H:Type}{enc:TypeId×pR->H}{P:Program}
theorem aO1 (hl:laidOutB P=true) {W W':pQ}(hb:Below W.heap.size W W'):
  ∀{ts:List TypeId}{vs:pM}{ds:List (DataW H)}{ps:List MemPlace},(∀t∈ts,P.readableRec t=true/\t<P.types.size)->
  DataW.TrodAll enc P W 0 (fun _=>true) true ts vs ds ps->(∀x∈ps,x.block<W.heap.size)->
  DataW.TrodAll enc P W' 0 (fun b=>decide (b<W.heap.size)) true ts vs ds ps:=by
 intro ts
 induction ts with
 |nil=>
  intro vs ds ps _ h _;obtain⟨rfl,rfl,rfl⟩:=trodAll_nil h;exact trodAll_mk0
 |cons t ts ih=>
  intro vs ds ps hr h hlt;obtain⟨v,vs',d,ds',p,q,rfl,rfl,rfl,h0,r0⟩:=trodAll_cons h;exact trodAll_cons_mk (Below.trod hl (hr t pH).1 (hr t pH).2 h0 hb (fun x hx=>hlt x (by simp [hx]))) (ih (fun t' ht'=>hr t' (by simp [ht'])) r0 (fun x hx=>hlt x (by simp [hx])))
theorem aO2 {f:Func}{s:ChangeSpec}{W W':pQ}{args:Array pR}{ds gs:List (DataW H)}{before:List MemPlace}{tb:TypeId}
  (hl:laidOutB P=true) (hr: ∀t∈f.params.toList,P.readableRec t=true/\t<P.types.size)
  (hW:DataW.Whole enc P f.params.toList s.vars false W args.toList ds gs before) (hv:s.vars=[])
  (hfn:s.fn H ds={results:=[.lit (.bool true)],args:=ds}) (hrt:f.resultTypes= #[tb]) (htb:P.underlying tb=some .bool)
  (hb:Below W.heap.size W W'):s.post enc P f false true false false W args (.bool true) W':=by
 have hW':=hW;obtain⟨p,q,hA,hV,rfl,hfz,hnd⟩:=hW;rw[hv] at hV;obtain⟨rfl,rfl⟩:=trodVars_none hV;have hlt: ∀x∈p,x.block<W.heap.size:=fun x hx=>by simpa using hW'.lt x (by simp [hx])
 refine⟨ds,[],p++[],[],p,[],hW',?_,?_,?_,hb.frame _,fun h=>by cases h⟩
 .rw[List.append_nil,hfn,hrt];exact trodAll_mk1 (shut_bool htb true)
 .rw[List.append_nil,hfn];exact aO1 hl hb hr hA hlt
 .rw[hv,List.append_nil,hfn];rfl
end
section
variable {H:Type}{enc:TypeId×pR->H}
theorem aO3 {C:Checked}{f:FuncId}{fn:Func}{s:ChangeSpec}{tb:TypeId}{HW:List (String×DataW Unit)}(own:ownKnob C.prog.godebug=none) {os:Os}(started:os.Started) (F:Stop.Interp)
  (noInit:C.prog.inits.idxOf? f=none) (hfn:C.prog.funcs[f]? =some fn)
  (hl:laidOutB C.prog=true) (hr: ∀t∈fn.params.toList,C.prog.readableRec t=true/\t<C.prog.types.size) (hv:s.vars=[])
  (hrt:fn.resultTypes= #[tb]) (htb:C.prog.underlying tb=some .bool)
  (hspec: ∀(ds:List (DataW H)) (W:pQ) (args:Array pR) ps,DataW.TrodAll enc C.prog W 0 (fun _=>true) true fn.params.toList args.toList ds ps->s.fn H ds={results:=[.lit (.bool true)],args:=ds})
  (witness: ∃(w:pQ) (tape:Tape) (i:Input),w.os=os/\(w.forCall tape i).Shaped C.prog/\i.vars=[]/\Input.okWide C.prog (w.forCall tape i) .any w.heap.size f i/\
   (OpenSpec.ofChange s).preRow enc C.prog fn [] false HW (w.forCall tape i).memory i.args/\Assume.holds {} C.prog (lone (Frame.enter C.prog f i.args .normal) [] (w.forCall tape i)))
  (contract: ∀(W:pQ) (base:Nat) (args:Array pR) (ds:List (DataW H)) (ps:List MemPlace),
   (∀(j:Nat) t v,fn.params[j]? =some t->args[j]? =some v->Value.okWide C.prog W .any base t v)->
   DataW.TrodAll enc C.prog W 0 (fun _=>true) true fn.params.toList args.toList ds ps->
   (∀x∈ps,x.block<W.heap.size)->(DataW.weightsEach C.prog fn.params.toList ds).all (·<=reachBytes)=true->laidMetH C.prog HW W->W.ShapedOpen C.prog->
   Calls C.prog f args W fun e W'=>e= .returned (.bool true)/\Below W.heap.size W W'):
  ReturnsInHanded {} C os f .any ((OpenSpec.ofChange s).preRow enc C.prog fn [] false HW) (s.post enc C.prog fn false true false false):=by
 refine returnsInHanded_of_row (C:=C) (s:=OpenSpec.ofChange s) (F:=F) own started noInit hfn witness ?_;intro W base args ds gs before hval hW _ _ hsz hL hsh _;have hW':=hW;obtain⟨p,q,hA,hV,rfl,hfz,hnd⟩:=hW;have hV':DataW.TrodVars enc C.prog W (fun _=>true) s.vars gs q:=hV;rw[hv] at hV';obtain⟨rfl,rfl⟩:=trodVars_none hV';have hlt: ∀x∈p,x.block<W.heap.size:=fun x hx=>by simpa using hW'.lt x (by simp [hx])
 have hvt:(OpenSpec.ofChange s).bare.plain.varTypes C.prog=[]:=by
  simp [OpenSpec.ofChange,ChangeSpec.plain,hv];rfl
 rw[hvt,List.append_nil,List.append_nil] at hsz;refine(contract W base args ds p hval hA hlt hsz hL hsh).mono fun e W' ⟨he,hb⟩=> ?_;subst he;exact⟨_,rfl,aO2 hl hr hW' hv (hspec ds W args p hA) hrt htb hb⟩
end
end Go.Proofs.YtkpflnijijccpaaGreatDoor
namespace Go.Proofs.YtkpflnijijccpaaGreatDoor
open Go.Shelf Go.Lib
open Vc
theorem aO4:(Rows.laid_unicode_utf8_first:DataW Unit)=Lib.firstData:=by kernel_rfl
theorem aO5:(Rows.laid_unicode_utf8_acceptRanges:DataW Unit)=Lib.acceptData:=by kernel_rfl
def aO6:pL:=[0,1,56,2,57,49,28,3,61,58,42,50,38,29,17,4,62,47,59,36,45,43,51,22,53,39,33,30,24,18,12,5,63,55,48,27,60,41,37,16,46,35,44,21,52,32,23,11,54,26,40,15,34,20,31,10,25,14,19,9,13,8,7,6]
theorem aO7:(Rows.laid_internal_strconv_uint64pow10:DataW Unit)=Lib.tabData .u64 Lib.pow10Tab:=by kernel_rfl
theorem aO8:(Rows.laid_strings_asciiSpace:DataW Unit)=Lib.tabData .u8 Lib.asciiSpaceTab:=by kernel_rfl
theorem aO9 {P:Program}{w:pQ}{g:Nat}{t:TypeId}{k:IntKind}{zero:Array pR}(h:w.ShapedOpen P) (hg:g<P.globals.size)
  (h0:((begin P (fun _ _=>0) default).world.heap[g]?).bind Obj.row? =some (zero,t)) (hz:zero.size=1)
  (hb:P.buildable t=true) (hc:P.cellTypes P.depth t=some [t]) (hu:P.underlying t=some (.int k)): ∃m,w.cell? ⟨g,0,none⟩=some (.int k m):=by
 obtain⟨cs,hh,hs,hr⟩:=h.1 g zero t hg h0;obtain⟨ts,hts,_,hall⟩:=hr hb;rw[hc] at hts;cases hts;have h1:0<cs.size:=by omega
 obtain⟨u,hu',hok⟩:=hall 0 cs[0] (by simp [h1]);have:u=t:=by simpa using hu'.symm
 subst this;have hcell:w.cell? ⟨g,0,none⟩=some cs[0]:=by simp [World.cell?,hh,h1]
 rw[hcell];unfold Cell.ok at hok;rw[hu] at hok;cases hv:cs[0]<;>rw[hv] at hok<;>simp at hok
 rename_i k' m;exact⟨m,by rw[hok.1]⟩
theorem aPa {W:pQ}(hsh:W.ShapedOpen Tryz.prog): ∃m,W.cell? ⟨1,0,none⟩=some (.int .i64 m):=
 aO9 (t:=3) (zero:= #[.int .i64 0]) hsh (aRU pT) pT rfl pT pT Tryz.underlying3
def aPb:Ren:=⟨fun x=>x,fun x=>if x=5 then 5 else if x=119 then 182 else if x=138 then 229 else 230,fun x=>if x=3 then 3 else 4⟩
theorem aH2 {P:Program}{w:pQ}{n:String}{g:Nat}{cs:Array pR}(hg:P.globalNamed n=some g) (h:w.var? P n=some cs): ∃e fz,w.heap[g]? =some (.cells cs e fz):=by
 unfold World.var? at h;rw[hg,aRe] at h;split at h
 .rename_i cs' e fz hh;cases h;exact⟨e,fz,hh⟩
 .cases h
theorem aPc {W:pQ}(hL:laidMet Tryz.prog Rows.elementsPrintRow.laid W) (hsh:W.ShapedOpen Tryz.prog):D0 W:=by
 obtain⟨m,hm⟩:=aPa hsh;have hp:=laidMet.reads hL (.tail _ (.tail _ (.head _)));have h1:=laidMet.reads hL (.tail _ (.tail _ (.tail _ (.head _))));have hs:=laidMet.reads hL (.tail _ (.tail _ (.tail _ (.tail _ (.tail _ (.head _))))));have h2:=laidMet.reads hL (.tail _ (.tail _ (.tail _ (.tail _ (.tail _ (.tail _ (.head _)))))));rw[aO7] at hp;rw[aO8] at hs;rw[aO4] at h2;rw[aO5] at h1;have hU:Lib.Utf8Tabs 3 4 W:=utf8Tabs_of_readsT (ρ:=aPb) ⟨pT,pT,pT,pT⟩ ⟨pT,pT,pT,pT,pT,pT,pT⟩ h2 h1;have hP: ∃e fz,W.heap[5]? =some (.cells (Lib.pow10Tab.map fun z=>Value.int .u64 z).toArray e fz):=by
  obtain⟨g,t,cs,fuel,p,hg,ht,hv,hd⟩:=hp;have hg0:Tryz.prog.globalNamed "internal/strconv.uint64pow10" =some 5:=by kernel_rfl
  have ht0:(Tryz.prog.globals[5]?).map (·.type)=some 267:=by kernel_rfl
  obtain rfl:=aRi (hg0.symm.trans hg);obtain rfl:=aRi (ht0.symm.trans ht);have hc:=cells_of_tab Tryz.underlying267 Tryz.underlying207 pT pT hd;rw[<-hc];exact aH2 hg hv
 have hS: ∃e fz,W.heap[0]? =some (.cells (Lib.asciiSpaceTab.map fun z=>Value.int .u8 z).toArray e fz):=by
  obtain⟨g,t,cs,fuel,p,hg,ht,hv,hd⟩:=hs;have hg0:Tryz.prog.globalNamed "strings.asciiSpace" =some 0:=by kernel_rfl
  have ht0:(Tryz.prog.globals[0]?).map (·.type)=some 182:=by kernel_rfl
  obtain rfl:=aRi (hg0.symm.trans hg);obtain rfl:=aRi (ht0.symm.trans ht);have hc:=cells_of_tab Tryz.underlying182 Tryz.underlying5 pT pT hd;rw[<-hc];exact aH2 hg hv
 refine⟨?_,hU,⟨m,hm⟩,fun x hx=> ?_⟩
 .obtain⟨e,fz,h⟩:=hP;have b0:5<W.heap.size:=(aRC.1 h).1;show 6<=W.heap.size;omega
 .unfold a9e at hx;simp only[aRu,aSO,or_false] at hx;rcases hx with rfl|rfl
  .exact⟨pG,hP⟩
  .exact⟨pG,hS⟩
noncomputable def YF (os:Os):pQ:=
 let N:=(World.settled Tryz.prog os).heap.size
 let w0:=World.holding Tryz.prog os ⟨#[.cells (Lib.whiteT.map fun(z:Nat)=>Value.int .u16 (z:Int)).toArray 241,.cells #[.slice (some ⟨N,0,none⟩) 7 7,.slice none 0 0,.int .i64 2] 238],#[],[]⟩
 let tN (h:Array Obj) (g:Nat) (cs:Array pR):Array Obj:=h.modify g fun
  | .cells _ t frozen=> .cells cs t frozen
  |o=>o
 let h1:=tN w0.heap 3 (Lib.firstTab.map fun z=>Value.int .u8 z).toArray
 let h2:=tN h1 4 ((List.range 16).flatMap fun i=>[Value.int .u8 (Lib.accLo i),Value.int .u8 (Lib.accHi i)]).toArray
 let h3:=tN h2 7 (aO6.map fun z=>Value.int .u8 z).toArray
 let h4:=tN h3 6 (([0,1,28,2,29,14,24,3,30,22,20,15,25,17,4,8,31,27,13,23,21,19,16,7,26,12,18,6,11,5,10,9]:pL).map fun z=>Value.int .u8 z).toArray
 let h5:=tN h4 5 ((List.range 20).map fun i=>Value.int .u64 (10^i)).toArray
 let h6:=tN h5 0 (Lib.asciiSpaceTab.map fun z=>Value.int .u8 z).toArray
 let h7:=tN h6 2 #[.pointer (some ⟨N+1,0,none⟩)]
 {w0 with heap:=h7}
theorem aPd (os:Os) (args:Array pR):laidMet Tryz.prog Rows.elementsPrintRow.laid ((YF os).forCall (fun _ _=>0) ⟨#[],args,[]⟩).memory:=
 laidMet_of_run3 10 pT pT pT
end Go.Proofs.YtkpflnijijccpaaGreatDoor
namespace Go.Proofs.YtkpflnijijccpaaGreatDoor
open Vc Go.RowKit
inductive a9c where
 |ty (t:TypeId) |fs (o:Nat) (l:List Field)
inductive BZ (P:Program):a9c->Ty->Prop
 |bool {t}:P.underlying t=some .bool->BZ P (.ty t) .bool
 |int {t k}:P.underlying t=some (.int k)->BZ P (.ty t) (.int k)
 |str {t}:P.underlying t=some .string->BZ P (.ty t) .str
 |list {t e u}:P.underlying t=some (.slice e)->P.cellsOf e=u.cells->0<u.cells->0<P.bytesOf e->BZ P (.ty e) u->BZ P (.ty t) (.list u)
 |struct {t fs ty}:ty.isRow=true->P.underlying t=some (.struct fs)->P.cellsOf t=ty.cells->BZ P (.fs 0 fs.toList) ty->BZ P (.ty t) ty
 |nil {o}:BZ P (.fs o []) .unit
 |cons {o}{f:Field}{r a b}:f.offset=o->P.cellsOf f.type=a.cells->BZ P (.ty f.type) a->BZ P (.fs (o+a.cells) r) b->BZ P (.fs o (f::r)) (.pair a b)
def Bd:(t:Ty)->t.den->Prop
 | .str,s=>List.length s<=140737488351232
 | .int k,n=>(Lit.int k n).wf=true
 | .list u,l=>List.length l<=140737488351232/\∀x:u.den,x∈(l:List u.den)->Bd u x
 | .pair a b,x=>Bd a x.1/\Bd b x.2
 |_,_=>True
def JR (w:pQ):Gh:=⟨fun b _=>b<w.heap.size,fun _=>none,fun _ _=>none⟩
theorem aH3 {α:Type}{R:α->pM->Prop}{w:pQ}{S:Nat->Nat->Prop}{c b:Nat}: ∀{l:List α}{o:Nat},(∀i x,l[i]? =some x->∃cs,cs.length=c/\w.rangeAt b (o+i*c) cs/\(∀j,j<c->S b (o+i*c+j))/\R x cs)->yV R w S c b o l
 |[],_,_=>trivial
 |x::l,o,h=>by
  refine⟨?_,aH3 fun i y hy=> ?_⟩
  .obtain⟨cs,h1,h2,h3,h4⟩:=h 0 x rfl;exact⟨cs,h1,by simpa using h2,by simpa using h3,h4⟩
  .obtain⟨cs,h1,h2,h3,h4⟩:=h (i+1) y (by simpa using hy);have e:o+(i+1)*c=o+c+i*c:=by rw[aSm];omega
   exact⟨cs,h1,by rw[<-e];exact h2,by rw[<-e];exact h3,h4⟩
section
variable {H:Type}{enc:TypeId×pR->H}{P:Program}{W:pQ}
theorem aH4 {e:TypeId}: ∀{l:List (DataW H)}{i:Nat}{d:DataW H},l[i]? =some d->∀n∈d.weights P e,n∈DataW.weightsAll P e l
 |d0::l,0,d,h,n,hn=>by
  simp only[aRM,aRd] at h;subst h;simp only[DataW.weightsAll,aR2];exact .inl hn
 |d0::l,i+1,d,h,n,hn=>by
  simp only[aRY] at h;simp only[DataW.weightsAll,aR2];exact .inr (aH4 h n hn)
 |[],_,_,h,_,_=>by simp at h
def aPe (enc:TypeId×pR->H) (P:Program) (W:pQ):a9c->Ty->Prop
 | .ty t,u=> ∀(fuel:Nat) (cs:pM) (y:DataW H×List MemPlace),DataW.trod enc P W 0 (fun _=>true) true fuel t cs=some y->(∀n∈y.1.weights P t,n<=reachBytes)->∃x:u.den,Rd (JR W) W u x cs/\Bd u x
 | .fs o l,u=> ∀(fuel:Nat) (cs:pM) (xs:List (DataW H×List MemPlace)),cs.length=o+u.cells->xs.length=l.length->(∀(i:Nat) (f:Field),l[i]? =some f->DataW.trod enc P W 0 (fun _=>true) true fuel f.type ((cs.drop f.offset).take (P.cellsOf f.type))=xs[i]?)->(∀n∈DataW.weightsEach P (l.map (·.type)) (xs.map (·.1)),n<=reachBytes)->∃x:u.den,Rd (JR W) W u x (cs.drop o)/\Bd u x
theorem aPf {e:TypeId}{u:Ty}{a:Addr}{len cap:Nat}(hc:P.cellsOf e=u.cells) (hpos:0<u.cells) (hcap:len<=cap)
  (each: ∀i,i<len->∃(cs:pM) (x:u.den),W.cells? 0 (a.add (i*u.cells)) u.cells=some cs/\Rd (JR W) W u x cs/\Bd u x):
  ∃l:List u.den,l.length=len/\Rd (JR W) W (.list u) l [.slice (some a) len cap]/\∀x∈l,Bd u x:=by
 have build: ∀k,k<=len->∃l:List u.den,l.length=k/\∀i x,l[i]? =some x->∃cs:pM,W.cells? 0 (a.add (i*u.cells)) u.cells=some cs/\Rd (JR W) W u x cs/\Bd u x:=by
  intro k
  induction k with
  |zero=>intro _;exact⟨[],rfl,fun i x h=>by simp at h⟩
  |succ k ih=>
   intro hk;obtain⟨l,h1,h2⟩:=ih pF;obtain⟨cs,x,h3,h4⟩:=each k pF;refine⟨l++[x],by simp [h1],fun i y hy=> ?_⟩;rw[List.getElem?_append] at hy;split at hy
   .exact h2 i y hy
   .rename_i hi;obtain⟨j,hj⟩: ∃j,i=l.length+j:=⟨i-l.length,pF⟩;subst hj;rw[aR5] at hy;cases j with
    |zero=>
     simp only[aRM,aRd] at hy;subst hy;exact⟨cs,by rw[aSg,h1];exact h3,h4⟩
    |succ j=>simp at hy
 obtain⟨l,hll,hle⟩:=build len (aRE _);refine⟨l,hll,?_,fun x hx=> ?_⟩
 .subst hll;by_cases hl0:l=[]
  .subst hl0;exact⟨some a,cap,rfl,hcap,.inl rfl⟩
  .obtain⟨b,off,spot⟩:=a;have hlp:0<l.length:=aRL.2 hl0;have hspot:spot=none:=by
    obtain⟨cs,x,h3,_⟩:=each 0 hlp;have h4:=(World.cells?_some h3).2.2 0 hpos;have hlen0:=(World.cells?_some h3).2.1;rw[aRr pF] at h4;simpa[Addr.add] using World.cell?_spot h4
   subst hspot;refine⟨_,cap,rfl,hcap,.inr ⟨b,off,rfl,aH3 fun i x hx=> ?_⟩⟩;obtain⟨cs,h3,h4,_⟩:=hle i x hx;obtain⟨_,h5,h6⟩:=World.cells?_some h3;have hcell: ∀j v,cs[j]? =some v->W.cell? ⟨b,off+i*u.cells+j,none⟩=some v:=by
    intro j v hv;have hj:j<u.cells:=by have:=(aRs.1 hv).1;omega
    have:=h6 j hj;rw[hv] at this;rw[aS5,aS5] at this;exact this
   refine⟨cs,h5,hcell,fun j hj=> ?_,h4⟩;exact Vc.UW (hcell 0 _ (aRr pF))
 .obtain⟨i,hi,he⟩:=aSW hx;obtain⟨cs,h3,h4,h5⟩:=hle i x (by rw[aRr hi,he]);exact h5
theorem aPg {ix:a9c}{u:Ty}(h:BZ P ix u):aPe enc P W ix u:=by
 induction h with
 |bool ht=>
  intro fuel cs y hy _;obtain⟨b,rfl,_⟩:=DataW.trod_bool ht hy;exact⟨b,rfl,trivial⟩
 |int ht=>
  intro fuel cs y hy _;obtain⟨n,rfl,_,hw⟩:=DataW.trod_int ht hy;exact⟨n,rfl,hw⟩
 |str ht=>
  intro fuel cs y hy hw;obtain⟨s,rfl,rfl,_⟩:=DataW.trod_string ht hy;refine⟨s.data.toList,by show [Value.string s]=[Value.string ⟨s.data.toList.toArray⟩];rw[aSE],?_⟩;exact hw _ (by simp [DataW.weights])
 | @list t e u ht hc hpos hb _ ih=>
  intro fuel cs y hy hw;rcases DataW.trod_slice ht hy with⟨rfl,_⟩ |⟨a,len,cap,elems,rest,n,_,rfl,rfl,_,hl,_,hlen,hall,_,_⟩
  .exact⟨[],⟨none,0,rfl,aRE _,.inl rfl⟩,by simp,fun x hx=>by cases hx⟩
  .have hws:DataW.weights P t (.slice (elems.map (·.1)) (rest.map (·.1)))=((elems.map (·.1)).length+(rest.map (·.1)).length)*P.bytesOf e::(DataW.weightsAll P e (elems.map (·.1))++DataW.weightsAll P e (rest.map (·.1))):=by
    simp [DataW.weights,ht]
   rw[hws] at hw;have hn:=hw _ aRm;obtain⟨l,h1,h2,h3⟩:=aPf (W:=W) (a:=a) (cap:=cap) hc hpos hl fun i hi=>by
    have h1:=hall i hi;rw[hc,aRr pF,Option.bind_eq_some_iff] at h1;obtain⟨cs,h2,h3⟩:=h1;obtain⟨x,hx⟩:=ih n cs _ h3 fun m hm=>hw m (by
     refine aRo _ (aR2.2 (.inl (aH4 (i:=i) ?_ m hm)));rw[List.getElem?_map,aRr pF];rfl)
    exact⟨cs,x,h2,hx⟩
   refine⟨l,h2,?_,h3⟩;have:elems.length<=(elems.length+rest.length)*P.bytesOf e:=by
    calc elems.length<=(elems.length+rest.length)*1:=by omega
     _<=_:=Nat.mul_le_mul_left _ hb
   simp only[aR6] at hn;have hr:reachBytes=140737488351232:=rfl;show l.length<=_;omega
 |struct hrow ht hcl _ ih=>
  intro fuel cs y hy hw;obtain⟨xs,n,rfl,rfl,hl,hlen,hf⟩:=DataW.trod_struct ht hy;have:=ih n cs xs (by rw[hl,hcl];omega) (by rw[hlen];simp) (fun i f hi=>hf i f (by simpa using hi)) fun m hm=>hw m (by simpa[DataW.weights,ht] using hm);rwa [aSH] at this
 |nil=>
  intro fuel cs xs hl _ _ _;refine⟨(),?_,trivial⟩;show cs.drop _=[];exact List.drop_of_length_le (by simp [Ty.cells] at hl;omega)
 | @cons o f r a b ho hc _ _ iha ihb=>
  intro fuel cs xs hl hx hf hw;cases xs with
  |nil=>simp at hx
  |cons x0 xs=>
   have h0:=hf 0 f rfl;rw[hc,ho] at h0;obtain⟨xa,ra,ba⟩:=iha fuel _ x0 h0 fun m hm=>hw m (by simp only[aSi,DataW.weightsEach,aR2];exact .inl hm);obtain⟨xb,rb,bb⟩:=ihb fuel cs xs (by simp only[Ty.cells] at hl;omega) (by simpa using hx) (fun i f' hi=>by have:=hf (i+1) f' (by simpa using hi);simpa using this) fun m hm=>hw m (by simp only[aSi,DataW.weightsEach,aR2];exact .inr hm);refine⟨(xa,xb),⟨_,_,(aSQ a.cells (cs.drop o)).symm,ra,?_⟩,ba,bb⟩;rw[aSX];exact rb
theorem aPh {t:TypeId}{u:Ty}{base:Nat}{v:pR}{d:DataW H}{ps:List MemPlace}(h:BZ P (.ty t) u) (hok:Value.okWide P W .any base t v) (hT:DataW.Trod enc P W 0 (fun _=>true) true t v d ps) (hw: ∀n∈d.weights P t,n<=reachBytes): ∃x:u.den,tO (JR W) W u x v/\Bd u x:=by
 obtain⟨fuel,hf⟩:=hT;obtain⟨x,hx,hb⟩:=aPg (enc:=enc) (W:=W) h fuel _ _ hf hw;refine⟨x,?_,hb⟩;cases h with
 |bool ht=>obtain⟨b,rfl⟩:=Go.WideShapes.okWide_bool ht hok;exact .inr ⟨rfl,hx⟩
 |int ht=>obtain⟨b,rfl⟩:=Go.WideShapes.okWide_int ht hok;exact .inr ⟨rfl,hx⟩
 |str ht=>obtain⟨b,rfl⟩:=Go.WideShapes.okWide_string ht hok;exact .inr ⟨rfl,hx⟩
 |list ht=>obtain⟨a,l,c,rfl⟩:=Go.WideShapes.okWide_slice ht hok;exact .inr ⟨rfl,hx⟩
 |struct hrow ht=>obtain⟨cs,rfl,_⟩:=Go.WideShapes.okWide_struct ht hok;exact .inl ⟨hrow,cs.toList,by rw[aSE],hx⟩
end
end Go.Proofs.YtkpflnijijccpaaGreatDoor
namespace Go.Proofs.YtkpflnijijccpaaGreatDoor
open Vc
open Go.ChangeShapes Go.WideShapes Go.ChangeAt Go.RowKit
theorem aPi:BZ Tryz.prog (.ty 9) .str:= .str Tryz.underlying9
theorem aPj {W:pQ}(hT:D0 W) (u:pR) (s:pC) (hu:tO (JR W) W .str s u):
  Calls Tryz.prog 7 #[u] W fun e W'=>e= .returned (.bool true)/\Below W.heap.size W W':=by
 have hC:a79 (SB s) XD=some (OE s):=aMs _;have ht:=aO0 s;refine(aMu.1.2 (JR W) W (SB s) [u] [] _ ⟨(fun i b h=>by cases h),(fun i j bi bj b o _ h=>by cases h),fun b o h=>h,hT,(fun i blk b o h=>by cases h)⟩ ⟨u,[],rfl,⟨hu,trivial⟩,rfl⟩ hC ?_).mono fun e W' ⟨v,g',he,r⟩=> ?_
 .intro p hp;have:p=((LS s).isSome=true):=by simpa[OE] using hp
  rw[this,ht];rfl
 .have hv:v= .bool true:=by
   have h1:=r.ret;unfold OE at h1;rw[ht] at h1;exact vY h1.1
  subst hv;exact⟨he,⟨r.fr.os,r.fr.tape,r.fr.output,r.fr.size,fun k hk=>r.fr.blk k hk (fun o ⟨i,blk,hi,_⟩=>by cases hi)⟩⟩
end Go.Proofs.YtkpflnijijccpaaGreatDoor
namespace Go.Proofs.YtkpflnijijccpaaGreatDoor
open Go.ChangeShapes Go.WideShapes Go.ChangeAt Go.RowKit Go.Lib
theorem aPk:(Rows.elementsWholeRow.inPlace==Tryz.prog.inPlace 7)=true:=by kernel_rfl
theorem aPl:(Rows.elementsWholeRow.unfollowed==Tryz.prog.unfollowed 7)=true:=by kernel_rfl
theorem aPm:(Rows.elementsWholeRow.recurses==Tryz.prog.recurses 7)=true:=by kernel_rfl
theorem aPn:(Rows.elementsWholeRow.named==Tryz.prog.varsNamed 7)=true:=by kernel_rfl
theorem aPo:joinedFacts Tryz.prog 7 Tryz.f7 Rows.elementsWholeSpec Rows.elementsWholeRow=true:=by
 unfold joinedFacts;rw[aPk,aPl,aPm,aPn]
 kernel_rfl
namespace elementsWholeLaw
theorem own:ownKnob Tryz.prog.godebug=none:=by kernel_rfl
theorem HW:laidOutB Tryz.prog=true:=by kernel_rfl
theorem aPp:Tryz.prog.readableRec 9=true:=by kernel_rfl
theorem ltS:9<Tryz.prog.types.size:=aRU pT
theorem aPr (os:Os) {H:Type}(enc:TypeId×pR->H):
  (OpenSpec.ofChange Rows.elementsWholeSpec).preRow enc Tryz.prog Tryz.f7 [] false Rows.elementsWholeRow.laid ((YF os).forCall (fun _ _=>0) ⟨#[],#[.string ⟨#[]⟩],[]⟩).memory #[.string ⟨#[]⟩]:=by
 have hw:(DataW.whole enc Tryz.prog ((YF os).forCall (fun _ _=>0) ⟨#[],#[.string ⟨#[]⟩],[]⟩).memory Tryz.f7.params.toList (OpenSpec.ofChange Rows.elementsWholeSpec).vars false #[.string ⟨#[]⟩].toList 8).map (fun x=>(x.1,x.2.1))=
   some ([.lit (.string [])],[]):=by kernel_rfl
 obtain⟨⟨x1,x2,x3⟩,hx,hx1⟩:=aRn.1 hw;simp only[aRR] at hx1;obtain⟨rfl,rfl⟩:=hx1;exact OpenSpec.preRow_of_cond 8 hx pT (fun k hk=>by cases hk) pT (aPd os _)
theorem lifted (os:Os) (started:os.Started) (H:Type) (enc:TypeId×pR->H) (F:Stop.Interp):
  ReturnsInHanded {} Tryz.checked os 7 .any ((OpenSpec.ofChange Rows.elementsWholeSpec).preRow enc Tryz.prog Tryz.f7 [] false Rows.elementsWholeRow.laid) (Rows.elementsWholeSpec.post enc Tryz.prog Tryz.f7 false true false false):=by
 refine aO3 (C:=Tryz.checked) (tb:=4) own started F pT Tryz.func7 HW ?_ rfl rfl Tryz.underlying4 ?_
  (witness_row_atRef (enc:=enc) (C:=Tryz.checked) false (YF os) #[.string ⟨#[]⟩] rfl pT pT pT (aPr os enc)) ?_
 .intro t ht;rw[Tryz.params7] at ht;simp only[aRu,aSO,or_false] at ht;rcases ht with rfl
  exact⟨aPp,ltS⟩
 .intro ds W args ps h;have h':DataW.TrodAll enc Tryz.prog W 0 (fun _=>true) true Tryz.f7.params.toList args.toList ds ps:=h;rw[Tryz.params7] at h';obtain⟨v0,d0,rfl,rfl,h0⟩:=trodAll_one h';rfl
 .intro W base args ds ps hval0 hA0 hlt hsz0 hL hsh;have hval: ∀(j:Nat) t v,Tryz.f7.params[j]? =some t->args[j]? =some v->Value.okWide Tryz.prog W .any base t v:=hval0;have hA:DataW.TrodAll enc Tryz.prog W 0 (fun _=>true) true Tryz.f7.params.toList args.toList ds ps:=hA0;have hsz:(DataW.weightsEach Tryz.prog Tryz.f7.params.toList ds).all (·<=reachBytes)=true:=hsz0;rw[Tryz.params7] at hA hval hsz;obtain⟨v0,d0,rfl,rfl,h0⟩:=trodAll_one hA;obtain⟨s,hu,_⟩:=aPh aPi (hval 0 9 v0 rfl rfl) h0 (fun n hn=>by
   have:=aRX.1 hsz n (DataW.weights_mem_each (j:=0) rfl rfl n hn);simpa using this)
  exact aPj (aPc hL hsh) v0 s hu
end elementsWholeLaw
theorem aH5:Rows.ElementsWholeSaid:=
 OpenClaim.holds_of_wide 7 Tryz.f7 rfl rfl rfl rfl rfl rfl rfl ⟨rfl,rfl,rfl,rfl,rfl⟩ rfl rfl rfl rfl rfl pT Tryz.func7 aPo
  (aRU pT) (by unfold Func.isWrapper;first|(rw[aRf (by decide+kernel)];kernel_rfl) |(rw[aRk (by decide+kernel)];exact⟨rfl,rfl⟩))
  (fun os started H enc _=>by rw[OpenClaim.pre_eq_preRow];exact elementsWholeLaw.lifted os started H enc (fun _ _ _=>0))
#print axioms aH5
end Go.Proofs.YtkpflnijijccpaaGreatDoor
namespace Go.Proofs.YtkpflnijijccpaaGreatDoor
open Go
theorem aPs:Rows.elementsWholeRow.wfByText (OpenSpec.ofChange Rows.elementsWholeSpec)=true:=by kernel_rfl
theorem aPt:Tryz.prog.mainIs=some (true, "1008dd62a78bd228180e1c22f450e234c81a9eabf1ab0f49fd7302bf1e97eed2".toList):=by kernel_rfl
theorem aPu:false=Tryz.prog.looks []:=by kernel_rfl
theorem aPv:false=Rows.elementsWholeRow.goesBy Tryz.prog:=by kernel_rfl
theorem aPw:Tryz.prog.funcNamed "calque/calquelaw41.ElementsWhole" =some 7:=by kernel_rfl
theorem aPx:([9].all fun u=> !Tryz.prog.wantsStandIn u)=true:=by kernel_rfl
theorem elementsWholeCard_holds:Rows.ElementsWholeCardSaid:=
 Claim7.holds_tied_plain_at .later [] [.data,.data,.data,.data,.listed,.data,.pinned] true (true, "1008dd62a78bd228180e1c22f450e234c81a9eabf1ab0f49fd7302bf1e97eed2") false
  aH5 (fun _ h=>by cases h) aPs (fun _ h=>by cases h) elementsWhole_row_tie rfl ⟨rfl,rfl⟩ aPt rfl
  (fun f fn hf hfn=>by
   obtain rfl:f=7:=aRi (aPw.symm.trans hf) |>.symm
   obtain rfl:fn=Tryz.f7:=(aRi (Tryz.func7.symm.trans hfn)).symm;exact⟨aPu,fun j t ht=>by
    rw[Tryz.params7] at ht;have hm:t∈[9]:=by simpa using Array.mem_of_getElem? ht
    exact(show Tryz.prog.wantsStandIn t=false by simpa using aRX.1 aPx t hm)⟩)
  aPv
#print axioms elementsWholeCard_holds
end Go.Proofs.YtkpflnijijccpaaGreatDoor
