import Derived.Test.YtedimeeleabhnaaGreatDoorV04
set_option linter.all false
set_option maxRecDepth 100000
set_option maxHeartbeats 4000000
namespace Go.Proofs.YtedimeeleabhnaaGreatDoor
open Vc
def aIx (s:pJ) (D:fit s): ∃x y,TL s=some (UU s,x,y):=by
 unfold TL;rw[a3S s D,aOc];have h:=ze s;have F:=LF s;unfold UU;by_cases z:uP s=s.length
 .rw[aO4 z] at h;obtain⟨u,j⟩:=aPc.1 h;rw[aOi pQ];have:=zg s D s.length 0 [] u pN pN pP (by rw[aOP];exact j);rw[show ((0:Nat):Int)=0 from rfl] at this;unfold rD;rw[this,aOc,List.nil_append,Q5,j];exact⟨0,0,rfl⟩
 rw[decide_eq_false z] at h;have j:vY s=none:=by
  cases E:vY s with
  |none=>rfl
  |some u=>rw[E] at h;cases h
 rw[aOd pQ,j];exact⟨_,_,rfl⟩
def zh (s:pJ) (M:fit s): ∀(n j:Nat) (b:pU),s.length<=j+n->j<=s.length->b.length<=j->
  ∃w,rC (KE s) (b,(j:Int))=some w/\(match vY (s.drop j) with|some u=>w= .inl (b++tK u) |none=> ∃a,w= .inr ([],a,3))
 |n,j,b,V,X,hb=>by
  unfold fit at M;by_cases z:j<s.length
  .cases n with
   |zero=>omega
   |succ n=>
    rw[a4g z,sZ];unfold KE;simp only;have K:=zE z 92 pO;rw[show ((92:Nat):Int)=92 from rfl,show UInt8.ofNat 92=92 from rfl] at K;have Q: ∀c:UInt8,(((((decide ((c.toNat:Int)=123)||decide ((c.toNat:Int)=125))||decide ((c.toNat:Int)=60))||decide ((c.toNat:Int)=62))||decide ((c.toNat:Int)=35))||decide ((c.toNat:Int)=92))=uI c:=λ_=>rfl
    have F:(((((decide ((s[j].toNat:Int)=123)||decide ((s[j].toNat:Int)=125))||decide ((s[j].toNat:Int)=60))||decide ((s[j].toNat:Int)=62))||decide ((s[j].toNat:Int)=35))||decide (s[j]=92))=uI s[j]:=by rw[<-gn];rfl
    have plain:uI s[j]=true->¬(s[j]=92/\DD (s.drop (j+1))=true)->∃w:pU⊕(pJ×Int×Int),some (.inr ([],(j:Int),3))=some w/\(match (if uI s[j]=true then(if s[j]=92/\DD (s.drop (j+1))=true then(vY (s.drop (j+2))).map (s.getD (j+1) 0:: ·) else none) else(vY (s.drop (j+1))).map (s[j]:: ·)) with|some u=>w= .inl (b++tK u) |none=> ∃a,w= .inr ([],a,3)):=λE G=>by
     rw[aOd E,aOi G];exact⟨_,rfl,_,rfl⟩
    have go:uI s[j]=false->∃w,rC (KE s) (b++[(s[j].toNat:Int)],((j:Int)+1))=some w/\(match (if uI s[j]=true then(if s[j]=92/\DD (s.drop (j+1))=true then(vY (s.drop (j+2))).map (s.getD (j+1) 0:: ·) else none) else(vY (s.drop (j+1))).map (s[j]:: ·)) with|some u=>w= .inl (b++tK u) |none=> ∃a,w= .inr ([],a,3)):=λE=>by
     obtain⟨w,w1,w2⟩:=zh s M n (j+1) (b++[(s[j].toNat:Int)]) pN pN aQM;refine⟨w,by rw[show ((j:Int)+1)=((j+1:Nat):Int) by omega];exact w1,?_⟩;rw[E,aOi pP];cases D:vY (s.drop (j+1)) with
     |none=>rw[D] at w2;exact w2
     |some u=>rw[D] at w2;show w=_;rw[show w=_ from w2,aOk];rfl
    rw[aOd (sG z),aOd (rP z),aOd (λ_=>s5 pN),aOd (λ_=>s5 pN),K];by_cases G:j+1<s.length
    .have I:=wJ G;rw[Int.natCast_add,Int.natCast_one] at I;have O:decide ((j:Int)+1<(s.length:Int))=true:=by simp;omega
     rw[aOd (λ_=>⟨pN,pN⟩),I,Q,O,Bool.and_true];by_cases D:s[j]=92/\DD (s.drop (j+1))=true
     .have U:uI s[j+1]=true:=by rw[<-gq G];exact D.2
      have R:uI s[j]=true:=by rw[D.1];rfl
      rw[aOd (by rw[aO4 D.1,U];rfl),aOd (s5 pN),aOd ⟨pN,pN⟩,aOd aQN,aOd aQF,aOc,aOd R,aOd D];obtain⟨w,w1,w2⟩:=zh s M n (j+2) (b++[(s[j+1].toNat:Int)]) pN pN aQM;refine⟨w,by rw[show ((j:Int)+1+1)=((j+2:Nat):Int) by omega];exact w1,?_⟩;have e:s.getD (j+1) 0=s[j+1]:=by rw[aOF,aOn G];rfl
      rw[e];cases D:vY (s.drop (j+2)) with
      |none=>rw[D] at w2;exact w2
      |some u=>rw[D] at w2;show w=_;rw[show w=_ from w2,aOk];rfl
     rw[aOi (by
      intro h;rw[aOo,aOt] at h;exact D ⟨h.1,by rw[gq G];exact h.2⟩),aOd (rP z),wJ z,F]
     cases E:uI s[j] with
     |true=>rw[aOd rfl,aOc];have:=plain E D;rw[E] at this;exact this
     |false=>rw[aOi pP,aOd (rP z),aOd aQN,aOd (s5 pN),aOc];have:=go E;rw[E] at this;exact this
    have O:decide ((j:Int)+1<(s.length:Int))=false:=by simp;omega
    have D: ¬(s[j]=92/\DD (s.drop (j+1))=true):=λh=>by rw[gr G] at h;cases h.2
    rw[O,Bool.and_false,aOd (λh=>by simp at h),aPC,aOi pP,aOd (rP z),wJ z,F];cases E:uI s[j] with
    |true=>rw[aOd rfl,aOc];have:=plain E D;rw[E] at this;exact this
    |false=>rw[aOi pP,aOd (rP z),aOd aQN,aOd (s5 pN),aOc];have:=go E;rw[E] at this;exact this
  have:j=s.length:=by omega
  subst this;refine⟨.inl b,?_,?_⟩
  .rw[sZ];unfold KE;simp only;rw[aOi (sL _)];rfl
  rw[aOQ,vY];show _=_;rw[show tK []=[] from rfl,List.append_nil]
def aIy (s:pJ) (z:fit s): ∃x y,T3 s=some (UU s,x,y):=by
 unfold T3;obtain⟨w,w1,w2⟩:=zh s z s.length 0 [] pN pN pP;rw[aOP] at w2;rw[show ((0:Nat):Int)=0 from rfl] at w1;rw[w1];unfold UU;cases j:vY s with
 |some u=>
  rw[j] at w2;rw[show w=_ from w2];refine⟨0,0,?_⟩;show some (tU ([]++tK u),(0:Int),(0:Int))=_;rw[List.nil_append,Q5];rfl
 |none=>
  rw[j] at w2;obtain⟨a,rfl⟩:=w2;exact⟨_,_,rfl⟩
abbrev rW:Type:=pJ
def s7 (ns:List rW):Nm:=ns.map λn=>(n,true)
def wO (ns:List rW) (t:rW):List rW:=if t∈ns then ns else ns++[t]
theorem LH (t:rW): ∀ns:List rW,sC .str .bool (s7 ns) t=decide (t∈ns)
 |[]=>rfl
 |n::ns=>by
  have ih:=LH t ns;show (if wG .str t n=true then true else sC .str .bool (s7 ns) t)=_;rw[ih];have:wG .str t n=decide (t=n):=rfl;rw[this];by_cases h:t=n
  .subst h;simp
  rw[aOi aQe,aOE];simp [h]
theorem QD (t:rW): ∀ns:List rW,rN .str .bool t true (s7 ns)=s7 (wO ns t)
 |[]=>rfl
 |n::ns=>by
  have ih:=QD t ns;show (if wG .str t n=true then(t,true)::s7 ns else(n,true)::rN .str .bool t true (s7 ns))=_;rw[ih];have:wG .str t n=decide (t=n):=rfl;rw[this];unfold wO;by_cases h:t=n
  .subst h;simp [s7]
  rw[aOi aQe];by_cases j:t∈ns
  .rw[aOd j,aOd (aOu _ j)];rfl
  rw[aOi j,aOi (by simp [h,j])];rfl
theorem a4h (ns:List rW):(s7 ns).length=ns.length:=aPa _
theorem zi (ns:List rW) (t:rW):(wO ns t).length<=ns.length+1:=by
 unfold wO;split
 .omega
 simp
structure C9 (L:List rS):Prop where
 len:L.length<=4000
 fit: ∀t∈L,Go.Proofs.YtedimeeleabhnaaGreatDoor.fit t.2.1
theorem C9.mem {L:List rS}{i:Nat}{t:rS}{r:List rS}(h:C9 L) (j:L.drop i=t::r):Go.Proofs.YtedimeeleabhnaaGreatDoor.fit t.2.1:=h.fit t (List.mem_of_mem_drop (by rw[j];exact aOz))
section
variable {s:pJ}{L:List rS}(hT:C9 L)
include hT
theorem aIz {i:Nat}{n a a':Int}{ns:List rW}(V:ns.length<=4000):
  (∃t r,L.drop i=t::r/\uT t.2.1=true/\KN s L (i:Int) (a,(0,())) (s7 ns)=some (t.2.1,((i+1:Nat):Int),a,0,s7 (wO ns t.2.1))/\OZ (L.drop i,(n,(ns,(a',(0,())))))=some (t.2.1,r,wO ns t.2.1,a',0))\/
  (∃a2 e2,e2≠0/\KN s L (i:Int) (a,(0,())) (s7 ns)=some ([],(i:Int),a2,e2,s7 ns)/\∃y ns2 a3 e3,e3≠0/\OZ (L.drop i,(n,(ns,(a',(0,())))))=some (y,L.drop i,ns2,a3,e3)):=by
 have hf:fit (tY (L.drop i)):=by
  cases z:L.drop i with
  |nil=>unfold fit tY;simp
  |cons t r=>exact hT.mem z
 obtain⟨x,y,hp⟩:=wN (ts:=L.drop i) (n:=n) (ns:=ns) (a:=a') (e:=0);unfold KN OZ;rw[vX,aOc,hp,aOc,aOc];dsimp only;rw[LD _ hf,aOd (show _->(some (uT (tY (L.drop i)))).isSome=true from λ_=>uL _),uE,UR _ _ pN,aOd (show _->(some (decide (tY (L.drop i)∈ns))).isSome=true from λ_=>uL _),uE];by_cases I:s6 (L.drop i)=9
 .obtain⟨t,r,z,E⟩:=hd9 I;obtain⟨hi,U⟩:=vM z;have Q:tY (L.drop i)=t.2.1:=by rw[z];rfl
  have G:=hT.mem z;rw[I,aOd (λ_=>rP hi),A9 hi,U hi,Q7 _ G,aOd (λ_=>uL _),uE,aOd (λ_=>rP hi),LH,a4h,Q];cases D:uT t.2.1 with
  |false=>
   refine .inr ?_;obtain⟨a2,M⟩:=zd (s:=s) (i:=i) (a:=a) (m:=s7 ns) hT.fit (.inr (by rw[Q];exact D));obtain⟨a3,K⟩:=UT (ts:=L.drop i) (n:=n) (ns:=ns) (a:=a') (b:=false) (.inr rfl);refine⟨a2,3,pO,?_,[],ns,a3,3,pO,?_⟩
   .unfold rD;rw[aOi pP,aOc];dsimp only;rw[M];rfl
   .rw[aOi pP,aOc,K];rfl
  |true=>
   by_cases j:t.2.1∈ns
   .refine .inl ⟨t,r,z,D,?_,?_⟩
    .have F:t.2.1≠[]:=λh=>by rw[h] at D;cases D
     unfold rD;rw[aOi aQG,aOc];dsimp only;rw[zc z hT.len E G D,aOc];dsimp only;rw[aOd aQn,QD]
    rw[aOi aQG,aOc,Y0 z E];unfold wO;rw[aOd j];rfl
   by_cases R:20<=ns.length
   .refine .inr ?_;obtain⟨a2,M⟩:=BJ (s:=s) (L:=L) (i:=i) (a:=a) (m:=s7 ns) 6;obtain⟨a3,K⟩:=GU (ts:=L.drop i) (n:=n) (ns:=ns) (a:=a') 6;refine⟨a2,6,pO,?_,[],ns++[t.2.1],a3,6,pO,?_⟩
    .unfold rD;rw[aOd (by simp [j];omega),M,aOc];dsimp only;rw[aOc];dsimp only;rw[a4e pO];rfl
    unfold rD;rw[aOd aQG,aOd pQ,K,aOc];dsimp only;rw[aOc];dsimp only;rw[aOd aQN,aOc,ib pO];rfl
   refine .inl ⟨t,r,z,D,?_,?_⟩
   .have F:t.2.1≠[]:=λh=>by rw[h] at D;cases D
    unfold rD;rw[aOi (by simp [j];omega),aOc];dsimp only;rw[zc z hT.len E G D,aOc];dsimp only;rw[aOd aQn,QD]
   unfold rD;rw[aOd aQG,aOi pQ,aOc];dsimp only;rw[aOd aQN,aOc,Y0 z E];unfold wO;rw[aOi j];rfl
 refine .inr ?_;have O:decide (s6 (L.drop i)=9)=false:=by simpa using I
 obtain⟨a2,M⟩:=zd (s:=s) (i:=i) (a:=a) (m:=s7 ns) hT.fit (.inl I);obtain⟨a3,K⟩:=UT (ts:=L.drop i) (n:=n) (ns:=ns) (a:=a') (b:=uT (tY (L.drop i))) (.inl I);refine⟨a2,3,pO,?_,[],ns,a3,3,pO,?_⟩
 .rw[O,aOd (λh=>by simp at h),aOd (λh=>by simp at h),aOd (λh=>by simp at h)];unfold rD;rw[aOi pP,aOc];dsimp only;rw[M];rfl
 rw[O,aOi pP,aOc,K];rfl
end
abbrev rO:Type:=pJ×List qG×Unit
mutual
def wP:qG->Nat
  | .mk _ t n st cs ps=>64+t.length+n.length+st.length+wC cs+wL ps
termination_by p=>SizeOf.sizeOf p
def wL:List qG->Nat
  |[]=>0
  |p::l=>wP p+wL l
termination_by l=>SizeOf.sizeOf l
def wC:List (pJ×List qG×Unit)->Nat
  |[]=>0
  |(k,ps,_)::l=>64+k.length+wL ps+wC l
termination_by l=>SizeOf.sizeOf l
end
def zN (k:Int) (st:pJ) (cs:List (pJ×List qG×Unit)):Bool:=decide (k=1)||decide (k=10)||decide (k=11)||(decide (3<=k)&&decide (k<=9))||(decide (k=2)&&decide (st=[])&&cs.isEmpty)
mutual
def EW:qG->Nat
  | .mk k _ _ st cs ps=>(if zN k st cs=true then 1 else 100)+max (zO cs) (sI ps)
termination_by p=>SizeOf.sizeOf p
def sI:List qG->Nat
  |[]=>0
  |p::l=>max (EW p) (sI l)
termination_by l=>SizeOf.sizeOf l
def zO:List (pJ×List qG×Unit)->Nat
  |[]=>0
  |(_,ps,_)::l=>max (sI ps) (zO l)
termination_by l=>SizeOf.sizeOf l
end
theorem BK:wL []=0:=by rw[wL]
theorem CA (p:qG) (l:List qG):wL (p::l)=wP p+wL l:=by rw[wL]
theorem EX:wC []=0:=by rw[wC]
theorem LI (c:rO) (l:List rO):wC (c::l)=64+c.1.length+wL c.2.1+wC l:=by obtain⟨k,ps,u⟩:=c;rw[wC]
theorem vS (k:Int) (t n st:pJ) (cs:List rO) (ps:List qG):wP (.mk k t n st cs ps)=64+t.length+n.length+st.length+wC cs+wL ps:=by rw[wP]
theorem FR:sI []=0:=by rw[sI]
theorem IR (p:qG) (l:List qG):sI (p::l)=max (EW p) (sI l):=by rw[sI]
theorem IS:zO []=0:=by rw[zO]
theorem ic (c:rO) (l:List rO):zO (c::l)=max (sI c.2.1) (zO l):=by obtain⟨k,ps,u⟩:=c;rw[zO]
theorem Y1 (k:Int) (t n st:pJ) (cs:List rO) (ps:List qG):EW (.mk k t n st cs ps)=(if zN k st cs=true then 1 else 100)+max (zO cs) (sI ps):=by rw[EW]
theorem ie (p:qG): ∀l:List qG,wL (l++[p])=wL l+wP p
  |[]=>by rw[List.nil_append,CA,BK];omega
  |q::l=>by rw[List.cons_append,CA,CA,ie p l];omega
theorem a4i (p:rO): ∀l:List rO,wC (l++[p])=wC l+(64+p.1.length+wL p.2.1)
  |[]=>by rw[List.nil_append,LI,EX];omega
  |q::l=>by rw[List.cons_append,LI,LI,a4i p l];omega
theorem zj (p:qG): ∀l:List qG,sI (l++[p])=max (sI l) (EW p)
  |[]=>by rw[List.nil_append,IR,FR];omega
  |q::l=>by rw[List.cons_append,IR,IR,zj p l];omega
theorem a4j (p:rO): ∀l:List rO,zO (l++[p])=max (zO l) (sI p.2.1)
  |[]=>by rw[List.nil_append,ic,IS];omega
  |q::l=>by rw[List.cons_append,ic,ic,a4j p l];omega
def tw:List rS->Nat
  |[]=>0
  |t::l=>t.2.1.length+256+tw l
theorem AX {L:List rS}{i:Nat}{t:rS}{r:List rS}(h:L.drop i=t::r):tw (L.drop i)=t.2.1.length+256+tw (L.drop (i+1)):=by
  have:L.drop (i+1)=r:=by
    rw[<-aPj,h];rfl
  rw[h,this,tw]
theorem AY {L:List rS}{i:Nat}{t:rS}{r:List rS}(h:L.drop i=t::r):L.drop (i+1)=r:=by
  rw[<-aPj,h];rfl
abbrev IT:Type:=pJ->List rS->Int->pR->Int->Bool->Nm->Option (List qG×Int×Int×Int×Nm)
abbrev GW:Type:=List rS×(Int×(List rW×pR))
abbrev FS:Type:=GW->Int->Bool->Option (List qG×List rS×List rW×Int×Int)
structure DG (s:pJ) (L:List rS) (n:Int) (PM:IT) (RM:FS):Prop where
  p: ∀(i:Nat) a e dd c m,e≠0->PM s L (i:Int) (a,(e,())) dd c m=some ([],(i:Int),a,e,m)
  r: ∀ts ns a e dd c,e≠0->RM (ts,(n,(ns,(a,(e,()))))) dd c=some ([],ts,ns,a,e)
def HK (L:List rS) (i d:Nat) (p:List qG×Int×Int×Int×Nm) (q:List qG×List rS×List rW×Int×Int):Prop:=
  ∃(ps:List qG) (j:Nat) (ns:List rW) (a a':Int),p=(ps,(j:Int),a,0,s7 ns)/\q=(ps,L.drop j,ns,a',0)/\i<=j/\j<=L.length/\ns.length<=j/\wL ps+tw (L.drop j)<=tw (L.drop i)/\sI ps+d<=10
def zk (p:List qG×Int×Int×Int×Nm) (q:List qG×List rS×List rW×Int×Int):Prop:=
  (∃(ps:List qG) (j:Nat) (a e:Int) (m:Nm),p=(ps,(j:Int),a,e,m)/\e≠0)/\∃(ps:List qG) (ts:List rS) (ns:List rW) (a e:Int),q=(ps,ts,ns,a,e)/\(e≠0\/e=0/\s6 ts=4)
def GX (s:pJ) (L:List rS) (n:Int) (PM:IT) (RM:FS) (d:Nat):Prop:=
  ∀(i:Nat) (ns:List rW) (a a':Int) (c:Bool),i<=L.length->ns.length<=i->∃p q,PM s L (i:Int) (a,(0,())) ((d:Int)-1) c (s7 ns)=some p/\RM (L.drop i,(n,(ns,(a',(0,()))))) (d:Int) c=some q/\(HK L i d p q\/zk p q)
abbrev zl:Type:=List rO×Bool×Int×Int×Int×Nm×Nm
abbrev Y2:Type:=List rO×Int×Int×Int×Nm×Nm
noncomputable def UV (PM:IT) (s:pJ) (L:List rS) (kd dd:Int) (c:Bool) (cs:List rO) (j:Int) (m seen:Nm) (x:Int×Int):Option (zl⊕Y2):=
  (ES s L j (x.1,(x.2,())) kd m).bind λr1=>
  (sT s L r1.2.1 (r1.2.2.1,(r1.2.2.2,())) (2:Int) m).bind λr2=>
  (PM s L r2.2.1 (r2.2.2.1,(r2.2.2.2,())) dd (c||(!decide (kd=(9:Int)))) m).bind λr3=>
  (sT s L r3.2.1 (r3.2.2.1,(r3.2.2.2.1,())) (3:Int) r3.2.2.2.2).bind λr4=>
  if (cs.length+([(r1.1,(r3.1,()))]:List rO).length)*40<=140737488355328 then
    some (.inl ((cs++([(r1.1,(r3.1,()))]:List rO)),false,r4.2.1,r4.2.2.1,r4.2.2.2,r3.2.2.2.2,(rN .str .bool r1.1 true seen)))
  else none
abbrev GY:Type:=List rW×List rS×List rW×Int×Int×List rO
noncomputable def IU (RM:FS) (n:Int) (dd:Int) (c:Bool) (kb:Bool) (keys:List rW) (ts:List rS) (ns:List rW) (cs:List rO) (x:Int×Int):Option (GY⊕GY):=
  (vR (ts,(n,(ns,(x.1,(x.2,()))))) kb).bind λr1=>
  if (keys.length+([r1.1]:pK).length)*16<=140737488355328 then
    (uH (r1.2.1,(n,(ns,(r1.2.2.1,(r1.2.2.2,()))))) (2:Int)).bind λr2=>
    if qH (dd+(1:Int)) then
      (RM (r2.2.1,(n,(ns,(r2.2.2.1,(r2.2.2.2,()))))) (dd+(1:Int)) c).bind λr3=>
      (uH (r3.2.1,(n,(r3.2.2.1,(r3.2.2.2.1,(r3.2.2.2.2,()))))) (3:Int)).bind λr4=>
      if (cs.length+([(r1.1,(r3.1,()))]:List rO).length)*40<=140737488355328 then
        some (.inl ((keys++([r1.1]:pK)),r4.2.1,r3.2.2.1,r4.2.2.1,r4.2.2.2,(cs++([(r1.1,(r3.1,()))]:List rO))))
      else none
    else none
  else none
section
variable {s:pJ}{L:List rS}(hT:C9 L) {n:Int}{PM:IT}{RM:FS}
include hT
def DH (kd:Int) (len:Nat) (seen:List rW) (ts:List rS):Int:=
  if s6 ts=9/\tN kd (tY ts)=true then(if 20<=len then 6 else if tY ts∈seen then 9 else 0) else 0
theorem Y3 (i:Nat):fit (tY (L.drop i)):=by
  cases j:L.drop i with
  |nil=>unfold fit tY;simp
  |cons t r=>exact hT.mem j
theorem aIA {i:Nat}{a kd:Int}{m:Nm}{cs:List rO}{keys:List rW}: ∃a2,(rD (σ:=(Int×Int)) (
       if ((s6 (L.drop i)=(9:Int))&&(val (DB kd ((qI sO L (i:Int)).2.1))))=true then
        rD (σ:=(Int×Int)) (
          if (decide ((20:Int)<=(cs.length:Int)))=true then
           (vV s L (i:Int) (a,((0:Int),())) (6:Int) m).bind λO=>
           some ((O.1,O.2))
          else
           some ((a,(0:Int)))
         ) fun(x:Int×Int)=>
        if 0<=(i:Int)/\(i:Int)<(L.length:Int) then
         if (sC .str .bool (s7 keys) ((qI sO L (i:Int)).2.1))=true then
          (vV s L (i:Int) (x.1,(x.2,())) (9:Int) m).bind λa8=>
          some ((a8.1,a8.2))
         else
          some ((x.1,x.2))
        else none
       else
        some ((a,(0:Int)))) fun(x:Int×Int)=>some x)=some (a2,DH kd cs.length keys (L.drop i)):=by
  unfold DH rD;by_cases z:s6 (L.drop i)=9
  · obtain⟨t,r,D,I⟩:=hd9 z
    obtain⟨hi,G⟩:=vM D;have F:tY (L.drop i)=t.2.1:=by rw[D];rfl
    rw[A9 hi,G hi,gy _ _ (hT.mem D),uE,F];simp only[z,decide_true,Bool.true_and,true_and];cases hk:tN kd t.2.1 with
    |false=>exact⟨a,by rw[aOi pP];rfl⟩
    | true=>
      rw[aOd rfl,aOd rfl];by_cases j:20<=cs.length
      · obtain⟨a2,E⟩:=BJ (s:=s) (L:=L) (i:=i) (a:=a) (m:=m) 6
        rw[aOd j,aOd pQ,E,aOc,aOc];dsimp only;rw[aOd (rP hi),LH,GT pO];refine⟨a2,?_⟩;split<;>rfl
      rw[aOi j,aOi pQ,aOc]
      dsimp only;by_cases hm:t.2.1∈keys
      · obtain⟨a2,E⟩:=BJ (s:=s) (L:=L) (i:=i) (a:=a) (m:=m) 9
        rw[aOd (rP hi),LH,aOd (aO4 hm),aOd hm,E];exact⟨a2,rfl⟩
      rw[aOd (rP hi),LH,aOi (by simpa using hm),aOi hm]
      exact⟨a,rfl⟩
  refine⟨a,?_⟩
  rw[show decide (s6 (L.drop i)=9)=false by simpa using z,aOi pP,aOi (λh=>z h.1)];rfl
theorem aIB {i:Nat}{a kd dd:Int}{c b:Bool}{m:Nm}{cs:List rO}{keys:List rW}(hb:b=true\/s6 (L.drop i)=9): ∃a2,C7 s L kd dd c PM (cs,b,(i:Int),a,0,m,s7 keys)=UV PM s L kd dd c cs (i:Int) m (s7 keys) (a2,DH kd cs.length keys (L.drop i)):=by
  obtain⟨a2,G⟩:=aIA hT (s:=s) (i:=i) (a:=a) (kd:=kd) (m:=m) (cs:=cs) (keys:=keys)
  have F: ∀{α β:Type}{x:Option α}{v:α}{k:α->Option β},(rD x λy=>some y)=some v->rD x k=k v:=by
    intro α β x v k h;unfold rD at h|-;cases x with
    |none=>cases h
    |some y=>cases h;rfl
  refine⟨a2,?_⟩
  have D:(((decide (s6 (L.drop i)=(9:Int)))==true)=true->0<=(i:Int)/\(i:Int)<(L.length:Int)):=λh=>by
    have j:s6 (L.drop i)=9:=by simpa using h
    obtain⟨t,r,E,_⟩:=hd9 j;exact rP (vM E).1
  have z:(((decide (s6 (L.drop i)=(9:Int)))==true)=true->((DB kd ((qI sO L (i:Int)).2.1))).isSome=true):=λh=>by
    have j:s6 (L.drop i)=9:=by simpa using h
    obtain⟨t,r,E,_⟩:=hd9 j;obtain⟨hi,I⟩:=vM E;rw[A9 hi,I hi,gy _ _ (hT.mem E)];rfl
  unfold C7;dsimp only;cases b with
  | false=>
    have j:s6 (L.drop i)=9:=hb.resolve_left pP;rw[aOd qC,vX,aOd (λ_=>uL _),uE,aOd aQG,aOc,aOd D,aOd z];exact F G
  | true=>
    rw[aOi pP,aOd rfl,vX,aOc,aOd D,aOd z];exact F G
end
theorem ig {α β:Type}{x:Option α}{v:α}{k:α->Option β}(h:(rD x λy=>some y)=some v):rD x k=k v:=by
  unfold rD at h|-;cases x with
  |none=>cases h
  |some y=>cases h;rfl
section
variable {s:pJ}{L:List rS}(hT:C9 L) {n:Int}{PM:IT}{RM:FS}
include hT
theorem aIC {i:Nat}{a kd:Int}{ns:List rW}{keys:List rW}(E:keys.length<=4000): ∃a2,(rD (σ:=(Int×Int)) (
      if ((s6 (L.drop i)=(9:Int))&&(val (BF kd (tY (L.drop i)))))=true then
       rD (σ:=(Int×Int)) (
         if (decide ((20:Int)<=(keys.length:Int)))=true then
          (xZ (L.drop i,(n,(ns,(a,((0:Int),()))))) (6:Int)).bind λO=>
          some ((O.1,O.2))
         else
          some ((a,(0:Int)))
        ) fun(x:Int×Int)=>
       (zB keys (tY (L.drop i))).bind λa8=>
       if a8=true then
        (xZ (L.drop i,(n,(ns,(x.1,(x.2,()))))) (9:Int)).bind λaA=>
        some ((aA.1,aA.2))
       else
        some ((x.1,x.2))
      else
       some ((a,(0:Int)))) fun(x:Int×Int)=>some x)=some (a2,DH kd keys.length keys (L.drop i)):=by
  unfold DH rD;rw[gz _ _ (Y3 hT i),uE,UR _ _ pN];by_cases z:s6 (L.drop i)=9
  · simp only[z,decide_true,Bool.true_and,true_and]
    cases hk:tN kd (tY (L.drop i)) with
    |false=>exact⟨a,by rw[aOi pP];rfl⟩
    | true=>
      rw[aOd rfl,aOd rfl];by_cases j:20<=keys.length
      · obtain⟨a2,D⟩:=GU (ts:=L.drop i) (n:=n) (ns:=ns) (a:=a) 6
        rw[aOd j,aOd pQ,D,aOc,aOc];dsimp only;rw[aOc,ia pO];refine⟨a2,?_⟩;split<;>rfl
      rw[aOi j,aOi pQ,aOc]
      dsimp only;rw[aOc];by_cases hm:tY (L.drop i)∈keys
      · obtain⟨a2,D⟩:=GU (ts:=L.drop i) (n:=n) (ns:=ns) (a:=a) 9
        rw[aOd (aO4 hm),aOd hm,D];exact⟨a2,rfl⟩
      rw[aOi (by simpa using hm),aOi hm]
      exact⟨a,rfl⟩
  refine⟨a,?_⟩
  rw[show decide (s6 (L.drop i)=9)=false by simpa using z,aOi pP,aOi (λh=>z h.1)];rfl
theorem a4k {i:Nat}{a dd:Int}{c:Bool}{P0:GW}(hP:P0.2.1=n) {x:Int×pJ×pJ×pJ×List rO×List qG×Unit}{ns:List rW}{cs:List rO}{keys:List rW}(E:keys.length<=4000) (hb:keys=[]\/s6 (L.drop i)≠3):
    ∃a2,ER P0 x dd c RM (keys,L.drop i,ns,a,0,cs)=IU RM n dd c (tN x.1 (tY (L.drop i))) keys (L.drop i) ns cs (a2,DH x.1 keys.length keys (L.drop i)):=by
  obtain⟨a2,D⟩:=aIC hT (n:=n) (i:=i) (a:=a) (kd:=x.1) (ns:=ns) (keys:=keys) E;obtain⟨p,q,hp⟩:=wN (ts:=L.drop i) (n:=n) (ns:=ns) (a:=a) (e:=0);refine⟨a2,?_⟩
  have z:(((decide (s6 (L.drop i)=(9:Int)))==true)=true->((BF x.1 (tY (L.drop i)))).isSome=true):=λh=>by
    rw[gz _ _ (Y3 hT i)];rfl
  have tl: ∀v:Int×Int,((BF x.1 (tY (L.drop i))).bind λaB=>(vR (L.drop i,(n,(ns,(v.1,(v.2,()))))) aB).bind λaC=>
      if (keys.length+([aC.1]:pK).length)*16<=140737488355328 then
        (uH (aC.2.1,(n,(ns,(aC.2.2.1,(aC.2.2.2,()))))) (2:Int)).bind λaD=>
        if qH (dd+(1:Int)) then
          (RM (aD.2.1,(n,(ns,(aD.2.2.1,(aD.2.2.2,()))))) (dd+(1:Int)) c).bind λaE=>
          (uH (aE.2.1,(n,(aE.2.2.1,(aE.2.2.2.1,(aE.2.2.2.2,()))))) (3:Int)).bind λaF=>
          if (cs.length+([(aC.1,(aE.1,()))]:List rO).length)*40<=140737488355328 then
            some (.inl ((keys++([aC.1]:pK)),aF.2.1,aE.2.2.1,aF.2.2.1,aF.2.2.2,(cs++([(aC.1,(aE.1,()))]:List rO))))
          else(none:Option (GY⊕GY))
        else none
      else none)=IU RM n dd c (tN x.1 (tY (L.drop i))) keys (L.drop i) ns cs v:=λv=>by
    rw[gz _ _ (Y3 hT i)];rfl
  unfold ER;dsimp only;rw[hP];by_cases hk:keys=[]
  · subst hk
    rw[aOi pP,aOd pP,hp,aOc];dsimp only;rw[aOd z];refine Eq.trans (ig D) ?_;exact tl _
  have F:=hb.resolve_left hk
  have j:decide ((keys.length:Int)=0)=false:=by
    rw[aO6];intro e;exact hk (aPo.1 pN)
  rw[j,aOd qC,hp,aOd (λ_=>uL _),uE];dsimp only;rw[aOd aQn,aOc];dsimp only;rw[aOd z];refine Eq.trans (ig D) ?_;exact tl _
def ROk (L:List rS) (i d:Nat) (cs:List rO) (keys:List rW) (p:zl⊕Y2) (q:GY⊕GY):Prop:=
  ∃(k:rW) (ps:List qG) (j:Nat) (ns:List rW) (a a':Int),p= .inl (cs++[(k,(ps,()))],false,(j:Int),a,0,s7 ns,s7 (keys++[k]))/\q= .inl (keys++[k],L.drop j,ns,a',0,cs++[(k,(ps,()))])/\i<j/\j<=L.length/\ns.length<=j/\64+k.length+wL ps+tw (L.drop j)<=tw (L.drop i)/\sI ps+(d+1)<=10
def RNo (p:zl⊕Y2) (q:GY⊕GY):Prop:=
  (∃(cs:List rO) (j:Nat) (a e:Int) (m seen:Nm),p= .inl (cs,false,(j:Int),a,e,m,seen)/\e≠0)/\∃(keys:List rW) (ts:List rS) (ns:List rW) (a e:Int) (cs:List rO),q= .inl (keys,ts,ns,a,e,cs)/\e≠0
theorem a4l (z:DG s L n PM RM) {i:Nat}{kd dd a e:Int}{c:Bool}{cs:List rO}{m seen:Nm}(j:e≠0) (D:cs.length<=4000):UV PM s L kd dd c cs (i:Int) m seen (a,e)=some (.inl (cs++[([],([],()))],false,(i:Int),a,e,m,rN .str .bool [] true seen)):=by
  unfold UV;dsimp only;rw[aIw j,aOc];dsimp only;rw[yT j pO,aOc];dsimp only;rw[z.p _ _ _ _ _ _ j,aOc];dsimp only;rw[yT j pO,aOc];dsimp only;rw[aOd aQN]
theorem aIF (D:DG s L n PM RM) {ts:List rS}{dd a e:Int}{c kb:Bool}{keys ns:List rW}{cs:List rO}(j:e≠0) (E:cs.length<=4000) (hk:keys.length<=4000) (z:qH (dd+1)):IU RM n dd c kb keys ts ns cs (a,e)=some (.inl (keys++[[]],ts,ns,a,e,cs++[([],([],()))])):=by
  unfold IU;dsimp only;rw[ib j,aOc];dsimp only;rw[aOd aQN,yU j,aOc];dsimp only;rw[aOd z,D.r _ _ _ _ _ _ j,aOc];dsimp only;rw[yU j,aOc];dsimp only;rw[aOd aQN]
theorem aIG (O:DG s L n PM RM) {d:Nat}(hd:d<=8) (hM:GX s L n PM RM (d+1)) {i:Nat}{kd a a':Int}{c:Bool}{cs:List rO}{keys ns:List rW}(hi:i<=L.length) (hu:ns.length<=i) (hl:cs.length<=i) (hk:keys.length=cs.length):
    ∃p q,UV PM s L kd (d:Int) c cs (i:Int) (s7 ns) (s7 keys) (a,DH kd cs.length keys (L.drop i))=some p/\IU RM n (d:Int) (c||(!decide (kd=(9:Int)))) (tN kd (tY (L.drop i))) keys (L.drop i) ns cs (a',DH kd cs.length keys (L.drop i))=some q/\(ROk L i d cs keys p q\/RNo p q):=by
  have hL:=hT.len;have G:qH ((d:Int)+1):=by unfold qH;omega
  by_cases D:DH kd cs.length keys (L.drop i)=0
  · rw[D]
    by_cases hw:s6 (L.drop i)=9/\tN kd (tY (L.drop i))=true
    · obtain⟨U,K⟩:=hw
      obtain⟨t,r,z,V⟩:=hd9 U;have hc:tY (L.drop i)=t.2.1:=by rw[z];rfl
      have hn:=AY z;have ht:=AX z;have hz:=(vM z).1
      have hg:t.2.1∉keys:=by
        unfold DH at D;rw[aOd ⟨U,K⟩] at D;split at D
        .cases D
        split at D
        .cases D
        rename_i h;rw[hc] at h;exact h
      unfold UV IU;dsimp only;rw[aIu z hT.len V (hT.mem z) (by rw[<-hc];exact K),aOc,K,Y0 z V,aOc];dsimp only;rw[aOd aQN,<-hn];by_cases R:s6 (L.drop (i+1))=2
      · obtain⟨t2,r2,F,Y⟩: ∃t2 r2,L.drop (i+1)=t2::r2/\t2.1=2:=by
          cases I:L.drop (i+1) with
          |nil=>rw[I] at R;cases R
          |cons t2 r2=>rw[I] at R;exact⟨t2,r2,rfl,R⟩
        have hj:=AY F;have hs:=AX F;have hy:=(vM F).1;rw[AA F hT.len Y,aOc,DF F Y,aOc];dsimp only;rw[aOd G,<-hj];obtain⟨p,q,m1,m2,m3⟩:=hM (i+1+1) ns a a' (c||(!decide (kd=(9:Int)))) pN pN
        rw[show (((d+1:Nat):Int)-1)=(d:Int) by omega] at m1;rw[show ((d+1:Nat):Int)=(d:Int)+1 by omega] at m2;rw[m1,m2,aOc,aOc];rcases m3 with⟨ps,j,ns2,b,b',rfl,rfl,o1,o2,o3,o4,o5⟩ |⟨⟨ps,j,b,e,m,rfl,M⟩,ps2,ts2,ns2,b2,e2,rfl,heq⟩
        · dsimp only
          by_cases Q:s6 (L.drop j)=3
          · obtain⟨t3,r3,E,X⟩: ∃t3 r3,L.drop j=t3::r3/\t3.1=3:=by
              cases I:L.drop j with
              |nil=>rw[I] at Q;cases Q
              |cons t3 r3=>rw[I] at Q;exact⟨t3,r3,rfl,Q⟩
            have hh:=AY E;have ho:=AX E;have hx:=(vM E).1;rw[AA E hT.len X,aOc,DF E X,aOc];dsimp only;rw[aOd aQN,aOd aQN];refine⟨_,_,rfl,rfl,.inl ⟨t.2.1,ps,j+1,ns2,b,b',?_,?_,pN,pN,pN,pN,pN⟩⟩
            .rw[QD,wO,aOi hg]
            rw[hh]
          obtain⟨b1,q1⟩:=QB (s:=s) (L:=L) (i:=j) (a:=b) (m:=s7 ns2) Q
          obtain⟨b2,q2⟩:=IQ (ts:=L.drop j) (n:=n) (ns:=ns2) (a:=b') Q;rw[q1,q2,aOc,aOc];dsimp only;rw[aOd aQN,aOd aQN];exact⟨_,_,rfl,rfl,.inr ⟨⟨_,_,_,_,_,_,rfl,pO⟩,_,_,_,_,_,_,rfl,pO⟩⟩
        dsimp only
        rw[yT M pO,aOc];dsimp only;rw[aOd aQN];rcases heq with heq|⟨rfl,h4⟩
        · rw[yU heq,aOc]
          dsimp only;rw[aOd aQN];exact⟨_,_,rfl,rfl,.inr ⟨⟨_,_,_,_,_,_,rfl,M⟩,_,_,_,_,_,_,rfl,heq⟩⟩
        obtain⟨b3,q3⟩:=IQ (ts:=ts2) (n:=n) (ns:=ns2) (a:=b2) (k:=3) (by rw[h4];decide)
        rw[q3,aOc];dsimp only;rw[aOd aQN];exact⟨_,_,rfl,rfl,.inr ⟨⟨_,_,_,_,_,_,rfl,M⟩,_,_,_,_,_,_,rfl,pO⟩⟩
      obtain⟨b1,q1⟩:=QB (s:=s) (L:=L) (i:=i+1) (a:=a) (m:=s7 ns) R
      obtain⟨b2,q2⟩:=IQ (ts:=L.drop (i+1)) (n:=n) (ns:=ns) (a:=a') R;rw[q1,q2,aOc,aOc];dsimp only;rw[aOd G,O.p _ _ _ _ _ _ pO,O.r _ _ _ _ _ _ pO,aOc,aOc];dsimp only;rw[yT pO pO,yU pO,aOc,aOc];dsimp only;rw[aOd aQN,aOd aQN];exact⟨_,_,rfl,rfl,.inr ⟨⟨_,_,_,_,_,_,rfl,pO⟩,_,_,_,_,_,_,rfl,pO⟩⟩
    have Z:s6 (L.drop i)≠9\/tN kd (tY (L.drop i))=false:=by
      by_cases U:s6 (L.drop i)=9
      · right
        cases I:tN kd (tY (L.drop i)) with
        |false=>rfl
        |true=>exact absurd ⟨U,I⟩ hw
      exact .inl U
    obtain⟨b1,q1⟩:=aIv (s:=s) (L:=L) (i:=i) (a:=a) (m:=s7 ns) (k:=kd) hT.fit Z;obtain⟨b2,q2⟩:=UT (ts:=L.drop i) (n:=n) (ns:=ns) (a:=a') (b:=tN kd (tY (L.drop i))) Z;unfold UV IU;dsimp only;rw[q1,q2,aOc,aOc];dsimp only;rw[aOd aQN,yT pO pO,yU pO,aOc,aOc];dsimp only;rw[aOd G,O.p _ _ _ _ _ _ pO,O.r _ _ _ _ _ _ pO,aOc,aOc];dsimp only;rw[yT pO pO,yU pO,aOc,aOc];dsimp only;rw[aOd aQN,aOd aQN];exact⟨_,_,rfl,rfl,.inr ⟨⟨_,_,_,_,_,_,rfl,pO⟩,_,_,_,_,_,_,rfl,pO⟩⟩
  rw[a4l hT O D pN,aIF hT O D pN pN G]
  exact⟨_,_,rfl,rfl,.inr ⟨⟨_,_,_,_,_,_,rfl,D⟩,_,_,_,_,_,_,rfl,D⟩⟩
end
section
variable {s:pJ}{L:List rS}(hT:C9 L) {n:Int}{PM:IT}{RM:FS}
include hT
theorem aIH (E:DG s L n PM RM) {i:Nat}{kd dd a:Int}{c:Bool}{keys ns:List rW}{cs:List rO}(j:s6 (L.drop i)≠9) (F:cs.length<=4000) (hk:keys.length<=4000) (D:qH (dd+1)):
  ∃b,IU RM n dd c (tN kd (tY (L.drop i))) keys (L.drop i) ns cs (a,DH kd keys.length keys (L.drop i))=some (.inl (keys++[[]],L.drop i,ns,b,3,cs++[([],([],()))])):=by
 have z:DH kd keys.length keys (L.drop i)=0:=by unfold DH;rw[aOi (λh=>j h.1)]
 obtain⟨b2,q2⟩:=UT (ts:=L.drop i) (n:=n) (ns:=ns) (a:=a) (b:=tN kd (tY (L.drop i))) (.inl j);refine⟨b2,?_⟩;rw[z];unfold IU;dsimp only;rw[q2,aOc];dsimp only;rw[aOd aQN,yU pO,aOc];dsimp only;rw[aOd D,E.r _ _ _ _ _ _ pO,aOc];dsimp only;rw[yU pO,aOc];dsimp only;rw[aOd aQN]
theorem a4m {i:Nat}{kd dd a e:Int}{c:Bool}{cs:List rO}{m seen:Nm}(j:e≠0):C7 s L kd dd c PM (cs,false,(i:Int),a,e,m,seen)=some (.inr (cs,(i:Int),a,e,m,seen)):=by
 unfold C7;dsimp only;rw[aOd qC,C8 j,aOd (λ_=>uL _),uE,aOi pP]
theorem zm {P0:GW}{x:Int×pJ×pJ×pJ×List rO×List qG×Unit}{dd a e:Int}{c:Bool}{keys:List rW}{ts:List rS}{ns:List rW}{cs:List rO}(j:e≠0):ER P0 x dd c RM (keys,ts,ns,a,e,cs)=some (.inr (keys,ts,ns,a,e,cs)):=by
 unfold ER;dsimp only;have h:decide (e=0)=false:=by simpa using j
 rw[h,aOi pP,aOi pP]
theorem a4n {i:Nat}{kd dd a:Int}{c:Bool}{cs:List rO}{m seen:Nm}(j:s6 (L.drop i)≠9):C7 s L kd dd c PM (cs,false,(i:Int),a,0,m,seen)=some (.inr (cs,(i:Int),a,0,m,seen)):=by
 unfold C7;dsimp only;rw[aOd qC,vX,aOd (λ_=>uL _),uE,aOi aQf]
theorem aII {P0:GW}{x:Int×pJ×pJ×pJ×List rO×List qG×Unit}{dd a:Int}{c:Bool}{keys:List rW}{ts:List rS}{ns:List rW}{cs:List rO}(hk:keys≠[]) (z:s6 ts=3):ER P0 x dd c RM (keys,ts,ns,a,0,cs)=some (.inr (keys,ts,ns,a,0,cs)):=by
 unfold ER;dsimp only;obtain⟨p,q,hp⟩:=wN (ts:=ts) (n:=P0.2.1) (ns:=ns) (a:=a) (e:=0);have j:decide ((keys.length:Int)=0)=false:=by
  rw[aO6];intro e;exact hk (aPo.1 pN)
 rw[j,aOd qC,hp,aOd (λ_=>uL _),uE];dsimp only;rw[z,aOi pP]
def LOk (L:List rS) (i d:Nat) (p:Y2) (q:GY):Prop:=
 ∃(cs:List rO) (keys:List rW) (j:Nat) (ns:List rW) (a a':Int),p=(cs,(j:Int),a,0,s7 ns,s7 keys)/\q=(keys,L.drop j,ns,a',0,cs)/\s6 (L.drop j)=3/\keys.length<=4000/\i<=j/\j<=L.length/\ns.length<=j/\wC cs+tw (L.drop j)<=tw (L.drop i)/\zO cs+(d+1)<=10
def LNo (L:List rS) (p:Y2) (q:GY):Prop:=
 (∃(cs:List rO) (j:Nat) (a e:Int) (m seen:Nm),p=(cs,(j:Int),a,e,m,seen)/\(e≠0\/e=0/\s6 (L.drop j)≠3))/\∃(keys:List rW) (ts:List rS) (ns:List rW) (a e:Int) (cs:List rO),q=(keys,ts,ns,a,e,cs)/\e≠0
theorem a4q (M:DG s L n PM RM) {d:Nat}(Y:d<=8) (Z:GX s L n PM RM (d+1)) {P0:GW}(hP:P0.2.1=n) {x:Int×pJ×pJ×pJ×List rO×List qG×Unit}{c:Bool}{i0:Nat}:
  ∀(k i:Nat) (b:Bool) (cs:List rO) (keys ns:List rW) (a a':Int),L.length<=i+k->i<=L.length->ns.length<=i->cs.length<=i->keys.length=cs.length->(b=true↔keys=[])->i0<=i->wC cs+tw (L.drop i)<=tw (L.drop i0)->zO cs+(d+1)<=10->
  ∃p q,rC (C7 s L x.1 (d:Int) c PM) (cs,b,(i:Int),a,0,s7 ns,s7 keys)=some p/\rC (ER P0 x (d:Int) (c||(!decide (x.1=(9:Int)))) RM) (keys,L.drop i,ns,a',0,cs)=some q/\(LOk L i0 d p q\/LNo L p q)
 |k,i,b,cs,keys,ns,a,a',hk,hi,E,V,D,hb,R,hw,U=>by
  have hL:=hT.len;have go:(b=true\/s6 (L.drop i)=9)->∃p q,rC (C7 s L x.1 (d:Int) c PM) (cs,b,(i:Int),a,0,s7 ns,s7 keys)=some p/\rC (ER P0 x (d:Int) (c||(!decide (x.1=(9:Int)))) RM) (keys,L.drop i,ns,a',0,cs)=some q/\(LOk L i0 d p q\/LNo L p q):=by
   intro z;have I:keys=[]\/s6 (L.drop i)≠3:=z.elim (λh=> .inl (hb.1 h)) (λh=> .inr (by rw[h];decide));obtain⟨b1,q1⟩:=aIB hT (s:=s) (PM:=PM) (i:=i) (a:=a) (kd:=x.1) (dd:=(d:Int)) (c:=c) (b:=b) (m:=s7 ns) (cs:=cs) (keys:=keys) z;obtain⟨b2,q2⟩:=a4k hT (n:=n) (RM:=RM) (i:=i) (a:=a') (dd:=(d:Int)) (c:=(c||(!decide (x.1=(9:Int))))) hP (x:=x) (ns:=ns) (cs:=cs) (keys:=keys) pN I
   obtain⟨p,q,r1,r2,r3⟩:=aIG hT M Y Z (kd:=x.1) (a:=b1) (a':=b2) (c:=c) (cs:=cs) (keys:=keys) (ns:=ns) hi E V D;rw[D] at q2;rw[r1] at q1;rw[r2] at q2;rw[sZ,q1,sZ,q2,aOc,aOc];rcases r3 with⟨k',ps,j,ns2,e1,e2,rfl,rfl,o1,o2,o3,o4,o5⟩ |⟨⟨cs2,j,e1,e,m2,seen2,rfl,X⟩,keys2,ts2,ns2,e2,e',cs3,rfl,F⟩
   .cases k with
    |zero=>omega
    |succ k=>
     refine a4q M Y Z hP k j false (cs++[(k',(ps,()))]) (keys++[k']) ns2 e1 e2 pN o2 o3 aQM (by rw[aOg,aOg,D];rfl) pP pN ?_ ?_
     .rw[a4i];dsimp only;omega
     rw[a4j];dsimp only;omega
   dsimp only;rw[sZ,a4m hT X,sZ,zm hT F,aOc,aOc];exact⟨_,_,rfl,rfl,.inr ⟨⟨_,_,_,_,_,_,rfl,.inl X⟩,_,_,_,_,_,_,rfl,F⟩⟩
  by_cases z:b=true\/s6 (L.drop i)=9
  .exact go z
  have G:b=false:=by cases b with|true=>exact absurd (.inl rfl) z|false=>rfl
  have O:s6 (L.drop i)≠9:=λh=>z (.inr h);have Q:keys≠[]:=λh=>by rw[G] at hb;exact absurd (hb.2 h) pP
  subst G;by_cases K:s6 (L.drop i)=3
  .rw[sZ,a4n hT O,sZ,aII hT Q K,aOc,aOc];exact⟨_,_,rfl,rfl,.inl ⟨cs,keys,i,ns,a,a',rfl,rfl,K,pN,R,hi,E,hw,U⟩⟩
  obtain⟨b2,q2⟩:=a4k hT (n:=n) (RM:=RM) (i:=i) (a:=a') (dd:=(d:Int)) (c:=(c||(!decide (x.1=(9:Int))))) hP (x:=x) (ns:=ns) (cs:=cs) (keys:=keys) pN (.inr K)
  obtain⟨b3,q3⟩:=aIH hT M (kd:=x.1) (dd:=(d:Int)) (a:=b2) (c:=(c||(!decide (x.1=(9:Int))))) (keys:=keys) (ns:=ns) (cs:=cs) O pN pN aQF
  rw[q3] at q2;rw[sZ,a4n hT O,sZ,q2,aOc,aOc];dsimp only;rw[sZ,zm hT pO,aOc];exact⟨_,_,rfl,rfl,.inr ⟨⟨_,_,_,_,_,_,rfl,.inr ⟨rfl,K⟩⟩,_,_,_,_,_,_,rfl,pO⟩⟩
abbrev zn:Type:=List rO×Int×Int×Int×Nm
abbrev zo:Type:=List rS×List rW×Int×Int×List rO
def COk (L:List rS) (i d:Nat) (p:zn) (q:zo):Prop:=
 ∃(cs:List rO) (j:Nat) (ns:List rW) (a a':Int),p=(cs,(j:Int),a,0,s7 ns)/\q=(L.drop j,ns,a',0,cs)/\s6 (L.drop j)=3/\i<=j/\j<=L.length/\ns.length<=j/\wC cs+tw (L.drop j)<=tw (L.drop i)/\zO cs+(d+1)<=10
def CNo (L:List rS) (p:zn) (q:zo):Prop:=
 (∃(cs:List rO) (j:Nat) (a e:Int) (m:Nm),p=(cs,(j:Int),a,e,m)/\(e≠0\/e=0/\s6 (L.drop j)≠3))/\∃(ts:List rS) (ns:List rW) (a e:Int) (cs:List rO),q=(ts,ns,a,e,cs)/\e≠0
theorem aIJ (O:DG s L n PM RM) {d:Nat}(K:d<=8) (M:GX s L n PM RM (d+1)) {g1 g2 g3 r1 r2 r3}{kd:Int}{x:pJ×pJ×pJ×List rO×List qG×Unit}(I:x.2.2.2.1=[]) {c:Bool}{i:Nat}{ns:List rW}{a a':Int}(hi:i<=L.length) (E:ns.length<=i):
  ∃p q,II PM g1 g2 g3 s L (i:Int) (a,(0,())) kd (d:Int) c (s7 ns)=some p/\IC RM r1 r2 r3 (L.drop i,(n,(ns,(a',(0,()))))) (kd,x) (d:Int) (c||(!decide (kd=(9:Int))))=some q/\(COk L i d p q\/CNo L p q):=by
 obtain⟨p,q,l1,l2,l3⟩:=a4q hT O K M (P0:=(L.drop i,(n,(ns,(a',(0,())))))) rfl (x:=(kd,x)) (c:=c) (i0:=i) L.length i true [] [] ns a a' pN hi E pP rfl pP (aOA _) (by rw[EX];omega) (by rw[IS];omega);unfold II IC rD;dsimp only;rw[I];rw[show (s7 ([]:List rW))=[] from rfl] at l1;rw[l1,l2,aOc,aOc];rcases l3 with⟨cs,keys,j,ns2,b,b',rfl,rfl,o1,o2,o3,o4,o5,o6,o7⟩ |⟨⟨cs,j,b,e,m,seen,rfl,D⟩,keys,ts,ns2,b',e',cs2,rfl,z⟩
 .dsimp only;rw[vX,aOc,o1,LH,UR _ _ pN,aOd (show _->(some (decide (Qb5∈keys))).isSome=true from λ_=>uL _),uE];cases Q:decide (Qb5∈keys) with
  |true=>
   rw[aOi pP,aOi pP];exact⟨_,_,rfl,rfl,.inl ⟨cs,j,ns2,b,b',rfl,rfl,o1,o3,o4,o5,o6,o7⟩⟩
  |false=>
   obtain⟨b1,q1⟩:=BJ (s:=s) (L:=L) (i:=j) (a:=b) (m:=s7 ns2) 13;obtain⟨b2,q2⟩:=GU (ts:=L.drop j) (n:=n) (ns:=ns2) (a:=b') 13;rw[aOd qC,aOd qC,q1,q2,aOc,aOc];exact⟨_,_,rfl,rfl,.inr ⟨⟨_,_,b1,13,_,rfl,.inl pO⟩,_,_,b2,13,_,rfl,pO⟩⟩
 dsimp only;have F:decide (e'=0)=false:=by simpa using z
 rw[F,aOd (λh=>by simp at h),aOi pP];rcases D with D|⟨rfl,G⟩
 .rw[C8 D,aOc,aOi pP];exact⟨_,_,rfl,rfl,.inr ⟨⟨_,_,_,_,_,rfl,.inl D⟩,_,_,_,_,_,rfl,z⟩⟩
 rw[vX,aOc,aOi (by simp [G])];exact⟨_,_,rfl,rfl,.inr ⟨⟨_,_,_,_,_,rfl,.inr ⟨rfl,G⟩⟩,_,_,_,_,_,rfl,z⟩⟩
theorem aIK (z:DG s L n PM RM) {g1 g2 g3}{kd dd a e:Int}{c:Bool}{i:Nat}{m:Nm}(j:e≠0): ∃cs,II PM g1 g2 g3 s L (i:Int) (a,(e,())) kd dd c m=some (cs,(i:Int),a,e,m):=by
 have D:C7 s L kd dd c PM ([],true,(i:Int),a,e,m,[])=some (.inl ([([],([],()))],false,(i:Int),a,e,m,rN .str .bool [] true [])):=by
  unfold C7;dsimp only;rw[aOi pP,aOd rfl,C8 j,aOc,aOd (λh=>by simp at h),aOd (λh=>by simp at h)];refine Eq.trans (ig (v:=(a,e)) ?_) ?_
  .rw[aOi pP];rfl
  exact a4l hT z (cs:=[]) j pP
 unfold II rD;dsimp only;rw[sZ,D,aOc];dsimp only;rw[sZ,a4m hT j,aOc];dsimp only;rw[aOc];dsimp only;rw[C8 j,aOc,aOi pP];exact⟨_,rfl⟩
theorem aIL {r1 r2 r3}{x:Int×pJ×pJ×pJ×List rO×List qG×Unit}{dd a e:Int}{c:Bool}{ts:List rS}{ns:List rW}(z:e≠0):IC RM r1 r2 r3 (ts,(n,(ns,(a,(e,()))))) x dd c=some (ts,ns,a,e,x.2.2.2.2.1):=by
 unfold IC rD;dsimp only;rw[sZ,zm hT z,aOc];dsimp only;rw[aOc];dsimp only;have j:decide (e=0)=false:=by simpa using z
 rw[j,aOd (λh=>by simp at h),aOi pP]
end
end Go.Proofs.YtedimeeleabhnaaGreatDoor
namespace Go.Proofs.YtedimeeleabhnaaGreatDoor
open Vc
theorem a4t:rN .str (.int .i64) Qa0 (9:Int) (rN .str (.int .i64) Qa1 (8:Int) (rN .str (.int .i64) Qa2 (7:Int) (rN .str (.int .i64) Qa3 (6:Int) (rN .str (.int .i64) Qa4 (5:Int) (rN .str (.int .i64) Qa5 (4:Int) (rN .str (.int .i64) Qa6 (3:Int) ([]:List (pJ×Int))))))))=tX:=aIa
theorem a4u (t:pJ):sC .str (.int .i64) tX t=wE t:=rfl
abbrev LJ:Type:=pJ->List rS->Int->pR->Int->Int->Bool->Nm->Option zn
abbrev LK:Type:=Int×pJ×pJ×pJ×List rO×List qG×Unit
abbrev QE:Type:=GW->LK->Int->Bool->Option zo
def zp (s:pJ) (L:List rS) (n:Int) (PC:LJ) (RC:QE) (d:Nat):Prop:=
  ∀ (i:Nat) (ns:List rW) (a a' kd:Int) (x:pJ×pJ×pJ×List rO×List qG×Unit) (c:Bool),x.2.2.2.1=[]->i<=L.length->ns.length<=i->
    ∃p q,PC s L (i:Int) (a,(0,())) kd (d:Int) c (s7 ns)=some p/\RC (L.drop i,(n,(ns,(a',(0,()))))) (kd,x) (d:Int) (c||(!decide (kd=(9:Int))))=some q/\(COk L i d p q\/CNo L p q)
structure ii (s:pJ) (L:List rS) (n:Int) (PC:LJ) (RC:QE):Prop where
  p: ∀(i:Nat) a e kd dd c m,e≠0->∃cs,PC s L (i:Int) (a,(e,())) kd dd c m=some (cs,(i:Int),a,e,m)
  r: ∀ts ns a e x dd c,e≠0->RC (ts,(n,(ns,(a,(e,()))))) x dd c=some (ts,ns,a,e,x.2.2.2.2.1)
abbrev QF:Type:=Int×pJ×pJ×List rO×Int×Int×Int×Nm
abbrev Y4:Type:=Int×pJ×pJ×List rO×List rS×List rW×Int×Int
def UW (L:List rS) (i d:Nat) (p:QF) (q:Y4):Prop:=
  ∃(k:Int) (nm st:pJ) (cs:List rO) (j:Nat) (ns:List rW) (a a':Int),p=(k,nm,st,cs,(j:Int),a,0,s7 ns)/\q=(k,nm,st,cs,L.drop j,ns,a',0)/\i<j/\j<=L.length/\ns.length<=j/\64+nm.length+st.length+wC cs+tw (L.drop j)<=tw (L.drop i)/\zO cs+(d+1)<=10/\zN k st cs=true
def UX (p:QF) (q:Y4):Prop:=
  (∃(k:Int) (nm st:pJ) (cs:List rO) (j:Nat) (a e:Int) (m:Nm),p=(k,nm,st,cs,(j:Int),a,e,m)/\e≠0)/\∃(k:Int) (nm st:pJ) (cs:List rO) (ts:List rS) (ns:List rW) (a e:Int),q=(k,nm,st,cs,ts,ns,a,e)/\e≠0
theorem GZ {L:List rS}{i:Nat}{k:Int}(hk:k≠0) (h:s6 (L.drop i)=k): ∃t r,L.drop i=t::r/\t.1=k:=by
  cases j:L.drop i with
  |nil=>rw[j] at h;exact absurd h.symm hk
  |cons t r=>rw[j] at h;exact⟨t,r,rfl,h⟩
section
variable {s:pJ}{L:List rS}(hT:C9 L) {n:Int}{PC:LJ}{RC:QE}
include hT
theorem ij {i d:Nat}{j:Nat}{k:Int}{nm st:pJ}{cs:List rO}{ns:List rW}{a a':Int}(M:i<j) (I:j<=L.length) (G:ns.length<=j) (K:64+nm.length+st.length+wC cs+tw (L.drop j)<=tw (L.drop i)) (F:zO cs+(d+1)<=10) (hk:zN k st cs=true):
    ∃p q,((sT s L (j:Int) (a,(0,())) (3:Int) (s7 ns)).bind λr=>some ((k,nm,st,cs,r.2.1,r.2.2.1,r.2.2.2,s7 ns):QF))=some p/\((uH (L.drop j,(n,(ns,(a',(0,()))))) (3:Int)).bind λr=>some ((k,nm,st,cs,r.2.1,ns,r.2.2.1,r.2.2.2):Y4))=some q/\(UW L i d p q\/UX p q):=by
  by_cases D:s6 (L.drop j)=3
  · obtain⟨t,r,z,E⟩:=GZ pO D
    have:=AX z;have:=(vM z).1;rw[AA z hT.len E,DF z E,aOc,aOc];exact⟨_,_,rfl,rfl,.inl ⟨k,nm,st,cs,j+1,ns,a,a',rfl,by rw[AY z],pN,pN,pN,pN,F,hk⟩⟩
  obtain⟨b1,q1⟩:=QB (s:=s) (L:=L) (i:=j) (a:=a) (m:=s7 ns) D
  obtain⟨b2,q2⟩:=IQ (ts:=L.drop j) (n:=n) (ns:=ns) (a:=a') D;rw[q1,q2,aOc,aOc];exact⟨_,_,rfl,rfl,.inr ⟨⟨k,nm,st,cs,j,b1,3,s7 ns,rfl,pO⟩,k,nm,st,cs,_,ns,b2,3,rfl,pO⟩⟩
noncomputable def Y5 (PC:LJ) (s:pJ) (L:List rS) (dp:Int) (c:Bool) (nm:pJ) (m:Nm) (i a e:Int):Option QF:=
  (vU s L i (a,(e,())) m).bind λr48=>
  if (((decide (r48=(9:Int)))==true)=true->0<=i/\i<(L.length:Int)) then
   rD (σ:=(Int×Int)) (
     if ((r48=(9:Int))&&(((7:Int)<=(sC .str (.int .i64) tX ((qI sO L i).2.1)))&&((sC .str (.int .i64) tX ((qI sO L i).2.1))<=(9:Int))))=true then
      if qH (dp+(1:Int)) then
       (EO s L i (a,(e,())) (dp+(1:Int)) m).bind λO=>
       some ((O.1,O.2))
      else none
     else
      some ((a,e))
    ) fun(x:Int×Int)=>
   (EQ s L i (x.1,(x.2,())) m tX).bind λr53=>
   if (!decide (r53.2.2.2=(0:Int)))=true then
    (sT s L r53.2.1 (r53.2.2.1,(r53.2.2.2,())) (3:Int) m).bind λr54=>
    some (((sC .str (.int .i64) tX r53.1),nm,([]:pJ),([]:List rO),r54.2.1,r54.2.2.1,r54.2.2.2,m))
   else
    if (decide ((sC .str (.int .i64) tX r53.1)=(3:Int)))=true then
     (vU s L r53.2.1 (r53.2.2.1,(r53.2.2.2,())) m).bind λr55=>
     if (decide (r55=(8:Int)))=true then
      (sT s L r53.2.1 (r53.2.2.1,(r53.2.2.2,())) (8:Int) m).bind λr56=>
      (D8 s L r56.2.1 (r56.2.2.1,(r56.2.2.2,())) m).bind λr57=>
      (sT s L r57.2.1 (r57.2.2.1,(r57.2.2.2,())) (3:Int) m).bind λr58=>
      some (((sC .str (.int .i64) tX r53.1),nm,r57.1,([]:List rO),r58.2.1,r58.2.2.1,r58.2.2.2,m))
     else
      (sT s L r53.2.1 (r53.2.2.1,(r53.2.2.2,())) (3:Int) m).bind λr59=>
      some (((sC .str (.int .i64) tX r53.1),nm,([]:pJ),([]:List rO),r59.2.1,r59.2.2.1,r59.2.2.2,m))
    else
     if (((7:Int)<=(sC .str (.int .i64) tX r53.1))&&((sC .str (.int .i64) tX r53.1)<=(9:Int)))=true then
      (sT s L r53.2.1 (r53.2.2.1,(r53.2.2.2,())) (8:Int) m).bind λr60=>
      if qH (dp+(1:Int)) then
       (PC s L r60.2.1 (r60.2.2.1,(r60.2.2.2,())) (sC .str (.int .i64) tX r53.1) (dp+(1:Int)) c m).bind λr61=>
       (sT s L r61.2.1 (r61.2.2.1,(r61.2.2.2.1,())) (3:Int) r61.2.2.2.2).bind λr62=>
       some (((sC .str (.int .i64) tX r53.1),nm,([]:pJ),r61.1,r62.2.1,r62.2.2.1,r62.2.2.2,r61.2.2.2.2))
      else none
     else
      (sT s L r53.2.1 (r53.2.2.1,(r53.2.2.2,())) (8:Int) m).bind λr63=>
      if (decide ((sC .str (.int .i64) tX r53.1)=(5:Int)))=true then
       (D9 s L r63.2.1 (r63.2.2.1,(r63.2.2.2,())) m).bind λr64=>
       (sT s L r64.2.1 (r64.2.2.1,(r64.2.2.2,())) (3:Int) m).bind λr65=>
       some (((sC .str (.int .i64) tX r53.1),nm,r64.1,([]:List rO),r65.2.1,r65.2.2.1,r65.2.2.2,m))
      else
       (C5 s L r63.2.1 (r63.2.2.1,(r63.2.2.2,())) m).bind λr66=>
       (sT s L r66.2.1 (r66.2.2.1,(r66.2.2.2,())) (3:Int) m).bind λr67=>
       some (((sC .str (.int .i64) tX r53.1),nm,r66.1,([]:List rO),r67.2.1,r67.2.2.1,r67.2.2.2,m))
  else none
omit hT in
theorem aIM {PM:IT}{g1 g2}{i:Int}{st:pR}{dp:Int}{c:Bool}{m:Nm}:KV PM g1 g2 PC s L i st dp c m=
    ((sT s L i st (2:Int) m).bind λr42=>(KN s L r42.2.1 (r42.2.2.1,(r42.2.2.2,())) m).bind λr43=>(vU s L r43.2.1 (r43.2.2.1,(r43.2.2.2.1,())) r43.2.2.2.2).bind λr44=>
      if (decide (r44=(3:Int)))=true then
        (sT s L r43.2.1 (r43.2.2.1,(r43.2.2.2.1,())) (3:Int) r43.2.2.2.2).bind λr46=>some (((2:Int),r43.1,([]:pJ),([]:List rO),r46.2.1,r46.2.2.1,r46.2.2.2,r43.2.2.2.2))
      else(sT s L r43.2.1 (r43.2.2.1,(r43.2.2.2.1,())) (8:Int) r43.2.2.2.2).bind λr47=>Y5 PC s L dp c r43.1 r43.2.2.2.2 r47.2.1 r47.2.2.1 r47.2.2.2):=by
  unfold KV Y5;rw[a4t]
end
theorem DI {p:Prop}[Decidable p] (h: ¬p):decide p=false:=decide_eq_false h
theorem xH {p:Prop}[Decidable p] (h:p):decide p=true:=aO4 h
noncomputable def QG (PC:LJ) (s:pJ) (L:List rS) (dp:Int) (c:Bool) (nm:pJ) (m:Nm) (i:Int) (x:Int×Int):Option QF:=
   (EQ s L i (x.1,(x.2,())) m tX).bind λr53=>
   if (!decide (r53.2.2.2=(0:Int)))=true then
    (sT s L r53.2.1 (r53.2.2.1,(r53.2.2.2,())) (3:Int) m).bind λr54=>
    some (((sC .str (.int .i64) tX r53.1),nm,([]:pJ),([]:List rO),r54.2.1,r54.2.2.1,r54.2.2.2,m))
   else
    if (decide ((sC .str (.int .i64) tX r53.1)=(3:Int)))=true then
     (vU s L r53.2.1 (r53.2.2.1,(r53.2.2.2,())) m).bind λr55=>
     if (decide (r55=(8:Int)))=true then
      (sT s L r53.2.1 (r53.2.2.1,(r53.2.2.2,())) (8:Int) m).bind λr56=>
      (D8 s L r56.2.1 (r56.2.2.1,(r56.2.2.2,())) m).bind λr57=>
      (sT s L r57.2.1 (r57.2.2.1,(r57.2.2.2,())) (3:Int) m).bind λr58=>
      some (((sC .str (.int .i64) tX r53.1),nm,r57.1,([]:List rO),r58.2.1,r58.2.2.1,r58.2.2.2,m))
     else
      (sT s L r53.2.1 (r53.2.2.1,(r53.2.2.2,())) (3:Int) m).bind λr59=>
      some (((sC .str (.int .i64) tX r53.1),nm,([]:pJ),([]:List rO),r59.2.1,r59.2.2.1,r59.2.2.2,m))
    else
     if (((7:Int)<=(sC .str (.int .i64) tX r53.1))&&((sC .str (.int .i64) tX r53.1)<=(9:Int)))=true then
      (sT s L r53.2.1 (r53.2.2.1,(r53.2.2.2,())) (8:Int) m).bind λr60=>
      if qH (dp+(1:Int)) then
       (PC s L r60.2.1 (r60.2.2.1,(r60.2.2.2,())) (sC .str (.int .i64) tX r53.1) (dp+(1:Int)) c m).bind λr61=>
       (sT s L r61.2.1 (r61.2.2.1,(r61.2.2.2.1,())) (3:Int) r61.2.2.2.2).bind λr62=>
       some (((sC .str (.int .i64) tX r53.1),nm,([]:pJ),r61.1,r62.2.1,r62.2.2.1,r62.2.2.2,r61.2.2.2.2))
      else none
     else
      (sT s L r53.2.1 (r53.2.2.1,(r53.2.2.2,())) (8:Int) m).bind λr63=>
      if (decide ((sC .str (.int .i64) tX r53.1)=(5:Int)))=true then
       (D9 s L r63.2.1 (r63.2.2.1,(r63.2.2.2,())) m).bind λr64=>
       (sT s L r64.2.1 (r64.2.2.1,(r64.2.2.2,())) (3:Int) m).bind λr65=>
       some (((sC .str (.int .i64) tX r53.1),nm,r64.1,([]:List rO),r65.2.1,r65.2.2.1,r65.2.2.2,m))
      else
       (C5 s L r63.2.1 (r63.2.2.1,(r63.2.2.2,())) m).bind λr66=>
       (sT s L r66.2.1 (r66.2.2.1,(r66.2.2.2,())) (3:Int) m).bind λr67=>
       some (((sC .str (.int .i64) tX r53.1),nm,r66.1,([]:List rO),r67.2.1,r67.2.2.1,r67.2.2.2,m))
abbrev RUO:Type:=List rS×List rW×Int×Int×Int×pJ×List rO
noncomputable def QH (RC:QE) (n:Int) (ts:List rS) (ns:List rW) (W:Int) (x0:LK) (d:Int) (c:Bool) (x:Int×Int):Option RUO:=
 (vR (ts,(n,(ns,(x.1,(x.2,()))))) (!decide (W=(0:Int)))).bind λO=>
 if (!decide (O.2.2.2=(0:Int)))=true then
  some ((O.2.1,ns,O.2.2.1,O.2.2.2,W,x0.2.2.2.1,x0.2.2.2.2.1))
 else
  if ((decide (W=(3:Int)))==true)=true then
   if (((decide (W=(3:Int)))==true)=true->((vG (O.2.1,(n,(ns,(O.2.2.1,(O.2.2.2,()))))))).isSome=true) then
    if ((W=(3:Int))&&(!decide ((val (vG (O.2.1,(n,(ns,(O.2.2.1,(O.2.2.2,()))))))).1=(8:Int))))=true then
     some ((O.2.1,ns,O.2.2.1,O.2.2.2,W,x0.2.2.2.1,x0.2.2.2.2.1))
    else
     (uH (O.2.1,(n,(ns,(O.2.2.1,(O.2.2.2,()))))) (8:Int)).bind λa8=>
     (vG (a8.2.1,(n,(ns,(a8.2.2.1,(a8.2.2.2,())))))).bind λaA=>
     if (decide (W=(3:Int)))=true then
      (vR (a8.2.1,(n,(ns,(a8.2.2.1,(a8.2.2.2,()))))) ((aA.2.1=Qc4)||(aA.2.1=Qc5))).bind λaB=>
      some ((aB.2.1,ns,aB.2.2.1,aB.2.2.2,W,aB.1,x0.2.2.2.2.1))
     else
      if (decide (W=(5:Int)))=true then
       (EM aA.2.1).bind λaC=>
       (vR (a8.2.1,(n,(ns,(a8.2.2.1,(a8.2.2.2,()))))) aC).bind λaD=>
       some ((aD.2.1,ns,aD.2.2.1,aD.2.2.2,W,aD.1,x0.2.2.2.2.1))
      else
       rD (σ:=Bool) (
         if (decide (W=(4:Int)))=true then
          some ((decide (W=(4:Int))))
         else
          some ((decide (W=(6:Int))))
        ) λaE=>
       if aE=true then
        (vW aA.2.1).bind λaF=>
        (vR (a8.2.1,(n,(ns,(a8.2.2.1,(a8.2.2.2,()))))) aF).bind λaG=>
        some ((aG.2.1,ns,aG.2.2.1,aG.2.2.2,W,aG.1,x0.2.2.2.2.1))
       else
        (RC (a8.2.1,(n,(ns,(a8.2.2.1,(a8.2.2.2,()))))) (W,x0.2) d (c||((W=(7:Int))||(W=(8:Int))))).bind λaH=>
        some ((aH.1,aH.2.1,aH.2.2.1,aH.2.2.2.1,W,x0.2.2.2.1,aH.2.2.2.2))
   else none
  else
   if false=true then
    some ((O.2.1,ns,O.2.2.1,O.2.2.2,W,x0.2.2.2.1,x0.2.2.2.2.1))
   else
    (uH (O.2.1,(n,(ns,(O.2.2.1,(O.2.2.2,()))))) (8:Int)).bind λaI=>
    (vG (aI.2.1,(n,(ns,(aI.2.2.1,(aI.2.2.2,())))))).bind λaJ=>
    if (decide (W=(3:Int)))=true then
     (vR (aI.2.1,(n,(ns,(aI.2.2.1,(aI.2.2.2,()))))) ((aJ.2.1=Qc4)||(aJ.2.1=Qc5))).bind λaK=>
     some ((aK.2.1,ns,aK.2.2.1,aK.2.2.2,W,aK.1,x0.2.2.2.2.1))
    else
     if (decide (W=(5:Int)))=true then
      (EM aJ.2.1).bind λaL=>
      (vR (aI.2.1,(n,(ns,(aI.2.2.1,(aI.2.2.2,()))))) aL).bind λaM=>
      some ((aM.2.1,ns,aM.2.2.1,aM.2.2.2,W,aM.1,x0.2.2.2.2.1))
     else
      rD (σ:=Bool) (
        if (decide (W=(4:Int)))=true then
         some ((decide (W=(4:Int))))
        else
         some ((decide (W=(6:Int))))
       ) λaN=>
      if aN=true then
       (vW aJ.2.1).bind λaO=>
       (vR (aI.2.1,(n,(ns,(aI.2.2.1,(aI.2.2.2,()))))) aO).bind λaP=>
       some ((aP.2.1,ns,aP.2.2.1,aP.2.2.2,W,aP.1,x0.2.2.2.2.1))
      else
       (RC (aI.2.1,(n,(ns,(aI.2.2.1,(aI.2.2.2,()))))) (W,x0.2) d (c||((W=(7:Int))||(W=(8:Int))))).bind λaQ=>
       some ((aQ.1,aQ.2.1,aQ.2.2.1,aQ.2.2.2.1,W,x0.2.2.2.1,aQ.2.2.2.2))
theorem a4w {PC:LJ}{s:pJ}{L:List rS}{dp:Int}{c:Bool}{nm:pJ}{m:Nm}{i a e:Int}:Y5 PC s L dp c nm m i a e=
  ((vU s L i (a,(e,())) m).bind λr48=>
  if (((decide (r48=(9:Int)))==true)=true->0<=i/\i<(L.length:Int)) then
   rD (σ:=(Int×Int)) (
     if ((r48=(9:Int))&&(((7:Int)<=(sC .str (.int .i64) tX ((qI sO L i).2.1)))&&((sC .str (.int .i64) tX ((qI sO L i).2.1))<=(9:Int))))=true then
      if qH (dp+(1:Int)) then
       (EO s L i (a,(e,())) (dp+(1:Int)) m).bind λO=>
       some ((O.1,O.2))
      else none
     else
      some ((a,e))
    ) (QG PC s L dp c nm m i)
  else none):=rfl
theorem aIN {RM:FS}{RA RU}{RC:QE}{P0:GW}{x0:LK}{d:Int}{c:Bool}:IB RM RA RU RC P0 x0 d c=
  ((vG P0).bind λO=>(NQ O.2.1).bind λW=>(vG P0).bind λa8=>
   rD (σ:=(Int×Int)) (
   if ((a8.1=(9:Int))&&(((W=(7:Int))||(W=(8:Int)))||(W=(9:Int))))=true then
    (FK P0 d).bind λaA=>
    some ((aA.1,aA.2))
   else
    some ((P0.2.2.2.1,P0.2.2.2.2.1))
   ) (QH RC P0.2.1 P0.1 P0.2.2.1 W x0 d c)):=by rw[IB.eq_1];rfl
noncomputable def Y6 (n:Int) (nm:pJ) (x:Option RUO):Option Y4:=
  x.bind λr26=>(uH (r26.1,(n,(r26.2.1,(r26.2.2.1,(r26.2.2.2.1,()))))) (3:Int)).bind λr27=>some (r26.2.2.2.2.1,nm,r26.2.2.2.2.2.1,r26.2.2.2.2.2.2,r27.2.1,r26.2.1,r27.2.2.1,r27.2.2.2)
theorem QI {n:Int}{nm:pJ}{ts:List rS}{ns:List rW}{a e k:Int}{st:pJ}{cs:List rO}(j:e≠0):Y6 n nm (some (ts,ns,a,e,k,st,cs))=some (k,nm,st,cs,ts,ns,a,e):=by
  unfold Y6;rw[aOc];dsimp only;rw[yU j];rfl
abbrev ik (nm:pJ):LK:=((2:Int),(([]:pJ),(nm,(([]:pJ),(([]:List rO),(([]:List qG),()))))))
section
variable {s:pJ}{L:List rS}(hT:C9 L) {n:Int}{PC:LJ}{RM:FS}{RA RU}{RC:QE}
include hT
theorem a4x {dp:Int}{c:Bool}{nm:pJ}{m:Nm}{i:Nat}{a e:Int}(j:e≠0):QG PC s L dp c nm m (i:Int) (a,e)=some (0,nm,[],[],(i:Int),a,e,m):=by
  unfold QG;dsimp only;rw[aIt j,aOc];dsimp only;rw[aOd aQf,yT j pO];rfl
theorem a4y {dp:Int}{c:Bool}{nm:pJ}{m:Nm}{i:Nat}{a:Int}(h:s6 (L.drop i)≠9\/wE (tY (L.drop i))=0): ∃b,QG PC s L dp c nm m (i:Int) (a,0)=some (0,nm,[],[],(i:Int),b,3,m):=by
  obtain⟨b,q⟩:=aIs (s:=s) (L:=L) (i:=i) (a:=a) (m:=m) h;refine⟨b,?_⟩;unfold QG;dsimp only;rw[q,aOc];dsimp only;rw[aOd (show (!decide ((3:Int)=0))=true from by decide),yT pO pO];rfl
theorem aIO {ts:List rS}{ns:List rW}{W:Int}{x0:LK}{d:Int}{c:Bool}{a e:Int}(j:e≠0):QH RC n ts ns W x0 d c (a,e)=some (ts,ns,a,e,W,x0.2.2.2.1,x0.2.2.2.2.1):=by
  unfold QH;dsimp only;rw[ib j,aOc];dsimp only;rw[aOd aQf]
theorem a4z {ts:List rS}{ns:List rW}{W:Int}{x0:LK}{d:Int}{c:Bool}{a:Int}(h:s6 ts≠9\/W=0): ∃b,QH RC n ts ns W x0 d c (a,0)=some (ts,ns,b,3,W,x0.2.2.2.1,x0.2.2.2.2.1):=by
  obtain⟨b,q⟩:=UT (ts:=ts) (n:=n) (ns:=ns) (a:=a) (b:= !decide (W=0)) (h.imp id λh=>by simp [h]);refine⟨b,?_⟩;unfold QH;dsimp only;rw[q,aOc];dsimp only;rw[aOd (show (!decide ((3:Int)=0))=true from by decide)]
omit hT in
theorem il {k:Int}{st:pJ}{cs:List rO}(hk:3<=k/\k<=9):zN k st cs=true:=by
  unfold zN;simp [hk]
theorem zq {i d j:Nat}{k:Int}{nm:pJ}{ns:List rW}{a a':Int}(fP:pJ->List rS->Int->pR->Nm->Option (pJ×Int×Int×Int)) (fB:pJ->Bool) (rB:pJ->Option Bool) (F: ∀j,rB (tY (L.drop j))=some (fB (tY (L.drop j))))
    (ok: ∀{j:Nat}{a:Int}{t:rS}{r:List rS},L.drop j=t::r->t.1=9->fB t.2.1=true->fP s L (j:Int) (a,(0,())) (s7 ns)=some (t.2.1,((j+1:Nat):Int),a,0))
    (no: ∀{j:Nat}{a:Int},s6 (L.drop j)≠9\/fB (tY (L.drop j))=false->∃a',fP s L (j:Int) (a,(0,())) (s7 ns)=some ([],(j:Int),a',3))
    (bad: ∀{j:Nat}{a e:Int},e≠0->fP s L (j:Int) (a,(e,())) (s7 ns)=some ([],(j:Int),a,e))
    (hd:d<=9) (Y:i<j) (hj:j<=L.length) (V:ns.length<=j) (Z:64+nm.length+tw (L.drop j)<=tw (L.drop i)) (hk:3<=k/\k<=9):
    ∃ p q,((sT s L (j:Int) (a,(0,())) (8:Int) (s7 ns)).bind λr63=>(fP s L r63.2.1 (r63.2.2.1,(r63.2.2.2,())) (s7 ns)).bind λr64=>(sT s L r64.2.1 (r64.2.2.1,(r64.2.2.2,())) (3:Int) (s7 ns)).bind λr65=>some ((k,nm,r64.1,([]:List rO),r65.2.1,r65.2.2.1,r65.2.2.2,s7 ns):QF))=some p/\
      Y6 n nm ((uH (L.drop j,(n,(ns,(a',(0,()))))) (8:Int)).bind λr49=>(vG (r49.2.1,(n,(ns,(r49.2.2.1,(r49.2.2.2,())))))).bind λr50=>(rB r50.2.1).bind λb=>(vR (r49.2.1,(n,(ns,(r49.2.2.1,(r49.2.2.2,()))))) b).bind λr51=>some (r51.2.1,ns,r51.2.2.1,r51.2.2.2,k,r51.1,([]:List rO)))=some q/\(UW L i d p q\/UX p q):=by
  by_cases h8:s6 (L.drop j)=8
  · obtain⟨t,r,D,K⟩:=GZ pO h8
    have U:=AX D;have X:=(vM D).1;rw[AA D hT.len K,DF D K,aOc,aOc];dsimp only;rw[<-AY D];obtain⟨u,v,hp⟩:=wN (ts:=L.drop (j+1)) (n:=n) (ns:=ns) (a:=a') (e:=0);rw[hp,aOc];dsimp only;rw[F,aOc];by_cases hf:s6 (L.drop (j+1))=9/\fB (tY (L.drop (j+1)))=true
    · obtain⟨t2,r2,z,E⟩:=hd9 hf.1
      have I:tY (L.drop (j+1))=t2.2.1:=by rw[z];rfl
      have O:=AX z;have Q:=(vM z).1;rw[hf.2,ok z E (by rw[<-I];exact hf.2),Y0 z E,aOc,aOc];dsimp only;rw[<-AY z];exact ij hT (i:=i) (j:=j+1+1) (nm:=nm) (st:=t2.2.1) (cs:=[]) (k:=k) pN pN pN (by rw[EX];omega) (by rw[IS];omega) (il hk)
    have G:s6 (L.drop (j+1))≠9\/fB (tY (L.drop (j+1)))=false:=by
      by_cases M:s6 (L.drop (j+1))=9
      · right
        cases R:fB (tY (L.drop (j+1))) with
        |false=>rfl
        |true=>exact absurd ⟨M,R⟩ hf
      exact .inl M
    obtain⟨b1,q1⟩:=no (a:=a) G;obtain⟨b2,q2⟩:=UT (ts:=L.drop (j+1)) (n:=n) (ns:=ns) (a:=a') G;rw[q1,q2,aOc,aOc];dsimp only;rw[QI pO,yT pO pO,aOc];exact⟨_,_,rfl,rfl,.inr ⟨⟨k,nm,[],[],j+1,b1,3,s7 ns,rfl,pO⟩,k,nm,[],[],_,ns,b2,3,rfl,pO⟩⟩
  obtain⟨b1,q1⟩:=QB (s:=s) (L:=L) (i:=j) (a:=a) (m:=s7 ns) h8
  obtain⟨b2,q2⟩:=IQ (ts:=L.drop j) (n:=n) (ns:=ns) (a:=a') h8;rw[q1,q2,aOc,aOc];dsimp only;obtain⟨u,v,hp⟩:=wN (ts:=L.drop j) (n:=n) (ns:=ns) (a:=b2) (e:=3);rw[bad pO,hp,aOc,aOc];dsimp only;rw[F,aOc,ib pO,aOc,yT pO pO,aOc];dsimp only;rw[QI pO];exact⟨_,_,rfl,rfl,.inr ⟨⟨k,nm,[],[],j,b1,3,s7 ns,rfl,pO⟩,k,nm,[],[],_,ns,b2,3,rfl,pO⟩⟩
theorem a4A {d:Nat}(hd9:d<=9) (hB:ii s L n PC RC) {i j:Nat}{nm:pJ}{c:Bool}{ns:List rW}{a a':Int}(hx:i<j) (hj:j<=L.length) (hs:ns.length<=j) (hw:64+nm.length+tw (L.drop j)<=tw (L.drop i))
    (I:s6 (L.drop j)=9) {W:Int}(hW:wE (tY (L.drop j))=W) (X:W≠0) (hC:7<=W->zp s L n PC RC d):
    ∃p q,QG PC s L ((d:Int)-1) c nm (s7 ns) (j:Int) (a,0)=some p/\Y6 n nm (QH RC n (L.drop j) ns W (ik nm) (d:Int) c (a',0))=some q/\(UW L i d p q\/UX p q):=by
  have hL:=hT.len;obtain⟨t,r,D,ht⟩:=Go.Proofs.YtedimeeleabhnaaGreatDoor.hd9 I;have hg:tY (L.drop j)=t.2.1:=by rw[D];rfl
  have ho:=AX D;have hu:=(vM D).1;have K:wE t.2.1=W:=by rw[<-hg];exact hW
  have O:=a33 t.2.1;rw[K] at O
  have hy:3<=W/\W<=9:=by
    rcases O with h|⟨q,hq,h⟩<;>omega
  clear O;unfold QG QH;dsimp only;rw[aIr D hT.len ht (by rw[K];exact X),show (!decide (W=0))=true by simp [X],Y0 D ht,aOc,aOc];dsimp only;rw[aOi (show¬(!decide ((0:Int)=0))=true by decide),aOi (show¬(!decide ((0:Int)=0))=true by decide),a4u,K,<-AY D];by_cases Y:W=3
  · subst Y
    obtain⟨u,v,hp⟩:=wN (ts:=L.drop (j+1)) (n:=n) (ns:=ns) (a:=a') (e:=0);rw[aOd (show decide ((3:Int)=3)=true from rfl),aOd (show (decide ((3:Int)=3)==true)=true from rfl),hp,aOd (λ_=>uL _),uE,vX,aOc];dsimp only;by_cases h8:s6 (L.drop (j+1))=8
    · rw[aOd (xH h8),aOi (show¬(decide ((3:Int)=3)&& !decide (s6 (L.drop (j+1))=8))=true by simp [h8])]
      exact zq hT (i:=i) (j:=j+1) (λs L i st m=>D8 s L i st m) QC (λx=>some (QC x)) (λ_=>rfl) (λG I Q=>aIo G hT.len I Q) (λh=>aIp h) (λF=>aIq F) hd9 pN pN pN pN pN
    rw[aOi (by simpa using h8),aOd (show (decide ((3:Int)=3)&& !decide (s6 (L.drop (j+1))=8))=true by simp [h8])]
    exact ij hT (i:=i) (j:=j+1) (nm:=nm) (st:=[]) (cs:=[]) (k:=3) pN pN pN (by rw[EX];simp only[aOh];omega) (by rw[IS];omega) (il pN)
  rw[aOi (show¬decide (W=3)=true by simpa using Y),aOi (show¬(decide (W=3)==true)=true by simp [Y]),aOi (show¬(false=true) by simp)]
  have e3:decide (W=3)=false:=DI Y;rw[e3];simp only[aOT,aPq];by_cases E:7<=W/\W<=9
  · rw[aOd (show (decide (7<=W)&&decide (W<=9))=true by simp [E])]
    have e5:decide (W=5)=false:=DI pN;have e4:decide (W=4)=false:=DI pN;have e6:decide (W=6)=false:=DI pN
    have ec:(c||(decide (W=7)||decide (W=8)))=(c||(!decide (W=9))):=by
      congr 1;rw[aOE];simp;omega
    rw[e5,e4,e6,ec];unfold rD;simp only[aOT,aPq,aOc];have V:qH ((d:Int)-1+1):=by unfold qH;omega
    have U:((d:Int)-1+1)=(d:Int):=by omega
    by_cases h8:s6 (L.drop (j+1))=8
    · obtain⟨t2,r2,z,R⟩:=GZ pO h8
      have hh:=AX z;have hl:=(vM z).1;rw[AA z hT.len R,DF z R,aOc,aOc];dsimp only;obtain⟨u,v,hp⟩:=wN (ts:=r2) (n:=n) (ns:=ns) (a:=a') (e:=0);rw[aOd V,U,hp,aOc,<-AY z];obtain⟨p,q,c1,c2,c3⟩:=hC E.1 (j+1+1) ns a a' W ([],nm,[],[],[],()) c rfl pN pN;rw[c1,c2,aOc,aOc];rcases c3 with⟨cs,j',ns2,b,b',rfl,rfl,o1,o2,o3,o4,o5,o6⟩ |⟨⟨cs,j',b,e,m,rfl,F⟩,ts2,ns2,b',e',cs2,rfl,M⟩
      · dsimp only
        exact ij hT (i:=i) (j:=j') (nm:=nm) (st:=[]) (cs:=cs) (k:=W) pN pN pN aQO o6 (il pN)
      dsimp only
      rw[QI M];rcases F with F|⟨rfl,Z⟩
      · rw[yT F pO,aOc]
        exact⟨_,_,rfl,rfl,.inr ⟨⟨W,nm,[],cs,j',b,e,m,rfl,F⟩,W,nm,[],cs2,ts2,ns2,b',e',rfl,M⟩⟩
      obtain⟨b1,q1⟩:=QB (s:=s) (L:=L) (i:=j') (a:=b) (m:=m) Z
      rw[q1,aOc];exact⟨_,_,rfl,rfl,.inr ⟨⟨W,nm,[],cs,j',b1,3,m,rfl,pO⟩,W,nm,[],cs2,ts2,ns2,b',e',rfl,M⟩⟩
    obtain⟨b1,q1⟩:=QB (s:=s) (L:=L) (i:=j+1) (a:=a) (m:=s7 ns) h8
    obtain⟨b2,q2⟩:=IQ (ts:=L.drop (j+1)) (n:=n) (ns:=ns) (a:=a') h8;rw[q1,q2,aOc,aOc];dsimp only;obtain⟨u,v,hp⟩:=wN (ts:=L.drop (j+1)) (n:=n) (ns:=ns) (a:=b2) (e:=3);obtain⟨cs,hc⟩:=hB.p (j+1) b1 3 W (d:Int) c (s7 ns) pO;rw[aOd V,U,hp,aOc,hc,aOc];dsimp only;rw[yT pO pO,hB.r _ _ _ _ _ _ _ pO,aOc,aOc];dsimp only;rw[QI pO];exact⟨_,_,rfl,rfl,.inr ⟨⟨W,nm,[],cs,j+1,b1,3,s7 ns,rfl,pO⟩,W,nm,[],_,_,ns,b2,3,rfl,pO⟩⟩
  rw[aOi (show¬(decide (7<=W)&&decide (W<=9))=true by simpa using E)]
  by_cases h5:W=5
  · subst h5
    simp only[decide_true,aPl];exact zq hT (i:=i) (j:=j+1) (λs L i st m=>D9 s L i st m) IP EM (λj=>a32 _ (Y3 hT j)) (λG I Q=>aIl G hT.len I (hT.mem G) Q) (λh=>aIm hT.fit h) (λF=>aIn F) hd9 pN pN pN pN pN
  have e5:decide (W=5)=false:=DI h5
  have e46:(rD (σ:=Bool) (if decide (W=4)=true then some (decide (W=4)) else some (decide (W=6))) λb=>some b)=some true:=by
    unfold rD;by_cases h4:W=4
    .subst h4;rfl
    have h6:W=6:=by omega
    subst h6;rfl
  rw[e5];simp only[aOT,aPq];have e46': ∀{β:Type}(k:Bool->Option β),rD (σ:=Bool) (if decide (W=4)=true then some (decide (W=4)) else some (decide (W=6))) k=k true:=λk=>ig e46;simp only[e46',aPl];exact zq hT (i:=i) (j:=j+1) (λs L i st m=>C5 s L i st m) uT vW (λj=>LD _ (Y3 hT j)) (λG I Q=>zc G hT.len I (hT.mem G) Q) (λh=>zd hT.fit h) (λF=>a4e F) hd9 pN pN pN pN pN
end
section
variable {s:pJ}{L:List rS}(hT:C9 L) {n:Int}{PC:LJ}{RM:FS}{RA RU}{RC:QE}
include hT
theorem a4B {dp:Int}{c:Bool}{nm:pJ}{m:Nm}{i:Nat}{a e:Int}(j:e≠0):Y5 PC s L dp c nm m (i:Int) a e=some (0,nm,[],[],(i:Int),a,e,m):=by
 rw[a4w,C8 j,aOc,aOd (λh=>by simp at h)];unfold rD;rw[aOi pP,aOc,a4x hT j]
theorem aIP {d:Nat}(U:d<=9) (V:ii s L n PC RC) (X:d<=8->zp s L n PC RC d) {i j:Nat}{nm:pJ}{c:Bool}{ns:List rW}{a a':Int}(G:i<j) (R:j<=L.length) (F:ns.length<=j) (Q:64+nm.length+tw (L.drop j)<=tw (L.drop i)):
  ∃p q,Y5 PC s L ((d:Int)-1) c nm (s7 ns) (j:Int) a 0=some p/\Y6 n nm (IB RM RA RU RC (L.drop j,(n,(ns,(a',(0,()))))) (ik nm) (d:Int) c)=some q/\(UW L i d p q\/UX p q):=by
 obtain⟨u,v,hp⟩:=wN (ts:=L.drop j) (n:=n) (ns:=ns) (a:=a') (e:=0);rw[a4w,aIN,vX,hp,aOc,aOc];dsimp only;rw[aIb,aOc,aOc];dsimp only;by_cases D:s6 (L.drop j)=9
 .obtain⟨t,r,I,Y⟩:=hd9 D;obtain⟨E,K⟩:=vM I;have z:tY (L.drop j)=t.2.1:=by rw[I];rfl
  rw[aOd (λ_=>rP E),A9 E,K E,a4u,z,D];by_cases M:7<=wE t.2.1
  .have O:wE t.2.1<=9:=by
    rcases a33 t.2.1 with h|⟨q,Z,h⟩<;>omega
   unfold rD;rw[aOd (show (decide ((9:Int)=9)&&(decide (7<=wE t.2.1)&&decide (wE t.2.1<=9)))=true by simp [M,O]),aOd (show qH ((d:Int)-1+1) by unfold qH;omega),show (d:Int)-1+1=d by omega,aOd (show (decide ((9:Int)=9)&&((decide (wE t.2.1=7)||decide (wE t.2.1=8))||decide (wE t.2.1=9)))=true by simp;omega)]
   by_cases h8:d<=8
   .rw[yy pN,za pN,aOc,aOc,aOc,aOc];dsimp only;exact a4A hT U V (i:=i) (j:=j) G R F Q D (by rw[z]) pN (λ_=>X h8)
   obtain⟨b1,q1⟩:=yz (s:=s) (L:=L) (i:=j) (a:=a) (m:=s7 ns) (d:=d) pN;obtain⟨b2,q2⟩:=zb (ts:=L.drop j) (n:=n) (ns:=ns) (a:=a') (d:=d) pN;rw[q1,q2,aOc,aOc,aOc,aOc];dsimp only;rw[a4x hT pO,aIO hT pO,QI pO];exact⟨_,_,rfl,rfl,.inr ⟨⟨_,_,_,_,j,_,_,_,rfl,pO⟩,_,_,_,_,_,_,_,_,rfl,pO⟩⟩
  unfold rD;rw[aOi (show¬(decide ((9:Int)=9)&&(decide (7<=wE t.2.1)&&decide (wE t.2.1<=9)))=true by simp [M]),aOi (show¬(decide ((9:Int)=9)&&((decide (wE t.2.1=7)||decide (wE t.2.1=8))||decide (wE t.2.1=9)))=true by simp;omega),aOc,aOc]
  by_cases h0:wE t.2.1=0
  .obtain⟨b1,q1⟩:=a4y hT (s:=s) (PC:=PC) (dp:=(d:Int)-1) (c:=c) (nm:=nm) (m:=s7 ns) (i:=j) (a:=a) (.inr (by rw[z];exact h0));obtain⟨b2,q2⟩:=a4z hT (n:=n) (RC:=RC) (ts:=L.drop j) (ns:=ns) (W:=wE t.2.1) (x0:=ik nm) (d:=(d:Int)) (c:=c) (a:=a') (.inr h0);rw[q1,q2,QI pO];exact⟨_,_,rfl,rfl,.inr ⟨⟨_,_,_,_,j,_,_,_,rfl,pO⟩,_,_,_,_,_,_,_,_,rfl,pO⟩⟩
  exact a4A hT U V (i:=i) (j:=j) G R F Q D (by rw[z]) h0 (λh=>absurd h M)
 have e9:decide (s6 (L.drop j)=9)=false:=DI D;rw[e9,aOd (λh=>by simp at h)];unfold rD;rw[aOi pP,aOi pP,aOc,aOc];obtain⟨b1,q1⟩:=a4y hT (s:=s) (PC:=PC) (dp:=(d:Int)-1) (c:=c) (nm:=nm) (m:=s7 ns) (i:=j) (a:=a) (.inl D);obtain⟨b2,q2⟩:=a4z hT (n:=n) (RC:=RC) (ts:=L.drop j) (ns:=ns) (W:=wE (tY (L.drop j))) (x0:=ik nm) (d:=(d:Int)) (c:=c) (a:=a') (.inl D);rw[q1,q2,QI pO];exact⟨_,_,rfl,rfl,.inr ⟨⟨_,_,_,_,j,_,_,_,rfl,pO⟩,_,_,_,_,_,_,_,_,rfl,pO⟩⟩
theorem aIQ {d:Nat}(V:d<=9) (Y:ii s L n PC RC) (X:d<=8->zp s L n PC RC d) {PM g1 g2 k1 k2 k3}{i:Nat}{c:Bool}{ns:List rW}{a a':Int}(Z:s6 (L.drop i)=2) (he:ns.length<=i):
  ∃p q,KV PM g1 g2 PC s L (i:Int) (a,(0,())) ((d:Int)-1) c (s7 ns)=some p/\PE k1 k2 (IB RM RA RU RC) k3 (L.drop i,(n,(ns,(a',(0,()))))) (d:Int) c=some q/\(UW L i d p q\/UX p q):=by
 have hL:=hT.len;obtain⟨t,r,D,M⟩:=GZ pO Z;have hc:=AX D;have hh:=(vM D).1;rw[aIM];unfold PE;rw[AA D hT.len M,DF D M,aOc,aOc];dsimp only;rw[<-AY D];rcases aIz hT (s:=s) (i:=i+1) (n:=n) (a:=a) (a':=a') (ns:=ns) pN with⟨t2,r2,E,hg,q1,q2⟩ |⟨b1,e1,F,q1,y,ns2,b2,e2,G,q2⟩
 .have Q:=AX E;have U:=(vM E).1;have hj:=zi ns t2.2.1;rw[q1,q2,aOc,aOc];dsimp only;rw[<-AY E];obtain⟨u,v,hp⟩:=wN (ts:=L.drop (i+1+1)) (n:=n) (ns:=wO ns t2.2.1) (a:=a') (e:=0);rw[aOd (show (decide ((0:Int)=0)==true)=true from rfl),hp,aOd (λ_=>uL _),uE,vX,aOc];dsimp only;by_cases h8:s6 (L.drop (i+1+1))=8
  .obtain⟨t3,r3,z,I⟩:=GZ pO h8;have O:=AX z;have R:=(vM z).1;rw[h8,aOi pO,aOd (show (decide ((0:Int)=0)&&decide ((8:Int)=8))=true from by decide),AA z hT.len I,DF z I,aOc,aOc];dsimp only;rw[<-AY z];exact aIP hT V Y X (i:=i) (j:=i+1+1+1) (nm:=t2.2.1) pN pN pN pN
  rw[aOi (show¬(decide ((0:Int)=0)&&decide (s6 (L.drop (i+1+1))=8))=true by simp [h8])];by_cases K:s6 (L.drop (i+1+1))=3
  .rw[aOd (xH K)];exact ij hT (i:=i) (j:=i+1+1) (nm:=t2.2.1) (st:=[]) (cs:=[]) (k:=2) pN pN pN (by rw[EX];simp only[aOh];omega) (by rw[IS];omega) rfl
  rw[aOi (by simpa using K)];obtain⟨b1,p1⟩:=QB (s:=s) (L:=L) (i:=i+1+1) (a:=a) (m:=s7 (wO ns t2.2.1)) h8;obtain⟨b2,p2⟩:=IQ (ts:=L.drop (i+1+1)) (n:=n) (ns:=wO ns t2.2.1) (a:=a') K;rw[p1,p2,aOc,aOc];dsimp only;rw[a4B hT pO];exact⟨_,_,rfl,rfl,.inr ⟨⟨_,_,_,_,i+1+1,_,_,_,rfl,pO⟩,_,_,_,_,_,_,_,_,rfl,pO⟩⟩
 rw[q1,q2,aOc,aOc];dsimp only;have e0:decide (e2=0)=false:=DI G;rw[e0,aOi pP,aOi pP,C8 F,aOc,aOi pP,yT F pO,yU G,aOc,aOc];dsimp only;rw[a4B hT F];exact⟨_,_,rfl,rfl,.inr ⟨⟨_,_,_,_,i+1,_,_,_,rfl,F⟩,_,_,_,_,_,_,_,_,rfl,G⟩⟩
end
end Go.Proofs.YtedimeeleabhnaaGreatDoor
namespace Go.Proofs.YtedimeeleabhnaaGreatDoor
open Vc
theorem Y7 (k:Int) (t n st:pJ) (cs:List rO) (ps:List qG):wP (qG.of (k,(t,(n,(st,(cs,(ps,())))))))=64+t.length+n.length+st.length+wC cs+wL ps:=vS k t n st cs ps
theorem Y8 (k:Int) (t n st:pJ) (cs:List rO) (ps:List qG) (hk:zN k st cs=true):EW (qG.of (k,(t,(n,(st,(cs,(ps,())))))))=1+max (zO cs) (sI ps):=by
 rw[show qG.of (k,(t,(n,(st,(cs,(ps,()))))))= .mk k t n st cs ps from rfl,Y1,aOd hk]
theorem aIR (s:pJ):(UU s).length<=s.length:=by
 unfold UU;cases h:vY s with
 |none=>simp
 |some u=>exact zf s.length s u (aOA _) h
abbrev zr:Type:=pJ->List rS->Int->pR->Int->Bool->Nm->Option QF
abbrev zs:Type:=GW->Int->Bool->Option Y4
def zt (s:pJ) (L:List rS) (n:Int) (GA:zr) (RA:zs) (d:Nat):Prop:=
 ∀(i:Nat) (ns:List rW) (a a':Int) (c:Bool),s6 (L.drop i)=2->ns.length<=i->∃p q,GA s L (i:Int) (a,(0,())) ((d:Int)-1) c (s7 ns)=some p/\RA (L.drop i,(n,(ns,(a',(0,()))))) (d:Int) c=some q/\(UW L i d p q\/UX p q)
abbrev zu:Type:=List qG×Int×Int×Int×Nm
abbrev RSt:Type:=List qG×List rS×List rW×Int×Int
section
variable {s:pJ}{L:List rS}(hT:C9 L) {n:Int}{PM:IT}{RM:FS}{GA:zr}{RA:zs}{g1 g2 g3}
include hT
theorem zv {dp:Int}{c:Bool}{x:List qG}{i a e:Int}{m:Nm}{GE}(j:e≠0):xG s L dp c GE GA (x,i,a,e,m)=some (.inr (.inl (x,i,a,e,m))):=by
 unfold xG;dsimp only;rw[aOi aQf]
theorem a4D {P0:GW}{d:Int}{c:Bool}{x:List qG}{ts:List rS}{ns:List rW}{a e:Int}(j:e≠0):yG P0 d c RM RA (x,ts,ns,a,e)=some (.inr (.inl (ts,ns,a,e))):=by
 unfold yG;dsimp only;rw[aOi aQf]
def UY (L:List rS) (i d:Nat) (x:List qG) (p:Option (zu⊕(zu⊕zu))) (q:Option (RSt⊕((List rS×List rW×Int×Int)⊕RSt))):Prop:=
 (∃(y:qG) (j:Nat) (ns:List rW) (a a':Int),p=some (.inl (x++[y],(j:Int),a,0,s7 ns))/\q=some (.inl (x++[y],L.drop j,ns,a',0))/\i<j/\j<=L.length/\ns.length<=j/\wP y+tw (L.drop j)<=tw (L.drop i)/\EW y+d<=10)\/
 (∃(x1 x2:List qG) (j:Nat) (a e:Int) (m:Nm) (ts:List rS) (ns:List rW) (a' e':Int),p=some (.inl (x1,(j:Int),a,e,m))/\q=some (.inl (x2,ts,ns,a',e'))/\e≠0/\e'≠0)
theorem aIS {d:Nat}(O:d<=9) {c:Bool}{x:List qG}{i:Nat}{a a':Int}{ns:List rW}{Q:List rS}{Z GE}(M:x.length<=i) (I:ns.length<=i) (h:s6 (L.drop i)=1):
  UY L i d x (xG s L ((d:Int)-1) c GE GA (x,(i:Int),a,0,s7 ns)) (yG (Q,(n,Z)) (d:Int) c RM RA (x,L.drop i,ns,a',0)):=by
 have R:=hT.len;obtain⟨t,r,j,E⟩:=GZ pO h;have G:=AX j;have K:=(vM j).1;unfold xG yG;dsimp only;obtain⟨u,v,hp⟩:=wN (ts:=L.drop i) (n:=n) (ns:=ns) (a:=a') (e:=0);obtain⟨u1,v1,D⟩:=aIx t.2.1 (hT.mem j);obtain⟨u2,v2,z⟩:=aIy t.2.1 (hT.mem j);have F:=aIR t.2.1;rw[aOd (show decide ((0:Int)=0)=true by decide),aOd (show decide ((0:Int)=0)=true by decide),vX,hp,aOc,aOc];dsimp only;rw[h,aOd (show decide ((1:Int)=1)=true by decide),aOd (show decide ((1:Int)=1)=true by decide),AA j hT.len E,DF j E,aOc,aOc];dsimp only;rw[D,z,aOc,aOc];dsimp only;rw[aOd aQN,aOd aQN,<-AY j];refine .inl ⟨_,i+1,ns,a,a',rfl,rfl,pN,pN,pN,?_,?_⟩
 .rw[Y7,EX,BK];simp only[aOh];omega
 rw[Y8 _ _ _ _ _ _ rfl,IS,FR];simp only[Nat.max_self];omega
theorem aIT {d:Nat}(I:d<=9) {x:List qG}{i:Nat}{a a':Int}{ns:List rW}{Q:List rS}{Z GE}(G:x.length<=i) (E:ns.length<=i) (h:s6 (L.drop i)=4):
  UY L i d x (xG s L ((d:Int)-1) true GE GA (x,(i:Int),a,0,s7 ns)) (yG (Q,(n,Z)) (d:Int) true RM RA (x,L.drop i,ns,a',0)):=by
 have K:=hT.len;obtain⟨t,r,j,z⟩:=GZ pO h;have D:=AX j;have F:=(vM j).1;unfold xG yG;dsimp only;obtain⟨u,v,hp⟩:=wN (ts:=L.drop i) (n:=n) (ns:=ns) (a:=a') (e:=0);rw[aOd (show decide ((0:Int)=0)=true by decide),aOd (show decide ((0:Int)=0)=true by decide),vX,hp,aOc,aOc];dsimp only;rw[h,aOi (show¬decide ((4:Int)=1)=true by decide),aOi (show¬decide ((4:Int)=1)=true by decide),aOd (show decide ((4:Int)=4)=true by decide),aOd (show (decide ((4:Int)=4)&&true)=true by decide),aOi (show¬(!true)=true by decide),AA j hT.len z,DF j z,aOc,aOc];dsimp only;rw[aOd aQN,aOd aQN,<-AY j];refine .inl ⟨_,i+1,ns,a,a',rfl,rfl,pN,pN,pN,?_,?_⟩
 .rw[Y7,EX,BK];simp only[aOh];omega
 rw[Y8 _ _ _ _ _ _ rfl,IS,FR];simp only[Nat.max_self];omega
theorem aIU {d:Nat}(I:d<=9) {c:Bool}{x:List qG}{i:Nat}{a a':Int}{ns:List rW}{Q:List rS}{Z GE}(G:x.length<=i) (E:ns.length<=i) (hi:i<=L.length) (h:s6 (L.drop i)=7):
  UY L i d x (xG s L ((d:Int)-1) c GE GA (x,(i:Int),a,0,s7 ns)) (yG (Q,(n,Z)) (d:Int) c RM RA (x,L.drop i,ns,a',0)):=by
 have K:=hT.len;obtain⟨t,r,j,z⟩:=GZ pO h;have D:=AX j;have F:=(vM j).1;unfold xG yG;dsimp only;obtain⟨u,v,hp⟩:=wN (ts:=L.drop i) (n:=n) (ns:=ns) (a:=a') (e:=0);rw[aOd (show decide ((0:Int)=0)=true by decide),aOd (show decide ((0:Int)=0)=true by decide),vX,hp,aOc,aOc];dsimp only;rw[h,aOi (show¬decide ((7:Int)=1)=true by decide),aOi (show¬decide ((7:Int)=1)=true by decide),aOi (show¬decide ((7:Int)=4)=true by decide),aOi (show¬(decide ((7:Int)=4)&&c)=true by simp),aOd (show decide ((7:Int)=7)=true by decide),aOd (show decide ((7:Int)=7)=true by decide),aOd (show qH ((d:Int)-1+1) by unfold qH;omega),show (d:Int)-1+1=d by omega];by_cases h8:d<=8
 .rw[yy pN,za pN,aOc,aOc];dsimp only;rw[AA j hT.len z,DF j z,aOc,aOc];dsimp only;rw[aOd aQN,aOd aQN,<-AY j];refine .inl ⟨_,i+1,ns,a,a',rfl,rfl,pN,pN,pN,?_,?_⟩
  .rw[Y7,EX,BK];simp only[aOh];omega
  rw[Y8 _ _ _ _ _ _ rfl,IS,FR];simp only[Nat.max_self];omega
 obtain⟨b1,q1⟩:=yz (s:=s) (L:=L) (i:=i) (a:=a) (m:=s7 ns) (d:=d) pN;obtain⟨b2,q2⟩:=zb (ts:=L.drop i) (n:=n) (ns:=ns) (a:=a') (d:=d) pN;rw[q1,q2,aOc,aOc];dsimp only;rw[yT pO pO,yU pO,aOc,aOc];dsimp only;rw[aOd aQN,aOd aQN];exact .inr ⟨_,_,i,_,_,_,_,_,_,_,rfl,rfl,pO,pO⟩
theorem aIV {d:Nat}(F:zt s L n GA RA d) {c:Bool}{x:List qG}{i:Nat}{a a':Int}{ns:List rW}{Q:List rS}{Z GE}(G:x.length<=i) (z:ns.length<=i) (hi:i<=L.length) (h:s6 (L.drop i)=2):
  UY L i d x (xG s L ((d:Int)-1) c GE GA (x,(i:Int),a,0,s7 ns)) (yG (Q,(n,Z)) (d:Int) c RM RA (x,L.drop i,ns,a',0)):=by
 have I:=hT.len;unfold xG yG;dsimp only;obtain⟨u,v,hp⟩:=wN (ts:=L.drop i) (n:=n) (ns:=ns) (a:=a') (e:=0);obtain⟨p,q,q1,q2,q3⟩:=F i ns a a' c h z;rw[aOd (show decide ((0:Int)=0)=true by decide),aOd (show decide ((0:Int)=0)=true by decide),vX,hp,aOc,aOc];dsimp only;rw[h,aOi (show¬decide ((2:Int)=1)=true by decide),aOi (show¬decide ((2:Int)=1)=true by decide),aOi (show¬decide ((2:Int)=4)=true by decide),aOi (show¬(decide ((2:Int)=4)&&c)=true by simp),aOi (show¬decide ((2:Int)=7)=true by decide),aOi (show¬decide ((2:Int)=7)=true by decide),aOi (show¬decide ((2:Int)=5)=true by decide),aOi (show¬decide ((2:Int)=5)=true by decide),aOd (show decide ((2:Int)=2)=true by decide),aOd (show decide ((2:Int)=2)=true by decide),q1,q2,aOc,aOc];rw[aOd aQN,aOd aQN];rcases q3 with⟨k,nm,st,cs,j,ns2,b,b',rfl,rfl,o1,o2,o3,o4,o5,o6⟩ |⟨⟨k,nm,st,cs,j,b,e,m,rfl,E⟩,k2,nm2,st2,cs2,ts,ns2,b',e',rfl,D⟩
 .refine .inl ⟨_,j,ns2,b,b',rfl,rfl,pN,pN,pN,?_,?_⟩
  .dsimp only;rw[Y7,BK];simp only[aOh];omega
  dsimp only;rw[Y8 _ _ _ _ _ _ o6,FR];simp only[Nat.max_zero];omega
 exact .inr ⟨_,_,j,_,_,_,_,_,_,_,rfl,rfl,E,D⟩
theorem aIW {d:Nat}(hd:d<=9) (Y:DG s L n PM RM) (hM:d<=8->GX s L n PM RM (d+1)) {c:Bool}{x:List qG}{i:Nat}{a a':Int}{ns:List rW}{Q:List rS}{Z}(hx:x.length<=i) (hh:ns.length<=i) (hi:i<=L.length) (h:s6 (L.drop i)=5):
  UY L i d x (xG s L ((d:Int)-1) c (EU PM g1 g2 g3) GA (x,(i:Int),a,0,s7 ns)) (yG (Q,(n,Z)) (d:Int) c RM RA (x,L.drop i,ns,a',0)):=by
 have hL:=hT.len;obtain⟨t,r,E,X⟩:=GZ pO h;have hg:=AX E;have hj:=(vM E).1;unfold xG yG EU;dsimp only;obtain⟨u,v,hp⟩:=wN (ts:=L.drop i) (n:=n) (ns:=ns) (a:=a') (e:=0);rw[aOd (show decide ((0:Int)=0)=true by decide),aOd (show decide ((0:Int)=0)=true by decide),vX,hp,aOc,aOc];dsimp only;rw[h,aOi (show¬decide ((5:Int)=1)=true by decide),aOi (show¬decide ((5:Int)=1)=true by decide),aOi (show¬decide ((5:Int)=4)=true by decide),aOi (show¬(decide ((5:Int)=4)&&c)=true by simp),aOi (show¬decide ((5:Int)=7)=true by decide),aOi (show¬decide ((5:Int)=7)=true by decide),aOd (show decide ((5:Int)=5)=true by decide),aOd (show decide ((5:Int)=5)=true by decide),aOd (show qH ((d:Int)-1+1) by unfold qH;omega),show (d:Int)-1+1=d by omega];by_cases h8:d<=8
 .rw[yy pN,za pN,aOc,aOc];dsimp only;obtain⟨p,q,q1,q2,q3⟩:=hM h8 (i+1) ns a a' c pN pN;have U:((d:Int)+1)=((d+1:Nat):Int):=by omega
  have O:(((d+1:Nat):Int)-1)=(d:Int):=by omega
  rw[O] at q1;rw[AA E hT.len X,DF E X,aOc,aOc];dsimp only;rw[aOd (show qH ((d:Int)+1) by unfold qH;omega),U,<-AY E,q1,q2,aOc,aOc];rcases q3 with⟨ps,j,ns2,b,b',rfl,rfl,o1,o2,o3,o4,o5⟩ |⟨⟨ps,j,b,e,m,rfl,G⟩,ps2,ts,ns2,b',e',rfl,D⟩
  .dsimp only;obtain⟨u,v,hp⟩:=wN (ts:=L.drop j) (n:=n) (ns:=ns2) (a:=b') (e:=0);rw[vX,hp,aOc,aOc];dsimp only;by_cases I:s6 (L.drop j)=6
   .obtain⟨t6,r6,z,M⟩:=GZ pO I;obtain⟨F,K⟩:=vM z;have hc:=AX z;have V:tY (L.drop j)=t6.2.1:=by rw[z];rfl
    rw[I,aOd (λ_=>rP F),A9 F,K F,V,aOd (show (decide ((6:Int)=6)==true)=true by decide),aOd (show _->(some (_,_,_,_)).isSome=true from λ_=>uL _)];by_cases R:t6.2.1=t.2.1
    .rw[aOi (show¬((!decide ((6:Int)=6))||(!decide (t6.2.1=t.2.1)))=true by simp [R]),aOi (show¬(decide ((6:Int)=6)&&(!decide (t6.2.1=t.2.1)))=true by simp [R]),AA z hT.len M,DF z M,aOc,aOc,aOc]
     dsimp only;rw[aOd aQN,aOd aQN,<-AY z];refine .inl ⟨_,j+1,ns2,b,b',rfl,rfl,pN,pN,pN,?_,?_⟩
     .rw[Y7,EX];simp only[aOh];omega
     rw[Y8 _ _ _ _ _ _ rfl,IS];simp only[Nat.zero_max];omega
    obtain⟨b1,k1⟩:=BJ (s:=s) (L:=L) (i:=j) (a:=b) (m:=s7 ns2) 3;obtain⟨b2,k2⟩:=GU (ts:=L.drop j) (n:=n) (ns:=ns2) (a:=b') 3;rw[aOd (show ((!decide ((6:Int)=6))||(!decide (t6.2.1=t.2.1)))=true by simp [R]),aOd (show (decide ((6:Int)=6)&&(!decide (t6.2.1=t.2.1)))=true by simp [R]),k1,k2,aOc,aOc]
    dsimp only;rw[yT pO pO,yU pO,aOc,aOc,aOc];dsimp only;rw[aOd aQN,aOd aQN];exact .inr ⟨_,_,j,_,_,_,_,_,_,_,rfl,rfl,pO,pO⟩
   obtain⟨b1,k1⟩:=BJ (s:=s) (L:=L) (i:=j) (a:=b) (m:=s7 ns2) 3;obtain⟨b2,k2⟩:=IQ (ts:=L.drop j) (n:=n) (ns:=ns2) (a:=b') I;have e6:decide (s6 (L.drop j)=6)=false:=DI I;rw[e6,aOd (λh=>by simp at h),aOd pP,aOi pP,aOi pP,k1,k2,aOc,aOc];dsimp only;rw[yT pO pO,aOc,aOc];dsimp only;rw[aOd aQN,aOd aQN];exact .inr ⟨_,_,j,_,_,_,_,_,_,_,rfl,rfl,pO,pO⟩
  dsimp only;obtain⟨u,v,hp⟩:=wN (ts:=ts) (n:=n) (ns:=ns2) (a:=b') (e:=e');rw[C8 G,hp,aOc,aOc];dsimp only;rw[aOd (λh=>by simp at h),aOd pP,GT G,aOc];dsimp only;rw[yT G pO,aOc,aOc];dsimp only;rw[aOd aQN];rcases D with D|⟨rfl,h4⟩
  .by_cases I:s6 ts=6
   .rw[I,aOd (show (decide ((6:Int)=6)==true)=true by decide),aOd (show _->(some (_,_,_,_)).isSome=true from λ_=>uL _)];split
    .rw[ia D,aOc];dsimp only;rw[yU D,aOc];dsimp only;rw[aOd aQN];exact .inr ⟨_,_,j,_,_,_,ts,ns2,b',e',rfl,rfl,G,D⟩
    rw[yU D,aOc];dsimp only;rw[aOd aQN];exact .inr ⟨_,_,j,_,_,_,ts,ns2,b',e',rfl,rfl,G,D⟩
   have e6:decide (s6 ts=6)=false:=DI I;rw[e6,aOi pP,aOi pP,yU D,aOc];dsimp only;rw[aOd aQN];exact .inr ⟨_,_,j,_,_,_,_,_,_,_,rfl,rfl,G,D⟩
  obtain⟨b2,k2⟩:=IQ (ts:=ts) (n:=n) (ns:=ns2) (a:=b') (k:=6) (by rw[h4];decide);rw[h4,aOi (show¬(decide ((4:Int)=6)==true)=true by decide),aOi pP,k2,aOc];dsimp only;rw[aOd aQN];exact .inr ⟨_,_,j,_,_,_,_,_,_,_,rfl,rfl,G,pO⟩
 obtain⟨b1,q1⟩:=yz (s:=s) (L:=L) (i:=i) (a:=a) (m:=s7 ns) (d:=d) pN;obtain⟨b2,q2⟩:=zb (ts:=L.drop i) (n:=n) (ns:=ns) (a:=a') (d:=d) pN;rw[q1,q2,aOc,aOc];dsimp only;rw[yT pO pO,yU pO,aOc,aOc];dsimp only;obtain⟨u,v,hp⟩:=wN (ts:=L.drop i) (n:=n) (ns:=ns) (a:=b2) (e:=6);rw[aOd (show qH ((d:Int)+1) by unfold qH;omega),Y.p _ _ _ _ _ _ pO,Y.r _ _ _ _ _ _ pO,aOc,aOc];dsimp only;rw[C8 pO,hp,aOc,aOc];dsimp only;rw[h,aOd (λh=>by simp at h),aOd pP,aOi (show¬(decide ((5:Int)=6)==true)=true by decide),aOi pP,GT pO,yU pO,aOc,aOc];dsimp only;rw[yT pO pO,aOc,aOc];dsimp only;rw[aOd aQN,aOd aQN];exact .inr ⟨_,_,i,_,_,_,_,_,_,_,rfl,rfl,pO,pO⟩
end
section
variable {s:pJ}{L:List rS}(hT:C9 L) {n:Int}{PM:IT}{RM:FS}{GA:zr}{RA:zs}{g1 g2 g3}
include hT
theorem aIX {dp:Int}{c:Bool}{x:List qG}{i:Nat}{a:Int}{m:Nm}{GE}(F:s6 (L.drop i)≠1) (D:s6 (L.drop i)≠4) (j:s6 (L.drop i)≠7) (z:s6 (L.drop i)≠5) (E:s6 (L.drop i)≠2):xG s L dp c GE GA (x,(i:Int),a,0,m)=some (.inr (.inr (x,(i:Int),a,0,m))):=by
 unfold xG;dsimp only;rw[aOd (show decide ((0:Int)=0)=true by decide),vX,aOc,aOi aQn,aOi aQw,aOi aQf,aOi aQg,aOi (by simpa using E)]
theorem aIY {dp:Int}{x:List qG}{i:Nat}{a:Int}{m:Nm}{GE}(z:x.length<=4000) (j:s6 (L.drop i)=4): ∃x2 a2,xG s L dp false GE GA (x,(i:Int),a,0,m)=some (.inl (x2,(i:Int),a2,3,m)):=by
 obtain⟨b1,k1⟩:=BJ (s:=s) (L:=L) (i:=i) (a:=a) (m:=m) 3;refine⟨x++[qG.of ((10:Int),(([]:pJ),(([]:pJ),(([]:pJ),(([]:List rO),(([]:List qG),()))))))],b1,?_⟩;unfold xG;dsimp only;rw[aOd (show decide ((0:Int)=0)=true by decide),vX,aOc,j,aOi (show¬decide ((4:Int)=1)=true by decide),aOd (show decide ((4:Int)=4)=true by decide),aOd (show (!false)=true by decide),k1,aOc];dsimp only;rw[yT pO pO,aOc];dsimp only;rw[aOd aQN]
theorem a4E {P0:GW}{d:Int}{c:Bool}{x:List qG}{ts:List rS}{ns:List rW}{a:Int}(F:s6 ts≠1) (D:s6 ts≠4\/c=false) (j:s6 ts≠7) (z:s6 ts≠5) (E:s6 ts≠2):yG P0 d c RM RA (x,ts,ns,a,0)=some (.inr (.inr (x,ts,ns,a,0))):=by
 obtain⟨u,v,hp⟩:=wN (ts:=ts) (n:=P0.2.1) (ns:=ns) (a:=a) (e:=0);unfold yG;dsimp only;rw[aOd (show decide ((0:Int)=0)=true by decide),hp,aOc];dsimp only;rw[aOi aQn,aOi (show¬(decide (s6 ts=4)&&c)=true by rcases D with h|h<;>simp [h]),aOi aQf,aOi aQg,aOi (by simpa using E)]
theorem a4F {d:Nat}(E:d<=9) (Y:DG s L n PM RM) (X:d<=8->GX s L n PM RM (d+1)) (hA:zt s L n GA RA d) {c:Bool}{Q:List rS}{Z}{i0:Nat}:
  ∀(k i:Nat) (x:List qG) (ns:List rW) (a a':Int),L.length<=i+k->i<=L.length->ns.length<=i->x.length<=i->i0<=i->wL x+tw (L.drop i)<=tw (L.drop i0)->sI x+d<=10->
  ∃p q,(sK (rC (xG s L ((d:Int)-1) c (EU PM g1 g2 g3) GA) (x,(i:Int),a,0,s7 ns)) λy=>some (y.1,y.2.1,y.2.2.1,y.2.2.2.1,y.2.2.2.2))=some p/\
   (sK (rC (yG (Q,(n,Z)) (d:Int) c RM RA) (x,L.drop i,ns,a',0)) λy=>some ([],y.1,y.2.1,y.2.2.1,y.2.2.2))=some q/\(HK L i0 d p q\/zk p q)
 |k,i,x,ns,a,a',hk,hi,z,D,R,hw,U=>by
  have hL:=hT.len;have go:UY L i d x (xG s L ((d:Int)-1) c (EU PM g1 g2 g3) GA (x,(i:Int),a,0,s7 ns)) (yG (Q,(n,Z)) (d:Int) c RM RA (x,L.drop i,ns,a',0))->∃p q,(sK (rC (xG s L ((d:Int)-1) c (EU PM g1 g2 g3) GA) (x,(i:Int),a,0,s7 ns)) λy=>some (y.1,y.2.1,y.2.2.1,y.2.2.2.1,y.2.2.2.2))=some p/\
   (sK (rC (yG (Q,(n,Z)) (d:Int) c RM RA) (x,L.drop i,ns,a',0)) λy=>some ([],y.1,y.2.1,y.2.2.1,y.2.2.2))=some q/\(HK L i0 d p q\/zk p q):=by
   rintro(⟨y,j,ns2,b,b',q1,q2,o1,o2,o3,o4,o5⟩ |⟨x1,x2,j,b,e,m,ts,ns2,b',e',q1,q2,V,G⟩)
   .rw[sZ,q1,sZ,q2,aOc,aOc];dsimp only;cases k with
    |zero=>omega
    |succ k=>
     refine a4F E Y X hA k j (x++[y]) ns2 b b' pN o2 o3 aQM pN ?_ ?_
     .rw[ie];omega
     rw[zj];omega
   rw[sZ,q1,sZ,q2,aOc,aOc];dsimp only;rw[sZ,zv hT V,sZ,a4D hT G,aOc,aOc];exact⟨_,_,rfl,rfl,.inr ⟨⟨_,j,_,_,_,rfl,V⟩,_,_,_,_,_,rfl,.inl G⟩⟩
  by_cases O:s6 (L.drop i)=1
  .exact go (aIS hT E D z O)
  by_cases I:s6 (L.drop i)=7
  .exact go (aIU hT E D z hi I)
  by_cases K:s6 (L.drop i)=5
  .exact go (aIW hT E Y X D z hi K)
  by_cases M:s6 (L.drop i)=2
  .exact go (aIV hT hA D z hi M)
  by_cases F:s6 (L.drop i)=4
  .cases c with
   |true=>exact go (aIT hT E D z F)
   |false=>
    obtain⟨x2,b,q1⟩:=aIY hT (s:=s) (dp:=(d:Int)-1) (x:=x) (i:=i) (a:=a) (m:=s7 ns) (GA:=GA) (GE:=EU PM g1 g2 g3) pN F;rw[sZ,q1,sZ,a4E hT O (.inr rfl) I K M,aOc,aOc];dsimp only;rw[sZ,zv hT pO,aOc];exact⟨_,_,rfl,rfl,.inr ⟨⟨_,i,_,_,_,rfl,show (3:Int)≠0 by decide⟩,_,_,_,_,_,rfl,.inr ⟨rfl,F⟩⟩⟩
  rw[sZ,aIX hT O F I K M,sZ,a4E hT O (.inl F) I K M,aOc,aOc];exact⟨_,_,rfl,rfl,.inl ⟨x,i,ns,a,a',rfl,rfl,R,hi,z,hw,U⟩⟩
theorem aIZ {d:Nat}(z:d<=9) (E:DG s L n PM RM) (D:d<=8->GX s L n PM RM (d+1)) (F:zt s L n GA RA d) {PM' g4 k1 k2}:GX s L n (IH PM' (EU PM g1 g2 g3) GA g4) (IA RM RA k1 k2) d:=by
 intro i ns a a' c hi j;rw[IH.eq_1,IA.eq_1];exact a4F hT z E D F L.length i [] ns a a' pN hi j pP (aOA _) aQP (by rw[FR];omega)
theorem aI0 {PM' GE g4 k1 k2}:DG s L n (IH PM' GE GA g4) (IA RM RA k1 k2) where
 p i a e dd c m j:=by
  unfold IH;rw[sZ,show xG s L dd c GE GA (([]:List qG),(i:Int),a,e,m)=_ from zv hT j];rfl
 r ts ns a e dd c j:=by
  unfold IA;dsimp only;rw[sZ,a4D hT j];rfl
end
noncomputable abbrev pg (N:Nat):=PR N
noncomputable abbrev rg (N:Nat):=PF N
theorem a4G (N:Nat):(pg (N+1)).1=IH (pg N).1 (pg N).2.1 (pg N).2.2.1 (pg N).2.2.2:=rfl
theorem aI1 (N:Nat):(pg (N+1)).2.1=EU (pg N).1 (pg N).2.1 (pg N).2.2.1 (pg N).2.2.2:=rfl
theorem aI2 (N:Nat):(pg (N+1)).2.2.1=KV (pg N).1 (pg N).2.1 (pg N).2.2.1 (pg N).2.2.2:=rfl
theorem a4H (N:Nat):(pg (N+1)).2.2.2=II (pg N).1 (pg N).2.1 (pg N).2.2.1 (pg N).2.2.2:=rfl
theorem a4I (N:Nat):(rg (N+1)).1=IA (rg N).1 (rg N).2.1 (rg N).2.2.1 (rg N).2.2.2:=rfl
theorem aI3 (N:Nat):(rg (N+1)).2.1=PE (rg N).1 (rg N).2.1 (rg N).2.2.1 (rg N).2.2.2:=rfl
theorem aI4 (N:Nat):(rg (N+1)).2.2.1=IB (rg N).1 (rg N).2.1 (rg N).2.2.1 (rg N).2.2.2:=rfl
theorem a4J (N:Nat):(rg (N+1)).2.2.2=IC (rg N).1 (rg N).2.1 (rg N).2.2.1 (rg N).2.2.2:=rfl
section
variable {s:pJ}{L:List rS}(hT:C9 L) {n:Int}
include hT
theorem im {N M:Nat}(j:1<=N) (z:1<=M):DG s L n (pg N).1 (rg M).1:=by
 obtain⟨N,rfl⟩: ∃k,N=k+1:=⟨N-1,pN⟩;obtain⟨M,rfl⟩: ∃k,M=k+1:=⟨M-1,pN⟩;rw[a4G,a4I];exact aI0 hT
theorem aI5 {N M:Nat}(D:2<=N) (E:2<=M):ii s L n (pg N).2.2.2 (rg M).2.2.2:=by
 obtain⟨N,rfl⟩: ∃k,N=k+1:=⟨N-1,pN⟩;obtain⟨M,rfl⟩: ∃k,M=k+1:=⟨M-1,pN⟩;rw[a4H,a4J];have z:=im hT (s:=s) (n:=n) (N:=N) (M:=M) pN pN;exact⟨λi a e kd dd c m j=>aIK hT z j,λts ns a e x dd c j=>aIL hT j⟩
theorem a4K: ∀(k d N M:Nat),d+k=9->5*k+5<=N->5*k+5<=M->GX s L n (pg N).1 (rg M).1 d
 |k,d,N,M,E,F,G=>by
  obtain⟨N,rfl⟩: ∃k,N=k+1+1+1:=⟨N-3,pN⟩;obtain⟨M,rfl⟩: ∃k,M=k+1+1+1+1:=⟨M-4,pN⟩;rw[a4G,a4I,aI1];have up: ∀N' M':Nat,5*k<=N'->5*k<=M'->d<=8->GX s L n (pg N').1 (rg M').1 (d+1):=λN' M' I z h8=>by
   cases k with
   |zero=>omega
   |succ k=>exact a4K k (d+1) N' M' pN pN pN
  refine aIZ hT pN (im hT pN pN) (up _ _ pN pN) ?_;rw[aI2,aI3,aI4];intro i ns a a' c z j;refine aIQ hT pN (aI5 hT pN pN) (λh8=>?_) z j;rw[a4H,a4J];intro i ns a a' kd x c D hi j;exact aIJ hT (im hT pN pN) pN (up _ _ pN pN h8) D hi j
theorem aI6:GX s L n PS PG 1:=by rw[a2m,a08];exact a4K hT 8 1 1000 1000 rfl pN pN
theorem aI7:DG s L n PS PG:=by rw[a2m,a08];exact im hT (N:=1000) (M:=1000) pN pN
end
end Go.Proofs.YtedimeeleabhnaaGreatDoor
namespace Go.Proofs.YtedimeeleabhnaaGreatDoor
open Vc
def a4L {σ ρ α β:Type}{f:σ->Option (σ⊕ρ)}{l:List α}(st:Int->List β->σ) (out:List β->ρ) (g:α->List β) {M:Nat}
  (hf: ∀(i:Nat) (h:i<l.length) (b:List β),b.length+(g l[i]).length<=M->f (st i b)=some (.inl (st ((i:Int)+1) (b++g l[i]))))
  (D: ∀b,f (st l.length b)=some (.inr (out b))): ∀(n j:Nat) (b:List β),j+n=l.length->b.length+((l.drop j).flatMap g).length<=M->rC f (st j b)=some (out (b++(l.drop j).flatMap g))
 |0,j,b,F,_=>by
  have:j=l.length:=by omega
  subst this;rw[xY (D b),aOQ];simp
 |n+1,j,b,F,E=>by
  have z:j<l.length:=by omega
  rw[aOx z,aO8] at E|-;rw[aOg] at E;rw[AJ (hf j z b pN),show ((j:Int)+1)=((j+1:Nat):Int) by omega,a4L st out g hf D n (j+1) (b++g l[j]) pN aQK,aOk]
def xB {σ ρ α β:Type}{f:σ->Option (σ⊕ρ)}{l:List α}(st:Int->List β->σ) (out:List β->ρ) (g:α->List β) {M:Nat}
  (hf: ∀(i:Nat) (h:i<l.length) (b:List β),b.length+(g l[i]).length<=M->f (st i b)=some (.inl (st ((i:Int)+1) (b++g l[i]))))
  (j: ∀b,f (st l.length b)=some (.inr (out b))) (b:List β) (z:b.length+(l.flatMap g).length<=M):rC f (st 0 b)=some (out (b++l.flatMap g)):=by
 have:=a4L st out g hf j l.length 0 b pN aQg;simpa using this
def LL (c:UInt8):pJ:=if uI c=true then[92,c] else[c]
def LM (s:pJ):pJ:=s.flatMap LL
def aI8 (c:UInt8):(LL c).length<=2:=by unfold LL;split<;>simp
def UZ (s:pJ):(LM s).length<=2*s.length:=by
 have:=A8 (l:=s) (h:=LL) (B:=2) λx _=>aI8 x;unfold LM;omega
def IV {α:Type}{l:List α}{g:α->pJ}:l.flatMap (λx=>tK (g x))=tK (l.flatMap g):=by
 induction l with
 |nil=>rfl
 |cons x l ih=>rw[aO8,aO8,LA,ih]
def aI9 (s:pJ) (D:fit s):T0 s=some (LM s):=by
 unfold fit at D;have h:=xB (f:=O8 s) (l:=s) (λi b=>(b,i)) (λb=>b) (λc=>tK (LL c)) (M:=100000000000) (λi h b z=>by
  rw[xS] at z;unfold O8;dsimp only;rw[aOd (sG h),aOd (rP h),wJ h];change (if LC (s[i].toNat:Int)=true then _ else _:Option _)=_;unfold LL at z|-;by_cases j:uI s[i]=true
  .rw[aOd j] at z|-;rw[aOd (show LC s[i].toNat=true from j),aOd aQQ,aOd (rP h),aOd (by simp only[aOe,aOg,aOh] at z|-;omega),aOd (s5 pN),aOk];rfl
  .rw[aOi j] at z|-;rw[aOi (show¬LC s[i].toNat=true from j),aOd (rP h),aOd aQQ,aOd (s5 pN)];rfl) (λb=>by
  unfold O8;dsimp only;rw[aOi (sL _)]) [] aQR
 unfold T0;rw[h,IV,List.nil_append];unfold rD;rw[aOc,Q5];rfl
def a4M (s:pJ) (D:fit s):OA s=some (LM s):=by
 unfold fit at D;have h:=xB (f:=O9 s) (l:=s) (λi b=>(i,b)) (λb=>b) (λc=>tK (LL c)) (M:=100000000000) (λi h b z=>by
  rw[xS] at z;unfold O9;dsimp only;rw[aOd (sG h),aOd (rP h),wJ h,yp];unfold LL at z|-;by_cases j:uI s[i]=true
  .rw[aOd j] at z|-;rw[aOd (show LC s[i].toNat=true from j),XS (by simp only[aOe,aOh] at z;omega),aOc,aOd (rP h),XS (by simp only[aOe,aOg,aOh] at z|-;omega),aOc,aOd (s5 pN),aOk];rfl
  .rw[aOi j] at z|-;rw[aOi (show¬LC s[i].toNat=true from j),aOd (rP h),XS (by simp only[aOe,aOh] at z;omega),aOc,aOd (s5 pN)];rfl) (λb=>by
  unfold O9;dsimp only;rw[aOi (sL _)]) [] aQR
 unfold OA;rw[h,IV,List.nil_append];unfold rD;rw[aOc,Q5];rfl
def zP (k:Int):pJ:=gw.getD (k-3).toNat []
mutual
def DJ:qG->pJ
 | .mk k t n st cs ps=>
  if k=1 then LM t
  else if k=10 then[35]
  else if k=11 then(if ps.length=0 then[60]++n++[47,62] else[60]++n++[62]++uD ps++[60,47]++n++[62])
  else if k=2 then[123]++n++[125]
  else[123]++n++[44]++[32]++zP k++(if st=[] then[] else[44]++[32]++st)++(if 7<=k then[44] else[])++AZ cs++[125]
termination_by p=>SizeOf.sizeOf p
def uD:List qG->pJ
 |[]=>[]
 |p::l=>DJ p++uD l
termination_by l=>SizeOf.sizeOf l
def AZ:List (pJ×List qG×Unit)->pJ
 |[]=>[]
 |(k,ps,_)::l=>([32]++k++[32]++[123]++uD ps++[125])++AZ l
termination_by l=>SizeOf.sizeOf l
end
def IW (c:rO):pJ:=[32]++c.1++[32]++[123]++uD c.2.1++[125]
def a4N:uD []=[]:=by rw[uD]
def a4O (p:qG) (l:List qG):uD (p::l)=DJ p++uD l:=by rw[uD]
def zw:AZ []=[]:=by rw[AZ]
def a4P (c:rO) (l:List rO):AZ (c::l)=IW c++AZ l:=by obtain⟨k,ps,u⟩:=c;rw[AZ];rfl
def io: ∀l:List qG,uD l=l.flatMap DJ
 |[]=>a4N
 |p::l=>by rw[a4O,aO8,io l]
def ip: ∀l:List rO,AZ l=l.flatMap IW
 |[]=>zw
 |c::l=>by rw[a4P,aO8,ip l]
def iq (k:Int) (t n st:pJ) (cs:List rO) (ps:List qG):DJ (.mk k t n st cs ps)=
  if k=1 then LM t
  else if k=10 then[35]
  else if k=11 then(if ps.length=0 then[60]++n++[47,62] else[60]++n++[62]++uD ps++[60,47]++n++[62])
  else if k=2 then[123]++n++[125]
  else[123]++n++[44]++[32]++zP k++(if st=[] then[] else[44]++[32]++st)++(if 7<=k then[44] else[])++AZ cs++[125]:=by rw[DJ]
def ir (k:Int):(zP k).length<=20:=by
 unfold zP;by_cases h:(k-3).toNat<7
 .generalize (k-3).toNat=q at h;rw[aOF];rcases(show q=0\/q=1\/q=2\/q=3\/q=4\/q=5\/q=6 by omega) with h|h|h|h|h|h|h<;>subst h<;>decide
 rw[aOF,aPt (by show 7<=_;omega)];decide
mutual
def aJa: ∀p:qG,(DJ p).length<=2*wP p
 | .mk k t n st cs ps=>by
  have E:=EY ps;have D:=LN cs;have z:=UZ t;have j:=ir k;rw[iq,vS];split
  .omega
  split
  .simp only[aOe,aOh];omega
  split
  .split<;>(simp only[aOg,aOe,aOh];omega)
  split
  .simp only[aOg,aOe,aOh];omega
  simp only[aOg,aOe,aOh];split<;>split<;>(simp only[aOg,aOe,aOh];omega)
termination_by p=>SizeOf.sizeOf p
def EY: ∀l:List qG,(uD l).length<=2*wL l
 |[]=>by rw[a4N,BK];simp
 |p::l=>by
  have z:=aJa p;have j:=EY l;rw[a4O,CA,aOg];omega
termination_by l=>SizeOf.sizeOf l
def LN: ∀l:List (pJ×List qG×Unit),(AZ l).length<=2*wC l
 |[]=>by rw[zw,EX];simp
 |(k,ps,u)::l=>by
  have z:=EY ps;have j:=LN l;rw[a4P,LI,aOg];unfold IW;simp only[aOg,aOe,aOh];omega
termination_by l=>SizeOf.sizeOf l
end
def B1 {p:qG}: ∀{l:List qG},p∈l->EW p<=sI l
 |q::l,h=>by
  rw[IR];rcases aOv.1 h with rfl|h
  .omega
  have:=B1 h;omega
def CB {c:rO}: ∀{l:List rO},c∈l->sI c.2.1<=zO l
 |q::l,h=>by
  rw[ic];rcases aOv.1 h with rfl|h
  .omega
  have:=CB h;omega
def yV {p:qG}: ∀{l:List qG},p∈l->wP p<=wL l
 |q::l,h=>by
  rw[CA];rcases aOv.1 h with rfl|h
  .omega
  have:=yV h;omega
def yI {c:rO}: ∀{l:List rO},c∈l->64+c.1.length+wL c.2.1<=wC l
 |q::l,h=>by
  rw[LI];rcases aOv.1 h with rfl|h
  .omega
  have:=yI h;omega
def a4Q (p:qG):64<=wP p:=by obtain⟨k,t,n,st,cs,ps⟩:=p;rw[vS];omega
def CC: ∀l:List qG,64*l.length<=wL l
 |[]=>by simp
 |p::l=>by rw[CA,aOe];have:=CC l;have:=a4Q p;omega
def BL: ∀l:List rO,64*l.length<=wC l
 |[]=>by simp
 |p::l=>by rw[LI,aOe];have:=BL l;omega
def DK {k:Int}{t n st:pJ}{cs:List rO}{ps:List qG}{d:Nat}(h:EW (.mk k t n st cs ps)<=d) (j:d<=99):zN k st cs=true/\zO cs+1<=d/\sI ps+1<=d:=by
 rw[Y1] at h;split at h
 .rename_i hk;exact⟨hk,pN,pN⟩
 omega
def a4R {k:Int}{st:pJ}{cs:List rO}(h:zN k st cs=true):k=1\/k=10\/k=11\/(k=2/\st=[]/\cs=[])\/(3<=k/\k<=9):=by
 unfold zN at h;simp at h;rcases h with(((h|h) |h) |h) |h
 .exact .inl h
 .exact .inr (.inl h)
 .exact .inr (.inr (.inl h))
 .exact .inr (.inr (.inr (.inr h)))
 exact .inr (.inr (.inr (.inl ⟨h.1.1,h.1.2,h.2⟩)))
def xI {l:List qG}{i:Nat}(h:i<l.length) {k:Int}{t n st:pJ}{cs:List rO}{ps:List qG}(j:l[i]= .mk k t n st cs ps):qG.un (qI .part l (i:Int))=(k,(t,(n,(st,(cs,(ps,())))))):=by
 rw[uX (t:= .part) h];have:(l[i]:Ty.part.den)=qG.mk k t n st cs ps:=j;rw[this];rfl
def zx (c:rO):(IW c).length=4+c.1.length+(uD c.2.1).length:=by
 unfold IW;simp only[aOg,aOe,aOh];omega
def zy {k:Int}(D:k≠1) (z:k≠10) (j:k≠11) {st:pJ}{cs:List rO}(h:zN k st cs=true):(k=2/\st=[]/\cs=[])\/(3<=k/\k<=9):=by
 rcases a4R h with h|h|h|h|h
 .exact absurd h D
 .exact absurd h z
 .exact absurd h j
 .exact .inl h
 exact .inr h
section
variable {l:List qG}{G:List qG->pJ->Option pJ}{i:Nat}(hi:i<l.length) {k:Int}{t n st:pJ}{cs:List rO}{ps:List qG}
def aJb (hi:i<l.length) (E:l[i]= .mk k t n st cs ps) (D: ∀c∈cs,G c.2.1 [32]=some (uD c.2.1)) (U:wC cs<=1000000000) (x:pJ) (R:x.length<=100000000000):
  rC (I7 l [32] (i:Int) G) (x,0)=some (x++AZ cs):=by
 have F:=BL cs;have z:=LN cs;rw[ip] at z|-;refine xB (f:=I7 l [32] (i:Int) G) (l:=cs) (λj b=>(b,j)) (λb=>b) IW (M:=1000000000000) (λj h b K=>?_) (λb=>?_) x pN
 .have I:=D cs[j] (aOm h);have O:=yI (aOm h);have Q:=EY cs[j].2.1;rw[zx] at K;unfold I7;dsimp only;rw[xI hi E];dsimp only;rw[uX (t:=rV) h,aOd (sG h),aOd (rP h)]
  iterate 3 rw[aOd aQS]
  rw[aOd (rP h),I,aOc]
  iterate 3 rw[aOd aQS]
  rw[aOd (s5 pN)];rfl
 unfold I7;dsimp only;rw[xI hi E];dsimp only;rw[aOi (sL _)]
theorem aJc (hi:i<l.length) (z:l[i]= .mk k t n st cs ps) (hk:zN k st cs=true) (I:ps≠[]->G ps [32]=some (uD ps)) (M: ∀c∈cs,G c.2.1 [32]=some (uD c.2.1)) (Y:wL l<=1000000000) (x:pJ) (X:x.length<=10000000000):
  KK l [32] G (x,(i:Int))=some (.inl (x++DJ l[i],(i:Int)+1)):=by
 have U:=CC l;have E:=yV (aOm hi);rw[z,vS] at E;have h1:=EY ps;have h3:=UZ t;have h4:=ir k;unfold KK;dsimp only;rw[xI hi z,z,iq];dsimp only;rw[aOd (sG hi),aOd (rP hi)];by_cases k1:k=1
 .rw[aOd (xH k1),aOd k1,aI9 t aQT,aOc,aOd aQU,aOd (s5 pN)]
 rw[aOi (show¬decide (k=1)=true by simpa using k1),aOi k1];by_cases k10:k=10
 .rw[aOd (xH k10),aOd k10,aOd aQS,aOd (s5 pN)]
 rw[aOi (show¬decide (k=10)=true by simpa using k10),aOi k10];by_cases k11:k=11
 .rw[aOd k11];by_cases hp:ps=[]
  .subst hp;rw[aOd (show (decide (k=11)&&decide ((([]:List qG).length:Int)=0))=true by simp [k11]),aOd (show ([]:List qG).length=0 from rfl)]
   iterate 3 rw[aOd aQS]
   rw[aOd (s5 pN)]
  have K:ps.length≠0:=λh=>hp (aPo.1 h);rw[aOi (show¬(decide (k=11)&&decide ((ps.length:Int)=0))=true by simp [hp]),aOi K,aOd (xH k11)]
  iterate 2 rw[aOd aQS]
  rw[I hp,aOc]
  iterate 5 rw[aOd aQS]
  rw[aOd (s5 pN)]
 rw[aOi (show¬(decide (k=11)&&decide ((ps.length:Int)=0))=true by simp [k11]),aOi (show¬decide (k=11)=true by simpa using k11),aOi k11];by_cases k2:k=2
 .rw[aOd (xH k2),aOd k2]
  iterate 3 rw[aOd aQS]
  rw[aOd (s5 pN)]
 have V:3<=k/\k<=9:=(zy k1 k10 k11 hk).resolve_left λh=>k2 h.1;obtain⟨q,rfl⟩: ∃q:Nat,k=q+3:=⟨(k-3).toNat,pN⟩;have R:q<7:=by omega
 have e3:((q:Int)+3-3)=(q:Int):=by omega
 rw[aOi (show¬decide ((q:Int)+3=2)=true by simpa using k2),aOi k2,aOd (show (decide (3<=(q:Int)+3)&&decide ((q:Int)+3<=9))=true by simp;omega),e3];have F:(qI .str gw (q:Int))=zP ((q:Int)+3):=by
  unfold zP qI;rw[e3];rfl
 iterate 3 rw[aOd aQS]
 rw[aOd (show qH (q:Int) by unfold qH;omega),aOd (show 0<=(q:Int)/\(q:Int)<(gw.length:Int) from⟨pN,by show (q:Int)<7;omega⟩)];rw[show qI .str Qd7 (q:Int)=zP ((q:Int)+3) from F]
 iterate 2 rw[aOd aQS]
 have e7:(((((q:Int)+3)=(7:Int))||(((q:Int)+3)=(8:Int)))||(((q:Int)+3)=(9:Int)))=decide (7<=(q:Int)+3):=by
  rw[aOE];simp;omega
 rw[e7];have tQ: ∀(u v:pJ),u.length<=4000000000->v.length<=4000000000->(rD (rC (I7 l [32] (i:Int) G) (x++u++v,(0:Int))) λO=>
   if ((O++Qb1).length:Int)<=9223372036854775807 then(if qH ((i:Int)+(1:Int)) then some (.inl ((O++Qb1),((i:Int)+(1:Int)))) else none) else none)=(some (.inl (x++(u++v++AZ cs++[125]),(i:Int)+1)):Option ((pJ×Int)⊕pJ)):=by
  intro u v Z hv;have Q:=LN cs;rw[aJb hi z M pN _ aQU];unfold rD;rw[aOc,aOd aQS,aOd (s5 pN)];simp only[aOk]
 by_cases D:st=[]
 .subst D;rw[aOi (show¬(!decide (([]:pJ)=[]))=true by simp),aOd rfl,List.append_nil];unfold rD;rw[aOc];by_cases j:7<=(q:Int)+3
  .rw[aOd (xH j),aOd j,aOd aQS,aOc];exact tQ _ _ aQS pP
  rw[aOi (show¬decide (7<=(q:Int)+3)=true by simpa using j),aOi j,aOc];have:=tQ ([123]++n++[44]++[32]++zP ((q:Int)+3)) [] aQS pP;simp only[List.append_nil] at this|-;exact this
 rw[aOd (show (!decide (st=[]))=true by simpa using D),aOi D]
 iterate 3 rw[aOd aQS]
 unfold rD;rw[aOc];by_cases j:7<=(q:Int)+3
 .rw[aOd (xH j),aOd j,aOd aQS,aOc];have:=tQ ([123]++n++[44]++[32]++zP ((q:Int)+3)++([44]++[32]++st)) [44] aQS pP;rw[aOk x];exact this
 rw[aOi (show¬decide (7<=(q:Int)+3)=true by simpa using j),aOi j,aOc];have:=tQ ([123]++n++[44]++[32]++zP ((q:Int)+3)++([44]++[32]++st)) [] aQS pP;rw[aOk x];simp only[List.append_nil] at this|-;exact this
end
def a4S: ∀(k N:Nat) (ps:List qG),sI ps<=k->k<=99->k+1<=N->wL ps<=1000000000->OT N ps [32]=some (uD ps)
 |k,N,ps,K,hk,Q,I=>by
  obtain⟨N,rfl⟩: ∃k,N=k+1:=⟨N-1,pN⟩;show TF (OT N) ps [32]=_;unfold TF;have E:=EY ps;have ih: ∀qs:List qG,sI qs+1<=k->wL qs<=1000000000->OT N qs [32]=some (uD qs):=λqs U O=>by
   cases k with
   |zero=>omega
   |succ k=>exact a4S k N qs pN pN pN O
  rw[io] at E|-;have:=xB (f:=KK ps [32] (OT N)) (l:=ps) (λj b=>(b,j)) (λb=>b) DJ (M:=10000000000) (λj h b R=>by
   have z:=B1 (aOm h);have F:=yV (aOm h);cases D:ps[j] with
   |mk k' t n st cs ps'=>
    rw[D] at z;have⟨o1,o2,o3⟩:=DK (aOU z K) hk;rw[D,vS] at F;rw[<-D];exact aJc h D o1 (λ_=>ih ps' o3 pN) (λc G=>ih c.2.1 (by have:=CB G;omega) (by have:=yI G;omega)) I b pN) (λb=>by
   unfold KK;dsimp only;rw[aOi (sL _)]) [] aQO
  rw[this];rfl
def Y9 {ps:List qG}(z:sI ps<=99) (j:wL ps<=1000000000):FM ps [32]=some (uD ps):=by rw[aEU];exact a4S 99 1000 ps z pN pN j
def a4T {α:Type}{f:(Int×Int)->Option ((Int×Int)⊕Int)}{l:List α}(g:α->pJ) {M:Nat}
  (hf: ∀(i:Nat) (h:i<l.length) (x:Nat),x+(g l[i]).length<=M->f ((x:Int),(i:Int))=some (.inl (((x+(g l[i]).length:Nat):Int),(i:Int)+1)))
  (z: ∀x:Nat,f ((x:Int),(l.length:Int))=some (.inr (x:Int))) (x:Nat) (j:x+(l.flatMap g).length<=M):rC f ((x:Int),0)=some ((x+(l.flatMap g).length:Nat):Int):=by
 have:=xB (f:=f) (l:=l) (λi (b:pJ)=>((b.length:Int),i)) (λb=>(b.length:Int)) g (M:=M) (λi h b j=>by
  rw[hf i h b.length j,aOg]) (λb=>z b.length) (List.replicate x 0) (by rw[List.length_replicate];exact j)
 simp only[List.length_replicate,aOg] at this;exact this
def QJ (k:Int) (e:pJ×Int):Nat:=if e.2=k then 2+e.1.length else 0
def zz (k:Int):Nat:=(tX.map (QJ k)).sum
def aJd {l l':pY}(h:l.Perm l'):l.sum=l'.sum:=by
 induction h with
 |nil=>rfl
 |cons x _ ih=>rw[List.sum_cons,List.sum_cons,ih]
 |swap x y l=>simp only[List.sum_cons];omega
 |trans _ _ z j=>exact z.trans j
def aJe {k:Int}(h:3<=k/\k<=9):zz k=2+(zP k).length:=by
 obtain⟨q,rfl⟩: ∃q:Nat,k=q+3:=⟨(k-3).toNat,pN⟩;rcases(show q=0\/q=1\/q=2\/q=3\/q=4\/q=5\/q=6 by omega) with h|h|h|h|h|h|h<;>subst h<;>decide
def iu {l:List qG}{i:Nat}(hi:i<l.length) {k:Int}{t n st:pJ}{cs:List rO}{ps:List qG}(z:l[i]= .mk k t n st cs ps):
  ∀(L:List (pJ×Int)) (x:Nat),(∀e∈L,e.1.length<=1000)->L.length<=1000->x<=100000000000-L.length*2000->HL (CZ (OI l (i:Int))) L (x:Int)=some ((x+(L.map (QJ k)).sum:Nat):Int)
 |[],x,_,_,_=>by simp [HL]
 |e::L,x,D,F,E=>by
  have G:=D e aOz;simp only[aOe] at F E;have j:CZ (OI l (i:Int)) e (x:Int)=some ((x+QJ k e:Nat):Int):=by
   obtain⟨key,v⟩:=e;unfold CZ OI QJ;dsimp only;rw[xI hi z];dsimp only at G|-;by_cases hv:v=k
   .rw[aOd (xH hv),aOd hv,aOd aQF,aOd aQF,aOc];dsimp only;rfl
   rw[aOi (show¬decide (v=k)=true by simpa using hv),aOi hv,aOc,aPm]
  show (CZ (OI l (i:Int)) e (x:Int)).bind (HL _ L)=_;have I:QJ k e<=1002:=by unfold QJ;split<;>omega
  rw[j,aOc,iu hi z L (x+QJ k e) (λe h=>D e (aOu _ h)) pN pN,aO7,List.sum_cons];congr 1;omega
def aJf {l:List qG}{i:Nat}(hi:i<l.length) {k:Int}{t n st:pJ}{cs:List rO}{ps:List qG}(D:l[i]= .mk k t n st cs ps) (x:Nat) (E:x<=50000000000):
  SB (CZ (OI l (i:Int))) tX (x:Int)=some ((x+zz k:Nat):Int):=by
 have z: ∀e∈tX,e.1.length<=1000:=by
  unfold tX;intro e j;simp at j;rcases j with rfl|rfl|rfl|rfl|rfl|rfl|rfl<;>decide
 have G:tX.length=7:=rfl;unfold SB;rw[aOd ?_]
 .exact iu hi D tX x z pN pN
 intro l' hp;have F:=hp.length_eq;rw[iu hi D tX x z pN pN,iu hi D l' x (λe j=>z e (hp.mem_iff.1 j)) pN pN,aJd (hp.map _)]
section
variable {l:List qG}{G:List qG->Option Int}{i:Nat}{k:Int}{t n st:pJ}{cs:List rO}{ps:List qG}
def aJg (hi:i<l.length) (E:l[i]= .mk k t n st cs ps) (D: ∀c∈cs,G c.2.1=some ((uD c.2.1).length:Int)) (U:wC cs<=1000000000) (x:Nat) (R:x<=100000000000):
  rC (OJ l (i:Int) G) ((x:Int),0)=some ((x+(AZ cs).length:Nat):Int):=by
 have F:=BL cs;have z:=LN cs;rw[ip] at z|-;refine a4T (f:=OJ l (i:Int) G) (l:=cs) IW (M:=1000000000000) (λj h x K=>?_) (λx=>?_) x pN
 .have I:=D cs[j] (aOm h);have O:=yI (aOm h);have Q:=EY cs[j].2.1;rw[zx] at K|-;unfold OJ;dsimp only;rw[xI hi E];dsimp only;rw[uX (t:=rV) h,aOd (sG h),aOd (rP h),aOd aQF,I,aOc,aOd aQF,aOd aQF,aOd (s5 pN)];congr 3
 unfold OJ;dsimp only;rw[xI hi E];dsimp only;rw[aOi (sL _)]
def aJh (hi:i<l.length) (E:l[i]= .mk k t n st cs ps) (hk:zN k st cs=true) (M:ps≠[]->G ps=some ((uD ps).length:Int)) (R: ∀c∈cs,G c.2.1=some ((uD c.2.1).length:Int)) (Y:wL l<=1000000000) (x:Nat) (U:x<=10000000000- (DJ l[i]).length):
  T7 l G ((x:Int),(i:Int))=some (.inl (((x+(DJ l[i]).length:Nat):Int),(i:Int)+1)):=by
 have X:=CC l;have K:=yV (aOm hi);rw[E,vS] at K;have h1:=EY ps;have h2:=LN cs;have h3:=UZ t;have Z:=ir k;unfold T7;dsimp only;rw[a4t,xI hi E];rw[E,iq] at U|-;dsimp only;rw[aOd (sG hi),aOd (rP hi)];by_cases k1:k=1
 .rw[aOd (xH k1),aOd k1,a4M t aQT,aOc,aOd aQF,aOd (s5 pN)];congr 3
 rw[aOi (show¬decide (k=1)=true by simpa using k1),aOi k1];by_cases k10:k=10
 .rw[aOd (xH k10),aOd k10,aOd aQF,aOd (s5 pN)];congr 3
 rw[aOi (show¬decide (k=10)=true by simpa using k10),aOi k10];by_cases k11:k=11
 .rw[aOd (xH k11),aOd k11,aOd aQF,aOd aQF];by_cases hp:ps=[]
  .subst hp;rw[aOi (show¬decide ((0:Int)<(([]:List qG).length:Int))=true by simp),aOd (show ([]:List qG).length=0 from rfl),aOd (s5 pN)];simp only[aOg,aOe,aOh];congr 3;omega
  have Q:ps.length≠0:=λh=>hp (aPo.1 h);rw[aOd (show decide ((0:Int)<(ps.length:Int))=true by simp;omega),aOi Q,aOd aQF,M hp,aOc,aOd aQF,aOd aQF,aOd (s5 pN)];simp only[aOg,aOe,aOh];congr 3;omega
 rw[aOi (show¬decide (k=11)=true by simpa using k11),aOi k11,aOd aQF,aOd aQF];rw[show ((x:Int)+((2:Int)+(n.length:Int)))=((x+(2+n.length):Nat):Int) by omega,aJf hi E _ pN];have tQ: ∀z:Nat,z<=100000000000->(rD (rC (OJ l (i:Int) G) ((z:Int),(0:Int))) λO=>if qH ((i:Int)+(1:Int)) then some (.inl (O,((i:Int)+(1:Int)))) else none)=(some (.inl (((z+(AZ cs).length:Nat):Int),(i:Int)+1)):Option ((Int×Int)⊕Int)):=by
  intro z V;rw[aJg hi E R pN z V];unfold rD;rw[aOc,aOd (s5 pN)]
 unfold rD at tQ|-;rw[aOc];rcases zy k1 k10 k11 hk with⟨rfl,rfl,rfl⟩ |D
 .have F:zz 2=0:=by decide
  rw[aOd rfl];rw[aOi (show¬(!decide (([]:pJ)=[]))=true by simp),aOc,aOi (show¬(decide ((7:Int)<=2)&&decide ((2:Int)<=9))=true by decide),aOc,F,tQ _ pN,zw];simp only[aOg,aOe,aOh];congr 3;omega
 have F:=aJe D;have k2: ¬k=2:=by omega
 rw[aOi k2] at U|-;rw[F];by_cases I:st=[]
 .subst I;rw[aOi (show¬(!decide (([]:pJ)=[]))=true by simp),aOd rfl,aOc];by_cases j:7<=k
  .rw[aOd (show (decide (7<=k)&&decide (k<=9))=true by simp [j,D.2]),aOd j,aOd aQF,aOc];rw[show (((x+(2+n.length)+(2+(zP k).length):Nat):Int)+1)=((x+(2+n.length)+(2+(zP k).length)+1:Nat):Int) by omega,tQ _ pN];simp only[aOg,aOe,aOh];congr 3;omega
  rw[aOi (show¬(decide (7<=k)&&decide (k<=9))=true by simp [j]),aOi j,aOc,tQ _ pN];simp only[aOg,aOe,aOh];congr 3;omega
 rw[aOd (show (!decide (st=[]))=true by simpa using I),aOi I,aOd aQF,aOd aQF,aOc];by_cases j:7<=k
 .rw[aOd (show (decide (7<=k)&&decide (k<=9))=true by simp [j,D.2]),aOd j,aOd aQF,aOc];rw[show (((x+(2+n.length)+(2+(zP k).length):Nat):Int)+(2+(st.length:Int))+1)=((x+(2+n.length)+(2+(zP k).length)+(2+st.length)+1:Nat):Int) by omega,tQ _ pN];simp only[aOg,aOe,aOh];congr 3;omega
 rw[aOi (show¬(decide (7<=k)&&decide (k<=9))=true by simp [j]),aOi j,aOc];rw[show (((x+(2+n.length)+(2+(zP k).length):Nat):Int)+(2+(st.length:Int)))=((x+(2+n.length)+(2+(zP k).length)+(2+st.length):Nat):Int) by omega,tQ _ pN];simp only[aOg,aOe,aOh];congr 3;omega
end
def a4U: ∀(k N:Nat) (ps:List qG),sI ps<=k->k<=99->k+1<=N->wL ps<=1000000000->OL N ps=some ((uD ps).length:Int)
 |k,N,ps,K,hk,Q,I=>by
  obtain⟨N,rfl⟩: ∃k,N=k+1:=⟨N-1,pN⟩;show OK (OL N) ps=_;unfold OK;have E:=EY ps;have ih: ∀qs:List qG,sI qs+1<=k->wL qs<=1000000000->OL N qs=some ((uD qs).length:Int):=λqs U O=>by
   cases k with
   |zero=>omega
   |succ k=>exact a4U k N qs pN pN pN O
  rw[io] at E|-;have:=a4T (f:=T7 ps (OL N)) (l:=ps) DJ (M:=10000000000) (λj h x R=>by
   have z:=B1 (aOm h);have F:=yV (aOm h);cases D:ps[j] with
   |mk k' t n st cs ps'=>
    rw[D] at z;have⟨o1,o2,o3⟩:=DK (aOU z K) hk;rw[D,vS] at F;rw[<-D];exact aJh h D o1 (λ_=>ih ps' o3 pN) (λc G=>ih c.2.1 (by have:=CB G;omega) (by have:=yI G;omega)) I x pN) (λx=>by
   unfold T7;dsimp only;rw[aOi (sL _)]) 0 pN
  unfold rD;rw[show ((0:Int),(0:Int))=(((0:Nat):Int),(0:Int)) from rfl,this,aOO];rfl
def a4V {ps:List qG}(z:sI ps<=99) (j:wL ps<=1000000000):KG ps=some ((uD ps).length:Int):=by rw[aEj];exact a4U 99 1000 ps z pN pN j
theorem DL (p:pU) (l:List rW) (z: ∀t∈l,t.length<=4000000000) (D:l.length<=100) (hp:p.length<=1000000000000):zK (p,()) l=some (p++tK l.flatten):=by
 have E:(l.flatMap tK).length<=l.length*4000000000:=A8 λt j=>by rw[xS];exact z t j
 have h:=xB (f:=NL l) (l:=l) (λi b=>(i,b)) (λb=>b) tK (M:=5000000000000) (λi h b F=>by
  have j:=z l[i] (aOm h);unfold NL;dsimp only;rw[aOd (sG h),aOd (rP h),uX (t:= .str) h,aHH pN j,aOc,aOd (s5 pN)]) (λb=>by
  unfold NL;dsimp only;rw[aOi (sL _)]) p pN
 unfold zK;dsimp only;rw[h];have e:l.flatMap tK=tK l.flatten:=by
  have:=IV (l:=l) (g:=λx=>x);rw[List.flatMap_id'] at this;exact this
 rw[e];rfl
section
variable {GP:(pU×Unit)->List qG->Option pU}{k:Int}{t n st:pJ}{cs:List rO}{ps:List qG}{P:Nat}(hP:P<=990000000000)
include hP
theorem aJi (D: ∀c∈cs,∀p:pU,p.length<=P+10000000000->GP (p,()) c.2.1=some (p++tK (uD c.2.1))) (Q:wC cs<=1000000000) (p:pU) (hp:p.length<=P+7000000000):
  rC (I3 (k,(t,(n,(st,(cs,(ps,())))))) GP) ((0:Int),p)=some (p++tK (AZ cs)):=by
 have F:=BL cs;have z:=LN cs;rw[ip] at z|-;rw[<-IV];refine xB (f:=I3 (k,(t,(n,(st,(cs,(ps,())))))) GP) (l:=cs) (λj b=>(j,b)) (λb=>b) (λc=>tK (IW c)) (M:=P+9500000000) (λj h b I=>?_) (λb=>?_) p (by rw[IV,xS];omega)
 .have G:=D cs[j] (aOm h);have K:=yI (aOm h);have O:=EY cs[j].2.1;rw[xS,zx] at I;unfold I3;dsimp only;rw[uX (t:=rV) h,aOd (sG h),aOd (rP h),DL _ _ (by
   intro t E;simp only[aOv,aPr,or_false] at E;rcases E with rfl|rfl|rfl
   .simp
   .omega
   .simp) pP pN,aOc,G _ (by
   rw[aOg,xS];simp only[aO0,List.flatten_nil,aOg,aOe,aOh];omega),aOc,DL _ _ pP pP (by
   simp only[aOg,xS,aO0,List.flatten_nil,aOe,aOh];omega),aOc,aOd (s5 pN)]
  congr 3;unfold IW;simp only[aO0,List.flatten_nil,aOk,List.append_nil,<-LA,List.singleton_append,List.cons_append,List.nil_append]
 unfold I3;dsimp only;rw[aOi (sL _)]
theorem aJj (hk:zN k st cs=true) (I:ps≠[]->∀p:pU,p.length<=P+10000000000->GP (p,()) ps=some (p++tK (uD ps))) (K: ∀c∈cs,∀p:pU,p.length<=P+10000000000->GP (p,()) c.2.1=some (p++tK (uD c.2.1))) {GQ}(U:64+t.length+n.length+st.length+wC cs+wL ps<=1000000000) (p:pU) (hp:p.length<=P+5000000000):
  KI GP GQ (p,()) (k,(t,(n,(st,(cs,(ps,()))))))=some (p++tK (DJ (.mk k t n st cs ps))):=by
 have Y:=EY ps;have X:=UZ t;have V:=ir k;unfold KI;rw[iq];dsimp only;by_cases k1:k=1
 .rw[aOd (xH k1),aOd k1,a4M t aQT,aOc,DL _ _ pQ pP pN,aOc];simp
 rw[aOi (show¬decide (k=1)=true by simpa using k1),aOi k1];by_cases k10:k=10
 .rw[aOd (xH k10),aOd k10,DL _ _ pP pP pN,aOc];simp
 rw[aOi (show¬decide (k=10)=true by simpa using k10),aOi k10];by_cases k11:k=11
 .rw[aOd (xH k11),aOd k11];by_cases D:ps.length=0
  .rw[aOd (show decide ((ps.length:Int)=0)=true by simp [D]),aOd D,DL _ _ pQ pP pN,aOc];simp
  have E:ps≠[]:=λh=>D (by rw[h];rfl);rw[aOi (show¬decide ((ps.length:Int)=0)=true by simp;exact E),aOi D,DL _ _ pQ pP pN,aOc,I E _ (by
   rw[aOg,xS];simp only[aO0,List.flatten_nil,aOg,aOe,aOh];omega),aOc,DL _ _ pQ pP (by
   simp only[aOg,xS,aO0,List.flatten_nil,aOe,aOh];omega),aOc]
  congr 1;simp only[aO0,List.flatten_nil,aOk,List.append_nil,<-LA]
 rw[aOi (show¬decide (k=11)=true by simpa using k11),aOi k11];by_cases k2:k=2
 .rw[aOd (xH k2),aOd k2,DL _ _ pQ pP pN,aOc];simp
 have R:3<=k/\k<=9:=(zy k1 k10 k11 hk).resolve_left λh=>k2 h.1;rw[aOi (show¬decide (k=2)=true by simpa using k2),aOi k2,aOd ⟨pN,pN⟩];have G:qI .str ([([]:pJ),([]:pJ),([]:pJ),Qa6,Qa5,Qa4,Qa3,Qa2,Qa1,Qa0]:pK) k=zP k:=by
  obtain⟨q,rfl⟩: ∃q:Nat,k=q+3:=⟨(k-3).toNat,pN⟩;rcases(show q=0\/q=1\/q=2\/q=3\/q=4\/q=5\/q=6 by omega) with h|h|h|h|h|h|h<;>subst h<;>rfl
 rw[G,DL _ _ (by
  intro y M;simp only[aOv,aPr,or_false] at M;rcases M with rfl|rfl|rfl|rfl
  .simp
  .omega
  .simp
  omega) pP pN,aOc]
 have tQ: ∀z:pU,z.length<=P+7000000000->(rD (rC (I3 (k,(t,(n,(st,(cs,(ps,())))))) GP) ((0:Int),z)) λr=>(zK (r,()) ([Qb1]:pK)).bind λq=>some q)=some (z++(tK (AZ cs)++tK [125])):=by
  intro z O;have Q:=LN cs;rw[aJi hP K pN z O];unfold rD;rw[aOc,DL _ _ pP pP (by simp only[aOg,xS];omega),aOc,aOk];rfl
 have e7:(decide (7<=k)&&decide (k<=9))=decide (7<=k):=by rw[aOE];simp;omega
 rw[e7];unfold rD at tQ|-;by_cases F:st=[]
 .subst F;rw[aOi (show¬(!decide (([]:pJ)=[]))=true by simp),aOd rfl,aOc];by_cases j:7<=k
  .rw[aOd (xH j),aOd j,DL _ _ pP pP (by
    simp only[aOg,xS,aO0,List.flatten_nil,aOe,aOh];omega),aOc,aOc,tQ _ (by
    simp only[aOg,xS,aO0,List.flatten_nil,aOe,aOh];omega)]
   congr 1;simp only[aO0,List.flatten_nil,aOk,List.append_nil,<-LA,List.nil_append];rfl
  rw[aOi (show¬decide (7<=k)=true by simpa using j),aOi j,aOc,tQ _ (by
   simp only[aOg,xS,aO0,List.flatten_nil,aOe,aOh];omega)]
  congr 1;simp only[aO0,List.flatten_nil,aOk,List.append_nil,<-LA,List.nil_append];rfl
 rw[aOd (show (!decide (st=[]))=true by simpa using F),aOi F,DL _ _ pQ pP (by
   simp only[aOg,xS,aO0,List.flatten_nil,aOe,aOh];omega),aOc,aOc]
 by_cases j:7<=k
 .rw[aOd (xH j),aOd j,DL _ _ pP pP (by
   simp only[aOg,xS,aO0,List.flatten_nil,aOe,aOh];omega),aOc,aOc,tQ _ (by
   simp only[aOg,xS,aO0,List.flatten_nil,aOe,aOh];omega)]
  congr 1;simp only[aO0,List.flatten_nil,aOk,List.append_nil,<-LA,List.nil_append];rfl
 rw[aOi (show¬decide (7<=k)=true by simpa using j),aOi j,aOc,tQ _ (by
  simp only[aOg,xS,aO0,List.flatten_nil,aOe,aOh];omega)]
 congr 1;simp only[aO0,List.flatten_nil,aOk,List.append_nil,<-LA,List.nil_append];rfl
end
theorem a4W: ∀(k N:Nat) (ps:List qG),sI ps<=k->k<=99->2*k+2<=N->wL ps<=1000000000->∀p:pU,p.length<=10000000000*(99-k)+10000000000->(FL N).1 (p,()) ps=some (p++tK (uD ps))
 |k,N,ps,K,hk,U,R,p,hp=>by
  obtain⟨N,rfl⟩: ∃k,N=k+2:=⟨N-2,pN⟩;show TA (FL (N+1)).1 (KI (FL N).1 (FL N).2) (p,()) ps=_;unfold TA;have E:=EY ps;rw[io] at E|-;rw[<-IV];have ih: ∀qs:List qG,sI qs+1<=k->wL qs<=1000000000->∀p:pU,p.length<=(10000000000*(99-k)+10000000000)+10000000000->(FL N).1 (p,()) qs=some (p++tK (uD qs)):=λqs V O p hp=>by
   cases k with
   |zero=>omega
   |succ k=>exact a4W k N qs pN pN pN O p pN
  have:=xB (f:=OP ps (KI (FL N).1 (FL N).2)) (l:=ps) (λj b=>(j,b)) (λb=>b) (λq=>tK (DJ q)) (M:=(10000000000*(99-k)+10000000000)+3000000000) (λj h b I=>by
   rw[xS] at I;have z:=B1 (aOm h);have F:=yV (aOm h);have Q:=CC ps;unfold OP;dsimp only;cases D:ps[j] with
   |mk k' t n st cs ps'=>
    rw[D] at z I;have⟨o1,o2,o3⟩:=DK (aOU z K) hk;rw[D,vS] at F;rw[aOd (sG h),aOd (rP h),xI h D,aJj (P:=10000000000*(99-k)+10000000000) pN o1 (λ_=>ih ps' o3 pN) (λc G=>ih c.2.1 (by have:=CB G;omega) (by have:=yI G;omega)) pN b pN,aOc,aOd (s5 pN)]) (λb=>by
   unfold OP;dsimp only;rw[aOi (sL _)]) p (by rw[IV,xS];omega)
  dsimp only;rw[this];rfl
theorem a4X {ps:List qG}(z:sI ps<=98) (j:wL ps<=1000000000):OW ps=some (uD ps):=by
 unfold OW;have:=a4W 98 1000 ps z pN pN j [] pP;rw[show XC (([]:pU),()) ps=some ([]++tK (uD ps)) from by rw[aEz];exact this,aOc,List.nil_append,Q5]
def aJk (s:pJ):(yH s).2.1.length<=40:=by
 have nm: ∀t:pJ,uT t=true->t.length<=40:=λt h=>by
  cases t with
  |nil=>simp
  |cons b t=>rw[XV] at h;simp only[aOo,aOt] at h;simp only[aOe];exact h.1.1
 unfold yH;split
 .split
  .rename_i h;exact nm _ h
  simp
 simp
def aJl (b:Bool) (s:pJ):(t8 b s).2.1.length<=s.length+40:=by
 cases s with
 |nil=>simp [t8]
 |cons c r=>
  have j:=aJk (60::r);rw[UP]
  repeat' split
  all_goals first|(simp only[aOe,aOh,aO2];omega) |(simp only[aOe];omega)
def Aa: ∀(n:Nat) (s:pJ) (j d:Nat) (l:List rS),xA n s j d=some l->l.length<=s.length/\∀t∈l,t.2.1.length<=s.length+40
 |0,_,_,_,_,h=>by cases h
 |n+1,[],_,d,l,h=>by
  unfold xA at h;split at h
  .cases h;simp
  .cases h
 |n+1,c::r,j,d,l,h=>by
  unfold xA at h;split at h
  .obtain⟨I,D⟩:=Aa n r _ _ l h;simp only[aOe];exact⟨pN,λt z=>by have:=D t z;omega⟩
  split at h
  .cases h
  rename_i M;have G:=yr (tA d) (c::r);have F:=aJl (tA d) (c::r);have K:=G.2 λe=>M (.inl e);cases E:xA n ((c::r).drop (t8 (tA d) (c::r)).2.2) (j+(t8 (tA d) (c::r)).2.2) (BI (t8 (tA d) (c::r)).1 d) with
  |none=>rw[E] at h;cases h
  |some l'=>
   rw[E] at h;cases h;obtain⟨I,D⟩:=Aa n _ _ _ l' E;rw[aON] at I D;refine⟨by rw[aOe];omega,λt z=>?_⟩;rcases aOv.1 z with rfl|z
   .exact F
   have:=D t z;omega
def a4Y {B:Nat}: ∀L:List rS,(∀t∈L,t.2.1.length<=B)->tw L<=L.length*(B+256)
 |[],_=>by simp [tw]
 |t::l,h=>by
  rw[tw,aOe,aPd];have:=a4Y l λt j=>h t (aOu _ j);have:=h t aOz;omega
def Ab (s:pJ) (F:s.length<=4000) (o:Int): ∀(n i:Nat) (a b:Nat),s.length<=i+n->i<=s.length->a<=i+1->b<=i+1->(rC (GK s o) ((i:Int),(a:Int),(b:Int))).isSome=true
 |n,i,a,b,M,hi,ha,hb=>by
  by_cases D:(((i:Int)<(s.length:Int))&&(!decide ((i:Int)=o)))=true
  .have I:i<s.length:=by simp at D;exact D.1
   have z:s.drop i≠[]:=λh=>by have:=List.drop_eq_nil_iff.1 h;omega
   have E:=Lib.decodeL_le (s.drop i) z;have K:=Lib.decodeL_width (s.drop i);rw[aON] at E;have G:0<(Lib.decodeL (s.drop i)).2:=by omega
   cases n with
   |zero=>omega
   |succ n=>
    have e:GK s o ((i:Int),(a:Int),(b:Int))=if decide (((Lib.decodeL (s.drop i)).1:Int)=(10:Int))=true then some (.inl (((i+(Lib.decodeL (s.drop i)).2:Nat):Int),((a+1:Nat):Int),((1:Nat):Int))) else some (.inl (((i+(Lib.decodeL (s.drop i)).2:Nat):Int),(a:Int),((b+1:Nat):Int))):=by
     unfold GK;dsimp only;rw[aOd D,aOd ⟨pN,pN,aPf _⟩,FO,a3m z,aOc];dsimp only;rw[aOd aQF,aOd aQF];by_cases j:decide (((Lib.decodeL (s.drop i)).1:Int)=(10:Int))=true
     .rw[aOd j,aOd j,aOd aQF,Int.natCast_add,Int.natCast_add];rfl
     rw[aOi j,aOi j,Int.natCast_add,Int.natCast_add];rfl
    rw[sZ,e];split
    .exact Ab s F o n _ _ _ pN pN pN pN
    exact Ab s F o n _ _ _ pN pN pN pN
  rw[sZ];unfold GK;dsimp only;rw[aOi D];rfl
def iw (s:pJ) (j:s.length<=4000) (o:Int): ∃q,TJ s o=some q:=by
 have:=Ab s j o s.length 0 1 1 pN pN pN pN;unfold TJ rD;cases h:rC (GK s o) ((0:Int),(1:Int),(1:Int)) with
 |none=>rw[show rC (GK s o) (((0:Nat):Int),((1:Nat):Int),((1:Nat):Int))=none from h] at this;cases this
 |some y=>
  rw[aOc];dsimp only;split<;>exact⟨_,rfl⟩
def aJm (p q:List qG×Int×Int×Int×Int):Prop:=
 (p.2.2.2.2=0/\q.2.2.2.2=0/\p.1=q.1/\sI p.1<=9/\wL p.1<=20000000)\/(p.2.2.2.2≠0/\q.2.2.2.2≠0)
def aJn (s:pJ): ∃p q,PT s false=some p/\PP s false=some q/\aJm p q:=by
 by_cases F:s.length<=4000
 .obtain⟨l,a,e,t1,t2,t3⟩:=aH7 s F;obtain⟨l',a',e',r1,r2,r3⟩:=aH8 s F;unfold PT PP;rw[t1,r1,aOc,aOc];dsimp only;cases hT:xA (s.length+1) s 0 0 with
  |none=>
   obtain⟨re,rl⟩:=r3 hT;have te:=t3 hT;subst re rl te;rw[aOi (show¬decide ((3:Int)=6)=true by decide),aOi (show¬decide ((3:Int)=6)=true by decide)];have V:C9 []:=⟨by simp,by simp⟩;rw[(aI7 V (s:=s) (n:=(s.length:Int))).r _ _ _ _ _ _ (show (3:Int)≠0 by decide),aOc];dsimp only;obtain⟨q,Y⟩:=iw s F a';unfold rD;rw[aOi (show¬decide ((3:Int)=0)=true by decide),aOc];dsimp only;rw[aOd (show (!decide ((3:Int)=0))=true by decide),aOd pN,aOi (show¬(decide ((3:Int)=0)&&decide ((0:Int)<(([]:List rS).length:Int)))=true by decide),aOc];dsimp only;rw[aOd (show (!decide ((3:Int)=0))=true by decide),Y,aOc];exact⟨_,_,rfl,rfl,.inr ⟨show (3:Int)≠0 by decide,show (3:Int)≠0 by decide⟩⟩
  |some L=>
   obtain⟨h1,h2,h3⟩:=t2 L hT;obtain⟨G,h5,h6⟩:=r2 L hT;rw[h1,h2,h3,G,h5,h6];obtain⟨hL,K⟩:=Aa _ _ _ _ _ hT;have R:=a4Y (B:=4040) L λt Q=>by have:=K t Q;omega
   have hc:tw L<=4000*4296:=aOU R (Nat.mul_le_mul pN pN);have U:C9 L:=⟨pN,λt Q=>by have:=K t Q;unfold fit;omega⟩;obtain⟨p,q,p1,q1,h⟩:=aI6 U (s:=s) (n:=(s.length:Int)) 0 [] 0 0 false pN pP;have p2:PS s L 0 (0,(0,())) 0 false []=some p:=p1;have q2:PG (L,((s.length:Int),([],(0,(0,()))))) 1 false=some q:=q1;rw[aOi (show¬decide ((0:Int)=6)=true by decide),aOi (show¬decide ((0:Int)=6)=true by decide),q2,p2,aOc];unfold rD;rw[aOd (show decide ((0:Int)=0)=true by decide),aOc];have uK:List.length s<=4611686018427387904:=by omega
   rcases h with⟨ps,j,ns,a,a',rfl,rfl,o1,o2,o3,o4,o5⟩ |⟨⟨ps,j,a,e,m,rfl,M⟩,ps2,ts,ns,a',e',rfl,D⟩
   .dsimp only;by_cases Z:j<L.length
    .obtain⟨b1,k1⟩:=BJ (s:=s) (L:=L) (i:=j) (a:=a) (m:=s7 ns) 3;obtain⟨b2,k2⟩:=GU (ts:=L.drop j) (n:=(s.length:Int)) (ns:=ns) (a:=a') 3;obtain⟨y,I⟩:=iw s F b2;rw[aOd (sG Z),k1,aOc,aOc];dsimp only;rw[aOd (show (!decide ((3:Int)=0))=true by decide),aOd uK,aOd (show (decide ((0:Int)=0)&&decide ((0:Int)<((L.drop j).length:Int)))=true by simp;omega),k2,aOc,aOc];dsimp only;rw[aOd (show (!decide ((3:Int)=0))=true by decide),I,aOc];exact⟨_,_,rfl,rfl,.inr ⟨show (3:Int)≠0 by decide,show (3:Int)≠0 by decide⟩⟩
    have hg:j=L.length:=by omega
    rw[aOP] at o4;rw[aOi (show¬decide ((j:Int)<(L.length:Int))=true by simp;omega),aOi (show¬(decide ((0:Int)=0)&&decide ((0:Int)<((L.drop j).length:Int)))=true by simp;omega),aOc,aOc];dsimp only;rw[aOi (show¬(!decide ((0:Int)=0))=true by decide),aOi (show¬(!decide ((0:Int)=0))=true by decide),a4V pN pN,Y9 pN pN,aOc,aOc];by_cases G:(4000:Int)<((uD ps).length:Int)
    .rw[aOd (xH G)];exact⟨_,_,rfl,rfl,.inr ⟨show (6:Int)≠0 by decide,show (6:Int)≠0 by decide⟩⟩
    rw[aOi (show¬decide ((4000:Int)<((uD ps).length:Int))=true by simpa using G)];exact⟨_,_,rfl,rfl,.inl ⟨rfl,rfl,rfl,by dsimp only;omega,by dsimp only;omega⟩⟩
   have E: ∃z x1 x2 x3,((if decide ((j:Int)<(L.length:Int))=true then(vV s L (j:Int) (a,(e,())) (3:Int) m).bind λO=>some ((O.1,O.2,ps)) else some ((a,e,ps))).bind λx:Int×Int×List qG=>
     if (!decide (x.2.1=(0:Int)))=true then(if List.length s<=4611686018427387904 then WH (de s x.1) λa8=>some ((([]:List qG),a8.1.1,a8.1.2.1,a8.1.2.2.1,x.2.1)) else none)
     else(KG x.2.2).bind λaA=>if (decide ((4000:Int)<aA))=true then some ((([]:List qG),(0:Int),(0:Int),(0:Int),(6:Int))) else some ((x.2.2,(0:Int),(0:Int),(0:Int),(0:Int))))=some (z,x1,x2,x3,e):=by
    have h0:(if decide ((j:Int)<(L.length:Int))=true then(vV s L (j:Int) (a,(e,())) (3:Int) m).bind λO=>some ((O.1,O.2,ps)) else some ((a,e,ps)))=some (a,e,ps):=by
     rw[GT M];split<;>rfl
    rw[h0,aOc];dsimp only;rw[aOd (show (!decide (e=0))=true by simpa using M),aOd uK];exact⟨_,_,_,_,rfl⟩
   obtain⟨z,x1,x2,x3,X⟩:=E;refine⟨(z,x1,x2,x3,e),?_⟩;rcases D with D|⟨rfl,G⟩
   .obtain⟨y,I⟩:=iw s F a';refine⟨([],y.1,y.2.1,y.2.2.1,e'),X,?_,.inr ⟨M,D⟩⟩
    dsimp only;rw[aOi (show¬(decide (e'=0)&&decide ((0:Int)<(ts.length:Int)))=true by simp [D]),aOc];dsimp only;rw[aOd (show (!decide (e'=0))=true by simpa using D),I,aOc]
   obtain⟨b2,k2⟩:=GU (ts:=ts) (n:=(s.length:Int)) (ns:=ns) (a:=a') 3;obtain⟨y,I⟩:=iw s F b2;have hd:0<ts.length:=by
    cases ts with
    |nil=>cases G
    |cons t r=>simp
   refine⟨([],y.1,y.2.1,y.2.2.1,3),X,?_,.inr ⟨M,show (3:Int)≠0 by decide⟩⟩
   dsimp only;rw[aOd (show (decide ((0:Int)=0)&&decide ((0:Int)<(ts.length:Int)))=true by simp;omega),k2,aOc,aOc];dsimp only;rw[aOd (show (!decide ((3:Int)=0))=true by decide),I,aOc]
 unfold PT PP PO PD;rw[aOd pQ,aOd pQ,aOc,aOc];exact⟨_,_,rfl,rfl,.inr ⟨show (6:Int)≠0 by decide,show (6:Int)≠0 by decide⟩⟩
def V0 (k:Int) (st:pJ):Bool:=
 if k=3 then(decide (st=[])||decide (st=[105,110,116,101,103,101,114]))||decide (st=[112,101,114,99,101,110,116])
 else if k=5 then IP st else if k=4\/k=6 then uT st else decide (st=[])
def yW (k:Int) (t n st:pJ) (cs:List rO) (ps:List qG):Bool:=
 if k=1 then(!decide (t=[]))&&decide (n=[])&&decide (st=[])&&cs.isEmpty&&ps.isEmpty
 else if k=10 then decide (t=[])&&decide (n=[])&&decide (st=[])&&cs.isEmpty&&ps.isEmpty
 else if (2<=k/\k<=9)\/k=11 then V0 k st&&uT n&&decide (t=[])&&(cs.isEmpty||decide (7<=k/\k<=9))&&(ps.isEmpty||decide (k=11))
 else false
def iy {α:Type}(l:List α):decide ((l.length:Int)=0)=l.isEmpty:=by cases l<;>simp<;>omega
def a4Z (k:Int):k=1\/k=2\/k=3\/k=4\/k=5\/k=6\/k=7\/k=8\/k=9\/k=10\/k=11\/(k≠1/\k≠2/\k≠3/\k≠4/\k≠5/\k≠6/\k≠7/\k≠8/\k≠9/\k≠10/\k≠11):=by omega
def aJo {k:Int}{t n st:pJ}{cs:List rO}{ps:List qG}(F:fit n) (E:fit st):T5 (k,(t,(n,(st,(cs,(ps,()))))))=some (yW k t n st cs ps):=by
 unfold T5 rD;dsimp only;rw[Q7 n F,Q7 st E,yv st E,iy,iy];unfold yW V0;rcases a4Z k with h|h|h|h|h|h|h|h|h|h|h|⟨U,R,Q,O,M,K,I,h8,G,D,j⟩
 all_goals first|(subst h;simp [Bool.and_assoc,Bool.and_comm,Bool.and_left_comm];done) |skip
 all_goals first|(subst h;simp [val]) |simp [val,U,R,Q,O,M,K,I,h8,G,D,j]
 all_goals first|(intro a b;omega) |(generalize uT n=x;generalize decide (t=[])=y;generalize decide (st=[])=z;cases x<;>cases y<;>cases z<;>rfl)
def aJp {k:Int}{t n st:pJ}{cs:List rO}{ps:List qG}(F:fit n) (E:fit st) (hk: ¬(7<=k/\k<=9)) (V:k≠11) (c:Bool):TN (k,(t,(n,(st,(cs,(ps,())))))) c=some (yW k t n st cs ps&& !(decide (k=10)&& !c)):=by
 unfold TN rD;dsimp only;rw[LD n F,LD st E,a32 st E,iy,iy];unfold yW V0;rcases a4Z k with h|h|h|h|h|h|h|h|h|h|h|⟨U,R,Q,O,M,K,I,h8,G,D,j⟩
 all_goals first|omega|(subst h;simp [val,Bool.and_assoc,Bool.and_comm,Bool.and_left_comm];done) |(subst h;simp [val]) |simp [val,U,R,Q,O,M,K,I,h8,G,D,j]
 all_goals first|(intro a b;omega) |(generalize uT n=x;generalize decide (t=[])=y;generalize decide (st=[])=z;cases x<;>cases y<;>cases z<;>rfl)
abbrev LO:pJ:=[111,116,104,101,114]
def wF:qG->Bool
 | .mk k _ _ _ _ _=>decide (k=1)
mutual
def BM (d:Nat) (c:Bool):qG->Bool
 | .mk k t n st cs ps=>(yW k t n st cs ps&& !(decide (k=10)&& !c))&&(if k=11 then decide (d<=8)&&tS (d+1) c false ps else if 7<=k/\k<=9 then decide (d<=8)&&(decide (cs.length<=20)&&(yJ k (d+1) (c|| !decide (k=9)) [] cs&&decide (LO∈cs.map (·.1)))) else true)
termination_by p=>SizeOf.sizeOf p
def tS (d:Nat) (c b:Bool):List qG->Bool
 |[]=>true
 |p::l=> !(b&&wF p)&&(BM d c p&&tS d c (wF p) l)
termination_by l=>SizeOf.sizeOf l
def yJ (k:Int) (d:Nat) (c:Bool) (keys:pK):List (pJ×List qG×Unit)->Bool
 |[]=>true
 |(key,ps,_)::l=>(tN k key&& !decide (key∈keys))&&(tS d c false ps&&yJ k d c (keys++[key]) l)
termination_by l=>SizeOf.sizeOf l
end
def iz {d:Nat}{c:Bool}{k:Int}{t n st:pJ}{cs:List rO}{ps:List qG}:BM d c (.mk k t n st cs ps)=((yW k t n st cs ps&& !(decide (k=10)&& !c))&&(if k=11 then decide (d<=8)&&tS (d+1) c false ps else if 7<=k/\k<=9 then decide (d<=8)&&(decide (cs.length<=20)&&(yJ k (d+1) (c|| !decide (k=9)) [] cs&&decide (LO∈cs.map (·.1)))) else true)):=by rw[BM]
def a40 {d:Nat}{c b:Bool}:tS d c b []=true:=by rw[tS]
def YA {d:Nat}{c b:Bool}{p:qG}{l:List qG}:tS d c b (p::l)=(!(b&&wF p)&&(BM d c p&&tS d c (wF p) l)):=by rw[tS]
def a41 {k:Int}{d:Nat}{c:Bool}{keys:List rW}:yJ k d c keys []=true:=by rw[yJ]
def Ac {k:Int}{d:Nat}{c:Bool}{keys:List rW}{x:rO}{l:List rO}:yJ k d c keys (x::l)=((tN k x.1&& !decide (x.1∈keys))&&(tS d c false x.2.1&&yJ k d c (keys++[x.1]) l)):=by obtain⟨a,b,u⟩:=x;rw[yJ]
def AB (l:List qG):Nat->Bool
 |0=>false
 |j+1=>match l[j]? with
  |some p=>wF p
  |none=>false
def Ad {l:List qG}{i:Nat}(h:i<l.length):AB l (i+1)=wF l[i]:=by
 show (match l[i]? with|some p=>wF p|none=>false)=_
 rw[aOn h]
def aJq (p:qG):decide ((qG.un p).1=(1:Int))=wF p:=by cases p;rfl
def YB {l:List qG}{i:Nat}(h:i<l.length):qG.un (qI .part l (i:Int))=qG.un l[i]:=by rw[uX (t:= .part) h]
def a42 {l:List qG}{i:Nat}(h:i<l.length):((((0:Int)<(i:Int))&&wF l[i])&&decide ((qG.un (qI .part l ((i:Int)-1))).1=(1:Int)))=(AB l i&&wF l[i]):=by
 cases i with
 |zero=>rfl
 |succ i=>
  rw[show (((i+1:Nat):Int)-1)=(i:Int) by omega,YB pN,aJq,Ad pN];cases wF l[i+1]<;>cases wF l[i]<;>simp<;>omega
section
variable {l:List qG}{G:List qG->Int->Bool->Option Bool}{i:Nat}{k:Int}{t n st:pJ}{cs:List rO}{ps:List qG}
def a43 (hi:i<l.length) (E:l[i]= .mk k t n st cs ps) {d:Nat}{c:Bool}(O:d<=100) (D: ∀x∈cs,∀c:Bool,G x.2.1 ((d:Int)+1) c=some (tS (d+1) c false x.2.1)) (hk:7<=k/\k<=9) (I:wC cs<=1000000000):
  ∀(m j:Nat) (keys:List rW),j+m=cs.length->keys.length<=j->rC (ID l (d:Int) c (i:Int) G) (keys,(j:Int))=some (if yJ k (d+1) (c|| !decide (k=9)) keys (cs.drop j)=true then .inl (keys++(cs.drop j).map (·.1)) else .inr (.inr (.inr false)))
 |0,j,keys,M,F=>by
  have:j=cs.length:=by omega
  subst this;rw[aOQ,sZ,a41,aOd rfl];unfold ID;dsimp only;rw[xI hi E];dsimp only;rw[aOi (sL _)];simp
 |m+1,j,keys,M,F=>by
  have z:j<cs.length:=by omega
  have Q:=yI (aOm z);have R:=BL cs;have e7:(c||((k=(7:Int))||(k=(8:Int))))=(c|| !decide (k=9)):=by
   congr 1;rw[aOE];simp;omega
  rw[aOx z,Ac,sZ];have K:ID l (d:Int) c (i:Int) G (keys,(j:Int))=if ((tN k cs[j].1&& !decide (cs[j].1∈keys))&&tS (d+1) (c|| !decide (k=9)) false cs[j].2.1)=true then some (.inl (keys++[cs[j].1],(j:Int)+1)) else some (.inr (.inr (.inr (.inr false)))):=by
   unfold ID;dsimp only;rw[xI hi E];dsimp only;rw[uX (t:=rV) z,aOd (sG z),aOd (rP z),gz _ _ aQT,aOc,UR _ _ pN,aOd (λ_=>uL _),uE,e7,D _ (aOm z),aOd (λ_=>by unfold qH;omega),aOd (λ_=>uL _),uE,aOd (show (keys.length+([(cs[j]).1]:List rW).length)*16<=140737488355328 by simp only[aOe,aOh];omega),aOd (s5 pN)];cases tN k cs[j].1<;>cases decide (cs[j].1∈keys)<;>cases tS (d+1) (c|| !decide (k=9)) false cs[j].2.1<;>rfl
  rw[K,<-Bool.and_assoc];cases U:((tN k cs[j].1&& !decide (cs[j].1∈keys))&&tS (d+1) (c|| !decide (k=9)) false cs[j].2.1) with
  |false=>rfl
  |true=>
   rw[aOd rfl,aOc,Bool.true_and];dsimp only;rw[show ((j:Int)+1)=((j+1:Nat):Int) by omega,a43 hi E O D hk I m (j+1) (keys++[cs[j].1]) pN aQM,aO7,aOk];rfl
def aJr (hi:i<l.length) (I:l[i]= .mk k t n st cs ps) {d:Nat}{c:Bool}(hd:d<=100) (R:G ps ((d:Int)+1) c=some (tS (d+1) c false ps)) (Z: ∀x∈cs,∀c:Bool,G x.2.1 ((d:Int)+1) c=some (tS (d+1) c false x.2.1)) (hw:wL l<=1000000000):
  IE l (d:Int) c G (i:Int)=if (!(AB l i&&wF l[i])&&BM d c l[i])=true then some (.inl ((i:Int)+1)) else some (.inr (.inr false)):=by
 have hj:=CC l;have O:=yV (aOm hi);rw[I,vS] at O;have hg:=BL cs;have Q:=a42 hi;have V:decide (k=1)=wF l[i]:=by rw[I];rfl
 unfold IE;rw[xI hi I];dsimp only;rw[V,Q,aOd (sG hi),aOd (rP hi),aOd (λh=>by unfold qH;omega),aOd (λh=>by simp at h;omega)];cases hh:(AB l i&&wF l[i]) with
 |true=>rfl
 |false=>
  rw[aOi (show¬(false=true) by simp),Bool.not_false,Bool.true_and,I,iz];have E:fit n:=by unfold fit;omega
  have Y:fit st:=by unfold fit;omega
  have K:decide ((8:Int)<(d:Int))= !decide (d<=8):=by rw[aOE];simp;omega
  by_cases k11:k=11
  .subst k11;have F:yW 11 t n st cs ps=(decide (st=[])&&uT n&&decide (t=[])&&cs.isEmpty):=by unfold yW V0;simp
   have hc:decide ((0:Int)<(cs.length:Int))= !cs.isEmpty:=by cases cs<;>simp<;>omega
   rw[aOd (xH rfl),LD n E,uE,aOd (λ_=>uL _),aOd (λ_=>by unfold qH;omega),R,uE,aOd (λ_=>uL _),aOd (s5 pN),F,K,hc,aOd rfl];have e10:decide ((11:Int)=10)=false:=by decide
   rw[e10];generalize decide (d<=8)=x1;generalize uT n=x2;generalize decide (t=[])=x3;generalize decide (st=[])=x4;generalize cs.isEmpty=x5;generalize tS (d+1) c false ps=x6;cases x1<;>cases x2<;>cases x3<;>cases x4<;>cases x5<;>cases x6<;>rfl
  rw[aOi (show¬decide (k=11)=true by simpa using k11),aOi k11];by_cases j:7<=k/\k<=9
  .have e79:(((k=(7:Int))||(k=(8:Int)))||(k=(9:Int)))=true:=by simp;omega
   have e10:decide (k=10)=false:=DI pN;have F:yW k t n st cs ps=(decide (st=[])&&uT n&&decide (t=[])&&ps.isEmpty):=by
    unfold yW V0;rw[aOi pN,aOi pN,aOd pN,aOi pN,aOi pN,aOi pN,xH j];simp [k11]
   have U:decide ((0:Int)<(ps.length:Int))= !ps.isEmpty:=by cases ps<;>simp<;>omega
   have he:decide ((cs.length:Int)<1)=cs.isEmpty:=by cases cs<;>simp<;>omega
   have M:decide ((20:Int)<(cs.length:Int))= !decide (cs.length<=20):=by rw[aOE];simp;omega
   have D:=a43 hi I hd Z j pN cs.length 0 [] (c:=c) pN pP;rw[aOP,List.nil_append] at D;rw[aOd e79,LD n E,uE,aOd (λ_=>uL _),aOd j,e10,F,K,U,he,M,show rC (ID l (d:Int) c (i:Int) G) (([]:pK),(0:Int))=_ from D];have X:=UR (cs.map (·.1)) LO (by rw[aPa];omega);have z:cs.isEmpty=true->decide (LO∈cs.map (·.1))=false:=by cases cs<;>simp
   cases hz:yJ k (d+1) (c|| !decide (k=9)) [] cs with
   |false=>
    rw[aOi (show¬(false=true) by simp)];unfold sK;rw[aOc];generalize decide (d<=8)=x1;generalize uT n=x2;generalize decide (t=[])=x3;generalize decide (st=[])=x4;generalize ps.isEmpty=x5;generalize decide (cs.length<=20)=x6;cases x1<;>cases x2<;>cases x3<;>cases x4<;>cases x5<;>cases x6<;>cases cs.isEmpty<;>rfl
   |true=>
    rw[aOd rfl];unfold sK;rw[aOc];dsimp only;rw[X,aOc,aOd (s5 pN)];revert z;generalize decide (d<=8)=x1;generalize uT n=x2;generalize decide (t=[])=x3;generalize decide (st=[])=x4;generalize ps.isEmpty=x5;generalize decide (cs.length<=20)=x6;generalize decide (LO∈cs.map (·.1))=x7;generalize cs.isEmpty=x8;intro z;cases x8 with
    |true=>
     rw[z rfl];cases x1<;>cases x2<;>cases x3<;>cases x4<;>cases x5<;>cases x6<;>rfl
    |false=>cases x1<;>cases x2<;>cases x3<;>cases x4<;>cases x5<;>cases x6<;>cases x7<;>rfl
  have e79: ¬(((k=(7:Int))||(k=(8:Int)))||(k=(9:Int)))=true:=by simp;omega
  rw[aOi e79,aOi j,aJp E Y j k11,aOc,aOd (s5 pN),Bool.and_true];cases(yW k t n st cs ps&& !(decide (k=10)&& !c))<;>rfl
end
def a44 {l:List qG}{G:List qG->Int->Bool->Option Bool}{d:Nat}{c:Bool}(D: ∀(i:Nat) (h:i<l.length),IE l (d:Int) c G (i:Int)=if (!(AB l i&&wF l[i])&&BM d c l[i])=true then some (.inl ((i:Int)+1)) else some (.inr (.inr false))):
  ∀(m j:Nat),j+m=l.length->sK (rC (IE l (d:Int) c G) (j:Int)) (λ_=>some true)=some (tS d c (AB l j) (l.drop j))
 |0,j,E=>by
  have:j=l.length:=by omega
  subst this;rw[aOQ,sZ,a40];unfold IE;rw[aOi (sL _)];rfl
 |m+1,j,E=>by
  have z:j<l.length:=by omega
  rw[aOx z,YA,sZ,D j z,<-Bool.and_assoc];cases F:(!(AB l j&&wF l[j])&&BM d c l[j]) with
  |false=>rfl
  |true=>
   rw[aOd rfl,aOc,Bool.true_and];dsimp only;rw[show ((j:Int)+1)=((j+1:Nat):Int) by omega,a44 D m (j+1) pN,Ad z]
def a45: ∀(k N:Nat) (ps:List qG),sI ps<=k->k<=99->k+1<=N->wL ps<=1000000000->∀(d:Nat) (c:Bool),d+k<=100->PH N ps (d:Int) c=some (tS d c false ps)
 |k,N,ps,I,hk,O,F,d,c,M=>by
  obtain⟨N,rfl⟩: ∃k,N=k+1:=⟨N-1,pN⟩;show TS (PH N) ps (d:Int) c=_;unfold TS;have:=a44 (l:=ps) (G:=PH N) (d:=d) (c:=c) (λi h=>by
   have j:=B1 (aOm h);have D:=yV (aOm h);cases z:ps[i] with
   |mk k' t n st cs ps'=>
    rw[z] at j;have⟨o1,o2,o3⟩:=DK (aOU j I) hk;rw[z,vS] at D;have ih: ∀qs:List qG,sI qs+1<=k->wL qs<=1000000000->∀c:Bool,PH N qs ((d:Int)+1) c=some (tS (d+1) c false qs):=λqs Q K c=>by
     cases k with
     |zero=>omega
     |succ k=>exact a45 k N qs pN pN pN K (d+1) c pN
    rw[<-z];exact aJr h z pN (ih ps' o3 pN c) (λx E=>ih x.2.1 (by have:=CB E;omega) (by have:=yI E;omega)) F) ps.length 0 pN
  rw[aOP] at this;exact this
def a47 {ps:List qG}(z:sI ps<=99) (j:wL ps<=1000000000) (c:Bool):TT ps 1 c=some (tS 1 c false ps):=by rw[aFY];exact a45 99 1000 ps z pN pN j 1 c pN
end Go.Proofs.YtedimeeleabhnaaGreatDoor
