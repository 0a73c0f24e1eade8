import Derived.Test.YtedimeeleabhnaaGreatDoorA04
set_option linter.all false
set_option maxRecDepth 100000
set_option maxHeartbeats 4000000
namespace Go.Proofs.YtedimeeleabhnaaGreatDoor
open Vc
def aHc (s:pI) (D:fit s): ∃x y,T5 s=some (UE s,x,y):=by
 unfold T5;rw[a3b s D,aM3];have h:=xy s;have F:=KW s;unfold UE;by_cases z:uK s=s.length
 .rw[aN6 z] at h;obtain⟨u,j⟩:=aNT.1 h;rw[aM9 pP];have:=ya s D s.length 0 [] u pM pM pO (by rw[aNG];exact j);rw[show ((0:Nat):Int)=0 from rfl] at this;unfold rA;rw[this,aM3,List.nil_append,PI,j];exact⟨0,0,rfl⟩
 rw[decide_eq_false z] at h;have j:vU s=none:=by
  cases E:vU s with
  |none=>rfl
  |some u=>rw[E] at h;cases h
 rw[aM4 pP,j];exact⟨_,_,rfl⟩
def yb (s:pI) (M:fit s): ∀(n j:Nat) (b:pT),s.length<=j+n->j<=s.length->b.length<=j->
  ∃w,rC (JY s) (b,(j:Int))=some w/\(match vU (s.drop j) with|some u=>w= .inl (b++tK u) |none=> ∃a,w= .inr ([],a,3))
 |n,j,b,V,X,hb=>by
  unfold fit at M;by_cases z:j<s.length
  .cases n with
   |zero=>omega
   |succ n=>
    rw[a3x z,tA];unfold JY;simp only;have K:=z7 z 92 pN;rw[show ((92:Nat):Int)=92 from rfl,show UInt8.ofNat 92=92 from rfl] at K;have Q: ∀c:UInt8,(((((decide ((c.toNat:Int)=123)||decide ((c.toNat:Int)=125))||decide ((c.toNat:Int)=60))||decide ((c.toNat:Int)=62))||decide ((c.toNat:Int)=35))||decide ((c.toNat:Int)=92))=uE c:=λ_=>rfl
    have F:(((((decide ((s[j].toNat:Int)=123)||decide ((s[j].toNat:Int)=125))||decide ((s[j].toNat:Int)=60))||decide ((s[j].toNat:Int)=62))||decide ((s[j].toNat:Int)=35))||decide (s[j]=92))=uE s[j]:=by rw[<-fy];rfl
    have plain:uE s[j]=true->¬(s[j]=92/\DB (s.drop (j+1))=true)->∃w:pT⊕(pI×Int×Int),some (.inr ([],(j:Int),3))=some w/\(match (if uE s[j]=true then(if s[j]=92/\DB (s.drop (j+1))=true then(vU (s.drop (j+2))).map (s.getD (j+1) 0:: ·) else none) else(vU (s.drop (j+1))).map (s[j]:: ·)) with|some u=>w= .inl (b++tK u) |none=> ∃a,w= .inr ([],a,3)):=λE G=>by
     rw[aM4 E,aM9 G];exact⟨_,rfl,_,rfl⟩
    have go:uE s[j]=false->∃w,rC (JY s) (b++[(s[j].toNat:Int)],((j:Int)+1))=some w/\(match (if uE s[j]=true then(if s[j]=92/\DB (s.drop (j+1))=true then(vU (s.drop (j+2))).map (s.getD (j+1) 0:: ·) else none) else(vU (s.drop (j+1))).map (s[j]:: ·)) with|some u=>w= .inl (b++tK u) |none=> ∃a,w= .inr ([],a,3)):=λE=>by
     obtain⟨w,w1,w2⟩:=yb s M n (j+1) (b++[(s[j].toNat:Int)]) pM pM aPC;refine⟨w,by rw[show ((j:Int)+1)=((j+1:Nat):Int) by omega];exact w1,?_⟩;rw[E,aM9 pO];cases D:vU (s.drop (j+1)) with
     |none=>rw[D] at w2;exact w2
     |some u=>rw[D] at w2;show w=_;rw[show w=_ from w2,aNd];rfl
    rw[aM4 (sI z),aM4 (rO z),aM4 (λ_=>s7 pM),aM4 (λ_=>s7 pM),K];by_cases G:j+1<s.length
    .have I:=wF G;rw[Int.natCast_add,Int.natCast_one] at I;have O:decide ((j:Int)+1<(s.length:Int))=true:=by simp;omega
     rw[aM4 (λ_=>⟨pM,pM⟩),I,Q,O,Bool.and_true];by_cases D:s[j]=92/\DB (s.drop (j+1))=true
     .have U:uE s[j+1]=true:=by rw[<-gc G];exact D.2
      have R:uE s[j]=true:=by rw[D.1];rfl
      rw[aM4 (by rw[aN6 D.1,U];rfl),aM4 (s7 pM),aM4 ⟨pM,pM⟩,aM4 aPD,aM4 aPv,aM3,aM4 R,aM4 D];obtain⟨w,w1,w2⟩:=yb s M n (j+2) (b++[(s[j+1].toNat:Int)]) pM pM aPC;refine⟨w,by rw[show ((j:Int)+1+1)=((j+2:Nat):Int) by omega];exact w1,?_⟩;have e:s.getD (j+1) 0=s[j+1]:=by rw[aNy,aNe G];rfl
      rw[e];cases D:vU (s.drop (j+2)) with
      |none=>rw[D] at w2;exact w2
      |some u=>rw[D] at w2;show w=_;rw[show w=_ from w2,aNd];rfl
     rw[aM9 (by
      intro h;rw[aNf,aNj] at h;exact D ⟨h.1,by rw[gc G];exact h.2⟩),aM4 (rO z),wF z,F]
     cases E:uE s[j] with
     |true=>rw[aM4 rfl,aM3];have:=plain E D;rw[E] at this;exact this
     |false=>rw[aM9 pO,aM4 (rO z),aM4 aPD,aM4 (s7 pM),aM3];have:=go E;rw[E] at this;exact this
    have O:decide ((j:Int)+1<(s.length:Int))=false:=by simp;omega
    have D: ¬(s[j]=92/\DB (s.drop (j+1))=true):=λh=>by rw[gd G] at h;cases h.2
    rw[O,Bool.and_false,aM4 (λh=>by simp at h),aOs,aM9 pO,aM4 (rO z),wF z,F];cases E:uE s[j] with
    |true=>rw[aM4 rfl,aM3];have:=plain E D;rw[E] at this;exact this
    |false=>rw[aM9 pO,aM4 (rO z),aM4 aPD,aM4 (s7 pM),aM3];have:=go E;rw[E] at this;exact this
  have:j=s.length:=by omega
  subst this;refine⟨.inl b,?_,?_⟩
  .rw[tA];unfold JY;simp only;rw[aM9 (sO _)];rfl
  rw[aNH,vU];show _=_;rw[show tK []=[] from rfl,List.append_nil]
def aHd (s:pI) (z:fit s): ∃x y,SI s=some (UE s,x,y):=by
 unfold SI;obtain⟨w,w1,w2⟩:=yb s z s.length 0 [] pM pM pO;rw[aNG] at w2;rw[show ((0:Nat):Int)=0 from rfl] at w1;rw[w1];unfold UE;cases j:vU s with
 |some u=>
  rw[j] at w2;rw[show w=_ from w2];refine⟨0,0,?_⟩;show some (tQ ([]++tK u),(0:Int),(0:Int))=_;rw[List.nil_append,PI];rfl
 |none=>
  rw[j] at w2;obtain⟨a,rfl⟩:=w2;exact⟨_,_,rfl⟩
abbrev rU:Type:=pI
def s5 (ns:List rU):Nm:=ns.map λn=>(n,true)
def wJ (ns:List rU) (t:rU):List rU:=if t∈ns then ns else ns++[t]
theorem KY (t:rU): ∀ns:List rU,sE .str .bool (s5 ns) t=decide (t∈ns)
 |[]=>rfl
 |n::ns=>by
  have ih:=KY t ns;show (if xY .str t n=true then true else sE .str .bool (s5 ns) t)=_;rw[ih];have:xY .str t n=decide (t=n):=rfl;rw[this];by_cases h:t=n
  .subst h;simp
  rw[aM9 aO4,aNv];simp [h]
theorem PS (t:rU): ∀ns:List rU,rL .str .bool t true (s5 ns)=s5 (wJ ns t)
 |[]=>rfl
 |n::ns=>by
  have ih:=PS t ns;show (if xY .str t n=true then(t,true)::s5 ns else(n,true)::rL .str .bool t true (s5 ns))=_;rw[ih];have:xY .str t n=decide (t=n):=rfl;rw[this];unfold wJ;by_cases h:t=n
  .subst h;simp [s5]
  rw[aM9 aO4];by_cases j:t∈ns
  .rw[aM4 j,aM4 (aNp _ j)];rfl
  rw[aM9 j,aM9 (by simp [h,j])];rfl
theorem a3y (ns:List rU):(s5 ns).length=ns.length:=aN9 _
theorem yc (ns:List rU) (t:rU):(wJ ns t).length<=ns.length+1:=by
 unfold wJ;split
 .omega
 simp
structure CA (L:List rQ):Prop where
 len:L.length<=4000
 fit: ∀t∈L,Go.Proofs.YtedimeeleabhnaaGreatDoor.fit t.2.1
theorem CA.mem {L:List rQ}{i:Nat}{t:rQ}{r:List rQ}(h:CA L) (j:L.drop i=t::r):Go.Proofs.YtedimeeleabhnaaGreatDoor.fit t.2.1:=h.fit t (List.mem_of_mem_drop (by rw[j];exact aNq))
section
variable {s:pI}{L:List rQ}(hT:CA L)
include hT
theorem aHe {i:Nat}{n a a':Int}{ns:List rU}(V:ns.length<=4000):
  (∃t r,L.drop i=t::r/\uO t.2.1=true/\K4 s L (i:Int) (a,(0,())) (s5 ns)=some (t.2.1,((i+1:Nat):Int),a,0,s5 (wJ ns t.2.1))/\ON (L.drop i,(n,(ns,(a',(0,())))))=some (t.2.1,r,wJ ns t.2.1,a',0))\/
  (∃a2 e2,e2≠0/\K4 s L (i:Int) (a,(0,())) (s5 ns)=some ([],(i:Int),a2,e2,s5 ns)/\∃y ns2 a3 e3,e3≠0/\ON (L.drop i,(n,(ns,(a',(0,())))))=some (y,L.drop i,ns2,a3,e3)):=by
 have hf:fit (tV (L.drop i)):=by
  cases z:L.drop i with
  |nil=>unfold fit tV;simp
  |cons t r=>exact hT.mem z
 obtain⟨x,y,hp⟩:=wI (ts:=L.drop i) (n:=n) (ns:=ns) (a:=a') (e:=0);unfold K4 ON;rw[vT,aM3,hp,aM3,aM3];dsimp only;rw[KV _ hf,aM4 (show _->(some (uO (tV (L.drop i)))).isSome=true from λ_=>uH _),uB,UB _ _ pM,aM4 (show _->(some (decide (tV (L.drop i)∈ns))).isSome=true from λ_=>uH _),uB];by_cases I:s4 (L.drop i)=9
 .obtain⟨t,r,z,E⟩:=hd9 I;obtain⟨hi,U⟩:=vH z;have Q:tV (L.drop i)=t.2.1:=by rw[z];rfl
  have G:=hT.mem z;rw[I,aM4 (λ_=>rO hi),A1 hi,U hi,PL _ G,aM4 (λ_=>uH _),uB,aM4 (λ_=>rO hi),KY,a3y,Q];cases D:uO t.2.1 with
  |false=>
   refine .inr ?_;obtain⟨a2,M⟩:=xx (s:=s) (i:=i) (a:=a) (m:=s5 ns) hT.fit (.inr (by rw[Q];exact D));obtain⟨a3,K⟩:=UD (ts:=L.drop i) (n:=n) (ns:=ns) (a:=a') (b:=false) (.inr rfl);refine⟨a2,3,pN,?_,[],ns,a3,3,pN,?_⟩
   .unfold rA;rw[aM9 pO,aM3];dsimp only;rw[M];rfl
   .rw[aM9 pO,aM3,K];rfl
  |true=>
   by_cases j:t.2.1∈ns
   .refine .inl ⟨t,r,z,D,?_,?_⟩
    .have F:t.2.1≠[]:=λh=>by rw[h] at D;cases D
     unfold rA;rw[aM9 aPw,aM3];dsimp only;rw[xw z hT.len E G D,aM3];dsimp only;rw[aM4 aPd,PS]
    rw[aM9 aPw,aM3,XU z E];unfold wJ;rw[aM4 j];rfl
   by_cases R:20<=ns.length
   .refine .inr ?_;obtain⟨a2,M⟩:=BH (s:=s) (L:=L) (i:=i) (a:=a) (m:=s5 ns) 6;obtain⟨a3,K⟩:=GI (ts:=L.drop i) (n:=n) (ns:=ns) (a:=a') 6;refine⟨a2,6,pN,?_,[],ns++[t.2.1],a3,6,pN,?_⟩
    .unfold rA;rw[aM4 (by simp [j];omega),M,aM3];dsimp only;rw[aM3];dsimp only;rw[a3v pN];rfl
    unfold rA;rw[aM4 aPw,aM4 pP,K,aM3];dsimp only;rw[aM3];dsimp only;rw[aM4 aPD,aM3,gp pN];rfl
   refine .inl ⟨t,r,z,D,?_,?_⟩
   .have F:t.2.1≠[]:=λh=>by rw[h] at D;cases D
    unfold rA;rw[aM9 (by simp [j];omega),aM3];dsimp only;rw[xw z hT.len E G D,aM3];dsimp only;rw[aM4 aPd,PS]
   unfold rA;rw[aM4 aPw,aM9 pP,aM3];dsimp only;rw[aM4 aPD,aM3,XU z E];unfold wJ;rw[aM9 j];rfl
 refine .inr ?_;have O:decide (s4 (L.drop i)=9)=false:=by simpa using I
 obtain⟨a2,M⟩:=xx (s:=s) (i:=i) (a:=a) (m:=s5 ns) hT.fit (.inl I);obtain⟨a3,K⟩:=UD (ts:=L.drop i) (n:=n) (ns:=ns) (a:=a') (b:=uO (tV (L.drop i))) (.inl I);refine⟨a2,3,pN,?_,[],ns,a3,3,pN,?_⟩
 .rw[O,aM4 (λh=>by simp at h),aM4 (λh=>by simp at h),aM4 (λh=>by simp at h)];unfold rA;rw[aM9 pO,aM3];dsimp only;rw[M];rfl
 rw[O,aM9 pO,aM3,K];rfl
end
abbrev rM:Type:=pI×List qF×Unit
mutual
def wP:qF->Nat
  | .mk _ t n st cs ps=>64+t.length+n.length+st.length+wC cs+wL ps
termination_by p=>SizeOf.sizeOf p
def wL:List qF->Nat
  |[]=>0
  |p::l=>wP p+wL l
termination_by l=>SizeOf.sizeOf l
def wC:List (pI×List qF×Unit)->Nat
  |[]=>0
  |(k,ps,_)::l=>64+k.length+wL ps+wC l
termination_by l=>SizeOf.sizeOf l
end
def zH (k:Int) (st:pI) (cs:List (pI×List qF×Unit)):Bool:=decide (k=1)||decide (k=10)||decide (k=11)||(decide (3<=k)&&decide (k<=9))||(decide (k=2)&&decide (st=[])&&cs.isEmpty)
mutual
def EL:qF->Nat
  | .mk k _ _ st cs ps=>(if zH k st cs=true then 1 else 100)+max (zI cs) (sG ps)
termination_by p=>SizeOf.sizeOf p
def sG:List qF->Nat
  |[]=>0
  |p::l=>max (EL p) (sG l)
termination_by l=>SizeOf.sizeOf l
def zI:List (pI×List qF×Unit)->Nat
  |[]=>0
  |(_,ps,_)::l=>max (sG ps) (zI l)
termination_by l=>SizeOf.sizeOf l
end
theorem BI:wL []=0:=by rw[wL]
theorem CB (p:qF) (l:List qF):wL (p::l)=wP p+wL l:=by rw[wL]
theorem EM:wC []=0:=by rw[wC]
theorem KZ (c:rM) (l:List rM):wC (c::l)=64+c.1.length+wL c.2.1+wC l:=by obtain⟨k,ps,u⟩:=c;rw[wC]
theorem vN (k:Int) (t n st:pI) (cs:List rM) (ps:List qF):wP (.mk k t n st cs ps)=64+t.length+n.length+st.length+wC cs+wL ps:=by rw[wP]
theorem FF:sG []=0:=by rw[sG]
theorem IE (p:qF) (l:List qF):sG (p::l)=max (EL p) (sG l):=by rw[sG]
theorem IF:zI []=0:=by rw[zI]
theorem gq (c:rM) (l:List rM):zI (c::l)=max (sG c.2.1) (zI l):=by obtain⟨k,ps,u⟩:=c;rw[zI]
theorem XV (k:Int) (t n st:pI) (cs:List rM) (ps:List qF):EL (.mk k t n st cs ps)=(if zH k st cs=true then 1 else 100)+max (zI cs) (sG ps):=by rw[EL]
theorem gr (p:qF): ∀l:List qF,wL (l++[p])=wL l+wP p
  |[]=>by rw[List.nil_append,CB,BI];omega
  |q::l=>by rw[List.cons_append,CB,CB,gr p l];omega
theorem a3z (p:rM): ∀l:List rM,wC (l++[p])=wC l+(64+p.1.length+wL p.2.1)
  |[]=>by rw[List.nil_append,KZ,EM];omega
  |q::l=>by rw[List.cons_append,KZ,KZ,a3z p l];omega
theorem yd (p:qF): ∀l:List qF,sG (l++[p])=max (sG l) (EL p)
  |[]=>by rw[List.nil_append,IE,FF];omega
  |q::l=>by rw[List.cons_append,IE,IE,yd p l];omega
theorem a3A (p:rM): ∀l:List rM,zI (l++[p])=max (zI l) (sG p.2.1)
  |[]=>by rw[List.nil_append,gq,IF];omega
  |q::l=>by rw[List.cons_append,gq,gq,a3A p l];omega
def tw:List rQ->Nat
  |[]=>0
  |t::l=>t.2.1.length+256+tw l
theorem AQ {L:List rQ}{i:Nat}{t:rQ}{r:List rQ}(h:L.drop i=t::r):tw (L.drop i)=t.2.1.length+256+tw (L.drop (i+1)):=by
  have:L.drop (i+1)=r:=by
    rw[<-aOa,h];rfl
  rw[h,this,tw]
theorem AR {L:List rQ}{i:Nat}{t:rQ}{r:List rQ}(h:L.drop i=t::r):L.drop (i+1)=r:=by
  rw[<-aOa,h];rfl
abbrev IG:Type:=pI->List rQ->Int->pQ->Int->Bool->Nm->Option (List qF×Int×Int×Int×Nm)
abbrev GJ:Type:=List rQ×(Int×(List rU×pQ))
abbrev FG:Type:=GJ->Int->Bool->Option (List qF×List rQ×List rU×Int×Int)
structure DE (s:pI) (L:List rQ) (n:Int) (PM:IG) (RM:FG):Prop where
  p: ∀(i:Nat) a e dd c m,e≠0->PM s L (i:Int) (a,(e,())) dd c m=some ([],(i:Int),a,e,m)
  r: ∀ts ns a e dd c,e≠0->RM (ts,(n,(ns,(a,(e,()))))) dd c=some ([],ts,ns,a,e)
def HB (L:List rQ) (i d:Nat) (p:List qF×Int×Int×Int×Nm) (q:List qF×List rQ×List rU×Int×Int):Prop:=
  ∃(ps:List qF) (j:Nat) (ns:List rU) (a a':Int),p=(ps,(j:Int),a,0,s5 ns)/\q=(ps,L.drop j,ns,a',0)/\i<=j/\j<=L.length/\ns.length<=j/\wL ps+tw (L.drop j)<=tw (L.drop i)/\sG ps+d<=10
def ye (p:List qF×Int×Int×Int×Nm) (q:List qF×List rQ×List rU×Int×Int):Prop:=
  (∃(ps:List qF) (j:Nat) (a e:Int) (m:Nm),p=(ps,(j:Int),a,e,m)/\e≠0)/\∃(ps:List qF) (ts:List rQ) (ns:List rU) (a e:Int),q=(ps,ts,ns,a,e)/\(e≠0\/e=0/\s4 ts=4)
def GK (s:pI) (L:List rQ) (n:Int) (PM:IG) (RM:FG) (d:Nat):Prop:=
  ∀(i:Nat) (ns:List rU) (a a':Int) (c:Bool),i<=L.length->ns.length<=i->∃p q,PM s L (i:Int) (a,(0,())) ((d:Int)-1) c (s5 ns)=some p/\RM (L.drop i,(n,(ns,(a',(0,()))))) (d:Int) c=some q/\(HB L i d p q\/ye p q)
abbrev yf:Type:=List rM×Bool×Int×Int×Int×Nm×Nm
abbrev XW:Type:=List rM×Int×Int×Int×Nm×Nm
noncomputable def UF (PM:IG) (s:pI) (L:List rQ) (kd dd:Int) (c:Bool) (cs:List rM) (j:Int) (m seen:Nm) (x:Int×Int):Option (yf⊕XW):=
  (EH s L j (x.1,(x.2,())) kd m).bind λr1=>
  (sT s L r1.2.1 (r1.2.2.1,(r1.2.2.2,())) (2:Int) m).bind λr2=>
  (PM s L r2.2.1 (r2.2.2.1,(r2.2.2.2,())) dd (c||(!decide (kd=(9:Int)))) m).bind λr3=>
  (sT s L r3.2.1 (r3.2.2.1,(r3.2.2.2.1,())) (3:Int) r3.2.2.2.2).bind λr4=>
  if (cs.length+([(r1.1,(r3.1,()))]:List rM).length)*40<=140737488355328 then
    some (.inl ((cs++([(r1.1,(r3.1,()))]:List rM)),false,r4.2.1,r4.2.2.1,r4.2.2.2,r3.2.2.2.2,(rL .str .bool r1.1 true seen)))
  else none
abbrev GM:Type:=List rU×List rQ×List rU×Int×Int×List rM
noncomputable def IH (RM:FG) (n:Int) (dd:Int) (c:Bool) (kb:Bool) (keys:List rU) (ts:List rQ) (ns:List rU) (cs:List rM) (x:Int×Int):Option (GM⊕GM):=
  (vM (ts,(n,(ns,(x.1,(x.2,()))))) kb).bind λr1=>
  if (keys.length+([r1.1]:pJ).length)*16<=140737488355328 then
    (uD (r1.2.1,(n,(ns,(r1.2.2.1,(r1.2.2.2,()))))) (2:Int)).bind λr2=>
    if qG (dd+(1:Int)) then
      (RM (r2.2.1,(n,(ns,(r2.2.2.1,(r2.2.2.2,()))))) (dd+(1:Int)) c).bind λr3=>
      (uD (r3.2.1,(n,(r3.2.2.1,(r3.2.2.2.1,(r3.2.2.2.2,()))))) (3:Int)).bind λr4=>
      if (cs.length+([(r1.1,(r3.1,()))]:List rM).length)*40<=140737488355328 then
        some (.inl ((keys++([r1.1]:pJ)),r4.2.1,r3.2.2.1,r4.2.2.1,r4.2.2.2,(cs++([(r1.1,(r3.1,()))]:List rM))))
      else none
    else none
  else none
section
variable {s:pI}{L:List rQ}(hT:CA L) {n:Int}{PM:IG}{RM:FG}
include hT
def DF (kd:Int) (len:Nat) (seen:List rU) (ts:List rQ):Int:=
  if s4 ts=9/\tM kd (tV ts)=true then(if 20<=len then 6 else if tV ts∈seen then 9 else 0) else 0
theorem XX (i:Nat):fit (tV (L.drop i)):=by
  cases j:L.drop i with
  |nil=>unfold fit tV;simp
  |cons t r=>exact hT.mem j
theorem aHf {i:Nat}{a kd:Int}{m:Nm}{cs:List rM}{keys:List rU}: ∃a2,(rA (σ:=(Int×Int)) (
       if ((s4 (L.drop i)=(9:Int))&&(val (D9 kd ((qH sN L (i:Int)).2.1))))=true then
        rA (σ:=(Int×Int)) (
          if (decide ((20:Int)<=(cs.length:Int)))=true then
           (vR s L (i:Int) (a,((0:Int),())) (6:Int) m).bind λO=>
           some ((O.1,O.2))
          else
           some ((a,(0:Int)))
         ) fun(x:Int×Int)=>
        if 0<=(i:Int)/\(i:Int)<(L.length:Int) then
         if (sE .str .bool (s5 keys) ((qH sN L (i:Int)).2.1))=true then
          (vR s L (i:Int) (x.1,(x.2,())) (9:Int) m).bind λa8=>
          some ((a8.1,a8.2))
         else
          some ((x.1,x.2))
        else none
       else
        some ((a,(0:Int)))) fun(x:Int×Int)=>some x)=some (a2,DF kd cs.length keys (L.drop i)):=by
  unfold DF rA;by_cases z:s4 (L.drop i)=9
  · obtain⟨t,r,D,I⟩:=hd9 z
    obtain⟨hi,G⟩:=vH D;have F:tV (L.drop i)=t.2.1:=by rw[D];rfl
    rw[A1 hi,G hi,gl _ _ (hT.mem D),uB,F];simp only[z,decide_true,Bool.true_and,true_and];cases hk:tM kd t.2.1 with
    |false=>exact⟨a,by rw[aM9 pO];rfl⟩
    | true=>
      rw[aM4 rfl,aM4 rfl];by_cases j:20<=cs.length
      · obtain⟨a2,E⟩:=BH (s:=s) (L:=L) (i:=i) (a:=a) (m:=m) 6
        rw[aM4 j,aM4 pP,E,aM3,aM3];dsimp only;rw[aM4 (rO hi),KY,GH pN];refine⟨a2,?_⟩;split<;>rfl
      rw[aM9 j,aM9 pP,aM3]
      dsimp only;by_cases hm:t.2.1∈keys
      · obtain⟨a2,E⟩:=BH (s:=s) (L:=L) (i:=i) (a:=a) (m:=m) 9
        rw[aM4 (rO hi),KY,aM4 (aN6 hm),aM4 hm,E];exact⟨a2,rfl⟩
      rw[aM4 (rO hi),KY,aM9 (by simpa using hm),aM9 hm]
      exact⟨a,rfl⟩
  refine⟨a,?_⟩
  rw[show decide (s4 (L.drop i)=9)=false by simpa using z,aM9 pO,aM9 (λh=>z h.1)];rfl
theorem aHg {i:Nat}{a kd dd:Int}{c b:Bool}{m:Nm}{cs:List rM}{keys:List rU}(hb:b=true\/s4 (L.drop i)=9): ∃a2,C7 s L kd dd c PM (cs,b,(i:Int),a,0,m,s5 keys)=UF PM s L kd dd c cs (i:Int) m (s5 keys) (a2,DF kd cs.length keys (L.drop i)):=by
  obtain⟨a2,G⟩:=aHf hT (s:=s) (i:=i) (a:=a) (kd:=kd) (m:=m) (cs:=cs) (keys:=keys)
  have F: ∀{α β:Type}{x:Option α}{v:α}{k:α->Option β},(rA x λy=>some y)=some v->rA x k=k v:=by
    intro α β x v k h;unfold rA at h|-;cases x with
    |none=>cases h
    |some y=>cases h;rfl
  refine⟨a2,?_⟩
  have D:(((decide (s4 (L.drop i)=(9:Int)))==true)=true->0<=(i:Int)/\(i:Int)<(L.length:Int)):=λh=>by
    have j:s4 (L.drop i)=9:=by simpa using h
    obtain⟨t,r,E,_⟩:=hd9 j;exact rO (vH E).1
  have z:(((decide (s4 (L.drop i)=(9:Int)))==true)=true->((D9 kd ((qH sN L (i:Int)).2.1))).isSome=true):=λh=>by
    have j:s4 (L.drop i)=9:=by simpa using h
    obtain⟨t,r,E,_⟩:=hd9 j;obtain⟨hi,I⟩:=vH E;rw[A1 hi,I hi,gl _ _ (hT.mem E)];rfl
  unfold C7;dsimp only;cases b with
  | false=>
    have j:s4 (L.drop i)=9:=hb.resolve_left pO;rw[aM4 qB,vT,aM4 (λ_=>uH _),uB,aM4 aPw,aM3,aM4 D,aM4 z];exact F G
  | true=>
    rw[aM9 pO,aM4 rfl,vT,aM3,aM4 D,aM4 z];exact F G
end
theorem gt {α β:Type}{x:Option α}{v:α}{k:α->Option β}(h:(rA x λy=>some y)=some v):rA x k=k v:=by
  unfold rA at h|-;cases x with
  |none=>cases h
  |some y=>cases h;rfl
section
variable {s:pI}{L:List rQ}(hT:CA L) {n:Int}{PM:IG}{RM:FG}
include hT
theorem aHh {i:Nat}{a kd:Int}{ns:List rU}{keys:List rU}(E:keys.length<=4000): ∃a2,(rA (σ:=(Int×Int)) (
      if ((s4 (L.drop i)=(9:Int))&&(val (BB kd (tV (L.drop i)))))=true then
       rA (σ:=(Int×Int)) (
         if (decide ((20:Int)<=(keys.length:Int)))=true then
          (xS (L.drop i,(n,(ns,(a,((0:Int),()))))) (6:Int)).bind λO=>
          some ((O.1,O.2))
         else
          some ((a,(0:Int)))
        ) fun(x:Int×Int)=>
       (yY keys (tV (L.drop i))).bind λa8=>
       if a8=true then
        (xS (L.drop i,(n,(ns,(x.1,(x.2,()))))) (9:Int)).bind λaA=>
        some ((aA.1,aA.2))
       else
        some ((x.1,x.2))
      else
       some ((a,(0:Int)))) fun(x:Int×Int)=>some x)=some (a2,DF kd keys.length keys (L.drop i)):=by
  unfold DF rA;rw[gm _ _ (XX hT i),uB,UB _ _ pM];by_cases z:s4 (L.drop i)=9
  · simp only[z,decide_true,Bool.true_and,true_and]
    cases hk:tM kd (tV (L.drop i)) with
    |false=>exact⟨a,by rw[aM9 pO];rfl⟩
    | true=>
      rw[aM4 rfl,aM4 rfl];by_cases j:20<=keys.length
      · obtain⟨a2,D⟩:=GI (ts:=L.drop i) (n:=n) (ns:=ns) (a:=a) 6
        rw[aM4 j,aM4 pP,D,aM3,aM3];dsimp only;rw[aM3,gn pN];refine⟨a2,?_⟩;split<;>rfl
      rw[aM9 j,aM9 pP,aM3]
      dsimp only;rw[aM3];by_cases hm:tV (L.drop i)∈keys
      · obtain⟨a2,D⟩:=GI (ts:=L.drop i) (n:=n) (ns:=ns) (a:=a) 9
        rw[aM4 (aN6 hm),aM4 hm,D];exact⟨a2,rfl⟩
      rw[aM9 (by simpa using hm),aM9 hm]
      exact⟨a,rfl⟩
  refine⟨a,?_⟩
  rw[show decide (s4 (L.drop i)=9)=false by simpa using z,aM9 pO,aM9 (λh=>z h.1)];rfl
theorem a3B {i:Nat}{a dd:Int}{c:Bool}{P0:GJ}(hP:P0.2.1=n) {x:Int×pI×pI×pI×List rM×List qF×Unit}{ns:List rU}{cs:List rM}{keys:List rU}(E:keys.length<=4000) (hb:keys=[]\/s4 (L.drop i)≠3):
    ∃a2,EG P0 x dd c RM (keys,L.drop i,ns,a,0,cs)=IH RM n dd c (tM x.1 (tV (L.drop i))) keys (L.drop i) ns cs (a2,DF x.1 keys.length keys (L.drop i)):=by
  obtain⟨a2,D⟩:=aHh hT (n:=n) (i:=i) (a:=a) (kd:=x.1) (ns:=ns) (keys:=keys) E;obtain⟨p,q,hp⟩:=wI (ts:=L.drop i) (n:=n) (ns:=ns) (a:=a) (e:=0);refine⟨a2,?_⟩
  have z:(((decide (s4 (L.drop i)=(9:Int)))==true)=true->((BB x.1 (tV (L.drop i)))).isSome=true):=λh=>by
    rw[gm _ _ (XX hT i)];rfl
  have tl: ∀v:Int×Int,((BB x.1 (tV (L.drop i))).bind λaB=>(vM (L.drop i,(n,(ns,(v.1,(v.2,()))))) aB).bind λaC=>
      if (keys.length+([aC.1]:pJ).length)*16<=140737488355328 then
        (uD (aC.2.1,(n,(ns,(aC.2.2.1,(aC.2.2.2,()))))) (2:Int)).bind λaD=>
        if qG (dd+(1:Int)) then
          (RM (aD.2.1,(n,(ns,(aD.2.2.1,(aD.2.2.2,()))))) (dd+(1:Int)) c).bind λaE=>
          (uD (aE.2.1,(n,(aE.2.2.1,(aE.2.2.2.1,(aE.2.2.2.2,()))))) (3:Int)).bind λaF=>
          if (cs.length+([(aC.1,(aE.1,()))]:List rM).length)*40<=140737488355328 then
            some (.inl ((keys++([aC.1]:pJ)),aF.2.1,aE.2.2.1,aF.2.2.1,aF.2.2.2,(cs++([(aC.1,(aE.1,()))]:List rM))))
          else(none:Option (GM⊕GM))
        else none
      else none)=IH RM n dd c (tM x.1 (tV (L.drop i))) keys (L.drop i) ns cs v:=λv=>by
    rw[gm _ _ (XX hT i)];rfl
  unfold EG;dsimp only;rw[hP];by_cases hk:keys=[]
  · subst hk
    rw[aM9 pO,aM4 pO,hp,aM3];dsimp only;rw[aM4 z];refine Eq.trans (gt D) ?_;exact tl _
  have F:=hb.resolve_left hk
  have j:decide ((keys.length:Int)=0)=false:=by
    rw[aN5];intro e;exact hk (aOf.1 pM)
  rw[j,aM4 qB,hp,aM4 (λ_=>uH _),uB];dsimp only;rw[aM4 aPd,aM3];dsimp only;rw[aM4 z];refine Eq.trans (gt D) ?_;exact tl _
def ROk (L:List rQ) (i d:Nat) (cs:List rM) (keys:List rU) (p:yf⊕XW) (q:GM⊕GM):Prop:=
  ∃(k:rU) (ps:List qF) (j:Nat) (ns:List rU) (a a':Int),p= .inl (cs++[(k,(ps,()))],false,(j:Int),a,0,s5 ns,s5 (keys++[k]))/\q= .inl (keys++[k],L.drop j,ns,a',0,cs++[(k,(ps,()))])/\i<j/\j<=L.length/\ns.length<=j/\64+k.length+wL ps+tw (L.drop j)<=tw (L.drop i)/\sG ps+(d+1)<=10
def RNo (p:yf⊕XW) (q:GM⊕GM):Prop:=
  (∃(cs:List rM) (j:Nat) (a e:Int) (m seen:Nm),p= .inl (cs,false,(j:Int),a,e,m,seen)/\e≠0)/\∃(keys:List rU) (ts:List rQ) (ns:List rU) (a e:Int) (cs:List rM),q= .inl (keys,ts,ns,a,e,cs)/\e≠0
theorem a3C (z:DE s L n PM RM) {i:Nat}{kd dd a e:Int}{c:Bool}{cs:List rM}{m seen:Nm}(j:e≠0) (D:cs.length<=4000):UF PM s L kd dd c cs (i:Int) m seen (a,e)=some (.inl (cs++[([],([],()))],false,(i:Int),a,e,m,rL .str .bool [] true seen)):=by
  unfold UF;dsimp only;rw[aHb j,aM3];dsimp only;rw[yN j pN,aM3];dsimp only;rw[z.p _ _ _ _ _ _ j,aM3];dsimp only;rw[yN j pN,aM3];dsimp only;rw[aM4 aPD]
theorem aHk (D:DE s L n PM RM) {ts:List rQ}{dd a e:Int}{c kb:Bool}{keys ns:List rU}{cs:List rM}(j:e≠0) (E:cs.length<=4000) (hk:keys.length<=4000) (z:qG (dd+1)):IH RM n dd c kb keys ts ns cs (a,e)=some (.inl (keys++[[]],ts,ns,a,e,cs++[([],([],()))])):=by
  unfold IH;dsimp only;rw[gp j,aM3];dsimp only;rw[aM4 aPD,yO j,aM3];dsimp only;rw[aM4 z,D.r _ _ _ _ _ _ j,aM3];dsimp only;rw[yO j,aM3];dsimp only;rw[aM4 aPD]
theorem aHl (O:DE s L n PM RM) {d:Nat}(hd:d<=8) (hM:GK s L n PM RM (d+1)) {i:Nat}{kd a a':Int}{c:Bool}{cs:List rM}{keys ns:List rU}(hi:i<=L.length) (ht:ns.length<=i) (hl:cs.length<=i) (hk:keys.length=cs.length):
    ∃p q,UF PM s L kd (d:Int) c cs (i:Int) (s5 ns) (s5 keys) (a,DF kd cs.length keys (L.drop i))=some p/\IH RM n (d:Int) (c||(!decide (kd=(9:Int)))) (tM kd (tV (L.drop i))) keys (L.drop i) ns cs (a',DF kd cs.length keys (L.drop i))=some q/\(ROk L i d cs keys p q\/RNo p q):=by
  have hL:=hT.len;have G:qG ((d:Int)+1):=by unfold qG;omega
  by_cases D:DF kd cs.length keys (L.drop i)=0
  · rw[D]
    by_cases hw:s4 (L.drop i)=9/\tM kd (tV (L.drop i))=true
    · obtain⟨U,K⟩:=hw
      obtain⟨t,r,z,V⟩:=hd9 U;have ha:tV (L.drop i)=t.2.1:=by rw[z];rfl
      have hj:=AR z;have hs:=AQ z;have hy:=(vH z).1
      have hc:t.2.1∉keys:=by
        unfold DF at D;rw[aM4 ⟨U,K⟩] at D;split at D
        .cases D
        split at D
        .cases D
        rename_i h;rw[ha] at h;exact h
      unfold UF IH;dsimp only;rw[aG9 z hT.len V (hT.mem z) (by rw[<-ha];exact K),aM3,K,XU z V,aM3];dsimp only;rw[aM4 aPD,<-hj];by_cases R:s4 (L.drop (i+1))=2
      · obtain⟨t2,r2,F,Y⟩: ∃t2 r2,L.drop (i+1)=t2::r2/\t2.1=2:=by
          cases I:L.drop (i+1) with
          |nil=>rw[I] at R;cases R
          |cons t2 r2=>rw[I] at R;exact⟨t2,r2,rfl,R⟩
        have hh:=AR F;have ho:=AQ F;have hx:=(vH F).1;rw[A2 F hT.len Y,aM3,DD F Y,aM3];dsimp only;rw[aM4 G,<-hh];obtain⟨p,q,m1,m2,m3⟩:=hM (i+1+1) ns a a' (c||(!decide (kd=(9:Int)))) pM pM
        rw[show (((d+1:Nat):Int)-1)=(d:Int) by omega] at m1;rw[show ((d+1:Nat):Int)=(d:Int)+1 by omega] at m2;rw[m1,m2,aM3,aM3];rcases m3 with⟨ps,j,ns2,b,b',rfl,rfl,o1,o2,o3,o4,o5⟩ |⟨⟨ps,j,b,e,m,rfl,M⟩,ps2,ts2,ns2,b2,e2,rfl,heq⟩
        · dsimp only
          by_cases Q:s4 (L.drop j)=3
          · obtain⟨t3,r3,E,X⟩: ∃t3 r3,L.drop j=t3::r3/\t3.1=3:=by
              cases I:L.drop j with
              |nil=>rw[I] at Q;cases Q
              |cons t3 r3=>rw[I] at Q;exact⟨t3,r3,rfl,Q⟩
            have hg:=AR E;have hn:=AQ E;have hu:=(vH E).1;rw[A2 E hT.len X,aM3,DD E X,aM3];dsimp only;rw[aM4 aPD,aM4 aPD];refine⟨_,_,rfl,rfl,.inl ⟨t.2.1,ps,j+1,ns2,b,b',?_,?_,pM,pM,pM,pM,pM⟩⟩
            .rw[PS,wJ,aM9 hc]
            rw[hg]
          obtain⟨b1,q1⟩:=PQ (s:=s) (L:=L) (i:=j) (a:=b) (m:=s5 ns2) Q
          obtain⟨b2,q2⟩:=ID (ts:=L.drop j) (n:=n) (ns:=ns2) (a:=b') Q;rw[q1,q2,aM3,aM3];dsimp only;rw[aM4 aPD,aM4 aPD];exact⟨_,_,rfl,rfl,.inr ⟨⟨_,_,_,_,_,_,rfl,pN⟩,_,_,_,_,_,_,rfl,pN⟩⟩
        dsimp only
        rw[yN M pN,aM3];dsimp only;rw[aM4 aPD];rcases heq with heq|⟨rfl,h4⟩
        · rw[yO heq,aM3]
          dsimp only;rw[aM4 aPD];exact⟨_,_,rfl,rfl,.inr ⟨⟨_,_,_,_,_,_,rfl,M⟩,_,_,_,_,_,_,rfl,heq⟩⟩
        obtain⟨b3,q3⟩:=ID (ts:=ts2) (n:=n) (ns:=ns2) (a:=b2) (k:=3) (by rw[h4];decide)
        rw[q3,aM3];dsimp only;rw[aM4 aPD];exact⟨_,_,rfl,rfl,.inr ⟨⟨_,_,_,_,_,_,rfl,M⟩,_,_,_,_,_,_,rfl,pN⟩⟩
      obtain⟨b1,q1⟩:=PQ (s:=s) (L:=L) (i:=i+1) (a:=a) (m:=s5 ns) R
      obtain⟨b2,q2⟩:=ID (ts:=L.drop (i+1)) (n:=n) (ns:=ns) (a:=a') R;rw[q1,q2,aM3,aM3];dsimp only;rw[aM4 G,O.p _ _ _ _ _ _ pN,O.r _ _ _ _ _ _ pN,aM3,aM3];dsimp only;rw[yN pN pN,yO pN,aM3,aM3];dsimp only;rw[aM4 aPD,aM4 aPD];exact⟨_,_,rfl,rfl,.inr ⟨⟨_,_,_,_,_,_,rfl,pN⟩,_,_,_,_,_,_,rfl,pN⟩⟩
    have Z:s4 (L.drop i)≠9\/tM kd (tV (L.drop i))=false:=by
      by_cases U:s4 (L.drop i)=9
      · right
        cases I:tM kd (tV (L.drop i)) with
        |false=>rfl
        |true=>exact absurd ⟨U,I⟩ hw
      exact .inl U
    obtain⟨b1,q1⟩:=aHa (s:=s) (L:=L) (i:=i) (a:=a) (m:=s5 ns) (k:=kd) hT.fit Z;obtain⟨b2,q2⟩:=UD (ts:=L.drop i) (n:=n) (ns:=ns) (a:=a') (b:=tM kd (tV (L.drop i))) Z;unfold UF IH;dsimp only;rw[q1,q2,aM3,aM3];dsimp only;rw[aM4 aPD,yN pN pN,yO pN,aM3,aM3];dsimp only;rw[aM4 G,O.p _ _ _ _ _ _ pN,O.r _ _ _ _ _ _ pN,aM3,aM3];dsimp only;rw[yN pN pN,yO pN,aM3,aM3];dsimp only;rw[aM4 aPD,aM4 aPD];exact⟨_,_,rfl,rfl,.inr ⟨⟨_,_,_,_,_,_,rfl,pN⟩,_,_,_,_,_,_,rfl,pN⟩⟩
  rw[a3C hT O D pM,aHk hT O D pM pM G]
  exact⟨_,_,rfl,rfl,.inr ⟨⟨_,_,_,_,_,_,rfl,D⟩,_,_,_,_,_,_,rfl,D⟩⟩
end
section
variable {s:pI}{L:List rQ}(hT:CA L) {n:Int}{PM:IG}{RM:FG}
include hT
theorem aHm (E:DE s L n PM RM) {i:Nat}{kd dd a:Int}{c:Bool}{keys ns:List rU}{cs:List rM}(j:s4 (L.drop i)≠9) (F:cs.length<=4000) (hk:keys.length<=4000) (D:qG (dd+1)):
  ∃b,IH RM n dd c (tM kd (tV (L.drop i))) keys (L.drop i) ns cs (a,DF kd keys.length keys (L.drop i))=some (.inl (keys++[[]],L.drop i,ns,b,3,cs++[([],([],()))])):=by
 have z:DF kd keys.length keys (L.drop i)=0:=by unfold DF;rw[aM9 (λh=>j h.1)]
 obtain⟨b2,q2⟩:=UD (ts:=L.drop i) (n:=n) (ns:=ns) (a:=a) (b:=tM kd (tV (L.drop i))) (.inl j);refine⟨b2,?_⟩;rw[z];unfold IH;dsimp only;rw[q2,aM3];dsimp only;rw[aM4 aPD,yO pN,aM3];dsimp only;rw[aM4 D,E.r _ _ _ _ _ _ pN,aM3];dsimp only;rw[yO pN,aM3];dsimp only;rw[aM4 aPD]
theorem a3D {i:Nat}{kd dd a e:Int}{c:Bool}{cs:List rM}{m seen:Nm}(j:e≠0):C7 s L kd dd c PM (cs,false,(i:Int),a,e,m,seen)=some (.inr (cs,(i:Int),a,e,m,seen)):=by
 unfold C7;dsimp only;rw[aM4 qB,C9 j,aM4 (λ_=>uH _),uB,aM9 pO]
theorem yg {P0:GJ}{x:Int×pI×pI×pI×List rM×List qF×Unit}{dd a e:Int}{c:Bool}{keys:List rU}{ts:List rQ}{ns:List rU}{cs:List rM}(j:e≠0):EG P0 x dd c RM (keys,ts,ns,a,e,cs)=some (.inr (keys,ts,ns,a,e,cs)):=by
 unfold EG;dsimp only;have h:decide (e=0)=false:=by simpa using j
 rw[h,aM9 pO,aM9 pO]
theorem a3E {i:Nat}{kd dd a:Int}{c:Bool}{cs:List rM}{m seen:Nm}(j:s4 (L.drop i)≠9):C7 s L kd dd c PM (cs,false,(i:Int),a,0,m,seen)=some (.inr (cs,(i:Int),a,0,m,seen)):=by
 unfold C7;dsimp only;rw[aM4 qB,vT,aM4 (λ_=>uH _),uB,aM9 aO5]
theorem aHn {P0:GJ}{x:Int×pI×pI×pI×List rM×List qF×Unit}{dd a:Int}{c:Bool}{keys:List rU}{ts:List rQ}{ns:List rU}{cs:List rM}(hk:keys≠[]) (z:s4 ts=3):EG P0 x dd c RM (keys,ts,ns,a,0,cs)=some (.inr (keys,ts,ns,a,0,cs)):=by
 unfold EG;dsimp only;obtain⟨p,q,hp⟩:=wI (ts:=ts) (n:=P0.2.1) (ns:=ns) (a:=a) (e:=0);have j:decide ((keys.length:Int)=0)=false:=by
  rw[aN5];intro e;exact hk (aOf.1 pM)
 rw[j,aM4 qB,hp,aM4 (λ_=>uH _),uB];dsimp only;rw[z,aM9 pO]
def LOk (L:List rQ) (i d:Nat) (p:XW) (q:GM):Prop:=
 ∃(cs:List rM) (keys:List rU) (j:Nat) (ns:List rU) (a a':Int),p=(cs,(j:Int),a,0,s5 ns,s5 keys)/\q=(keys,L.drop j,ns,a',0,cs)/\s4 (L.drop j)=3/\keys.length<=4000/\i<=j/\j<=L.length/\ns.length<=j/\wC cs+tw (L.drop j)<=tw (L.drop i)/\zI cs+(d+1)<=10
def LNo (L:List rQ) (p:XW) (q:GM):Prop:=
 (∃(cs:List rM) (j:Nat) (a e:Int) (m seen:Nm),p=(cs,(j:Int),a,e,m,seen)/\(e≠0\/e=0/\s4 (L.drop j)≠3))/\∃(keys:List rU) (ts:List rQ) (ns:List rU) (a e:Int) (cs:List rM),q=(keys,ts,ns,a,e,cs)/\e≠0
theorem a3H (M:DE s L n PM RM) {d:Nat}(Y:d<=8) (Z:GK s L n PM RM (d+1)) {P0:GJ}(hP:P0.2.1=n) {x:Int×pI×pI×pI×List rM×List qF×Unit}{c:Bool}{i0:Nat}:
  ∀(k i:Nat) (b:Bool) (cs:List rM) (keys ns:List rU) (a a':Int),L.length<=i+k->i<=L.length->ns.length<=i->cs.length<=i->keys.length=cs.length->(b=true↔keys=[])->i0<=i->wC cs+tw (L.drop i)<=tw (L.drop i0)->zI cs+(d+1)<=10->
  ∃p q,rC (C7 s L x.1 (d:Int) c PM) (cs,b,(i:Int),a,0,s5 ns,s5 keys)=some p/\rC (EG P0 x (d:Int) (c||(!decide (x.1=(9:Int)))) RM) (keys,L.drop i,ns,a',0,cs)=some q/\(LOk L i0 d p q\/LNo L p q)
 |k,i,b,cs,keys,ns,a,a',hk,hi,E,V,D,hb,R,hw,U=>by
  have hL:=hT.len;have go:(b=true\/s4 (L.drop i)=9)->∃p q,rC (C7 s L x.1 (d:Int) c PM) (cs,b,(i:Int),a,0,s5 ns,s5 keys)=some p/\rC (EG P0 x (d:Int) (c||(!decide (x.1=(9:Int)))) RM) (keys,L.drop i,ns,a',0,cs)=some q/\(LOk L i0 d p q\/LNo L p q):=by
   intro z;have I:keys=[]\/s4 (L.drop i)≠3:=z.elim (λh=> .inl (hb.1 h)) (λh=> .inr (by rw[h];decide));obtain⟨b1,q1⟩:=aHg hT (s:=s) (PM:=PM) (i:=i) (a:=a) (kd:=x.1) (dd:=(d:Int)) (c:=c) (b:=b) (m:=s5 ns) (cs:=cs) (keys:=keys) z;obtain⟨b2,q2⟩:=a3B hT (n:=n) (RM:=RM) (i:=i) (a:=a') (dd:=(d:Int)) (c:=(c||(!decide (x.1=(9:Int))))) hP (x:=x) (ns:=ns) (cs:=cs) (keys:=keys) pM I
   obtain⟨p,q,r1,r2,r3⟩:=aHl hT M Y Z (kd:=x.1) (a:=b1) (a':=b2) (c:=c) (cs:=cs) (keys:=keys) (ns:=ns) hi E V D;rw[D] at q2;rw[r1] at q1;rw[r2] at q2;rw[tA,q1,tA,q2,aM3,aM3];rcases r3 with⟨k',ps,j,ns2,e1,e2,rfl,rfl,o1,o2,o3,o4,o5⟩ |⟨⟨cs2,j,e1,e,m2,seen2,rfl,X⟩,keys2,ts2,ns2,e2,e',cs3,rfl,F⟩
   .cases k with
    |zero=>omega
    |succ k=>
     refine a3H M Y Z hP k j false (cs++[(k',(ps,()))]) (keys++[k']) ns2 e1 e2 pM o2 o3 aPC (by rw[aM7,aM7,D];rfl) pO pM ?_ ?_
     .rw[a3z];dsimp only;omega
     rw[a3A];dsimp only;omega
   dsimp only;rw[tA,a3D hT X,tA,yg hT F,aM3,aM3];exact⟨_,_,rfl,rfl,.inr ⟨⟨_,_,_,_,_,_,rfl,.inl X⟩,_,_,_,_,_,_,rfl,F⟩⟩
  by_cases z:b=true\/s4 (L.drop i)=9
  .exact go z
  have G:b=false:=by cases b with|true=>exact absurd (.inl rfl) z|false=>rfl
  have O:s4 (L.drop i)≠9:=λh=>z (.inr h);have Q:keys≠[]:=λh=>by rw[G] at hb;exact absurd (hb.2 h) pO
  subst G;by_cases K:s4 (L.drop i)=3
  .rw[tA,a3E hT O,tA,aHn hT Q K,aM3,aM3];exact⟨_,_,rfl,rfl,.inl ⟨cs,keys,i,ns,a,a',rfl,rfl,K,pM,R,hi,E,hw,U⟩⟩
  obtain⟨b2,q2⟩:=a3B hT (n:=n) (RM:=RM) (i:=i) (a:=a') (dd:=(d:Int)) (c:=(c||(!decide (x.1=(9:Int))))) hP (x:=x) (ns:=ns) (cs:=cs) (keys:=keys) pM (.inr K)
  obtain⟨b3,q3⟩:=aHm hT M (kd:=x.1) (dd:=(d:Int)) (a:=b2) (c:=(c||(!decide (x.1=(9:Int))))) (keys:=keys) (ns:=ns) (cs:=cs) O pM pM aPv
  rw[q3] at q2;rw[tA,a3E hT O,tA,q2,aM3,aM3];dsimp only;rw[tA,yg hT pN,aM3];exact⟨_,_,rfl,rfl,.inr ⟨⟨_,_,_,_,_,_,rfl,.inr ⟨rfl,K⟩⟩,_,_,_,_,_,_,rfl,pN⟩⟩
abbrev yh:Type:=List rM×Int×Int×Int×Nm
abbrev yi:Type:=List rQ×List rU×Int×Int×List rM
def COk (L:List rQ) (i d:Nat) (p:yh) (q:yi):Prop:=
 ∃(cs:List rM) (j:Nat) (ns:List rU) (a a':Int),p=(cs,(j:Int),a,0,s5 ns)/\q=(L.drop j,ns,a',0,cs)/\s4 (L.drop j)=3/\i<=j/\j<=L.length/\ns.length<=j/\wC cs+tw (L.drop j)<=tw (L.drop i)/\zI cs+(d+1)<=10
def CNo (L:List rQ) (p:yh) (q:yi):Prop:=
 (∃(cs:List rM) (j:Nat) (a e:Int) (m:Nm),p=(cs,(j:Int),a,e,m)/\(e≠0\/e=0/\s4 (L.drop j)≠3))/\∃(ts:List rQ) (ns:List rU) (a e:Int) (cs:List rM),q=(ts,ns,a,e,cs)/\e≠0
theorem aHo (O:DE s L n PM RM) {d:Nat}(K:d<=8) (M:GK s L n PM RM (d+1)) {g1 g2 g3 r1 r2 r3}{kd:Int}{x:pI×pI×pI×List rM×List qF×Unit}(I:x.2.2.2.1=[]) {c:Bool}{i:Nat}{ns:List rU}{a a':Int}(hi:i<=L.length) (E:ns.length<=i):
  ∃p q,I7 PM g1 g2 g3 s L (i:Int) (a,(0,())) kd (d:Int) c (s5 ns)=some p/\I3 RM r1 r2 r3 (L.drop i,(n,(ns,(a',(0,()))))) (kd,x) (d:Int) (c||(!decide (kd=(9:Int))))=some q/\(COk L i d p q\/CNo L p q):=by
 obtain⟨p,q,l1,l2,l3⟩:=a3H hT O K M (P0:=(L.drop i,(n,(ns,(a',(0,())))))) rfl (x:=(kd,x)) (c:=c) (i0:=i) L.length i true [] [] ns a a' pM hi E pO rfl pO (aNt _) (by rw[EM];omega) (by rw[IF];omega);unfold I7 I3 rA;dsimp only;rw[I];rw[show (s5 ([]:List rU))=[] from rfl] at l1;rw[l1,l2,aM3,aM3];rcases l3 with⟨cs,keys,j,ns2,b,b',rfl,rfl,o1,o2,o3,o4,o5,o6,o7⟩ |⟨⟨cs,j,b,e,m,seen,rfl,D⟩,keys,ts,ns2,b',e',cs2,rfl,z⟩
 .dsimp only;rw[vT,aM3,o1,KY,UB _ _ pM,aM4 (show _->(some (decide (([111,116,104,101,114]:pI)∈keys))).isSome=true from λ_=>uH _),uB];cases Q:decide (([111,116,104,101,114]:pI)∈keys) with
  |true=>
   rw[aM9 pO,aM9 pO];exact⟨_,_,rfl,rfl,.inl ⟨cs,j,ns2,b,b',rfl,rfl,o1,o3,o4,o5,o6,o7⟩⟩
  |false=>
   obtain⟨b1,q1⟩:=BH (s:=s) (L:=L) (i:=j) (a:=b) (m:=s5 ns2) 13;obtain⟨b2,q2⟩:=GI (ts:=L.drop j) (n:=n) (ns:=ns2) (a:=b') 13;rw[aM4 qB,aM4 qB,q1,q2,aM3,aM3];exact⟨_,_,rfl,rfl,.inr ⟨⟨_,_,b1,13,_,rfl,.inl pN⟩,_,_,b2,13,_,rfl,pN⟩⟩
 dsimp only;have F:decide (e'=0)=false:=by simpa using z
 rw[F,aM4 (λh=>by simp at h),aM9 pO];rcases D with D|⟨rfl,G⟩
 .rw[C9 D,aM3,aM9 pO];exact⟨_,_,rfl,rfl,.inr ⟨⟨_,_,_,_,_,rfl,.inl D⟩,_,_,_,_,_,rfl,z⟩⟩
 rw[vT,aM3,aM9 (by simp [G])];exact⟨_,_,rfl,rfl,.inr ⟨⟨_,_,_,_,_,rfl,.inr ⟨rfl,G⟩⟩,_,_,_,_,_,rfl,z⟩⟩
theorem aHp (z:DE s L n PM RM) {g1 g2 g3}{kd dd a e:Int}{c:Bool}{i:Nat}{m:Nm}(j:e≠0): ∃cs,I7 PM g1 g2 g3 s L (i:Int) (a,(e,())) kd dd c m=some (cs,(i:Int),a,e,m):=by
 have D:C7 s L kd dd c PM ([],true,(i:Int),a,e,m,[])=some (.inl ([([],([],()))],false,(i:Int),a,e,m,rL .str .bool [] true [])):=by
  unfold C7;dsimp only;rw[aM9 pO,aM4 rfl,C9 j,aM3,aM4 (λh=>by simp at h),aM4 (λh=>by simp at h)];refine Eq.trans (gt (v:=(a,e)) ?_) ?_
  .rw[aM9 pO];rfl
  exact a3C hT z (cs:=[]) j pO
 unfold I7 rA;dsimp only;rw[tA,D,aM3];dsimp only;rw[tA,a3D hT j,aM3];dsimp only;rw[aM3];dsimp only;rw[C9 j,aM3,aM9 pO];exact⟨_,rfl⟩
theorem aHq {r1 r2 r3}{x:Int×pI×pI×pI×List rM×List qF×Unit}{dd a e:Int}{c:Bool}{ts:List rQ}{ns:List rU}(z:e≠0):I3 RM r1 r2 r3 (ts,(n,(ns,(a,(e,()))))) x dd c=some (ts,ns,a,e,x.2.2.2.2.1):=by
 unfold I3 rA;dsimp only;rw[tA,yg hT z,aM3];dsimp only;rw[aM3];dsimp only;have j:decide (e=0)=false:=by simpa using z
 rw[j,aM4 (λh=>by simp at h),aM9 pO]
end
end Go.Proofs.YtedimeeleabhnaaGreatDoor
namespace Go.Proofs.YtedimeeleabhnaaGreatDoor
open Vc
theorem a3K:rL .str (.int .i64) ([115,101,108,101,99,116]:pI) (9:Int) (rL .str (.int .i64) ([111,114,100,105,110,97,108]:pI) (8:Int) (rL .str (.int .i64) ([112,108,117,114,97,108]:pI) (7:Int) (rL .str (.int .i64) ([108,105,115,116]:pI) (6:Int) (rL .str (.int .i64) ([100,97,116,101]:pI) (5:Int) (rL .str (.int .i64) ([117,110,105,116]:pI) (4:Int) (rL .str (.int .i64) ([110,117,109,98,101,114]:pI) (3:Int) ([]:List (pI×Int))))))))=tU:=aGP
theorem a3L (t:pI):sE .str (.int .i64) tU t=w8 t:=rfl
abbrev L1:Type:=pI->List rQ->Int->pQ->Int->Int->Bool->Nm->Option yh
abbrev L2:Type:=Int×pI×pI×pI×List rM×List qF×Unit
abbrev PT:Type:=GJ->L2->Int->Bool->Option yi
def yj (s:pI) (L:List rQ) (n:Int) (PC:L1) (RC:PT) (d:Nat):Prop:=
  ∀ (i:Nat) (ns:List rU) (a a' kd:Int) (x:pI×pI×pI×List rM×List qF×Unit) (c:Bool),x.2.2.2.1=[]->i<=L.length->ns.length<=i->
    ∃p q,PC s L (i:Int) (a,(0,())) kd (d:Int) c (s5 ns)=some p/\RC (L.drop i,(n,(ns,(a',(0,()))))) (kd,x) (d:Int) (c||(!decide (kd=(9:Int))))=some q/\(COk L i d p q\/CNo L p q)
structure gu (s:pI) (L:List rQ) (n:Int) (PC:L1) (RC:PT):Prop where
  p: ∀(i:Nat) a e kd dd c m,e≠0->∃cs,PC s L (i:Int) (a,(e,())) kd dd c m=some (cs,(i:Int),a,e,m)
  r: ∀ts ns a e x dd c,e≠0->RC (ts,(n,(ns,(a,(e,()))))) x dd c=some (ts,ns,a,e,x.2.2.2.2.1)
abbrev PU:Type:=Int×pI×pI×List rM×Int×Int×Int×Nm
abbrev XY:Type:=Int×pI×pI×List rM×List rQ×List rU×Int×Int
def UG (L:List rQ) (i d:Nat) (p:PU) (q:XY):Prop:=
  ∃(k:Int) (nm st:pI) (cs:List rM) (j:Nat) (ns:List rU) (a a':Int),p=(k,nm,st,cs,(j:Int),a,0,s5 ns)/\q=(k,nm,st,cs,L.drop j,ns,a',0)/\i<j/\j<=L.length/\ns.length<=j/\64+nm.length+st.length+wC cs+tw (L.drop j)<=tw (L.drop i)/\zI cs+(d+1)<=10/\zH k st cs=true
def UH (p:PU) (q:XY):Prop:=
  (∃(k:Int) (nm st:pI) (cs:List rM) (j:Nat) (a e:Int) (m:Nm),p=(k,nm,st,cs,(j:Int),a,e,m)/\e≠0)/\∃(k:Int) (nm st:pI) (cs:List rM) (ts:List rQ) (ns:List rU) (a e:Int),q=(k,nm,st,cs,ts,ns,a,e)/\e≠0
theorem GN {L:List rQ}{i:Nat}{k:Int}(hk:k≠0) (h:s4 (L.drop i)=k): ∃t r,L.drop i=t::r/\t.1=k:=by
  cases j:L.drop i with
  |nil=>rw[j] at h;exact absurd h.symm hk
  |cons t r=>rw[j] at h;exact⟨t,r,rfl,h⟩
section
variable {s:pI}{L:List rQ}(hT:CA L) {n:Int}{PC:L1}{RC:PT}
include hT
theorem gv {i d:Nat}{j:Nat}{k:Int}{nm st:pI}{cs:List rM}{ns:List rU}{a a':Int}(M:i<j) (I:j<=L.length) (G:ns.length<=j) (K:64+nm.length+st.length+wC cs+tw (L.drop j)<=tw (L.drop i)) (F:zI cs+(d+1)<=10) (hk:zH k st cs=true):
    ∃p q,((sT s L (j:Int) (a,(0,())) (3:Int) (s5 ns)).bind λr=>some ((k,nm,st,cs,r.2.1,r.2.2.1,r.2.2.2,s5 ns):PU))=some p/\((uD (L.drop j,(n,(ns,(a',(0,()))))) (3:Int)).bind λr=>some ((k,nm,st,cs,r.2.1,ns,r.2.2.1,r.2.2.2):XY))=some q/\(UG L i d p q\/UH p q):=by
  by_cases D:s4 (L.drop j)=3
  · obtain⟨t,r,z,E⟩:=GN pN D
    have:=AQ z;have:=(vH z).1;rw[A2 z hT.len E,DD z E,aM3,aM3];exact⟨_,_,rfl,rfl,.inl ⟨k,nm,st,cs,j+1,ns,a,a',rfl,by rw[AR z],pM,pM,pM,pM,F,hk⟩⟩
  obtain⟨b1,q1⟩:=PQ (s:=s) (L:=L) (i:=j) (a:=a) (m:=s5 ns) D
  obtain⟨b2,q2⟩:=ID (ts:=L.drop j) (n:=n) (ns:=ns) (a:=a') D;rw[q1,q2,aM3,aM3];exact⟨_,_,rfl,rfl,.inr ⟨⟨k,nm,st,cs,j,b1,3,s5 ns,rfl,pN⟩,k,nm,st,cs,_,ns,b2,3,rfl,pN⟩⟩
noncomputable def XZ (PC:L1) (s:pI) (L:List rQ) (dp:Int) (c:Bool) (nm:pI) (m:Nm) (i a e:Int):Option PU:=
  (vQ s L i (a,(e,())) m).bind λr48=>
  if (((decide (r48=(9:Int)))==true)=true->0<=i/\i<(L.length:Int)) then
   rA (σ:=(Int×Int)) (
     if ((r48=(9:Int))&&(((7:Int)<=(sE .str (.int .i64) tU ((qH sN L i).2.1)))&&((sE .str (.int .i64) tU ((qH sN L i).2.1))<=(9:Int))))=true then
      if qG (dp+(1:Int)) then
       (EE s L i (a,(e,())) (dp+(1:Int)) m).bind λO=>
       some ((O.1,O.2))
      else none
     else
      some ((a,e))
    ) fun(x:Int×Int)=>
   (EF s L i (x.1,(x.2,())) m tU).bind λr53=>
   if (!decide (r53.2.2.2=(0:Int)))=true then
    (sT s L r53.2.1 (r53.2.2.1,(r53.2.2.2,())) (3:Int) m).bind λr54=>
    some (((sE .str (.int .i64) tU r53.1),nm,([]:pI),([]:List rM),r54.2.1,r54.2.2.1,r54.2.2.2,m))
   else
    if (decide ((sE .str (.int .i64) tU r53.1)=(3:Int)))=true then
     (vQ s L r53.2.1 (r53.2.2.1,(r53.2.2.2,())) m).bind λr55=>
     if (decide (r55=(8:Int)))=true then
      (sT s L r53.2.1 (r53.2.2.1,(r53.2.2.2,())) (8:Int) m).bind λr56=>
      (D6 s L r56.2.1 (r56.2.2.1,(r56.2.2.2,())) m).bind λr57=>
      (sT s L r57.2.1 (r57.2.2.1,(r57.2.2.2,())) (3:Int) m).bind λr58=>
      some (((sE .str (.int .i64) tU r53.1),nm,r57.1,([]:List rM),r58.2.1,r58.2.2.1,r58.2.2.2,m))
     else
      (sT s L r53.2.1 (r53.2.2.1,(r53.2.2.2,())) (3:Int) m).bind λr59=>
      some (((sE .str (.int .i64) tU r53.1),nm,([]:pI),([]:List rM),r59.2.1,r59.2.2.1,r59.2.2.2,m))
    else
     if (((7:Int)<=(sE .str (.int .i64) tU r53.1))&&((sE .str (.int .i64) tU r53.1)<=(9:Int)))=true then
      (sT s L r53.2.1 (r53.2.2.1,(r53.2.2.2,())) (8:Int) m).bind λr60=>
      if qG (dp+(1:Int)) then
       (PC s L r60.2.1 (r60.2.2.1,(r60.2.2.2,())) (sE .str (.int .i64) tU r53.1) (dp+(1:Int)) c m).bind λr61=>
       (sT s L r61.2.1 (r61.2.2.1,(r61.2.2.2.1,())) (3:Int) r61.2.2.2.2).bind λr62=>
       some (((sE .str (.int .i64) tU r53.1),nm,([]:pI),r61.1,r62.2.1,r62.2.2.1,r62.2.2.2,r61.2.2.2.2))
      else none
     else
      (sT s L r53.2.1 (r53.2.2.1,(r53.2.2.2,())) (8:Int) m).bind λr63=>
      if (decide ((sE .str (.int .i64) tU r53.1)=(5:Int)))=true then
       (D7 s L r63.2.1 (r63.2.2.1,(r63.2.2.2,())) m).bind λr64=>
       (sT s L r64.2.1 (r64.2.2.1,(r64.2.2.2,())) (3:Int) m).bind λr65=>
       some (((sE .str (.int .i64) tU r53.1),nm,r64.1,([]:List rM),r65.2.1,r65.2.2.1,r65.2.2.2,m))
      else
       (C5 s L r63.2.1 (r63.2.2.1,(r63.2.2.2,())) m).bind λr66=>
       (sT s L r66.2.1 (r66.2.2.1,(r66.2.2.2,())) (3:Int) m).bind λr67=>
       some (((sE .str (.int .i64) tU r53.1),nm,r66.1,([]:List rM),r67.2.1,r67.2.2.1,r67.2.2.2,m))
  else none
omit hT in
theorem aHr {PM:IG}{g1 g2}{i:Int}{st:pQ}{dp:Int}{c:Bool}{m:Nm}:KC PM g1 g2 PC s L i st dp c m=
    ((sT s L i st (2:Int) m).bind λr42=>(K4 s L r42.2.1 (r42.2.2.1,(r42.2.2.2,())) m).bind λr43=>(vQ s L r43.2.1 (r43.2.2.1,(r43.2.2.2.1,())) r43.2.2.2.2).bind λr44=>
      if (decide (r44=(3:Int)))=true then
        (sT s L r43.2.1 (r43.2.2.1,(r43.2.2.2.1,())) (3:Int) r43.2.2.2.2).bind λr46=>some (((2:Int),r43.1,([]:pI),([]:List rM),r46.2.1,r46.2.2.1,r46.2.2.2,r43.2.2.2.2))
      else(sT s L r43.2.1 (r43.2.2.1,(r43.2.2.2.1,())) (8:Int) r43.2.2.2.2).bind λr47=>XZ PC s L dp c r43.1 r43.2.2.2.2 r47.2.1 r47.2.2.1 r47.2.2.2):=by
  unfold KC XZ;rw[a3K]
end
theorem DG {p:Prop}[Decidable p] (h: ¬p):decide p=false:=decide_eq_false h
theorem xA {p:Prop}[Decidable p] (h:p):decide p=true:=aN6 h
noncomputable def PV (PC:L1) (s:pI) (L:List rQ) (dp:Int) (c:Bool) (nm:pI) (m:Nm) (i:Int) (x:Int×Int):Option PU:=
   (EF s L i (x.1,(x.2,())) m tU).bind λr53=>
   if (!decide (r53.2.2.2=(0:Int)))=true then
    (sT s L r53.2.1 (r53.2.2.1,(r53.2.2.2,())) (3:Int) m).bind λr54=>
    some (((sE .str (.int .i64) tU r53.1),nm,([]:pI),([]:List rM),r54.2.1,r54.2.2.1,r54.2.2.2,m))
   else
    if (decide ((sE .str (.int .i64) tU r53.1)=(3:Int)))=true then
     (vQ s L r53.2.1 (r53.2.2.1,(r53.2.2.2,())) m).bind λr55=>
     if (decide (r55=(8:Int)))=true then
      (sT s L r53.2.1 (r53.2.2.1,(r53.2.2.2,())) (8:Int) m).bind λr56=>
      (D6 s L r56.2.1 (r56.2.2.1,(r56.2.2.2,())) m).bind λr57=>
      (sT s L r57.2.1 (r57.2.2.1,(r57.2.2.2,())) (3:Int) m).bind λr58=>
      some (((sE .str (.int .i64) tU r53.1),nm,r57.1,([]:List rM),r58.2.1,r58.2.2.1,r58.2.2.2,m))
     else
      (sT s L r53.2.1 (r53.2.2.1,(r53.2.2.2,())) (3:Int) m).bind λr59=>
      some (((sE .str (.int .i64) tU r53.1),nm,([]:pI),([]:List rM),r59.2.1,r59.2.2.1,r59.2.2.2,m))
    else
     if (((7:Int)<=(sE .str (.int .i64) tU r53.1))&&((sE .str (.int .i64) tU r53.1)<=(9:Int)))=true then
      (sT s L r53.2.1 (r53.2.2.1,(r53.2.2.2,())) (8:Int) m).bind λr60=>
      if qG (dp+(1:Int)) then
       (PC s L r60.2.1 (r60.2.2.1,(r60.2.2.2,())) (sE .str (.int .i64) tU r53.1) (dp+(1:Int)) c m).bind λr61=>
       (sT s L r61.2.1 (r61.2.2.1,(r61.2.2.2.1,())) (3:Int) r61.2.2.2.2).bind λr62=>
       some (((sE .str (.int .i64) tU r53.1),nm,([]:pI),r61.1,r62.2.1,r62.2.2.1,r62.2.2.2,r61.2.2.2.2))
      else none
     else
      (sT s L r53.2.1 (r53.2.2.1,(r53.2.2.2,())) (8:Int) m).bind λr63=>
      if (decide ((sE .str (.int .i64) tU r53.1)=(5:Int)))=true then
       (D7 s L r63.2.1 (r63.2.2.1,(r63.2.2.2,())) m).bind λr64=>
       (sT s L r64.2.1 (r64.2.2.1,(r64.2.2.2,())) (3:Int) m).bind λr65=>
       some (((sE .str (.int .i64) tU r53.1),nm,r64.1,([]:List rM),r65.2.1,r65.2.2.1,r65.2.2.2,m))
      else
       (C5 s L r63.2.1 (r63.2.2.1,(r63.2.2.2,())) m).bind λr66=>
       (sT s L r66.2.1 (r66.2.2.1,(r66.2.2.2,())) (3:Int) m).bind λr67=>
       some (((sE .str (.int .i64) tU r53.1),nm,r66.1,([]:List rM),r67.2.1,r67.2.2.1,r67.2.2.2,m))
abbrev RUO:Type:=List rQ×List rU×Int×Int×Int×pI×List rM
noncomputable def PW (RC:PT) (n:Int) (ts:List rQ) (ns:List rU) (W:Int) (x0:L2) (d:Int) (c:Bool) (x:Int×Int):Option RUO:=
 (vM (ts,(n,(ns,(x.1,(x.2,()))))) (!decide (W=(0:Int)))).bind λO=>
 if (!decide (O.2.2.2=(0:Int)))=true then
  some ((O.2.1,ns,O.2.2.1,O.2.2.2,W,x0.2.2.2.1,x0.2.2.2.2.1))
 else
  if ((decide (W=(3:Int)))==true)=true then
   if (((decide (W=(3:Int)))==true)=true->((vD (O.2.1,(n,(ns,(O.2.2.1,(O.2.2.2,()))))))).isSome=true) then
    if ((W=(3:Int))&&(!decide ((val (vD (O.2.1,(n,(ns,(O.2.2.1,(O.2.2.2,()))))))).1=(8:Int))))=true then
     some ((O.2.1,ns,O.2.2.1,O.2.2.2,W,x0.2.2.2.1,x0.2.2.2.2.1))
    else
     (uD (O.2.1,(n,(ns,(O.2.2.1,(O.2.2.2,()))))) (8:Int)).bind λa8=>
     (vD (a8.2.1,(n,(ns,(a8.2.2.1,(a8.2.2.2,())))))).bind λaA=>
     if (decide (W=(3:Int)))=true then
      (vM (a8.2.1,(n,(ns,(a8.2.2.1,(a8.2.2.2,()))))) ((aA.2.1=([105,110,116,101,103,101,114]:pI))||(aA.2.1=([112,101,114,99,101,110,116]:pI)))).bind λaB=>
      some ((aB.2.1,ns,aB.2.2.1,aB.2.2.2,W,aB.1,x0.2.2.2.2.1))
     else
      if (decide (W=(5:Int)))=true then
       (EA aA.2.1).bind λaC=>
       (vM (a8.2.1,(n,(ns,(a8.2.2.1,(a8.2.2.2,()))))) aC).bind λaD=>
       some ((aD.2.1,ns,aD.2.2.1,aD.2.2.2,W,aD.1,x0.2.2.2.2.1))
      else
       rA (σ:=Bool) (
         if (decide (W=(4:Int)))=true then
          some ((decide (W=(4:Int))))
         else
          some ((decide (W=(6:Int))))
        ) λaE=>
       if aE=true then
        (vS aA.2.1).bind λaF=>
        (vM (a8.2.1,(n,(ns,(a8.2.2.1,(a8.2.2.2,()))))) aF).bind λaG=>
        some ((aG.2.1,ns,aG.2.2.1,aG.2.2.2,W,aG.1,x0.2.2.2.2.1))
       else
        (RC (a8.2.1,(n,(ns,(a8.2.2.1,(a8.2.2.2,()))))) (W,x0.2) d (c||((W=(7:Int))||(W=(8:Int))))).bind λaH=>
        some ((aH.1,aH.2.1,aH.2.2.1,aH.2.2.2.1,W,x0.2.2.2.1,aH.2.2.2.2))
   else none
  else
   if false=true then
    some ((O.2.1,ns,O.2.2.1,O.2.2.2,W,x0.2.2.2.1,x0.2.2.2.2.1))
   else
    (uD (O.2.1,(n,(ns,(O.2.2.1,(O.2.2.2,()))))) (8:Int)).bind λaI=>
    (vD (aI.2.1,(n,(ns,(aI.2.2.1,(aI.2.2.2,())))))).bind λaJ=>
    if (decide (W=(3:Int)))=true then
     (vM (aI.2.1,(n,(ns,(aI.2.2.1,(aI.2.2.2,()))))) ((aJ.2.1=([105,110,116,101,103,101,114]:pI))||(aJ.2.1=([112,101,114,99,101,110,116]:pI)))).bind λaK=>
     some ((aK.2.1,ns,aK.2.2.1,aK.2.2.2,W,aK.1,x0.2.2.2.2.1))
    else
     if (decide (W=(5:Int)))=true then
      (EA aJ.2.1).bind λaL=>
      (vM (aI.2.1,(n,(ns,(aI.2.2.1,(aI.2.2.2,()))))) aL).bind λaM=>
      some ((aM.2.1,ns,aM.2.2.1,aM.2.2.2,W,aM.1,x0.2.2.2.2.1))
     else
      rA (σ:=Bool) (
        if (decide (W=(4:Int)))=true then
         some ((decide (W=(4:Int))))
        else
         some ((decide (W=(6:Int))))
       ) λaN=>
      if aN=true then
       (vS aJ.2.1).bind λaO=>
       (vM (aI.2.1,(n,(ns,(aI.2.2.1,(aI.2.2.2,()))))) aO).bind λaP=>
       some ((aP.2.1,ns,aP.2.2.1,aP.2.2.2,W,aP.1,x0.2.2.2.2.1))
      else
       (RC (aI.2.1,(n,(ns,(aI.2.2.1,(aI.2.2.2,()))))) (W,x0.2) d (c||((W=(7:Int))||(W=(8:Int))))).bind λaQ=>
       some ((aQ.1,aQ.2.1,aQ.2.2.1,aQ.2.2.2.1,W,x0.2.2.2.1,aQ.2.2.2.2))
theorem a3N {PC:L1}{s:pI}{L:List rQ}{dp:Int}{c:Bool}{nm:pI}{m:Nm}{i a e:Int}:XZ PC s L dp c nm m i a e=
  ((vQ s L i (a,(e,())) m).bind λr48=>
  if (((decide (r48=(9:Int)))==true)=true->0<=i/\i<(L.length:Int)) then
   rA (σ:=(Int×Int)) (
     if ((r48=(9:Int))&&(((7:Int)<=(sE .str (.int .i64) tU ((qH sN L i).2.1)))&&((sE .str (.int .i64) tU ((qH sN L i).2.1))<=(9:Int))))=true then
      if qG (dp+(1:Int)) then
       (EE s L i (a,(e,())) (dp+(1:Int)) m).bind λO=>
       some ((O.1,O.2))
      else none
     else
      some ((a,e))
    ) (PV PC s L dp c nm m i)
  else none):=rfl
theorem aHs {RM:FG}{RA RU}{RC:PT}{P0:GJ}{x0:L2}{d:Int}{c:Bool}:I2 RM RA RU RC P0 x0 d c=
  ((vD P0).bind λO=>(NB O.2.1).bind λW=>(vD P0).bind λa8=>
   rA (σ:=(Int×Int)) (
   if ((a8.1=(9:Int))&&(((W=(7:Int))||(W=(8:Int)))||(W=(9:Int))))=true then
    (F6 P0 d).bind λaA=>
    some ((aA.1,aA.2))
   else
    some ((P0.2.2.2.1,P0.2.2.2.2.1))
   ) (PW RC P0.2.1 P0.1 P0.2.2.1 W x0 d c)):=by rw[I2.eq_1];rfl
noncomputable def Y0 (n:Int) (nm:pI) (x:Option RUO):Option XY:=
  x.bind λr26=>(uD (r26.1,(n,(r26.2.1,(r26.2.2.1,(r26.2.2.2.1,()))))) (3:Int)).bind λr27=>some (r26.2.2.2.2.1,nm,r26.2.2.2.2.2.1,r26.2.2.2.2.2.2,r27.2.1,r26.2.1,r27.2.2.1,r27.2.2.2)
theorem PX {n:Int}{nm:pI}{ts:List rQ}{ns:List rU}{a e k:Int}{st:pI}{cs:List rM}(j:e≠0):Y0 n nm (some (ts,ns,a,e,k,st,cs))=some (k,nm,st,cs,ts,ns,a,e):=by
  unfold Y0;rw[aM3];dsimp only;rw[yO j];rfl
abbrev gw (nm:pI):L2:=((2:Int),(([]:pI),(nm,(([]:pI),(([]:List rM),(([]:List qF),()))))))
section
variable {s:pI}{L:List rQ}(hT:CA L) {n:Int}{PC:L1}{RM:FG}{RA RU}{RC:PT}
include hT
theorem a3O {dp:Int}{c:Bool}{nm:pI}{m:Nm}{i:Nat}{a e:Int}(j:e≠0):PV PC s L dp c nm m (i:Int) (a,e)=some (0,nm,[],[],(i:Int),a,e,m):=by
  unfold PV;dsimp only;rw[aG8 j,aM3];dsimp only;rw[aM4 aO5,yN j pN];rfl
theorem a3P {dp:Int}{c:Bool}{nm:pI}{m:Nm}{i:Nat}{a:Int}(h:s4 (L.drop i)≠9\/w8 (tV (L.drop i))=0): ∃b,PV PC s L dp c nm m (i:Int) (a,0)=some (0,nm,[],[],(i:Int),b,3,m):=by
  obtain⟨b,q⟩:=aG7 (s:=s) (L:=L) (i:=i) (a:=a) (m:=m) h;refine⟨b,?_⟩;unfold PV;dsimp only;rw[q,aM3];dsimp only;rw[aM4 (show (!decide ((3:Int)=0))=true from by decide),yN pN pN];rfl
theorem aHt {ts:List rQ}{ns:List rU}{W:Int}{x0:L2}{d:Int}{c:Bool}{a e:Int}(j:e≠0):PW RC n ts ns W x0 d c (a,e)=some (ts,ns,a,e,W,x0.2.2.2.1,x0.2.2.2.2.1):=by
  unfold PW;dsimp only;rw[gp j,aM3];dsimp only;rw[aM4 aO5]
theorem a3Q {ts:List rQ}{ns:List rU}{W:Int}{x0:L2}{d:Int}{c:Bool}{a:Int}(h:s4 ts≠9\/W=0): ∃b,PW RC n ts ns W x0 d c (a,0)=some (ts,ns,b,3,W,x0.2.2.2.1,x0.2.2.2.2.1):=by
  obtain⟨b,q⟩:=UD (ts:=ts) (n:=n) (ns:=ns) (a:=a) (b:= !decide (W=0)) (h.imp id λh=>by simp [h]);refine⟨b,?_⟩;unfold PW;dsimp only;rw[q,aM3];dsimp only;rw[aM4 (show (!decide ((3:Int)=0))=true from by decide)]
omit hT in
theorem gx {k:Int}{st:pI}{cs:List rM}(hk:3<=k/\k<=9):zH k st cs=true:=by
  unfold zH;simp [hk]
theorem yk {i d j:Nat}{k:Int}{nm:pI}{ns:List rU}{a a':Int}(fP:pI->List rQ->Int->pQ->Nm->Option (pI×Int×Int×Int)) (fB:pI->Bool) (rB:pI->Option Bool) (F: ∀j,rB (tV (L.drop j))=some (fB (tV (L.drop j))))
    (ok: ∀{j:Nat}{a:Int}{t:rQ}{r:List rQ},L.drop j=t::r->t.1=9->fB t.2.1=true->fP s L (j:Int) (a,(0,())) (s5 ns)=some (t.2.1,((j+1:Nat):Int),a,0))
    (no: ∀{j:Nat}{a:Int},s4 (L.drop j)≠9\/fB (tV (L.drop j))=false->∃a',fP s L (j:Int) (a,(0,())) (s5 ns)=some ([],(j:Int),a',3))
    (bad: ∀{j:Nat}{a e:Int},e≠0->fP s L (j:Int) (a,(e,())) (s5 ns)=some ([],(j:Int),a,e))
    (hd:d<=9) (Y:i<j) (hj:j<=L.length) (V:ns.length<=j) (Z:64+nm.length+tw (L.drop j)<=tw (L.drop i)) (hk:3<=k/\k<=9):
    ∃ p q,((sT s L (j:Int) (a,(0,())) (8:Int) (s5 ns)).bind λr63=>(fP s L r63.2.1 (r63.2.2.1,(r63.2.2.2,())) (s5 ns)).bind λr64=>(sT s L r64.2.1 (r64.2.2.1,(r64.2.2.2,())) (3:Int) (s5 ns)).bind λr65=>some ((k,nm,r64.1,([]:List rM),r65.2.1,r65.2.2.1,r65.2.2.2,s5 ns):PU))=some p/\
      Y0 n nm ((uD (L.drop j,(n,(ns,(a',(0,()))))) (8:Int)).bind λr49=>(vD (r49.2.1,(n,(ns,(r49.2.2.1,(r49.2.2.2,())))))).bind λr50=>(rB r50.2.1).bind λb=>(vM (r49.2.1,(n,(ns,(r49.2.2.1,(r49.2.2.2,()))))) b).bind λr51=>some (r51.2.1,ns,r51.2.2.1,r51.2.2.2,k,r51.1,([]:List rM)))=some q/\(UG L i d p q\/UH p q):=by
  by_cases h8:s4 (L.drop j)=8
  · obtain⟨t,r,D,K⟩:=GN pN h8
    have U:=AQ D;have X:=(vH D).1;rw[A2 D hT.len K,DD D K,aM3,aM3];dsimp only;rw[<-AR D];obtain⟨u,v,hp⟩:=wI (ts:=L.drop (j+1)) (n:=n) (ns:=ns) (a:=a') (e:=0);rw[hp,aM3];dsimp only;rw[F,aM3];by_cases hf:s4 (L.drop (j+1))=9/\fB (tV (L.drop (j+1)))=true
    · obtain⟨t2,r2,z,E⟩:=hd9 hf.1
      have I:tV (L.drop (j+1))=t2.2.1:=by rw[z];rfl
      have O:=AQ z;have Q:=(vH z).1;rw[hf.2,ok z E (by rw[<-I];exact hf.2),XU z E,aM3,aM3];dsimp only;rw[<-AR z];exact gv hT (i:=i) (j:=j+1+1) (nm:=nm) (st:=t2.2.1) (cs:=[]) (k:=k) pM pM pM (by rw[EM];omega) (by rw[IF];omega) (gx hk)
    have G:s4 (L.drop (j+1))≠9\/fB (tV (L.drop (j+1)))=false:=by
      by_cases M:s4 (L.drop (j+1))=9
      · right
        cases R:fB (tV (L.drop (j+1))) with
        |false=>rfl
        |true=>exact absurd ⟨M,R⟩ hf
      exact .inl M
    obtain⟨b1,q1⟩:=no (a:=a) G;obtain⟨b2,q2⟩:=UD (ts:=L.drop (j+1)) (n:=n) (ns:=ns) (a:=a') G;rw[q1,q2,aM3,aM3];dsimp only;rw[PX pN,yN pN pN,aM3];exact⟨_,_,rfl,rfl,.inr ⟨⟨k,nm,[],[],j+1,b1,3,s5 ns,rfl,pN⟩,k,nm,[],[],_,ns,b2,3,rfl,pN⟩⟩
  obtain⟨b1,q1⟩:=PQ (s:=s) (L:=L) (i:=j) (a:=a) (m:=s5 ns) h8
  obtain⟨b2,q2⟩:=ID (ts:=L.drop j) (n:=n) (ns:=ns) (a:=a') h8;rw[q1,q2,aM3,aM3];dsimp only;obtain⟨u,v,hp⟩:=wI (ts:=L.drop j) (n:=n) (ns:=ns) (a:=b2) (e:=3);rw[bad pN,hp,aM3,aM3];dsimp only;rw[F,aM3,gp pN,aM3,yN pN pN,aM3];dsimp only;rw[PX pN];exact⟨_,_,rfl,rfl,.inr ⟨⟨k,nm,[],[],j,b1,3,s5 ns,rfl,pN⟩,k,nm,[],[],_,ns,b2,3,rfl,pN⟩⟩
theorem a3R {d:Nat}(hd9:d<=9) (hB:gu s L n PC RC) {i j:Nat}{nm:pI}{c:Bool}{ns:List rU}{a a':Int}(hu:i<j) (hj:j<=L.length) (ho:ns.length<=j) (hw:64+nm.length+tw (L.drop j)<=tw (L.drop i))
    (I:s4 (L.drop j)=9) {W:Int}(hW:w8 (tV (L.drop j))=W) (X:W≠0) (hC:7<=W->yj s L n PC RC d):
    ∃p q,PV PC s L ((d:Int)-1) c nm (s5 ns) (j:Int) (a,0)=some p/\Y0 n nm (PW RC n (L.drop j) ns W (gw nm) (d:Int) c (a',0))=some q/\(UG L i d p q\/UH p q):=by
  have hL:=hT.len;obtain⟨t,r,D,ht⟩:=Go.Proofs.YtedimeeleabhnaaGreatDoor.hd9 I;have ha:tV (L.drop j)=t.2.1:=by rw[D];rfl
  have hl:=AQ D;have hs:=(vH D).1;have K:w8 t.2.1=W:=by rw[<-ha];exact hW
  have O:=a3l t.2.1;rw[K] at O
  have hx:3<=W/\W<=9:=by
    rcases O with h|⟨q,hq,h⟩<;>omega
  clear O;unfold PV PW;dsimp only;rw[aG6 D hT.len ht (by rw[K];exact X),show (!decide (W=0))=true by simp [X],XU D ht,aM3,aM3];dsimp only;rw[aM9 (show¬(!decide ((0:Int)=0))=true by decide),aM9 (show¬(!decide ((0:Int)=0))=true by decide),a3L,K,<-AR D];by_cases Y:W=3
  · subst Y
    obtain⟨u,v,hp⟩:=wI (ts:=L.drop (j+1)) (n:=n) (ns:=ns) (a:=a') (e:=0);rw[aM4 (show decide ((3:Int)=3)=true from rfl),aM4 (show (decide ((3:Int)=3)==true)=true from rfl),hp,aM4 (λ_=>uH _),uB,vT,aM3];dsimp only;by_cases h8:s4 (L.drop (j+1))=8
    · rw[aM4 (xA h8),aM9 (show¬(decide ((3:Int)=3)&& !decide (s4 (L.drop (j+1))=8))=true by simp [h8])]
      exact yk hT (i:=i) (j:=j+1) (λs L i st m=>D6 s L i st m) PR (λx=>some (PR x)) (λ_=>rfl) (λG I Q=>aG3 G hT.len I Q) (λh=>aG4 h) (λF=>aG5 F) hd9 pM pM pM pM pM
    rw[aM9 (by simpa using h8),aM4 (show (decide ((3:Int)=3)&& !decide (s4 (L.drop (j+1))=8))=true by simp [h8])]
    exact gv hT (i:=i) (j:=j+1) (nm:=nm) (st:=[]) (cs:=[]) (k:=3) pM pM pM (by rw[EM];simp only[aM8];omega) (by rw[IF];omega) (gx pM)
  rw[aM9 (show¬decide (W=3)=true by simpa using Y),aM9 (show¬(decide (W=3)==true)=true by simp [Y]),aM9 (show¬(false=true) by simp)]
  have e3:decide (W=3)=false:=DG Y;rw[e3];simp only[aNJ,aOh];by_cases E:7<=W/\W<=9
  · rw[aM4 (show (decide (7<=W)&&decide (W<=9))=true by simp [E])]
    have e5:decide (W=5)=false:=DG pM;have e4:decide (W=4)=false:=DG pM;have e6:decide (W=6)=false:=DG pM
    have ec:(c||(decide (W=7)||decide (W=8)))=(c||(!decide (W=9))):=by
      congr 1;rw[aNv];simp;omega
    rw[e5,e4,e6,ec];unfold rA;simp only[aNJ,aOh,aM3];have V:qG ((d:Int)-1+1):=by unfold qG;omega
    have U:((d:Int)-1+1)=(d:Int):=by omega
    by_cases h8:s4 (L.drop (j+1))=8
    · obtain⟨t2,r2,z,R⟩:=GN pN h8
      have hg:=AQ z;have hh:=(vH z).1;rw[A2 z hT.len R,DD z R,aM3,aM3];dsimp only;obtain⟨u,v,hp⟩:=wI (ts:=r2) (n:=n) (ns:=ns) (a:=a') (e:=0);rw[aM4 V,U,hp,aM3,<-AR z];obtain⟨p,q,c1,c2,c3⟩:=hC E.1 (j+1+1) ns a a' W ([],nm,[],[],[],()) c rfl pM pM;rw[c1,c2,aM3,aM3];rcases c3 with⟨cs,j',ns2,b,b',rfl,rfl,o1,o2,o3,o4,o5,o6⟩ |⟨⟨cs,j',b,e,m,rfl,F⟩,ts2,ns2,b',e',cs2,rfl,M⟩
      · dsimp only
        exact gv hT (i:=i) (j:=j') (nm:=nm) (st:=[]) (cs:=cs) (k:=W) pM pM pM aPE o6 (gx pM)
      dsimp only
      rw[PX M];rcases F with F|⟨rfl,Z⟩
      · rw[yN F pN,aM3]
        exact⟨_,_,rfl,rfl,.inr ⟨⟨W,nm,[],cs,j',b,e,m,rfl,F⟩,W,nm,[],cs2,ts2,ns2,b',e',rfl,M⟩⟩
      obtain⟨b1,q1⟩:=PQ (s:=s) (L:=L) (i:=j') (a:=b) (m:=m) Z
      rw[q1,aM3];exact⟨_,_,rfl,rfl,.inr ⟨⟨W,nm,[],cs,j',b1,3,m,rfl,pN⟩,W,nm,[],cs2,ts2,ns2,b',e',rfl,M⟩⟩
    obtain⟨b1,q1⟩:=PQ (s:=s) (L:=L) (i:=j+1) (a:=a) (m:=s5 ns) h8
    obtain⟨b2,q2⟩:=ID (ts:=L.drop (j+1)) (n:=n) (ns:=ns) (a:=a') h8;rw[q1,q2,aM3,aM3];dsimp only;obtain⟨u,v,hp⟩:=wI (ts:=L.drop (j+1)) (n:=n) (ns:=ns) (a:=b2) (e:=3);obtain⟨cs,hc⟩:=hB.p (j+1) b1 3 W (d:Int) c (s5 ns) pN;rw[aM4 V,U,hp,aM3,hc,aM3];dsimp only;rw[yN pN pN,hB.r _ _ _ _ _ _ _ pN,aM3,aM3];dsimp only;rw[PX pN];exact⟨_,_,rfl,rfl,.inr ⟨⟨W,nm,[],cs,j+1,b1,3,s5 ns,rfl,pN⟩,W,nm,[],_,_,ns,b2,3,rfl,pN⟩⟩
  rw[aM9 (show¬(decide (7<=W)&&decide (W<=9))=true by simpa using E)]
  by_cases h5:W=5
  · subst h5
    simp only[decide_true,aOc];exact yk hT (i:=i) (j:=j+1) (λs L i st m=>D7 s L i st m) IC EA (λj=>a3k _ (XX hT j)) (λG I Q=>aG0 G hT.len I (hT.mem G) Q) (λh=>aG1 hT.fit h) (λF=>aG2 F) hd9 pM pM pM pM pM
  have e5:decide (W=5)=false:=DG h5
  have e46:(rA (σ:=Bool) (if decide (W=4)=true then some (decide (W=4)) else some (decide (W=6))) λb=>some b)=some true:=by
    unfold rA;by_cases h4:W=4
    .subst h4;rfl
    have h6:W=6:=by omega
    subst h6;rfl
  rw[e5];simp only[aNJ,aOh];have e46': ∀{β:Type}(k:Bool->Option β),rA (σ:=Bool) (if decide (W=4)=true then some (decide (W=4)) else some (decide (W=6))) k=k true:=λk=>gt e46;simp only[e46',aOc];exact yk hT (i:=i) (j:=j+1) (λs L i st m=>C5 s L i st m) uO vS (λj=>KV _ (XX hT j)) (λG I Q=>xw G hT.len I (hT.mem G) Q) (λh=>xx hT.fit h) (λF=>a3v F) hd9 pM pM pM pM pM
end
section
variable {s:pI}{L:List rQ}(hT:CA L) {n:Int}{PC:L1}{RM:FG}{RA RU}{RC:PT}
include hT
theorem a3S {dp:Int}{c:Bool}{nm:pI}{m:Nm}{i:Nat}{a e:Int}(j:e≠0):XZ PC s L dp c nm m (i:Int) a e=some (0,nm,[],[],(i:Int),a,e,m):=by
 rw[a3N,C9 j,aM3,aM4 (λh=>by simp at h)];unfold rA;rw[aM9 pO,aM3,a3O hT j]
theorem aHu {d:Nat}(U:d<=9) (V:gu s L n PC RC) (X:d<=8->yj s L n PC RC d) {i j:Nat}{nm:pI}{c:Bool}{ns:List rU}{a a':Int}(G:i<j) (R:j<=L.length) (F:ns.length<=j) (Q:64+nm.length+tw (L.drop j)<=tw (L.drop i)):
  ∃p q,XZ PC s L ((d:Int)-1) c nm (s5 ns) (j:Int) a 0=some p/\Y0 n nm (I2 RM RA RU RC (L.drop j,(n,(ns,(a',(0,()))))) (gw nm) (d:Int) c)=some q/\(UG L i d p q\/UH p q):=by
 obtain⟨u,v,hp⟩:=wI (ts:=L.drop j) (n:=n) (ns:=ns) (a:=a') (e:=0);rw[a3N,aHs,vT,hp,aM3,aM3];dsimp only;rw[aGQ,aM3,aM3];dsimp only;by_cases D:s4 (L.drop j)=9
 .obtain⟨t,r,I,Y⟩:=hd9 D;obtain⟨E,K⟩:=vH I;have z:tV (L.drop j)=t.2.1:=by rw[I];rfl
  rw[aM4 (λ_=>rO E),A1 E,K E,a3L,z,D];by_cases M:7<=w8 t.2.1
  .have O:w8 t.2.1<=9:=by
    rcases a3l t.2.1 with h|⟨q,Z,h⟩<;>omega
   unfold rA;rw[aM4 (show (decide ((9:Int)=9)&&(decide (7<=w8 t.2.1)&&decide (w8 t.2.1<=9)))=true by simp [M,O]),aM4 (show qG ((d:Int)-1+1) by unfold qG;omega),show (d:Int)-1+1=d by omega,aM4 (show (decide ((9:Int)=9)&&((decide (w8 t.2.1=7)||decide (w8 t.2.1=8))||decide (w8 t.2.1=9)))=true by simp;omega)]
   by_cases h8:d<=8
   .rw[xq pM,xu pM,aM3,aM3,aM3,aM3];dsimp only;exact a3R hT U V (i:=i) (j:=j) G R F Q D (by rw[z]) pM (λ_=>X h8)
   obtain⟨b1,q1⟩:=xr (s:=s) (L:=L) (i:=j) (a:=a) (m:=s5 ns) (d:=d) pM;obtain⟨b2,q2⟩:=xv (ts:=L.drop j) (n:=n) (ns:=ns) (a:=a') (d:=d) pM;rw[q1,q2,aM3,aM3,aM3,aM3];dsimp only;rw[a3O hT pN,aHt hT pN,PX pN];exact⟨_,_,rfl,rfl,.inr ⟨⟨_,_,_,_,j,_,_,_,rfl,pN⟩,_,_,_,_,_,_,_,_,rfl,pN⟩⟩
  unfold rA;rw[aM9 (show¬(decide ((9:Int)=9)&&(decide (7<=w8 t.2.1)&&decide (w8 t.2.1<=9)))=true by simp [M]),aM9 (show¬(decide ((9:Int)=9)&&((decide (w8 t.2.1=7)||decide (w8 t.2.1=8))||decide (w8 t.2.1=9)))=true by simp;omega),aM3,aM3]
  by_cases h0:w8 t.2.1=0
  .obtain⟨b1,q1⟩:=a3P hT (s:=s) (PC:=PC) (dp:=(d:Int)-1) (c:=c) (nm:=nm) (m:=s5 ns) (i:=j) (a:=a) (.inr (by rw[z];exact h0));obtain⟨b2,q2⟩:=a3Q hT (n:=n) (RC:=RC) (ts:=L.drop j) (ns:=ns) (W:=w8 t.2.1) (x0:=gw nm) (d:=(d:Int)) (c:=c) (a:=a') (.inr h0);rw[q1,q2,PX pN];exact⟨_,_,rfl,rfl,.inr ⟨⟨_,_,_,_,j,_,_,_,rfl,pN⟩,_,_,_,_,_,_,_,_,rfl,pN⟩⟩
  exact a3R hT U V (i:=i) (j:=j) G R F Q D (by rw[z]) h0 (λh=>absurd h M)
 have e9:decide (s4 (L.drop j)=9)=false:=DG D;rw[e9,aM4 (λh=>by simp at h)];unfold rA;rw[aM9 pO,aM9 pO,aM3,aM3];obtain⟨b1,q1⟩:=a3P hT (s:=s) (PC:=PC) (dp:=(d:Int)-1) (c:=c) (nm:=nm) (m:=s5 ns) (i:=j) (a:=a) (.inl D);obtain⟨b2,q2⟩:=a3Q hT (n:=n) (RC:=RC) (ts:=L.drop j) (ns:=ns) (W:=w8 (tV (L.drop j))) (x0:=gw nm) (d:=(d:Int)) (c:=c) (a:=a') (.inl D);rw[q1,q2,PX pN];exact⟨_,_,rfl,rfl,.inr ⟨⟨_,_,_,_,j,_,_,_,rfl,pN⟩,_,_,_,_,_,_,_,_,rfl,pN⟩⟩
theorem aHv {d:Nat}(V:d<=9) (Y:gu s L n PC RC) (X:d<=8->yj s L n PC RC d) {PM g1 g2 k1 k2 k3}{i:Nat}{c:Bool}{ns:List rU}{a a':Int}(Z:s4 (L.drop i)=2) (hc:ns.length<=i):
  ∃p q,KC PM g1 g2 PC s L (i:Int) (a,(0,())) ((d:Int)-1) c (s5 ns)=some p/\P1 k1 k2 (I2 RM RA RU RC) k3 (L.drop i,(n,(ns,(a',(0,()))))) (d:Int) c=some q/\(UG L i d p q\/UH p q):=by
 have hL:=hT.len;obtain⟨t,r,D,M⟩:=GN pN Z;have ha:=AQ D;have hg:=(vH D).1;rw[aHr];unfold P1;rw[A2 D hT.len M,DD D M,aM3,aM3];dsimp only;rw[<-AR D];rcases aHe hT (s:=s) (i:=i+1) (n:=n) (a:=a) (a':=a') (ns:=ns) pM with⟨t2,r2,E,he,q1,q2⟩ |⟨b1,e1,F,q1,y,ns2,b2,e2,G,q2⟩
 .have Q:=AQ E;have U:=(vH E).1;have hh:=yc ns t2.2.1;rw[q1,q2,aM3,aM3];dsimp only;rw[<-AR E];obtain⟨u,v,hp⟩:=wI (ts:=L.drop (i+1+1)) (n:=n) (ns:=wJ ns t2.2.1) (a:=a') (e:=0);rw[aM4 (show (decide ((0:Int)=0)==true)=true from rfl),hp,aM4 (λ_=>uH _),uB,vT,aM3];dsimp only;by_cases h8:s4 (L.drop (i+1+1))=8
  .obtain⟨t3,r3,z,I⟩:=GN pN h8;have O:=AQ z;have R:=(vH z).1;rw[h8,aM9 pN,aM4 (show (decide ((0:Int)=0)&&decide ((8:Int)=8))=true from by decide),A2 z hT.len I,DD z I,aM3,aM3];dsimp only;rw[<-AR z];exact aHu hT V Y X (i:=i) (j:=i+1+1+1) (nm:=t2.2.1) pM pM pM pM
  rw[aM9 (show¬(decide ((0:Int)=0)&&decide (s4 (L.drop (i+1+1))=8))=true by simp [h8])];by_cases K:s4 (L.drop (i+1+1))=3
  .rw[aM4 (xA K)];exact gv hT (i:=i) (j:=i+1+1) (nm:=t2.2.1) (st:=[]) (cs:=[]) (k:=2) pM pM pM (by rw[EM];simp only[aM8];omega) (by rw[IF];omega) rfl
  rw[aM9 (by simpa using K)];obtain⟨b1,p1⟩:=PQ (s:=s) (L:=L) (i:=i+1+1) (a:=a) (m:=s5 (wJ ns t2.2.1)) h8;obtain⟨b2,p2⟩:=ID (ts:=L.drop (i+1+1)) (n:=n) (ns:=wJ ns t2.2.1) (a:=a') K;rw[p1,p2,aM3,aM3];dsimp only;rw[a3S hT pN];exact⟨_,_,rfl,rfl,.inr ⟨⟨_,_,_,_,i+1+1,_,_,_,rfl,pN⟩,_,_,_,_,_,_,_,_,rfl,pN⟩⟩
 rw[q1,q2,aM3,aM3];dsimp only;have e0:decide (e2=0)=false:=DG G;rw[e0,aM9 pO,aM9 pO,C9 F,aM3,aM9 pO,yN F pN,yO G,aM3,aM3];dsimp only;rw[a3S hT F];exact⟨_,_,rfl,rfl,.inr ⟨⟨_,_,_,_,i+1,_,_,_,rfl,F⟩,_,_,_,_,_,_,_,_,rfl,G⟩⟩
end
end Go.Proofs.YtedimeeleabhnaaGreatDoor
namespace Go.Proofs.YtedimeeleabhnaaGreatDoor
open Vc
theorem Y1 (k:Int) (t n st:pI) (cs:List rM) (ps:List qF):wP (qF.of (k,(t,(n,(st,(cs,(ps,())))))))=64+t.length+n.length+st.length+wC cs+wL ps:=vN k t n st cs ps
theorem Y2 (k:Int) (t n st:pI) (cs:List rM) (ps:List qF) (hk:zH k st cs=true):EL (qF.of (k,(t,(n,(st,(cs,(ps,())))))))=1+max (zI cs) (sG ps):=by
 rw[show qF.of (k,(t,(n,(st,(cs,(ps,()))))))= .mk k t n st cs ps from rfl,XV,aM4 hk]
theorem aHw (s:pI):(UE s).length<=s.length:=by
 unfold UE;cases h:vU s with
 |none=>simp
 |some u=>exact xz s.length s u (aNt _) h
abbrev yl:Type:=pI->List rQ->Int->pQ->Int->Bool->Nm->Option PU
abbrev ym:Type:=GJ->Int->Bool->Option XY
def yn (s:pI) (L:List rQ) (n:Int) (GA:yl) (RA:ym) (d:Nat):Prop:=
 ∀(i:Nat) (ns:List rU) (a a':Int) (c:Bool),s4 (L.drop i)=2->ns.length<=i->∃p q,GA s L (i:Int) (a,(0,())) ((d:Int)-1) c (s5 ns)=some p/\RA (L.drop i,(n,(ns,(a',(0,()))))) (d:Int) c=some q/\(UG L i d p q\/UH p q)
abbrev yo:Type:=List qF×Int×Int×Int×Nm
abbrev RSt:Type:=List qF×List rQ×List rU×Int×Int
section
variable {s:pI}{L:List rQ}(hT:CA L) {n:Int}{PM:IG}{RM:FG}{GA:yl}{RA:ym}{g1 g2 g3}
include hT
theorem yp {dp:Int}{c:Bool}{x:List qF}{i a e:Int}{m:Nm}{GE}(j:e≠0):x9 s L dp c GE GA (x,i,a,e,m)=some (.inr (.inl (x,i,a,e,m))):=by
 unfold x9;dsimp only;rw[aM9 aO5]
theorem a3U {P0:GJ}{d:Int}{c:Bool}{x:List qF}{ts:List rQ}{ns:List rU}{a e:Int}(j:e≠0):y8 P0 d c RM RA (x,ts,ns,a,e)=some (.inr (.inl (ts,ns,a,e))):=by
 unfold y8;dsimp only;rw[aM9 aO5]
def UI (L:List rQ) (i d:Nat) (x:List qF) (p:Option (yo⊕(yo⊕yo))) (q:Option (RSt⊕((List rQ×List rU×Int×Int)⊕RSt))):Prop:=
 (∃(y:qF) (j:Nat) (ns:List rU) (a a':Int),p=some (.inl (x++[y],(j:Int),a,0,s5 ns))/\q=some (.inl (x++[y],L.drop j,ns,a',0))/\i<j/\j<=L.length/\ns.length<=j/\wP y+tw (L.drop j)<=tw (L.drop i)/\EL y+d<=10)\/
 (∃(x1 x2:List qF) (j:Nat) (a e:Int) (m:Nm) (ts:List rQ) (ns:List rU) (a' e':Int),p=some (.inl (x1,(j:Int),a,e,m))/\q=some (.inl (x2,ts,ns,a',e'))/\e≠0/\e'≠0)
theorem aHx {d:Nat}(O:d<=9) {c:Bool}{x:List qF}{i:Nat}{a a':Int}{ns:List rU}{Q:List rQ}{Z GE}(M:x.length<=i) (I:ns.length<=i) (h:s4 (L.drop i)=1):
  UI L i d x (x9 s L ((d:Int)-1) c GE GA (x,(i:Int),a,0,s5 ns)) (y8 (Q,(n,Z)) (d:Int) c RM RA (x,L.drop i,ns,a',0)):=by
 have R:=hT.len;obtain⟨t,r,j,E⟩:=GN pN h;have G:=AQ j;have K:=(vH j).1;unfold x9 y8;dsimp only;obtain⟨u,v,hp⟩:=wI (ts:=L.drop i) (n:=n) (ns:=ns) (a:=a') (e:=0);obtain⟨u1,v1,D⟩:=aHc t.2.1 (hT.mem j);obtain⟨u2,v2,z⟩:=aHd t.2.1 (hT.mem j);have F:=aHw t.2.1;rw[aM4 (show decide ((0:Int)=0)=true by decide),aM4 (show decide ((0:Int)=0)=true by decide),vT,hp,aM3,aM3];dsimp only;rw[h,aM4 (show decide ((1:Int)=1)=true by decide),aM4 (show decide ((1:Int)=1)=true by decide),A2 j hT.len E,DD j E,aM3,aM3];dsimp only;rw[D,z,aM3,aM3];dsimp only;rw[aM4 aPD,aM4 aPD,<-AR j];refine .inl ⟨_,i+1,ns,a,a',rfl,rfl,pM,pM,pM,?_,?_⟩
 .rw[Y1,EM,BI];simp only[aM8];omega
 rw[Y2 _ _ _ _ _ _ rfl,IF,FF];simp only[Nat.max_self];omega
theorem aHy {d:Nat}(I:d<=9) {x:List qF}{i:Nat}{a a':Int}{ns:List rU}{Q:List rQ}{Z GE}(G:x.length<=i) (E:ns.length<=i) (h:s4 (L.drop i)=4):
  UI L i d x (x9 s L ((d:Int)-1) true GE GA (x,(i:Int),a,0,s5 ns)) (y8 (Q,(n,Z)) (d:Int) true RM RA (x,L.drop i,ns,a',0)):=by
 have K:=hT.len;obtain⟨t,r,j,z⟩:=GN pN h;have D:=AQ j;have F:=(vH j).1;unfold x9 y8;dsimp only;obtain⟨u,v,hp⟩:=wI (ts:=L.drop i) (n:=n) (ns:=ns) (a:=a') (e:=0);rw[aM4 (show decide ((0:Int)=0)=true by decide),aM4 (show decide ((0:Int)=0)=true by decide),vT,hp,aM3,aM3];dsimp only;rw[h,aM9 (show¬decide ((4:Int)=1)=true by decide),aM9 (show¬decide ((4:Int)=1)=true by decide),aM4 (show decide ((4:Int)=4)=true by decide),aM4 (show (decide ((4:Int)=4)&&true)=true by decide),aM9 (show¬(!true)=true by decide),A2 j hT.len z,DD j z,aM3,aM3];dsimp only;rw[aM4 aPD,aM4 aPD,<-AR j];refine .inl ⟨_,i+1,ns,a,a',rfl,rfl,pM,pM,pM,?_,?_⟩
 .rw[Y1,EM,BI];simp only[aM8];omega
 rw[Y2 _ _ _ _ _ _ rfl,IF,FF];simp only[Nat.max_self];omega
theorem aHz {d:Nat}(I:d<=9) {c:Bool}{x:List qF}{i:Nat}{a a':Int}{ns:List rU}{Q:List rQ}{Z GE}(G:x.length<=i) (E:ns.length<=i) (hi:i<=L.length) (h:s4 (L.drop i)=7):
  UI L i d x (x9 s L ((d:Int)-1) c GE GA (x,(i:Int),a,0,s5 ns)) (y8 (Q,(n,Z)) (d:Int) c RM RA (x,L.drop i,ns,a',0)):=by
 have K:=hT.len;obtain⟨t,r,j,z⟩:=GN pN h;have D:=AQ j;have F:=(vH j).1;unfold x9 y8;dsimp only;obtain⟨u,v,hp⟩:=wI (ts:=L.drop i) (n:=n) (ns:=ns) (a:=a') (e:=0);rw[aM4 (show decide ((0:Int)=0)=true by decide),aM4 (show decide ((0:Int)=0)=true by decide),vT,hp,aM3,aM3];dsimp only;rw[h,aM9 (show¬decide ((7:Int)=1)=true by decide),aM9 (show¬decide ((7:Int)=1)=true by decide),aM9 (show¬decide ((7:Int)=4)=true by decide),aM9 (show¬(decide ((7:Int)=4)&&c)=true by simp),aM4 (show decide ((7:Int)=7)=true by decide),aM4 (show decide ((7:Int)=7)=true by decide),aM4 (show qG ((d:Int)-1+1) by unfold qG;omega),show (d:Int)-1+1=d by omega];by_cases h8:d<=8
 .rw[xq pM,xu pM,aM3,aM3];dsimp only;rw[A2 j hT.len z,DD j z,aM3,aM3];dsimp only;rw[aM4 aPD,aM4 aPD,<-AR j];refine .inl ⟨_,i+1,ns,a,a',rfl,rfl,pM,pM,pM,?_,?_⟩
  .rw[Y1,EM,BI];simp only[aM8];omega
  rw[Y2 _ _ _ _ _ _ rfl,IF,FF];simp only[Nat.max_self];omega
 obtain⟨b1,q1⟩:=xr (s:=s) (L:=L) (i:=i) (a:=a) (m:=s5 ns) (d:=d) pM;obtain⟨b2,q2⟩:=xv (ts:=L.drop i) (n:=n) (ns:=ns) (a:=a') (d:=d) pM;rw[q1,q2,aM3,aM3];dsimp only;rw[yN pN pN,yO pN,aM3,aM3];dsimp only;rw[aM4 aPD,aM4 aPD];exact .inr ⟨_,_,i,_,_,_,_,_,_,_,rfl,rfl,pN,pN⟩
theorem aHA {d:Nat}(F:yn s L n GA RA d) {c:Bool}{x:List qF}{i:Nat}{a a':Int}{ns:List rU}{Q:List rQ}{Z GE}(G:x.length<=i) (z:ns.length<=i) (hi:i<=L.length) (h:s4 (L.drop i)=2):
  UI L i d x (x9 s L ((d:Int)-1) c GE GA (x,(i:Int),a,0,s5 ns)) (y8 (Q,(n,Z)) (d:Int) c RM RA (x,L.drop i,ns,a',0)):=by
 have I:=hT.len;unfold x9 y8;dsimp only;obtain⟨u,v,hp⟩:=wI (ts:=L.drop i) (n:=n) (ns:=ns) (a:=a') (e:=0);obtain⟨p,q,q1,q2,q3⟩:=F i ns a a' c h z;rw[aM4 (show decide ((0:Int)=0)=true by decide),aM4 (show decide ((0:Int)=0)=true by decide),vT,hp,aM3,aM3];dsimp only;rw[h,aM9 (show¬decide ((2:Int)=1)=true by decide),aM9 (show¬decide ((2:Int)=1)=true by decide),aM9 (show¬decide ((2:Int)=4)=true by decide),aM9 (show¬(decide ((2:Int)=4)&&c)=true by simp),aM9 (show¬decide ((2:Int)=7)=true by decide),aM9 (show¬decide ((2:Int)=7)=true by decide),aM9 (show¬decide ((2:Int)=5)=true by decide),aM9 (show¬decide ((2:Int)=5)=true by decide),aM4 (show decide ((2:Int)=2)=true by decide),aM4 (show decide ((2:Int)=2)=true by decide),q1,q2,aM3,aM3];rw[aM4 aPD,aM4 aPD];rcases q3 with⟨k,nm,st,cs,j,ns2,b,b',rfl,rfl,o1,o2,o3,o4,o5,o6⟩ |⟨⟨k,nm,st,cs,j,b,e,m,rfl,E⟩,k2,nm2,st2,cs2,ts,ns2,b',e',rfl,D⟩
 .refine .inl ⟨_,j,ns2,b,b',rfl,rfl,pM,pM,pM,?_,?_⟩
  .dsimp only;rw[Y1,BI];simp only[aM8];omega
  dsimp only;rw[Y2 _ _ _ _ _ _ o6,FF];simp only[Nat.max_zero];omega
 exact .inr ⟨_,_,j,_,_,_,_,_,_,_,rfl,rfl,E,D⟩
theorem aHB {d:Nat}(hd:d<=9) (Y:DE s L n PM RM) (hM:d<=8->GK s L n PM RM (d+1)) {c:Bool}{x:List qF}{i:Nat}{a a':Int}{ns:List rU}{Q:List rQ}{Z}(hx:x.length<=i) (hg:ns.length<=i) (hi:i<=L.length) (h:s4 (L.drop i)=5):
  UI L i d x (x9 s L ((d:Int)-1) c (EI PM g1 g2 g3) GA (x,(i:Int),a,0,s5 ns)) (y8 (Q,(n,Z)) (d:Int) c RM RA (x,L.drop i,ns,a',0)):=by
 have hL:=hT.len;obtain⟨t,r,E,X⟩:=GN pN h;have hc:=AQ E;have hh:=(vH E).1;unfold x9 y8 EI;dsimp only;obtain⟨u,v,hp⟩:=wI (ts:=L.drop i) (n:=n) (ns:=ns) (a:=a') (e:=0);rw[aM4 (show decide ((0:Int)=0)=true by decide),aM4 (show decide ((0:Int)=0)=true by decide),vT,hp,aM3,aM3];dsimp only;rw[h,aM9 (show¬decide ((5:Int)=1)=true by decide),aM9 (show¬decide ((5:Int)=1)=true by decide),aM9 (show¬decide ((5:Int)=4)=true by decide),aM9 (show¬(decide ((5:Int)=4)&&c)=true by simp),aM9 (show¬decide ((5:Int)=7)=true by decide),aM9 (show¬decide ((5:Int)=7)=true by decide),aM4 (show decide ((5:Int)=5)=true by decide),aM4 (show decide ((5:Int)=5)=true by decide),aM4 (show qG ((d:Int)-1+1) by unfold qG;omega),show (d:Int)-1+1=d by omega];by_cases h8:d<=8
 .rw[xq pM,xu pM,aM3,aM3];dsimp only;obtain⟨p,q,q1,q2,q3⟩:=hM h8 (i+1) ns a a' c pM pM;have U:((d:Int)+1)=((d+1:Nat):Int):=by omega
  have O:(((d+1:Nat):Int)-1)=(d:Int):=by omega
  rw[O] at q1;rw[A2 E hT.len X,DD E X,aM3,aM3];dsimp only;rw[aM4 (show qG ((d:Int)+1) by unfold qG;omega),U,<-AR E,q1,q2,aM3,aM3];rcases q3 with⟨ps,j,ns2,b,b',rfl,rfl,o1,o2,o3,o4,o5⟩ |⟨⟨ps,j,b,e,m,rfl,G⟩,ps2,ts,ns2,b',e',rfl,D⟩
  .dsimp only;obtain⟨u,v,hp⟩:=wI (ts:=L.drop j) (n:=n) (ns:=ns2) (a:=b') (e:=0);rw[vT,hp,aM3,aM3];dsimp only;by_cases I:s4 (L.drop j)=6
   .obtain⟨t6,r6,z,M⟩:=GN pN I;obtain⟨F,K⟩:=vH z;have ha:=AQ z;have V:tV (L.drop j)=t6.2.1:=by rw[z];rfl
    rw[I,aM4 (λ_=>rO F),A1 F,K F,V,aM4 (show (decide ((6:Int)=6)==true)=true by decide),aM4 (show _->(some (_,_,_,_)).isSome=true from λ_=>uH _)];by_cases R:t6.2.1=t.2.1
    .rw[aM9 (show¬((!decide ((6:Int)=6))||(!decide (t6.2.1=t.2.1)))=true by simp [R]),aM9 (show¬(decide ((6:Int)=6)&&(!decide (t6.2.1=t.2.1)))=true by simp [R]),A2 z hT.len M,DD z M,aM3,aM3,aM3]
     dsimp only;rw[aM4 aPD,aM4 aPD,<-AR z];refine .inl ⟨_,j+1,ns2,b,b',rfl,rfl,pM,pM,pM,?_,?_⟩
     .rw[Y1,EM];simp only[aM8];omega
     rw[Y2 _ _ _ _ _ _ rfl,IF];simp only[Nat.zero_max];omega
    obtain⟨b1,k1⟩:=BH (s:=s) (L:=L) (i:=j) (a:=b) (m:=s5 ns2) 3;obtain⟨b2,k2⟩:=GI (ts:=L.drop j) (n:=n) (ns:=ns2) (a:=b') 3;rw[aM4 (show ((!decide ((6:Int)=6))||(!decide (t6.2.1=t.2.1)))=true by simp [R]),aM4 (show (decide ((6:Int)=6)&&(!decide (t6.2.1=t.2.1)))=true by simp [R]),k1,k2,aM3,aM3]
    dsimp only;rw[yN pN pN,yO pN,aM3,aM3,aM3];dsimp only;rw[aM4 aPD,aM4 aPD];exact .inr ⟨_,_,j,_,_,_,_,_,_,_,rfl,rfl,pN,pN⟩
   obtain⟨b1,k1⟩:=BH (s:=s) (L:=L) (i:=j) (a:=b) (m:=s5 ns2) 3;obtain⟨b2,k2⟩:=ID (ts:=L.drop j) (n:=n) (ns:=ns2) (a:=b') I;have e6:decide (s4 (L.drop j)=6)=false:=DG I;rw[e6,aM4 (λh=>by simp at h),aM4 pO,aM9 pO,aM9 pO,k1,k2,aM3,aM3];dsimp only;rw[yN pN pN,aM3,aM3];dsimp only;rw[aM4 aPD,aM4 aPD];exact .inr ⟨_,_,j,_,_,_,_,_,_,_,rfl,rfl,pN,pN⟩
  dsimp only;obtain⟨u,v,hp⟩:=wI (ts:=ts) (n:=n) (ns:=ns2) (a:=b') (e:=e');rw[C9 G,hp,aM3,aM3];dsimp only;rw[aM4 (λh=>by simp at h),aM4 pO,GH G,aM3];dsimp only;rw[yN G pN,aM3,aM3];dsimp only;rw[aM4 aPD];rcases D with D|⟨rfl,h4⟩
  .by_cases I:s4 ts=6
   .rw[I,aM4 (show (decide ((6:Int)=6)==true)=true by decide),aM4 (show _->(some (_,_,_,_)).isSome=true from λ_=>uH _)];split
    .rw[gn D,aM3];dsimp only;rw[yO D,aM3];dsimp only;rw[aM4 aPD];exact .inr ⟨_,_,j,_,_,_,ts,ns2,b',e',rfl,rfl,G,D⟩
    rw[yO D,aM3];dsimp only;rw[aM4 aPD];exact .inr ⟨_,_,j,_,_,_,ts,ns2,b',e',rfl,rfl,G,D⟩
   have e6:decide (s4 ts=6)=false:=DG I;rw[e6,aM9 pO,aM9 pO,yO D,aM3];dsimp only;rw[aM4 aPD];exact .inr ⟨_,_,j,_,_,_,_,_,_,_,rfl,rfl,G,D⟩
  obtain⟨b2,k2⟩:=ID (ts:=ts) (n:=n) (ns:=ns2) (a:=b') (k:=6) (by rw[h4];decide);rw[h4,aM9 (show¬(decide ((4:Int)=6)==true)=true by decide),aM9 pO,k2,aM3];dsimp only;rw[aM4 aPD];exact .inr ⟨_,_,j,_,_,_,_,_,_,_,rfl,rfl,G,pN⟩
 obtain⟨b1,q1⟩:=xr (s:=s) (L:=L) (i:=i) (a:=a) (m:=s5 ns) (d:=d) pM;obtain⟨b2,q2⟩:=xv (ts:=L.drop i) (n:=n) (ns:=ns) (a:=a') (d:=d) pM;rw[q1,q2,aM3,aM3];dsimp only;rw[yN pN pN,yO pN,aM3,aM3];dsimp only;obtain⟨u,v,hp⟩:=wI (ts:=L.drop i) (n:=n) (ns:=ns) (a:=b2) (e:=6);rw[aM4 (show qG ((d:Int)+1) by unfold qG;omega),Y.p _ _ _ _ _ _ pN,Y.r _ _ _ _ _ _ pN,aM3,aM3];dsimp only;rw[C9 pN,hp,aM3,aM3];dsimp only;rw[h,aM4 (λh=>by simp at h),aM4 pO,aM9 (show¬(decide ((5:Int)=6)==true)=true by decide),aM9 pO,GH pN,yO pN,aM3,aM3];dsimp only;rw[yN pN pN,aM3,aM3];dsimp only;rw[aM4 aPD,aM4 aPD];exact .inr ⟨_,_,i,_,_,_,_,_,_,_,rfl,rfl,pN,pN⟩
end
section
variable {s:pI}{L:List rQ}(hT:CA L) {n:Int}{PM:IG}{RM:FG}{GA:yl}{RA:ym}{g1 g2 g3}
include hT
theorem aHC {dp:Int}{c:Bool}{x:List qF}{i:Nat}{a:Int}{m:Nm}{GE}(F:s4 (L.drop i)≠1) (D:s4 (L.drop i)≠4) (j:s4 (L.drop i)≠7) (z:s4 (L.drop i)≠5) (E:s4 (L.drop i)≠2):x9 s L dp c GE GA (x,(i:Int),a,0,m)=some (.inr (.inr (x,(i:Int),a,0,m))):=by
 unfold x9;dsimp only;rw[aM4 (show decide ((0:Int)=0)=true by decide),vT,aM3,aM9 aPd,aM9 aPm,aM9 aO5,aM9 aO6,aM9 (by simpa using E)]
theorem aHD {dp:Int}{x:List qF}{i:Nat}{a:Int}{m:Nm}{GE}(z:x.length<=4000) (j:s4 (L.drop i)=4): ∃x2 a2,x9 s L dp false GE GA (x,(i:Int),a,0,m)=some (.inl (x2,(i:Int),a2,3,m)):=by
 obtain⟨b1,k1⟩:=BH (s:=s) (L:=L) (i:=i) (a:=a) (m:=m) 3;refine⟨x++[qF.of ((10:Int),(([]:pI),(([]:pI),(([]:pI),(([]:List rM),(([]:List qF),()))))))],b1,?_⟩;unfold x9;dsimp only;rw[aM4 (show decide ((0:Int)=0)=true by decide),vT,aM3,j,aM9 (show¬decide ((4:Int)=1)=true by decide),aM4 (show decide ((4:Int)=4)=true by decide),aM4 (show (!false)=true by decide),k1,aM3];dsimp only;rw[yN pN pN,aM3];dsimp only;rw[aM4 aPD]
theorem a3V {P0:GJ}{d:Int}{c:Bool}{x:List qF}{ts:List rQ}{ns:List rU}{a:Int}(F:s4 ts≠1) (D:s4 ts≠4\/c=false) (j:s4 ts≠7) (z:s4 ts≠5) (E:s4 ts≠2):y8 P0 d c RM RA (x,ts,ns,a,0)=some (.inr (.inr (x,ts,ns,a,0))):=by
 obtain⟨u,v,hp⟩:=wI (ts:=ts) (n:=P0.2.1) (ns:=ns) (a:=a) (e:=0);unfold y8;dsimp only;rw[aM4 (show decide ((0:Int)=0)=true by decide),hp,aM3];dsimp only;rw[aM9 aPd,aM9 (show¬(decide (s4 ts=4)&&c)=true by rcases D with h|h<;>simp [h]),aM9 aO5,aM9 aO6,aM9 (by simpa using E)]
theorem a3W {d:Nat}(E:d<=9) (Y:DE s L n PM RM) (X:d<=8->GK s L n PM RM (d+1)) (hA:yn s L n GA RA d) {c:Bool}{Q:List rQ}{Z}{i0:Nat}:
  ∀(k i:Nat) (x:List qF) (ns:List rU) (a a':Int),L.length<=i+k->i<=L.length->ns.length<=i->x.length<=i->i0<=i->wL x+tw (L.drop i)<=tw (L.drop i0)->sG x+d<=10->
  ∃p q,(sK (rC (x9 s L ((d:Int)-1) c (EI PM g1 g2 g3) GA) (x,(i:Int),a,0,s5 ns)) λy=>some (y.1,y.2.1,y.2.2.1,y.2.2.2.1,y.2.2.2.2))=some p/\
   (sK (rC (y8 (Q,(n,Z)) (d:Int) c RM RA) (x,L.drop i,ns,a',0)) λy=>some ([],y.1,y.2.1,y.2.2.1,y.2.2.2))=some q/\(HB L i0 d p q\/ye p q)
 |k,i,x,ns,a,a',hk,hi,z,D,R,hw,U=>by
  have hL:=hT.len;have go:UI L i d x (x9 s L ((d:Int)-1) c (EI PM g1 g2 g3) GA (x,(i:Int),a,0,s5 ns)) (y8 (Q,(n,Z)) (d:Int) c RM RA (x,L.drop i,ns,a',0))->∃p q,(sK (rC (x9 s L ((d:Int)-1) c (EI PM g1 g2 g3) GA) (x,(i:Int),a,0,s5 ns)) λy=>some (y.1,y.2.1,y.2.2.1,y.2.2.2.1,y.2.2.2.2))=some p/\
   (sK (rC (y8 (Q,(n,Z)) (d:Int) c RM RA) (x,L.drop i,ns,a',0)) λy=>some ([],y.1,y.2.1,y.2.2.1,y.2.2.2))=some q/\(HB L i0 d p q\/ye p q):=by
   rintro(⟨y,j,ns2,b,b',q1,q2,o1,o2,o3,o4,o5⟩ |⟨x1,x2,j,b,e,m,ts,ns2,b',e',q1,q2,V,G⟩)
   .rw[tA,q1,tA,q2,aM3,aM3];dsimp only;cases k with
    |zero=>omega
    |succ k=>
     refine a3W E Y X hA k j (x++[y]) ns2 b b' pM o2 o3 aPC pM ?_ ?_
     .rw[gr];omega
     rw[yd];omega
   rw[tA,q1,tA,q2,aM3,aM3];dsimp only;rw[tA,yp hT V,tA,a3U hT G,aM3,aM3];exact⟨_,_,rfl,rfl,.inr ⟨⟨_,j,_,_,_,rfl,V⟩,_,_,_,_,_,rfl,.inl G⟩⟩
  by_cases O:s4 (L.drop i)=1
  .exact go (aHx hT E D z O)
  by_cases I:s4 (L.drop i)=7
  .exact go (aHz hT E D z hi I)
  by_cases K:s4 (L.drop i)=5
  .exact go (aHB hT E Y X D z hi K)
  by_cases M:s4 (L.drop i)=2
  .exact go (aHA hT hA D z hi M)
  by_cases F:s4 (L.drop i)=4
  .cases c with
   |true=>exact go (aHy hT E D z F)
   |false=>
    obtain⟨x2,b,q1⟩:=aHD hT (s:=s) (dp:=(d:Int)-1) (x:=x) (i:=i) (a:=a) (m:=s5 ns) (GA:=GA) (GE:=EI PM g1 g2 g3) pM F;rw[tA,q1,tA,a3V hT O (.inr rfl) I K M,aM3,aM3];dsimp only;rw[tA,yp hT pN,aM3];exact⟨_,_,rfl,rfl,.inr ⟨⟨_,i,_,_,_,rfl,show (3:Int)≠0 by decide⟩,_,_,_,_,_,rfl,.inr ⟨rfl,F⟩⟩⟩
  rw[tA,aHC hT O F I K M,tA,a3V hT O (.inl F) I K M,aM3,aM3];exact⟨_,_,rfl,rfl,.inl ⟨x,i,ns,a,a',rfl,rfl,R,hi,z,hw,U⟩⟩
theorem aHE {d:Nat}(z:d<=9) (E:DE s L n PM RM) (D:d<=8->GK s L n PM RM (d+1)) (F:yn s L n GA RA d) {PM' g4 k1 k2}:GK s L n (I6 PM' (EI PM g1 g2 g3) GA g4) (I1 RM RA k1 k2) d:=by
 intro i ns a a' c hi j;rw[I6.eq_1,I1.eq_1];exact a3W hT z E D F L.length i [] ns a a' pM hi j pO (aNt _) aPF (by rw[FF];omega)
theorem aHF {PM' GE g4 k1 k2}:DE s L n (I6 PM' GE GA g4) (I1 RM RA k1 k2) where
 p i a e dd c m j:=by
  unfold I6;rw[tA,show x9 s L dd c GE GA (([]:List qF),(i:Int),a,e,m)=_ from yp hT j];rfl
 r ts ns a e dd c j:=by
  unfold I1;dsimp only;rw[tA,a3U hT j];rfl
end
noncomputable abbrev pg (N:Nat):=TO N
noncomputable abbrev rg (N:Nat):=TG N
theorem a3X (N:Nat):(pg (N+1)).1=I6 (pg N).1 (pg N).2.1 (pg N).2.2.1 (pg N).2.2.2:=rfl
theorem aHG (N:Nat):(pg (N+1)).2.1=EI (pg N).1 (pg N).2.1 (pg N).2.2.1 (pg N).2.2.2:=rfl
theorem aHH (N:Nat):(pg (N+1)).2.2.1=KC (pg N).1 (pg N).2.1 (pg N).2.2.1 (pg N).2.2.2:=rfl
theorem a3Y (N:Nat):(pg (N+1)).2.2.2=I7 (pg N).1 (pg N).2.1 (pg N).2.2.1 (pg N).2.2.2:=rfl
theorem a3Z (N:Nat):(rg (N+1)).1=I1 (rg N).1 (rg N).2.1 (rg N).2.2.1 (rg N).2.2.2:=rfl
theorem aHI (N:Nat):(rg (N+1)).2.1=P1 (rg N).1 (rg N).2.1 (rg N).2.2.1 (rg N).2.2.2:=rfl
theorem aHJ (N:Nat):(rg (N+1)).2.2.1=I2 (rg N).1 (rg N).2.1 (rg N).2.2.1 (rg N).2.2.2:=rfl
theorem a30 (N:Nat):(rg (N+1)).2.2.2=I3 (rg N).1 (rg N).2.1 (rg N).2.2.1 (rg N).2.2.2:=rfl
section
variable {s:pI}{L:List rQ}(hT:CA L) {n:Int}
include hT
theorem gy {N M:Nat}(j:1<=N) (z:1<=M):DE s L n (pg N).1 (rg M).1:=by
 obtain⟨N,rfl⟩: ∃k,N=k+1:=⟨N-1,pM⟩;obtain⟨M,rfl⟩: ∃k,M=k+1:=⟨M-1,pM⟩;rw[a3X,a3Z];exact aHF hT
theorem aHK {N M:Nat}(D:2<=N) (E:2<=M):gu s L n (pg N).2.2.2 (rg M).2.2.2:=by
 obtain⟨N,rfl⟩: ∃k,N=k+1:=⟨N-1,pM⟩;obtain⟨M,rfl⟩: ∃k,M=k+1:=⟨M-1,pM⟩;rw[a3Y,a30];have z:=gy hT (s:=s) (n:=n) (N:=N) (M:=M) pM pM;exact⟨λi a e kd dd c m j=>aHp hT z j,λts ns a e x dd c j=>aHq hT j⟩
theorem a32: ∀(k d N M:Nat),d+k=9->5*k+5<=N->5*k+5<=M->GK s L n (pg N).1 (rg M).1 d
 |k,d,N,M,E,F,G=>by
  obtain⟨N,rfl⟩: ∃k,N=k+1+1+1:=⟨N-3,pM⟩;obtain⟨M,rfl⟩: ∃k,M=k+1+1+1+1:=⟨M-4,pM⟩;rw[a3X,a3Z,aHG];have up: ∀N' M':Nat,5*k<=N'->5*k<=M'->d<=8->GK s L n (pg N').1 (rg M').1 (d+1):=λN' M' I z h8=>by
   cases k with
   |zero=>omega
   |succ k=>exact a32 k (d+1) N' M' pM pM pM
  refine aHE hT pM (gy hT pM pM) (up _ _ pM pM) ?_;rw[aHH,aHI,aHJ];intro i ns a a' c z j;refine aHv hT pM (aHK hT pM pM) (λh8=>?_) z j;rw[a3Y,a30];intro i ns a a' kd x c D hi j;exact aHo hT (gy hT pM pM) pM (up _ _ pM pM h8) D hi j
theorem aHL:GK s L n KD K8 1:=by rw[a3I,a3G];exact a32 hT 8 1 1000 1000 rfl pM pM
theorem aHM:DE s L n KD K8:=by rw[a3I,a3G];exact gy hT (N:=1000) (M:=1000) pM pM
end
end Go.Proofs.YtedimeeleabhnaaGreatDoor
namespace Go.Proofs.YtedimeeleabhnaaGreatDoor
open Vc
def a33 {σ ρ α β:Type}{f:σ->Option (σ⊕ρ)}{l:List α}(st:Int->List β->σ) (out:List β->ρ) (g:α->List β) {M:Nat}
  (hf: ∀(i:Nat) (h:i<l.length) (b:List β),b.length+(g l[i]).length<=M->f (st i b)=some (.inl (st ((i:Int)+1) (b++g l[i]))))
  (D: ∀b,f (st l.length b)=some (.inr (out b))): ∀(n j:Nat) (b:List β),j+n=l.length->b.length+((l.drop j).flatMap g).length<=M->rC f (st j b)=some (out (b++(l.drop j).flatMap g))
 |0,j,b,F,_=>by
  have:j=l.length:=by omega
  subst this;rw[xP (D b),aNH];simp
 |n+1,j,b,F,E=>by
  have z:j<l.length:=by omega
  rw[aNm z,aNX] at E|-;rw[aM7] at E;rw[AB (hf j z b pM),show ((j:Int)+1)=((j+1:Nat):Int) by omega,a33 st out g hf D n (j+1) (b++g l[j]) pM aPA,aNd]
def yB {σ ρ α β:Type}{f:σ->Option (σ⊕ρ)}{l:List α}(st:Int->List β->σ) (out:List β->ρ) (g:α->List β) {M:Nat}
  (hf: ∀(i:Nat) (h:i<l.length) (b:List β),b.length+(g l[i]).length<=M->f (st i b)=some (.inl (st ((i:Int)+1) (b++g l[i]))))
  (j: ∀b,f (st l.length b)=some (.inr (out b))) (b:List β) (z:b.length+(l.flatMap g).length<=M):rC f (st 0 b)=some (out (b++l.flatMap g)):=by
 have:=a33 st out g hf j l.length 0 b pM aO6;simpa using this
def L3 (c:UInt8):pI:=if uE c=true then[92,c] else[c]
def L4 (s:pI):pI:=s.flatMap L3
def aHN (c:UInt8):(L3 c).length<=2:=by unfold L3;split<;>simp
def UJ (s:pI):(L4 s).length<=2*s.length:=by
 have:=BF (l:=s) (h:=L3) (B:=2) λx _=>aHN x;unfold L4;omega
def II {α:Type}{l:List α}{g:α->pI}:l.flatMap (λx=>tK (g x))=tK (l.flatMap g):=by
 induction l with
 |nil=>rfl
 |cons x l ih=>rw[aNX,aNX,KS,ih]
def aHO (s:pI) (D:fit s):SF s=some (L4 s):=by
 unfold fit at D;have h:=yB (f:=NW s) (l:=s) (λi b=>(b,i)) (λb=>b) (λc=>tK (L3 c)) (M:=100000000000) (λi h b z=>by
  rw[xJ] at z;unfold NW;dsimp only;rw[aM4 (sI h),aM4 (rO h),wF h];change (if KU (s[i].toNat:Int)=true then _ else _:Option _)=_;unfold L3 at z|-;by_cases j:uE s[i]=true
  .rw[aM4 j] at z|-;rw[aM4 (show KU s[i].toNat=true from j),aM4 (by simp only[aM5,aM8] at z|-;omega),aM4 (rO h),aM4 (by simp only[aM5,aM7,aM8] at z|-;omega),aM4 (s7 pM),aNd];rfl
  .rw[aM9 j] at z|-;rw[aM9 (show¬KU s[i].toNat=true from j),aM4 (rO h),aM4 (by simp only[aM5,aM8] at z|-;omega),aM4 (s7 pM)];rfl) (λb=>by
  unfold NW;dsimp only;rw[aM9 (sO _)]) [] aPG
 unfold SF;rw[h,II,List.nil_append];unfold rA;rw[aM3,PI];rfl
def a34 (s:pI) (D:fit s):NY s=some (L4 s):=by
 unfold fit at D;have h:=yB (f:=NX s) (l:=s) (λi b=>(i,b)) (λb=>b) (λc=>tK (L3 c)) (M:=100000000000) (λi h b z=>by
  rw[xJ] at z;unfold NX;dsimp only;rw[aM4 (sI h),aM4 (rO h),wF h,xi];unfold L3 at z|-;by_cases j:uE s[i]=true
  .rw[aM4 j] at z|-;rw[aM4 (show KU s[i].toNat=true from j),XL (by simp only[aM5,aM8] at z;omega),aM3,aM4 (rO h),XL (by simp only[aM5,aM7,aM8] at z|-;omega),aM3,aM4 (s7 pM),aNd];rfl
  .rw[aM9 j] at z|-;rw[aM9 (show¬KU s[i].toNat=true from j),aM4 (rO h),XL (by simp only[aM5,aM8] at z;omega),aM3,aM4 (s7 pM)];rfl) (λb=>by
  unfold NX;dsimp only;rw[aM9 (sO _)]) [] aPG
 unfold NY;rw[h,II,List.nil_append];unfold rA;rw[aM3,PI];rfl
def zJ (k:Int):pI:=gi.getD (k-3).toNat []
mutual
def DH:qF->pI
 | .mk k t n st cs ps=>
  if k=1 then L4 t
  else if k=10 then[35]
  else if k=11 then(if ps.length=0 then[60]++n++[47,62] else[60]++n++[62]++u7 ps++[60,47]++n++[62])
  else if k=2 then[123]++n++[125]
  else[123]++n++[44]++[32]++zJ k++(if st=[] then[] else[44]++[32]++st)++(if 7<=k then[44] else[])++AS cs++[125]
termination_by p=>SizeOf.sizeOf p
def u7:List qF->pI
 |[]=>[]
 |p::l=>DH p++u7 l
termination_by l=>SizeOf.sizeOf l
def AS:List (pI×List qF×Unit)->pI
 |[]=>[]
 |(k,ps,_)::l=>([32]++k++[32]++[123]++u7 ps++[125])++AS l
termination_by l=>SizeOf.sizeOf l
end
def IJ (c:rM):pI:=[32]++c.1++[32]++[123]++u7 c.2.1++[125]
def a35:u7 []=[]:=by rw[u7]
def a36 (p:qF) (l:List qF):u7 (p::l)=DH p++u7 l:=by rw[u7]
def yq:AS []=[]:=by rw[AS]
def a38 (c:rM) (l:List rM):AS (c::l)=IJ c++AS l:=by obtain⟨k,ps,u⟩:=c;rw[AS];rfl
def gz: ∀l:List qF,u7 l=l.flatMap DH
 |[]=>a35
 |p::l=>by rw[a36,aNX,gz l]
def ia: ∀l:List rM,AS l=l.flatMap IJ
 |[]=>yq
 |c::l=>by rw[a38,aNX,ia l]
def ib (k:Int) (t n st:pI) (cs:List rM) (ps:List qF):DH (.mk k t n st cs ps)=
  if k=1 then L4 t
  else if k=10 then[35]
  else if k=11 then(if ps.length=0 then[60]++n++[47,62] else[60]++n++[62]++u7 ps++[60,47]++n++[62])
  else if k=2 then[123]++n++[125]
  else[123]++n++[44]++[32]++zJ k++(if st=[] then[] else[44]++[32]++st)++(if 7<=k then[44] else[])++AS cs++[125]:=by rw[DH]
def ic (k:Int):(zJ k).length<=20:=by
 unfold zJ;by_cases h:(k-3).toNat<7
 .generalize (k-3).toNat=q at h;rw[aNy];rcases(show q=0\/q=1\/q=2\/q=3\/q=4\/q=5\/q=6 by omega) with h|h|h|h|h|h|h<;>subst h<;>decide
 rw[aNy,aOj (by show 7<=_;omega)];decide
mutual
def aHP: ∀p:qF,(DH p).length<=2*wP p
 | .mk k t n st cs ps=>by
  have E:=EN ps;have D:=L5 cs;have z:=UJ t;have j:=ic k;rw[ib,vN];split
  .omega
  split
  .simp only[aM5,aM8];omega
  split
  .split<;>(simp only[aM7,aM5,aM8];omega)
  split
  .simp only[aM7,aM5,aM8];omega
  simp only[aM7,aM5,aM8];split<;>split<;>(simp only[aM7,aM5,aM8];omega)
termination_by p=>SizeOf.sizeOf p
def EN: ∀l:List qF,(u7 l).length<=2*wL l
 |[]=>by rw[a35,BI];simp
 |p::l=>by
  have z:=aHP p;have j:=EN l;rw[a36,CB,aM7];omega
termination_by l=>SizeOf.sizeOf l
def L5: ∀l:List (pI×List qF×Unit),(AS l).length<=2*wC l
 |[]=>by rw[yq,EM];simp
 |(k,ps,u)::l=>by
  have z:=EN ps;have j:=L5 l;rw[a38,KZ,aM7];unfold IJ;simp only[aM7,aM5,aM8];omega
termination_by l=>SizeOf.sizeOf l
end
def AT {p:qF}: ∀{l:List qF},p∈l->EL p<=sG l
 |q::l,h=>by
  rw[IE];rcases aNk.1 h with rfl|h
  .omega
  have:=AT h;omega
def CC {c:rM}: ∀{l:List rM},c∈l->sG c.2.1<=zI l
 |q::l,h=>by
  rw[gq];rcases aNk.1 h with rfl|h
  .omega
  have:=CC h;omega
def yP {p:qF}: ∀{l:List qF},p∈l->wP p<=wL l
 |q::l,h=>by
  rw[CB];rcases aNk.1 h with rfl|h
  .omega
  have:=yP h;omega
def yC {c:rM}: ∀{l:List rM},c∈l->64+c.1.length+wL c.2.1<=wC l
 |q::l,h=>by
  rw[KZ];rcases aNk.1 h with rfl|h
  .omega
  have:=yC h;omega
def a39 (p:qF):64<=wP p:=by obtain⟨k,t,n,st,cs,ps⟩:=p;rw[vN];omega
def CD: ∀l:List qF,64*l.length<=wL l
 |[]=>by simp
 |p::l=>by rw[CB,aM5];have:=CD l;have:=a39 p;omega
def BJ: ∀l:List rM,64*l.length<=wC l
 |[]=>by simp
 |p::l=>by rw[KZ,aM5];have:=BJ l;omega
def DI {k:Int}{t n st:pI}{cs:List rM}{ps:List qF}{d:Nat}(h:EL (.mk k t n st cs ps)<=d) (j:d<=99):zH k st cs=true/\zI cs+1<=d/\sG ps+1<=d:=by
 rw[XV] at h;split at h
 .rename_i hk;exact⟨hk,pM,pM⟩
 omega
def a4a {k:Int}{st:pI}{cs:List rM}(h:zH k st cs=true):k=1\/k=10\/k=11\/(k=2/\st=[]/\cs=[])\/(3<=k/\k<=9):=by
 unfold zH at h;simp at h;rcases h with(((h|h) |h) |h) |h
 .exact .inl h
 .exact .inr (.inl h)
 .exact .inr (.inr (.inl h))
 .exact .inr (.inr (.inr (.inr h)))
 exact .inr (.inr (.inr (.inl ⟨h.1.1,h.1.2,h.2⟩)))
def xB {l:List qF}{i:Nat}(h:i<l.length) {k:Int}{t n st:pI}{cs:List rM}{ps:List qF}(j:l[i]= .mk k t n st cs ps):qF.un (qH .part l (i:Int))=(k,(t,(n,(st,(cs,(ps,())))))):=by
 rw[v7 (t:= .part) h];have:(l[i]:Ty.part.den)=qF.mk k t n st cs ps:=j;rw[this];rfl
def yr (c:rM):(IJ c).length=4+c.1.length+(u7 c.2.1).length:=by
 unfold IJ;simp only[aM7,aM5,aM8];omega
def ys {k:Int}(D:k≠1) (z:k≠10) (j:k≠11) {st:pI}{cs:List rM}(h:zH k st cs=true):(k=2/\st=[]/\cs=[])\/(3<=k/\k<=9):=by
 rcases a4a h with h|h|h|h|h
 .exact absurd h D
 .exact absurd h z
 .exact absurd h j
 .exact .inl h
 exact .inr h
section
variable {l:List qF}{G:List qF->pI->Option pI}{i:Nat}(hi:i<l.length) {k:Int}{t n st:pI}{cs:List rM}{ps:List qF}
def aHQ (hi:i<l.length) (E:l[i]= .mk k t n st cs ps) (D: ∀c∈cs,G c.2.1 [32]=some (u7 c.2.1)) (U:wC cs<=1000000000) (x:pI) (R:x.length<=100000000000):
  rC (HX l [32] (i:Int) G) (x,0)=some (x++AS cs):=by
 have F:=BJ cs;have z:=L5 cs;rw[ia] at z|-;refine yB (f:=HX l [32] (i:Int) G) (l:=cs) (λj b=>(b,j)) (λb=>b) IJ (M:=1000000000000) (λj h b K=>?_) (λb=>?_) x pM
 .have I:=D cs[j] (aNc h);have O:=yC (aNc h);have Q:=EN cs[j].2.1;rw[yr] at K;unfold HX;dsimp only;rw[xB hi E];dsimp only;rw[v7 (t:=rT) h,aM4 (sI h),aM4 (rO h)]
  iterate 3 rw[aM4 aPH]
  rw[aM4 (rO h),I,aM3]
  iterate 3 rw[aM4 aPH]
  rw[aM4 (s7 pM)];rfl
 unfold HX;dsimp only;rw[xB hi E];dsimp only;rw[aM9 (sO _)]
theorem aHR (hi:i<l.length) (z:l[i]= .mk k t n st cs ps) (hk:zH k st cs=true) (I:ps≠[]->G ps [32]=some (u7 ps)) (M: ∀c∈cs,G c.2.1 [32]=some (u7 c.2.1)) (Y:wL l<=1000000000) (x:pI) (X:x.length<=10000000000):
  K1 l [32] G (x,(i:Int))=some (.inl (x++DH l[i],(i:Int)+1)):=by
 have U:=CD l;have E:=yP (aNc hi);rw[z,vN] at E;have h1:=EN ps;have h3:=UJ t;have h4:=ic k;unfold K1;dsimp only;rw[xB hi z,z,ib];dsimp only;rw[aM4 (sI hi),aM4 (rO hi)];by_cases k1:k=1
 .rw[aM4 (xA k1),aM4 k1,aHO t aPI,aM3,aM4 aPJ,aM4 (s7 pM)]
 rw[aM9 (show¬decide (k=1)=true by simpa using k1),aM9 k1];by_cases k10:k=10
 .rw[aM4 (xA k10),aM4 k10,aM4 aPH,aM4 (s7 pM)]
 rw[aM9 (show¬decide (k=10)=true by simpa using k10),aM9 k10];by_cases k11:k=11
 .rw[aM4 k11];by_cases hp:ps=[]
  .subst hp;rw[aM4 (show (decide (k=11)&&decide ((([]:List qF).length:Int)=0))=true by simp [k11]),aM4 (show ([]:List qF).length=0 from rfl)]
   iterate 3 rw[aM4 aPH]
   rw[aM4 (s7 pM)]
  have K:ps.length≠0:=λh=>hp (aOf.1 h);rw[aM9 (show¬(decide (k=11)&&decide ((ps.length:Int)=0))=true by simp [hp]),aM9 K,aM4 (xA k11)]
  iterate 2 rw[aM4 aPH]
  rw[I hp,aM3]
  iterate 5 rw[aM4 aPH]
  rw[aM4 (s7 pM)]
 rw[aM9 (show¬(decide (k=11)&&decide ((ps.length:Int)=0))=true by simp [k11]),aM9 (show¬decide (k=11)=true by simpa using k11),aM9 k11];by_cases k2:k=2
 .rw[aM4 (xA k2),aM4 k2]
  iterate 3 rw[aM4 aPH]
  rw[aM4 (s7 pM)]
 have V:3<=k/\k<=9:=(ys k1 k10 k11 hk).resolve_left λh=>k2 h.1;obtain⟨q,rfl⟩: ∃q:Nat,k=q+3:=⟨(k-3).toNat,pM⟩;have R:q<7:=by omega
 have e3:((q:Int)+3-3)=(q:Int):=by omega
 rw[aM9 (show¬decide ((q:Int)+3=2)=true by simpa using k2),aM9 k2,aM4 (show (decide (3<=(q:Int)+3)&&decide ((q:Int)+3<=9))=true by simp;omega),e3];have F:(qH .str gi (q:Int))=zJ ((q:Int)+3):=by
  unfold zJ qH;rw[e3];rfl
 iterate 3 rw[aM4 aPH]
 rw[aM4 (show qG (q:Int) by unfold qG;omega),aM4 (show 0<=(q:Int)/\(q:Int)<(gi.length:Int) from⟨pM,by show (q:Int)<7;omega⟩)];rw[show qH .str ([([110,117,109,98,101,114]:pI),([117,110,105,116]:pI),([100,97,116,101]:pI),([108,105,115,116]:pI),([112,108,117,114,97,108]:pI),([111,114,100,105,110,97,108]:pI),([115,101,108,101,99,116]:pI)]:pJ) (q:Int)=zJ ((q:Int)+3) from F]
 iterate 2 rw[aM4 aPH]
 have e7:(((((q:Int)+3)=(7:Int))||(((q:Int)+3)=(8:Int)))||(((q:Int)+3)=(9:Int)))=decide (7<=(q:Int)+3):=by
  rw[aNv];simp;omega
 rw[e7];have tO: ∀(u v:pI),u.length<=4000000000->v.length<=4000000000->(rA (rC (HX l [32] (i:Int) G) (x++u++v,(0:Int))) λO=>
   if ((O++([125]:pI)).length:Int)<=9223372036854775807 then(if qG ((i:Int)+(1:Int)) then some (.inl ((O++([125]:pI)),((i:Int)+(1:Int)))) else none) else none)=(some (.inl (x++(u++v++AS cs++[125]),(i:Int)+1)):Option ((pI×Int)⊕pI)):=by
  intro u v Z hv;have Q:=L5 cs;rw[aHQ hi z M pM _ aPJ];unfold rA;rw[aM3,aM4 aPH,aM4 (s7 pM)];simp only[aNd]
 by_cases D:st=[]
 .subst D;rw[aM9 (show¬(!decide (([]:pI)=[]))=true by simp),aM4 rfl,List.append_nil];unfold rA;rw[aM3];by_cases j:7<=(q:Int)+3
  .rw[aM4 (xA j),aM4 j,aM4 aPH,aM3];exact tO _ _ aPH pO
  rw[aM9 (show¬decide (7<=(q:Int)+3)=true by simpa using j),aM9 j,aM3];have:=tO ([123]++n++[44]++[32]++zJ ((q:Int)+3)) [] aPH pO;simp only[List.append_nil] at this|-;exact this
 rw[aM4 (show (!decide (st=[]))=true by simpa using D),aM9 D]
 iterate 3 rw[aM4 aPH]
 unfold rA;rw[aM3];by_cases j:7<=(q:Int)+3
 .rw[aM4 (xA j),aM4 j,aM4 aPH,aM3];have:=tO ([123]++n++[44]++[32]++zJ ((q:Int)+3)++([44]++[32]++st)) [44] aPH pO;rw[aNd x];exact this
 rw[aM9 (show¬decide (7<=(q:Int)+3)=true by simpa using j),aM9 j,aM3];have:=tO ([123]++n++[44]++[32]++zJ ((q:Int)+3)++([44]++[32]++st)) [] aPH pO;rw[aNd x];simp only[List.append_nil] at this|-;exact this
end
def a4b: ∀(k N:Nat) (ps:List qF),sG ps<=k->k<=99->k+1<=N->wL ps<=1000000000->T2 N ps [32]=some (u7 ps)
 |k,N,ps,K,hk,Q,I=>by
  obtain⟨N,rfl⟩: ∃k,N=k+1:=⟨N-1,pM⟩;show T1 (T2 N) ps [32]=_;unfold T1;have E:=EN ps;have ih: ∀qs:List qF,sG qs+1<=k->wL qs<=1000000000->T2 N qs [32]=some (u7 qs):=λqs U O=>by
   cases k with
   |zero=>omega
   |succ k=>exact a4b k N qs pM pM pM O
  rw[gz] at E|-;have:=yB (f:=K1 ps [32] (T2 N)) (l:=ps) (λj b=>(b,j)) (λb=>b) DH (M:=10000000000) (λj h b R=>by
   have z:=AT (aNc h);have F:=yP (aNc h);cases D:ps[j] with
   |mk k' t n st cs ps'=>
    rw[D] at z;have⟨o1,o2,o3⟩:=DI (aNK z K) hk;rw[D,vN] at F;rw[<-D];exact aHR h D o1 (λ_=>ih ps' o3 pM) (λc G=>ih c.2.1 (by have:=CC G;omega) (by have:=yC G;omega)) I b pM) (λb=>by
   unfold K1;dsimp only;rw[aM9 (sO _)]) [] aPE
  rw[this];rfl
def Y3 {ps:List qF}(z:sG ps<=99) (j:wL ps<=1000000000):F8 ps [32]=some (u7 ps):=by rw[aMT];exact a4b 99 1000 ps z pM pM j
def a4c {α:Type}{f:(Int×Int)->Option ((Int×Int)⊕Int)}{l:List α}(g:α->pI) {M:Nat}
  (hf: ∀(i:Nat) (h:i<l.length) (x:Nat),x+(g l[i]).length<=M->f ((x:Int),(i:Int))=some (.inl (((x+(g l[i]).length:Nat):Int),(i:Int)+1)))
  (z: ∀x:Nat,f ((x:Int),(l.length:Int))=some (.inr (x:Int))) (x:Nat) (j:x+(l.flatMap g).length<=M):rC f ((x:Int),0)=some ((x+(l.flatMap g).length:Nat):Int):=by
 have:=yB (f:=f) (l:=l) (λi (b:pI)=>((b.length:Int),i)) (λb=>(b.length:Int)) g (M:=M) (λi h b j=>by
  rw[hf i h b.length j,aM7]) (λb=>z b.length) (List.replicate x 0) (by rw[List.length_replicate];exact j)
 simp only[List.length_replicate,aM7] at this;exact this
def PY (k:Int) (e:pI×Int):Nat:=if e.2=k then 2+e.1.length else 0
def yu (k:Int):Nat:=(tU.map (PY k)).sum
def aHS {l l':pX}(h:l.Perm l'):l.sum=l'.sum:=by
 induction h with
 |nil=>rfl
 |cons x _ ih=>rw[List.sum_cons,List.sum_cons,ih]
 |swap x y l=>simp only[List.sum_cons];omega
 |trans _ _ z j=>exact z.trans j
def aHT {k:Int}(h:3<=k/\k<=9):yu k=2+(zJ k).length:=by
 obtain⟨q,rfl⟩: ∃q:Nat,k=q+3:=⟨(k-3).toNat,pM⟩;rcases(show q=0\/q=1\/q=2\/q=3\/q=4\/q=5\/q=6 by omega) with h|h|h|h|h|h|h<;>subst h<;>decide
def ie {l:List qF}{i:Nat}(hi:i<l.length) {k:Int}{t n st:pI}{cs:List rM}{ps:List qF}(z:l[i]= .mk k t n st cs ps):
  ∀(L:List (pI×Int)) (x:Nat),(∀e∈L,e.1.length<=1000)->L.length<=1000->x<=100000000000-L.length*2000->HC (CY (O6 l (i:Int))) L (x:Int)=some ((x+(L.map (PY k)).sum:Nat):Int)
 |[],x,_,_,_=>by simp [HC]
 |e::L,x,D,F,E=>by
  have G:=D e aNq;simp only[aM5] at F E;have j:CY (O6 l (i:Int)) e (x:Int)=some ((x+PY k e:Nat):Int):=by
   obtain⟨key,v⟩:=e;unfold CY O6 PY;dsimp only;rw[xB hi z];dsimp only at G|-;by_cases hv:v=k
   .rw[aM4 (xA hv),aM4 hv,aM4 aPv,aM4 aPv,aM3];dsimp only;rfl
   rw[aM9 (show¬decide (v=k)=true by simpa using hv),aM9 hv,aM3,aOd]
  show (CY (O6 l (i:Int)) e (x:Int)).bind (HC _ L)=_;have I:PY k e<=1002:=by unfold PY;split<;>omega
  rw[j,aM3,ie hi z L (x+PY k e) (λe h=>D e (aNp _ h)) pM pM,aN8,List.sum_cons];congr 1;omega
def aHU {l:List qF}{i:Nat}(hi:i<l.length) {k:Int}{t n st:pI}{cs:List rM}{ps:List qF}(D:l[i]= .mk k t n st cs ps) (x:Nat) (E:x<=50000000000):
  RN (CY (O6 l (i:Int))) tU (x:Int)=some ((x+yu k:Nat):Int):=by
 have z: ∀e∈tU,e.1.length<=1000:=by
  unfold tU;intro e j;simp at j;rcases j with rfl|rfl|rfl|rfl|rfl|rfl|rfl<;>decide
 have G:tU.length=7:=rfl;unfold RN;rw[aM4 ?_]
 .exact ie hi D tU x z pM pM
 intro l' hp;have F:=hp.length_eq;rw[ie hi D tU x z pM pM,ie hi D l' x (λe j=>z e (hp.mem_iff.1 j)) pM pM,aHS (hp.map _)]
section
variable {l:List qF}{G:List qF->Option Int}{i:Nat}{k:Int}{t n st:pI}{cs:List rM}{ps:List qF}
def aHV (hi:i<l.length) (E:l[i]= .mk k t n st cs ps) (D: ∀c∈cs,G c.2.1=some ((u7 c.2.1).length:Int)) (U:wC cs<=1000000000) (x:Nat) (R:x<=100000000000):
  rC (O7 l (i:Int) G) ((x:Int),0)=some ((x+(AS cs).length:Nat):Int):=by
 have F:=BJ cs;have z:=L5 cs;rw[ia] at z|-;refine a4c (f:=O7 l (i:Int) G) (l:=cs) IJ (M:=1000000000000) (λj h x K=>?_) (λx=>?_) x pM
 .have I:=D cs[j] (aNc h);have O:=yC (aNc h);have Q:=EN cs[j].2.1;rw[yr] at K|-;unfold O7;dsimp only;rw[xB hi E];dsimp only;rw[v7 (t:=rT) h,aM4 (sI h),aM4 (rO h),aM4 aPv,I,aM3,aM4 aPv,aM4 aPv,aM4 (s7 pM)];congr 3
 unfold O7;dsimp only;rw[xB hi E];dsimp only;rw[aM9 (sO _)]
def aHW (hi:i<l.length) (E:l[i]= .mk k t n st cs ps) (hk:zH k st cs=true) (M:ps≠[]->G ps=some ((u7 ps).length:Int)) (R: ∀c∈cs,G c.2.1=some ((u7 c.2.1).length:Int)) (Y:wL l<=1000000000) (x:Nat) (U:x<=10000000000- (DH l[i]).length):
  SM l G ((x:Int),(i:Int))=some (.inl (((x+(DH l[i]).length:Nat):Int),(i:Int)+1)):=by
 have X:=CD l;have K:=yP (aNc hi);rw[E,vN] at K;have h1:=EN ps;have h2:=L5 cs;have h3:=UJ t;have Z:=ic k;unfold SM;dsimp only;rw[a3K,xB hi E];rw[E,ib] at U|-;dsimp only;rw[aM4 (sI hi),aM4 (rO hi)];by_cases k1:k=1
 .rw[aM4 (xA k1),aM4 k1,a34 t aPI,aM3,aM4 aPv,aM4 (s7 pM)];congr 3
 rw[aM9 (show¬decide (k=1)=true by simpa using k1),aM9 k1];by_cases k10:k=10
 .rw[aM4 (xA k10),aM4 k10,aM4 aPv,aM4 (s7 pM)];congr 3
 rw[aM9 (show¬decide (k=10)=true by simpa using k10),aM9 k10];by_cases k11:k=11
 .rw[aM4 (xA k11),aM4 k11,aM4 aPv,aM4 aPv];by_cases hp:ps=[]
  .subst hp;rw[aM9 (show¬decide ((0:Int)<(([]:List qF).length:Int))=true by simp),aM4 (show ([]:List qF).length=0 from rfl),aM4 (s7 pM)];simp only[aM7,aM5,aM8];congr 3;omega
  have Q:ps.length≠0:=λh=>hp (aOf.1 h);rw[aM4 (show decide ((0:Int)<(ps.length:Int))=true by simp;omega),aM9 Q,aM4 aPv,M hp,aM3,aM4 aPv,aM4 aPv,aM4 (s7 pM)];simp only[aM7,aM5,aM8];congr 3;omega
 rw[aM9 (show¬decide (k=11)=true by simpa using k11),aM9 k11,aM4 aPv,aM4 aPv];rw[show ((x:Int)+((2:Int)+(n.length:Int)))=((x+(2+n.length):Nat):Int) by omega,aHU hi E _ pM];have tO: ∀z:Nat,z<=100000000000->(rA (rC (O7 l (i:Int) G) ((z:Int),(0:Int))) λO=>if qG ((i:Int)+(1:Int)) then some (.inl (O,((i:Int)+(1:Int)))) else none)=(some (.inl (((z+(AS cs).length:Nat):Int),(i:Int)+1)):Option ((Int×Int)⊕Int)):=by
  intro z V;rw[aHV hi E R pM z V];unfold rA;rw[aM3,aM4 (s7 pM)]
 unfold rA at tO|-;rw[aM3];rcases ys k1 k10 k11 hk with⟨rfl,rfl,rfl⟩ |D
 .have F:yu 2=0:=by decide
  rw[aM4 rfl];rw[aM9 (show¬(!decide (([]:pI)=[]))=true by simp),aM3,aM9 (show¬(decide ((7:Int)<=2)&&decide ((2:Int)<=9))=true by decide),aM3,F,tO _ pM,yq];simp only[aM7,aM5,aM8];congr 3;omega
 have F:=aHT D;have k2: ¬k=2:=by omega
 rw[aM9 k2] at U|-;rw[F];by_cases I:st=[]
 .subst I;rw[aM9 (show¬(!decide (([]:pI)=[]))=true by simp),aM4 rfl,aM3];by_cases j:7<=k
  .rw[aM4 (show (decide (7<=k)&&decide (k<=9))=true by simp [j,D.2]),aM4 j,aM4 aPv,aM3];rw[show (((x+(2+n.length)+(2+(zJ k).length):Nat):Int)+1)=((x+(2+n.length)+(2+(zJ k).length)+1:Nat):Int) by omega,tO _ pM];simp only[aM7,aM5,aM8];congr 3;omega
  rw[aM9 (show¬(decide (7<=k)&&decide (k<=9))=true by simp [j]),aM9 j,aM3,tO _ pM];simp only[aM7,aM5,aM8];congr 3;omega
 rw[aM4 (show (!decide (st=[]))=true by simpa using I),aM9 I,aM4 aPv,aM4 aPv,aM3];by_cases j:7<=k
 .rw[aM4 (show (decide (7<=k)&&decide (k<=9))=true by simp [j,D.2]),aM4 j,aM4 aPv,aM3];rw[show (((x+(2+n.length)+(2+(zJ k).length):Nat):Int)+(2+(st.length:Int))+1)=((x+(2+n.length)+(2+(zJ k).length)+(2+st.length)+1:Nat):Int) by omega,tO _ pM];simp only[aM7,aM5,aM8];congr 3;omega
 rw[aM9 (show¬(decide (7<=k)&&decide (k<=9))=true by simp [j]),aM9 j,aM3];rw[show (((x+(2+n.length)+(2+(zJ k).length):Nat):Int)+(2+(st.length:Int)))=((x+(2+n.length)+(2+(zJ k).length)+(2+st.length):Nat):Int) by omega,tO _ pM];simp only[aM7,aM5,aM8];congr 3;omega
end
def a4d: ∀(k N:Nat) (ps:List qF),sG ps<=k->k<=99->k+1<=N->wL ps<=1000000000->SN N ps=some ((u7 ps).length:Int)
 |k,N,ps,K,hk,Q,I=>by
  obtain⟨N,rfl⟩: ∃k,N=k+1:=⟨N-1,pM⟩;show O8 (SN N) ps=_;unfold O8;have E:=EN ps;have ih: ∀qs:List qF,sG qs+1<=k->wL qs<=1000000000->SN N qs=some ((u7 qs).length:Int):=λqs U O=>by
   cases k with
   |zero=>omega
   |succ k=>exact a4d k N qs pM pM pM O
  rw[gz] at E|-;have:=a4c (f:=SM ps (SN N)) (l:=ps) DH (M:=10000000000) (λj h x R=>by
   have z:=AT (aNc h);have F:=yP (aNc h);cases D:ps[j] with
   |mk k' t n st cs ps'=>
    rw[D] at z;have⟨o1,o2,o3⟩:=DI (aNK z K) hk;rw[D,vN] at F;rw[<-D];exact aHW h D o1 (λ_=>ih ps' o3 pM) (λc G=>ih c.2.1 (by have:=CC G;omega) (by have:=yC G;omega)) I x pM) (λx=>by
   unfold SM;dsimp only;rw[aM9 (sO _)]) 0 pM
  unfold rA;rw[show ((0:Int),(0:Int))=(((0:Nat):Int),(0:Int)) from rfl,this,aNF];rfl
def a4e {ps:List qF}(z:sG ps<=99) (j:wL ps<=1000000000):JZ ps=some ((u7 ps).length:Int):=by rw[aMM];exact a4d 99 1000 ps z pM pM j
theorem DJ (p:pT) (l:List rU) (z: ∀t∈l,t.length<=4000000000) (D:l.length<=100) (hp:p.length<=1000000000000):zE (p,()) l=some (p++tK l.flatten):=by
 have E:(l.flatMap tK).length<=l.length*4000000000:=BF λt j=>by rw[xJ];exact z t j
 have h:=yB (f:=N6 l) (l:=l) (λi b=>(i,b)) (λb=>b) tK (M:=5000000000000) (λi h b F=>by
  have j:=z l[i] (aNc h);unfold N6;dsimp only;rw[aM4 (sI h),aM4 (rO h),v7 (t:= .str) h,aGm pM j,aM3,aM4 (s7 pM)]) (λb=>by
  unfold N6;dsimp only;rw[aM9 (sO _)]) p pM
 unfold zE;dsimp only;rw[h];have e:l.flatMap tK=tK l.flatten:=by
  have:=II (l:=l) (g:=λx=>x);rw[List.flatMap_id'] at this;exact this
 rw[e];rfl
section
variable {GP:(pT×Unit)->List qF->Option pT}{k:Int}{t n st:pI}{cs:List rM}{ps:List qF}{P:Nat}(hP:P<=990000000000)
include hP
theorem aHX (D: ∀c∈cs,∀p:pT,p.length<=P+10000000000->GP (p,()) c.2.1=some (p++tK (u7 c.2.1))) (Q:wC cs<=1000000000) (p:pT) (hp:p.length<=P+7000000000):
  rC (HT (k,(t,(n,(st,(cs,(ps,())))))) GP) ((0:Int),p)=some (p++tK (AS cs)):=by
 have F:=BJ cs;have z:=L5 cs;rw[ia] at z|-;rw[<-II];refine yB (f:=HT (k,(t,(n,(st,(cs,(ps,())))))) GP) (l:=cs) (λj b=>(j,b)) (λb=>b) (λc=>tK (IJ c)) (M:=P+9500000000) (λj h b I=>?_) (λb=>?_) p (by rw[II,xJ];omega)
 .have G:=D cs[j] (aNc h);have K:=yC (aNc h);have O:=EN cs[j].2.1;rw[xJ,yr] at I;unfold HT;dsimp only;rw[v7 (t:=rT) h,aM4 (sI h),aM4 (rO h),DJ _ _ (by
   intro t E;simp only[aNk,aOq,or_false] at E;rcases E with rfl|rfl|rfl
   .simp
   .omega
   .simp) pO pM,aM3,G _ (by
   rw[aM7,xJ];simp only[aNQ,List.flatten_nil,aM7,aM5,aM8];omega),aM3,DJ _ _ pO pO (by
   simp only[aM7,xJ,aNQ,List.flatten_nil,aM5,aM8];omega),aM3,aM4 (s7 pM)]
  congr 3;unfold IJ;simp only[aNQ,List.flatten_nil,aNd,List.append_nil,<-KS,List.singleton_append,List.cons_append,List.nil_append]
 unfold HT;dsimp only;rw[aM9 (sO _)]
theorem aHY (hk:zH k st cs=true) (I:ps≠[]->∀p:pT,p.length<=P+10000000000->GP (p,()) ps=some (p++tK (u7 ps))) (K: ∀c∈cs,∀p:pT,p.length<=P+10000000000->GP (p,()) c.2.1=some (p++tK (u7 c.2.1))) {GQ}(U:64+t.length+n.length+st.length+wC cs+wL ps<=1000000000) (p:pT) (hp:p.length<=P+5000000000):
  K0 GP GQ (p,()) (k,(t,(n,(st,(cs,(ps,()))))))=some (p++tK (DH (.mk k t n st cs ps))):=by
 have Y:=EN ps;have X:=UJ t;have V:=ic k;unfold K0;rw[ib];dsimp only;by_cases k1:k=1
 .rw[aM4 (xA k1),aM4 k1,a34 t aPI,aM3,DJ _ _ pP pO pM,aM3];simp
 rw[aM9 (show¬decide (k=1)=true by simpa using k1),aM9 k1];by_cases k10:k=10
 .rw[aM4 (xA k10),aM4 k10,DJ _ _ pO pO pM,aM3];simp
 rw[aM9 (show¬decide (k=10)=true by simpa using k10),aM9 k10];by_cases k11:k=11
 .rw[aM4 (xA k11),aM4 k11];by_cases D:ps.length=0
  .rw[aM4 (show decide ((ps.length:Int)=0)=true by simp [D]),aM4 D,DJ _ _ pP pO pM,aM3];simp
  have E:ps≠[]:=λh=>D (by rw[h];rfl);rw[aM9 (show¬decide ((ps.length:Int)=0)=true by simp;exact E),aM9 D,DJ _ _ pP pO pM,aM3,I E _ (by
   rw[aM7,xJ];simp only[aNQ,List.flatten_nil,aM7,aM5,aM8];omega),aM3,DJ _ _ pP pO (by
   simp only[aM7,xJ,aNQ,List.flatten_nil,aM5,aM8];omega),aM3]
  congr 1;simp only[aNQ,List.flatten_nil,aNd,List.append_nil,<-KS]
 rw[aM9 (show¬decide (k=11)=true by simpa using k11),aM9 k11];by_cases k2:k=2
 .rw[aM4 (xA k2),aM4 k2,DJ _ _ pP pO pM,aM3];simp
 have R:3<=k/\k<=9:=(ys k1 k10 k11 hk).resolve_left λh=>k2 h.1;rw[aM9 (show¬decide (k=2)=true by simpa using k2),aM9 k2,aM4 ⟨pM,pM⟩];have G:qH .str ([([]:pI),([]:pI),([]:pI),([110,117,109,98,101,114]:pI),([117,110,105,116]:pI),([100,97,116,101]:pI),([108,105,115,116]:pI),([112,108,117,114,97,108]:pI),([111,114,100,105,110,97,108]:pI),([115,101,108,101,99,116]:pI)]:pJ) k=zJ k:=by
  obtain⟨q,rfl⟩: ∃q:Nat,k=q+3:=⟨(k-3).toNat,pM⟩;rcases(show q=0\/q=1\/q=2\/q=3\/q=4\/q=5\/q=6 by omega) with h|h|h|h|h|h|h<;>subst h<;>rfl
 rw[G,DJ _ _ (by
  intro y M;simp only[aNk,aOq,or_false] at M;rcases M with rfl|rfl|rfl|rfl
  .simp
  .omega
  .simp
  omega) pO pM,aM3]
 have tO: ∀z:pT,z.length<=P+7000000000->(rA (rC (HT (k,(t,(n,(st,(cs,(ps,())))))) GP) ((0:Int),z)) λr=>(zE (r,()) ([([125]:pI)]:pJ)).bind λq=>some q)=some (z++(tK (AS cs)++tK [125])):=by
  intro z O;have Q:=L5 cs;rw[aHX hP K pM z O];unfold rA;rw[aM3,DJ _ _ pO pO (by simp only[aM7,xJ];omega),aM3,aNd];rfl
 have e7:(decide (7<=k)&&decide (k<=9))=decide (7<=k):=by rw[aNv];simp;omega
 rw[e7];unfold rA at tO|-;by_cases F:st=[]
 .subst F;rw[aM9 (show¬(!decide (([]:pI)=[]))=true by simp),aM4 rfl,aM3];by_cases j:7<=k
  .rw[aM4 (xA j),aM4 j,DJ _ _ pO pO (by
    simp only[aM7,xJ,aNQ,List.flatten_nil,aM5,aM8];omega),aM3,aM3,tO _ (by
    simp only[aM7,xJ,aNQ,List.flatten_nil,aM5,aM8];omega)]
   congr 1;simp only[aNQ,List.flatten_nil,aNd,List.append_nil,<-KS,List.nil_append];rfl
  rw[aM9 (show¬decide (7<=k)=true by simpa using j),aM9 j,aM3,tO _ (by
   simp only[aM7,xJ,aNQ,List.flatten_nil,aM5,aM8];omega)]
  congr 1;simp only[aNQ,List.flatten_nil,aNd,List.append_nil,<-KS,List.nil_append];rfl
 rw[aM4 (show (!decide (st=[]))=true by simpa using F),aM9 F,DJ _ _ pP pO (by
   simp only[aM7,xJ,aNQ,List.flatten_nil,aM5,aM8];omega),aM3,aM3]
 by_cases j:7<=k
 .rw[aM4 (xA j),aM4 j,DJ _ _ pO pO (by
   simp only[aM7,xJ,aNQ,List.flatten_nil,aM5,aM8];omega),aM3,aM3,tO _ (by
   simp only[aM7,xJ,aNQ,List.flatten_nil,aM5,aM8];omega)]
  congr 1;simp only[aNQ,List.flatten_nil,aNd,List.append_nil,<-KS,List.nil_append];rfl
 rw[aM9 (show¬decide (7<=k)=true by simpa using j),aM9 j,aM3,tO _ (by
  simp only[aM7,xJ,aNQ,List.flatten_nil,aM5,aM8];omega)]
 congr 1;simp only[aNQ,List.flatten_nil,aNd,List.append_nil,<-KS,List.nil_append];rfl
end
theorem a4f: ∀(k N:Nat) (ps:List qF),sG ps<=k->k<=99->2*k+2<=N->wL ps<=1000000000->∀p:pT,p.length<=10000000000*(99-k)+10000000000->(G7 N).1 (p,()) ps=some (p++tK (u7 ps))
 |k,N,ps,K,hk,U,R,p,hp=>by
  obtain⟨N,rfl⟩: ∃k,N=k+2:=⟨N-2,pM⟩;show SU (G7 (N+1)).1 (K0 (G7 N).1 (G7 N).2) (p,()) ps=_;unfold SU;have E:=EN ps;rw[gz] at E|-;rw[<-II];have ih: ∀qs:List qF,sG qs+1<=k->wL qs<=1000000000->∀p:pT,p.length<=(10000000000*(99-k)+10000000000)+10000000000->(G7 N).1 (p,()) qs=some (p++tK (u7 qs)):=λqs V O p hp=>by
   cases k with
   |zero=>omega
   |succ k=>exact a4f k N qs pM pM pM O p pM
  have:=yB (f:=OF ps (K0 (G7 N).1 (G7 N).2)) (l:=ps) (λj b=>(j,b)) (λb=>b) (λq=>tK (DH q)) (M:=(10000000000*(99-k)+10000000000)+3000000000) (λj h b I=>by
   rw[xJ] at I;have z:=AT (aNc h);have F:=yP (aNc h);have Q:=CD ps;unfold OF;dsimp only;cases D:ps[j] with
   |mk k' t n st cs ps'=>
    rw[D] at z I;have⟨o1,o2,o3⟩:=DI (aNK z K) hk;rw[D,vN] at F;rw[aM4 (sI h),aM4 (rO h),xB h D,aHY (P:=10000000000*(99-k)+10000000000) pM o1 (λ_=>ih ps' o3 pM) (λc G=>ih c.2.1 (by have:=CC G;omega) (by have:=yC G;omega)) pM b pM,aM3,aM4 (s7 pM)]) (λb=>by
   unfold OF;dsimp only;rw[aM9 (sO _)]) p (by rw[II,xJ];omega)
  dsimp only;rw[this];rfl
theorem a4g {ps:List qF}(z:sG ps<=98) (j:wL ps<=1000000000):OH ps=some (u7 ps):=by
 unfold OH;have:=a4f 98 1000 ps z pM pM j [] pO;rw[show X6 (([]:pT),()) ps=some ([]++tK (u7 ps)) from by rw[aMP];exact this,aM3,List.nil_append,PI]
def aHZ (s:pI):(yA s).2.1.length<=40:=by
 have nm: ∀t:pI,uO t=true->t.length<=40:=λt h=>by
  cases t with
  |nil=>simp
  |cons b t=>rw[XP] at h;simp only[aNf,aNj] at h;simp only[aM5];exact h.1.1
 unfold yA;split
 .split
  .rename_i h;exact nm _ h
  simp
 simp
def aH0 (b:Bool) (s:pI):(t8 b s).2.1.length<=s.length+40:=by
 cases s with
 |nil=>simp [t8]
 |cons c r=>
  have j:=aHZ (60::r);rw[U9]
  repeat' split
  all_goals first|(simp only[aM5,aM8,aNR];omega) |(simp only[aM5];omega)
def yv: ∀(n:Nat) (s:pI) (j d:Nat) (l:List rQ),wV n s j d=some l->l.length<=s.length/\∀t∈l,t.2.1.length<=s.length+40
 |0,_,_,_,_,h=>by cases h
 |n+1,[],_,d,l,h=>by
  unfold wV at h;split at h
  .cases h;simp
  .cases h
 |n+1,c::r,j,d,l,h=>by
  unfold wV at h;split at h
  .obtain⟨I,D⟩:=yv n r _ _ l h;simp only[aM5];exact⟨pM,λt z=>by have:=D t z;omega⟩
  split at h
  .cases h
  rename_i M;have G:=xk (tB d) (c::r);have F:=aH0 (tB d) (c::r);have K:=G.2 λe=>M (.inl e);cases E:wV n ((c::r).drop (t8 (tB d) (c::r)).2.2) (j+(t8 (tB d) (c::r)).2.2) (BG (t8 (tB d) (c::r)).1 d) with
  |none=>rw[E] at h;cases h
  |some l'=>
   rw[E] at h;cases h;obtain⟨I,D⟩:=yv n _ _ _ l' E;rw[aNE] at I D;refine⟨by rw[aM5];omega,λt z=>?_⟩;rcases aNk.1 z with rfl|z
   .exact F
   have:=D t z;omega
def a4h {B:Nat}: ∀L:List rQ,(∀t∈L,t.2.1.length<=B)->tw L<=L.length*(B+256)
 |[],_=>by simp [tw]
 |t::l,h=>by
  rw[tw,aM5,aN0];have:=a4h l λt j=>h t (aNp _ j);have:=h t aNq;omega
def yw (s:pI) (F:s.length<=4000) (o:Int): ∀(n i:Nat) (a b:Nat),s.length<=i+n->i<=s.length->a<=i+1->b<=i+1->(rC (G8 s o) ((i:Int),(a:Int),(b:Int))).isSome=true
 |n,i,a,b,M,hi,O,hb=>by
  by_cases D:(((i:Int)<(s.length:Int))&&(!decide ((i:Int)=o)))=true
  .have I:i<s.length:=by simp at D;exact D.1
   have z:s.drop i≠[]:=λh=>by have:=List.drop_eq_nil_iff.1 h;omega
   have E:=Lib.decodeL_le (s.drop i) z;have K:=Lib.decodeL_width (s.drop i);rw[aNE] at E;have G:0<(Lib.decodeL (s.drop i)).2:=by omega
   cases n with
   |zero=>omega
   |succ n=>
    have e:G8 s o ((i:Int),(a:Int),(b:Int))=if decide (((Lib.decodeL (s.drop i)).1:Int)=(10:Int))=true then some (.inl (((i+(Lib.decodeL (s.drop i)).2:Nat):Int),((a+1:Nat):Int),((1:Nat):Int))) else some (.inl (((i+(Lib.decodeL (s.drop i)).2:Nat):Int),(a:Int),((b+1:Nat):Int))):=by
     unfold G8;dsimp only;rw[aM4 D,aM4 ⟨pM,pM,aN2 _⟩,FB,a2D z,aM3];dsimp only;rw[aM4 aPv,aM4 aPv];by_cases j:decide (((Lib.decodeL (s.drop i)).1:Int)=(10:Int))=true
     .rw[aM4 j,aM4 j,aM4 aPv,Int.natCast_add,Int.natCast_add];rfl
     rw[aM9 j,aM9 j,Int.natCast_add,Int.natCast_add];rfl
    rw[tA,e];split
    .exact yw s F o n _ _ _ pM pM pM pM
    exact yw s F o n _ _ _ pM pM pM pM
  rw[tA];unfold G8;dsimp only;rw[aM9 D];rfl
def ig (s:pI) (j:s.length<=4000) (o:Int): ∃q,T3 s o=some q:=by
 have:=yw s j o s.length 0 1 1 pM pM pM pM;unfold T3 rA;cases h:rC (G8 s o) ((0:Int),(1:Int),(1:Int)) with
 |none=>rw[show rC (G8 s o) (((0:Nat):Int),((1:Nat):Int),((1:Nat):Int))=none from h] at this;cases this
 |some y=>
  rw[aM3];dsimp only;split<;>exact⟨_,rfl⟩
def aH1 (p q:List qF×Int×Int×Int×Int):Prop:=
 (p.2.2.2.2=0/\q.2.2.2.2=0/\p.1=q.1/\sG p.1<=9/\wL p.1<=20000000)\/(p.2.2.2.2≠0/\q.2.2.2.2≠0)
def aH2 (s:pI): ∃p q,P8 s false=some p/\P6 s false=some q/\aH1 p q:=by
 by_cases F:s.length<=4000
 .obtain⟨l,a,e,t1,t2,t3⟩:=aGM s F;obtain⟨l',a',e',r1,r2,r3⟩:=aGN s F;unfold P8 P6;rw[t1,r1,aM3,aM3];dsimp only;cases hT:wV (s.length+1) s 0 0 with
  |none=>
   obtain⟨re,rl⟩:=r3 hT;have te:=t3 hT;subst re rl te;rw[aM9 (show¬decide ((3:Int)=6)=true by decide),aM9 (show¬decide ((3:Int)=6)=true by decide)];have V:CA []:=⟨by simp,by simp⟩;rw[(aHM V (s:=s) (n:=(s.length:Int))).r _ _ _ _ _ _ (show (3:Int)≠0 by decide),aM3];dsimp only;obtain⟨q,Y⟩:=ig s F a';unfold rA;rw[aM9 (show¬decide ((3:Int)=0)=true by decide),aM3];dsimp only;rw[aM4 (show (!decide ((3:Int)=0))=true by decide),aM4 pM,aM9 (show¬(decide ((3:Int)=0)&&decide ((0:Int)<(([]:List rQ).length:Int)))=true by decide),aM3];dsimp only;rw[aM4 (show (!decide ((3:Int)=0))=true by decide),Y,aM3];exact⟨_,_,rfl,rfl,.inr ⟨show (3:Int)≠0 by decide,show (3:Int)≠0 by decide⟩⟩
  |some L=>
   obtain⟨h1,h2,h3⟩:=t2 L hT;obtain⟨G,h5,h6⟩:=r2 L hT;rw[h1,h2,h3,G,h5,h6];obtain⟨hL,K⟩:=yv _ _ _ _ _ hT;have R:=a4h (B:=4040) L λt Q=>by have:=K t Q;omega
   have ha:tw L<=4000*4296:=aNK R (Nat.mul_le_mul pM pM);have U:CA L:=⟨pM,λt Q=>by have:=K t Q;unfold fit;omega⟩;obtain⟨p,q,p1,q1,h⟩:=aHL U (s:=s) (n:=(s.length:Int)) 0 [] 0 0 false pM pO;have p2:KD s L 0 (0,(0,())) 0 false []=some p:=p1;have q2:K8 (L,((s.length:Int),([],(0,(0,()))))) 1 false=some q:=q1;rw[aM9 (show¬decide ((0:Int)=6)=true by decide),aM9 (show¬decide ((0:Int)=6)=true by decide),q2,p2,aM3];unfold rA;rw[aM4 (show decide ((0:Int)=0)=true by decide),aM3];have uG:List.length s<=4611686018427387904:=by omega
   rcases h with⟨ps,j,ns,a,a',rfl,rfl,o1,o2,o3,o4,o5⟩ |⟨⟨ps,j,a,e,m,rfl,M⟩,ps2,ts,ns,a',e',rfl,D⟩
   .dsimp only;by_cases Z:j<L.length
    .obtain⟨b1,k1⟩:=BH (s:=s) (L:=L) (i:=j) (a:=a) (m:=s5 ns) 3;obtain⟨b2,k2⟩:=GI (ts:=L.drop j) (n:=(s.length:Int)) (ns:=ns) (a:=a') 3;obtain⟨y,I⟩:=ig s F b2;rw[aM4 (sI Z),k1,aM3,aM3];dsimp only;rw[aM4 (show (!decide ((3:Int)=0))=true by decide),aM4 uG,aM4 (show (decide ((0:Int)=0)&&decide ((0:Int)<((L.drop j).length:Int)))=true by simp;omega),k2,aM3,aM3];dsimp only;rw[aM4 (show (!decide ((3:Int)=0))=true by decide),I,aM3];exact⟨_,_,rfl,rfl,.inr ⟨show (3:Int)≠0 by decide,show (3:Int)≠0 by decide⟩⟩
    have hd:j=L.length:=by omega
    rw[aNG] at o4;rw[aM9 (show¬decide ((j:Int)<(L.length:Int))=true by simp;omega),aM9 (show¬(decide ((0:Int)=0)&&decide ((0:Int)<((L.drop j).length:Int)))=true by simp;omega),aM3,aM3];dsimp only;rw[aM9 (show¬(!decide ((0:Int)=0))=true by decide),aM9 (show¬(!decide ((0:Int)=0))=true by decide),a4e pM pM,Y3 pM pM,aM3,aM3];by_cases G:(4000:Int)<((u7 ps).length:Int)
    .rw[aM4 (xA G)];exact⟨_,_,rfl,rfl,.inr ⟨show (6:Int)≠0 by decide,show (6:Int)≠0 by decide⟩⟩
    rw[aM9 (show¬decide ((4000:Int)<((u7 ps).length:Int))=true by simpa using G)];exact⟨_,_,rfl,rfl,.inl ⟨rfl,rfl,rfl,by dsimp only;omega,by dsimp only;omega⟩⟩
   have E: ∃z x1 x2 x3,((if decide ((j:Int)<(L.length:Int))=true then(vR s L (j:Int) (a,(e,())) (3:Int) m).bind λO=>some ((O.1,O.2,ps)) else some ((a,e,ps))).bind λx:Int×Int×List qF=>
     if (!decide (x.2.1=(0:Int)))=true then(if List.length s<=4611686018427387904 then VY (cj s x.1) λa8=>some ((([]:List qF),a8.1.1,a8.1.2.1,a8.1.2.2.1,x.2.1)) else none)
     else(JZ x.2.2).bind λaA=>if (decide ((4000:Int)<aA))=true then some ((([]:List qF),(0:Int),(0:Int),(0:Int),(6:Int))) else some ((x.2.2,(0:Int),(0:Int),(0:Int),(0:Int))))=some (z,x1,x2,x3,e):=by
    have h0:(if decide ((j:Int)<(L.length:Int))=true then(vR s L (j:Int) (a,(e,())) (3:Int) m).bind λO=>some ((O.1,O.2,ps)) else some ((a,e,ps)))=some (a,e,ps):=by
     rw[GH M];split<;>rfl
    rw[h0,aM3];dsimp only;rw[aM4 (show (!decide (e=0))=true by simpa using M),aM4 uG];exact⟨_,_,_,_,rfl⟩
   obtain⟨z,x1,x2,x3,X⟩:=E;refine⟨(z,x1,x2,x3,e),?_⟩;rcases D with D|⟨rfl,G⟩
   .obtain⟨y,I⟩:=ig s F a';refine⟨([],y.1,y.2.1,y.2.2.1,e'),X,?_,.inr ⟨M,D⟩⟩
    dsimp only;rw[aM9 (show¬(decide (e'=0)&&decide ((0:Int)<(ts.length:Int)))=true by simp [D]),aM3];dsimp only;rw[aM4 (show (!decide (e'=0))=true by simpa using D),I,aM3]
   obtain⟨b2,k2⟩:=GI (ts:=ts) (n:=(s.length:Int)) (ns:=ns) (a:=a') 3;obtain⟨y,I⟩:=ig s F b2;have hc:0<ts.length:=by
    cases ts with
    |nil=>cases G
    |cons t r=>simp
   refine⟨([],y.1,y.2.1,y.2.2.1,3),X,?_,.inr ⟨M,show (3:Int)≠0 by decide⟩⟩
   dsimp only;rw[aM4 (show (decide ((0:Int)=0)&&decide ((0:Int)<(ts.length:Int)))=true by simp;omega),k2,aM3,aM3];dsimp only;rw[aM4 (show (!decide ((3:Int)=0))=true by decide),I,aM3]
 unfold P8 P6 P3 OY;rw[aM4 pP,aM4 pP,aM3,aM3];exact⟨_,_,rfl,rfl,.inr ⟨show (6:Int)≠0 by decide,show (6:Int)≠0 by decide⟩⟩
def UK (k:Int) (st:pI):Bool:=
 if k=3 then(decide (st=[])||decide (st=[105,110,116,101,103,101,114]))||decide (st=[112,101,114,99,101,110,116])
 else if k=5 then IC st else if k=4\/k=6 then uO st else decide (st=[])
def yQ (k:Int) (t n st:pI) (cs:List rM) (ps:List qF):Bool:=
 if k=1 then(!decide (t=[]))&&decide (n=[])&&decide (st=[])&&cs.isEmpty&&ps.isEmpty
 else if k=10 then decide (t=[])&&decide (n=[])&&decide (st=[])&&cs.isEmpty&&ps.isEmpty
 else if (2<=k/\k<=9)\/k=11 then UK k st&&uO n&&decide (t=[])&&(cs.isEmpty||decide (7<=k/\k<=9))&&(ps.isEmpty||decide (k=11))
 else false
def ii {α:Type}(l:List α):decide ((l.length:Int)=0)=l.isEmpty:=by cases l<;>simp<;>omega
def a4i (k:Int):k=1\/k=2\/k=3\/k=4\/k=5\/k=6\/k=7\/k=8\/k=9\/k=10\/k=11\/(k≠1/\k≠2/\k≠3/\k≠4/\k≠5/\k≠6/\k≠7/\k≠8/\k≠9/\k≠10/\k≠11):=by omega
def aH3 {k:Int}{t n st:pI}{cs:List rM}{ps:List qF}(F:fit n) (E:fit st):SK (k,(t,(n,(st,(cs,(ps,()))))))=some (yQ k t n st cs ps):=by
 unfold SK rA;dsimp only;rw[PL n F,PL st E,xn st E,ii,ii];unfold yQ UK;rcases a4i k with h|h|h|h|h|h|h|h|h|h|h|⟨U,R,Q,O,M,K,I,h8,G,D,j⟩
 all_goals first|(subst h;simp [Bool.and_assoc,Bool.and_comm,Bool.and_left_comm];done) |skip
 all_goals first|(subst h;simp [val]) |simp [val,U,R,Q,O,M,K,I,h8,G,D,j]
 all_goals first|(intro a b;omega) |(generalize uO n=x;generalize decide (t=[])=y;generalize decide (st=[])=z;cases x<;>cases y<;>cases z<;>rfl)
def aH4 {k:Int}{t n st:pI}{cs:List rM}{ps:List qF}(F:fit n) (E:fit st) (hk: ¬(7<=k/\k<=9)) (V:k≠11) (c:Bool):T7 (k,(t,(n,(st,(cs,(ps,())))))) c=some (yQ k t n st cs ps&& !(decide (k=10)&& !c)):=by
 unfold T7 rA;dsimp only;rw[KV n F,KV st E,a3k st E,ii,ii];unfold yQ UK;rcases a4i k with h|h|h|h|h|h|h|h|h|h|h|⟨U,R,Q,O,M,K,I,h8,G,D,j⟩
 all_goals first|omega|(subst h;simp [val,Bool.and_assoc,Bool.and_comm,Bool.and_left_comm];done) |(subst h;simp [val]) |simp [val,U,R,Q,O,M,K,I,h8,G,D,j]
 all_goals first|(intro a b;omega) |(generalize uO n=x;generalize decide (t=[])=y;generalize decide (st=[])=z;cases x<;>cases y<;>cases z<;>rfl)
abbrev L6:pI:=[111,116,104,101,114]
def w9:qF->Bool
 | .mk k _ _ _ _ _=>decide (k=1)
mutual
def CE (d:Nat) (c:Bool):qF->Bool
 | .mk k t n st cs ps=>(yQ k t n st cs ps&& !(decide (k=10)&& !c))&&(if k=11 then decide (d<=8)&&tR (d+1) c false ps else if 7<=k/\k<=9 then decide (d<=8)&&(decide (cs.length<=20)&&(yD k (d+1) (c|| !decide (k=9)) [] cs&&decide (L6∈cs.map (·.1)))) else true)
termination_by p=>SizeOf.sizeOf p
def tR (d:Nat) (c b:Bool):List qF->Bool
 |[]=>true
 |p::l=> !(b&&w9 p)&&(CE d c p&&tR d c (w9 p) l)
termination_by l=>SizeOf.sizeOf l
def yD (k:Int) (d:Nat) (c:Bool) (keys:pJ):List (pI×List qF×Unit)->Bool
 |[]=>true
 |(key,ps,_)::l=>(tM k key&& !decide (key∈keys))&&(tR d c false ps&&yD k d c (keys++[key]) l)
termination_by l=>SizeOf.sizeOf l
end
def ij {d:Nat}{c:Bool}{k:Int}{t n st:pI}{cs:List rM}{ps:List qF}:CE d c (.mk k t n st cs ps)=((yQ k t n st cs ps&& !(decide (k=10)&& !c))&&(if k=11 then decide (d<=8)&&tR (d+1) c false ps else if 7<=k/\k<=9 then decide (d<=8)&&(decide (cs.length<=20)&&(yD k (d+1) (c|| !decide (k=9)) [] cs&&decide (L6∈cs.map (·.1)))) else true)):=by rw[CE]
def a4j {d:Nat}{c b:Bool}:tR d c b []=true:=by rw[tR]
def ik {d:Nat}{c b:Bool}{p:qF}{l:List qF}:tR d c b (p::l)=(!(b&&w9 p)&&(CE d c p&&tR d c (w9 p) l)):=by rw[tR]
def a4k {k:Int}{d:Nat}{c:Bool}{keys:List rU}:yD k d c keys []=true:=by rw[yD]
def yx {k:Int}{d:Nat}{c:Bool}{keys:List rU}{x:rM}{l:List rM}:yD k d c keys (x::l)=((tM k x.1&& !decide (x.1∈keys))&&(tR d c false x.2.1&&yD k d c (keys++[x.1]) l)):=by obtain⟨a,b,u⟩:=x;rw[yD]
def A3 (l:List qF):Nat->Bool
 |0=>false
 |j+1=>match l[j]? with
  |some p=>w9 p
  |none=>false
def yy {l:List qF}{i:Nat}(h:i<l.length):A3 l (i+1)=w9 l[i]:=by
 show (match l[i]? with|some p=>w9 p|none=>false)=_
 rw[aNe h]
def aH5 (p:qF):decide ((qF.un p).1=(1:Int))=w9 p:=by cases p;rfl
def Y4 {l:List qF}{i:Nat}(h:i<l.length):qF.un (qH .part l (i:Int))=qF.un l[i]:=by rw[v7 (t:= .part) h]
def a4l {l:List qF}{i:Nat}(h:i<l.length):((((0:Int)<(i:Int))&&w9 l[i])&&decide ((qF.un (qH .part l ((i:Int)-1))).1=(1:Int)))=(A3 l i&&w9 l[i]):=by
 cases i with
 |zero=>rfl
 |succ i=>
  rw[show (((i+1:Nat):Int)-1)=(i:Int) by omega,Y4 pM,aH5,yy pM];cases w9 l[i+1]<;>cases w9 l[i]<;>simp<;>omega
section
variable {l:List qF}{G:List qF->Int->Bool->Option Bool}{i:Nat}{k:Int}{t n st:pI}{cs:List rM}{ps:List qF}
def a4m (hi:i<l.length) (E:l[i]= .mk k t n st cs ps) {d:Nat}{c:Bool}(O:d<=100) (D: ∀x∈cs,∀c:Bool,G x.2.1 ((d:Int)+1) c=some (tR (d+1) c false x.2.1)) (hk:7<=k/\k<=9) (I:wC cs<=1000000000):
  ∀(m j:Nat) (keys:List rU),j+m=cs.length->keys.length<=j->rC (HY l (d:Int) c (i:Int) G) (keys,(j:Int))=some (if yD k (d+1) (c|| !decide (k=9)) keys (cs.drop j)=true then .inl (keys++(cs.drop j).map (·.1)) else .inr (.inr (.inr false)))
 |0,j,keys,M,F=>by
  have:j=cs.length:=by omega
  subst this;rw[aNH,tA,a4k,aM4 rfl];unfold HY;dsimp only;rw[xB hi E];dsimp only;rw[aM9 (sO _)];simp
 |m+1,j,keys,M,F=>by
  have z:j<cs.length:=by omega
  have Q:=yC (aNc z);have R:=BJ cs;have e7:(c||((k=(7:Int))||(k=(8:Int))))=(c|| !decide (k=9)):=by
   congr 1;rw[aNv];simp;omega
  rw[aNm z,yx,tA];have K:HY l (d:Int) c (i:Int) G (keys,(j:Int))=if ((tM k cs[j].1&& !decide (cs[j].1∈keys))&&tR (d+1) (c|| !decide (k=9)) false cs[j].2.1)=true then some (.inl (keys++[cs[j].1],(j:Int)+1)) else some (.inr (.inr (.inr (.inr false)))):=by
   unfold HY;dsimp only;rw[xB hi E];dsimp only;rw[v7 (t:=rT) z,aM4 (sI z),aM4 (rO z),gm _ _ aPI,aM3,UB _ _ pM,aM4 (λ_=>uH _),uB,e7,D _ (aNc z),aM4 (λ_=>by unfold qG;omega),aM4 (λ_=>uH _),uB,aM4 (show (keys.length+([(cs[j]).1]:List rU).length)*16<=140737488355328 by simp only[aM5,aM8];omega),aM4 (s7 pM)];cases tM k cs[j].1<;>cases decide (cs[j].1∈keys)<;>cases tR (d+1) (c|| !decide (k=9)) false cs[j].2.1<;>rfl
  rw[K,<-Bool.and_assoc];cases U:((tM k cs[j].1&& !decide (cs[j].1∈keys))&&tR (d+1) (c|| !decide (k=9)) false cs[j].2.1) with
  |false=>rfl
  |true=>
   rw[aM4 rfl,aM3,Bool.true_and];dsimp only;rw[show ((j:Int)+1)=((j+1:Nat):Int) by omega,a4m hi E O D hk I m (j+1) (keys++[cs[j].1]) pM aPC,aN8,aNd];rfl
def aH6 (hi:i<l.length) (I:l[i]= .mk k t n st cs ps) {d:Nat}{c:Bool}(hd:d<=100) (R:G ps ((d:Int)+1) c=some (tR (d+1) c false ps)) (Z: ∀x∈cs,∀c:Bool,G x.2.1 ((d:Int)+1) c=some (tR (d+1) c false x.2.1)) (hw:wL l<=1000000000):
  HZ l (d:Int) c G (i:Int)=if (!(A3 l i&&w9 l[i])&&CE d c l[i])=true then some (.inl ((i:Int)+1)) else some (.inr (.inr false)):=by
 have hh:=CD l;have O:=yP (aNc hi);rw[I,vN] at O;have he:=BJ cs;have Q:=a4l hi;have V:decide (k=1)=w9 l[i]:=by rw[I];rfl
 unfold HZ;rw[xB hi I];dsimp only;rw[V,Q,aM4 (sI hi),aM4 (rO hi),aM4 (λh=>by unfold qG;omega),aM4 (λh=>by simp at h;omega)];cases hg:(A3 l i&&w9 l[i]) with
 |true=>rfl
 |false=>
  rw[aM9 (show¬(false=true) by simp),Bool.not_false,Bool.true_and,I,ij];have E:fit n:=by unfold fit;omega
  have Y:fit st:=by unfold fit;omega
  have K:decide ((8:Int)<(d:Int))= !decide (d<=8):=by rw[aNv];simp;omega
  by_cases k11:k=11
  .subst k11;have F:yQ 11 t n st cs ps=(decide (st=[])&&uO n&&decide (t=[])&&cs.isEmpty):=by unfold yQ UK;simp
   have ha:decide ((0:Int)<(cs.length:Int))= !cs.isEmpty:=by cases cs<;>simp<;>omega
   rw[aM4 (xA rfl),KV n E,uB,aM4 (λ_=>uH _),aM4 (λ_=>by unfold qG;omega),R,uB,aM4 (λ_=>uH _),aM4 (s7 pM),F,K,ha,aM4 rfl];have e10:decide ((11:Int)=10)=false:=by decide
   rw[e10];generalize decide (d<=8)=x1;generalize uO n=x2;generalize decide (t=[])=x3;generalize decide (st=[])=x4;generalize cs.isEmpty=x5;generalize tR (d+1) c false ps=x6;cases x1<;>cases x2<;>cases x3<;>cases x4<;>cases x5<;>cases x6<;>rfl
  rw[aM9 (show¬decide (k=11)=true by simpa using k11),aM9 k11];by_cases j:7<=k/\k<=9
  .have e79:(((k=(7:Int))||(k=(8:Int)))||(k=(9:Int)))=true:=by simp;omega
   have e10:decide (k=10)=false:=DG pM;have F:yQ k t n st cs ps=(decide (st=[])&&uO n&&decide (t=[])&&ps.isEmpty):=by
    unfold yQ UK;rw[aM9 pM,aM9 pM,aM4 pM,aM9 pM,aM9 pM,aM9 pM,xA j];simp [k11]
   have U:decide ((0:Int)<(ps.length:Int))= !ps.isEmpty:=by cases ps<;>simp<;>omega
   have hc:decide ((cs.length:Int)<1)=cs.isEmpty:=by cases cs<;>simp<;>omega
   have M:decide ((20:Int)<(cs.length:Int))= !decide (cs.length<=20):=by rw[aNv];simp;omega
   have D:=a4m hi I hd Z j pM cs.length 0 [] (c:=c) pM pO;rw[aNG,List.nil_append] at D;rw[aM4 e79,KV n E,uB,aM4 (λ_=>uH _),aM4 j,e10,F,K,U,hc,M,show rC (HY l (d:Int) c (i:Int) G) (([]:pJ),(0:Int))=_ from D];have X:=UB (cs.map (·.1)) L6 (by rw[aN9];omega);have z:cs.isEmpty=true->decide (L6∈cs.map (·.1))=false:=by cases cs<;>simp
   cases hz:yD k (d+1) (c|| !decide (k=9)) [] cs with
   |false=>
    rw[aM9 (show¬(false=true) by simp)];unfold sK;rw[aM3];generalize decide (d<=8)=x1;generalize uO n=x2;generalize decide (t=[])=x3;generalize decide (st=[])=x4;generalize ps.isEmpty=x5;generalize decide (cs.length<=20)=x6;cases x1<;>cases x2<;>cases x3<;>cases x4<;>cases x5<;>cases x6<;>cases cs.isEmpty<;>rfl
   |true=>
    rw[aM4 rfl];unfold sK;rw[aM3];dsimp only;rw[X,aM3,aM4 (s7 pM)];revert z;generalize decide (d<=8)=x1;generalize uO n=x2;generalize decide (t=[])=x3;generalize decide (st=[])=x4;generalize ps.isEmpty=x5;generalize decide (cs.length<=20)=x6;generalize decide (L6∈cs.map (·.1))=x7;generalize cs.isEmpty=x8;intro z;cases x8 with
    |true=>
     rw[z rfl];cases x1<;>cases x2<;>cases x3<;>cases x4<;>cases x5<;>cases x6<;>rfl
    |false=>cases x1<;>cases x2<;>cases x3<;>cases x4<;>cases x5<;>cases x6<;>cases x7<;>rfl
  have e79: ¬(((k=(7:Int))||(k=(8:Int)))||(k=(9:Int)))=true:=by simp;omega
  rw[aM9 e79,aM9 j,aH4 E Y j k11,aM3,aM4 (s7 pM),Bool.and_true];cases(yQ k t n st cs ps&& !(decide (k=10)&& !c))<;>rfl
end
def a4n {l:List qF}{G:List qF->Int->Bool->Option Bool}{d:Nat}{c:Bool}(D: ∀(i:Nat) (h:i<l.length),HZ l (d:Int) c G (i:Int)=if (!(A3 l i&&w9 l[i])&&CE d c l[i])=true then some (.inl ((i:Int)+1)) else some (.inr (.inr false))):
  ∀(m j:Nat),j+m=l.length->sK (rC (HZ l (d:Int) c G) (j:Int)) (λ_=>some true)=some (tR d c (A3 l j) (l.drop j))
 |0,j,E=>by
  have:j=l.length:=by omega
  subst this;rw[aNH,tA,a4j];unfold HZ;rw[aM9 (sO _)];rfl
 |m+1,j,E=>by
  have z:j<l.length:=by omega
  rw[aNm z,ik,tA,D j z,<-Bool.and_assoc];cases F:(!(A3 l j&&w9 l[j])&&CE d c l[j]) with
  |false=>rfl
  |true=>
   rw[aM4 rfl,aM3,Bool.true_and];dsimp only;rw[show ((j:Int)+1)=((j+1:Nat):Int) by omega,a4n D m (j+1) pM,yy z]
def a4o: ∀(k N:Nat) (ps:List qF),sG ps<=k->k<=99->k+1<=N->wL ps<=1000000000->∀(d:Nat) (c:Bool),d+k<=100->TC N ps (d:Int) c=some (tR d c false ps)
 |k,N,ps,I,hk,O,F,d,c,M=>by
  obtain⟨N,rfl⟩: ∃k,N=k+1:=⟨N-1,pM⟩;show TB (TC N) ps (d:Int) c=_;unfold TB;have:=a4n (l:=ps) (G:=TC N) (d:=d) (c:=c) (λi h=>by
   have j:=AT (aNc h);have D:=yP (aNc h);cases z:ps[i] with
   |mk k' t n st cs ps'=>
    rw[z] at j;have⟨o1,o2,o3⟩:=DI (aNK j I) hk;rw[z,vN] at D;have ih: ∀qs:List qF,sG qs+1<=k->wL qs<=1000000000->∀c:Bool,TC N qs ((d:Int)+1) c=some (tR (d+1) c false qs):=λqs Q K c=>by
     cases k with
     |zero=>omega
     |succ k=>exact a4o k N qs pM pM pM K (d+1) c pM
    rw[<-z];exact aH6 h z pM (ih ps' o3 pM c) (λx E=>ih x.2.1 (by have:=CC E;omega) (by have:=yC E;omega)) F) ps.length 0 pM
  rw[aNG] at this;exact this
def a4p {ps:List qF}(z:sG ps<=99) (j:wL ps<=1000000000) (c:Bool):TD ps 1 c=some (tR 1 c false ps):=by rw[aMU];exact a4o 99 1000 ps z pM pM j 1 c pM
end Go.Proofs.YtedimeeleabhnaaGreatDoor
