/- ElementsExchange returns true for all arguments (if an item is replaced by the canonical item of another entry, the catalog has this entry instead): the tied card of the statement, over the row's statement. No condition. -/
/- Packed by a program of mine (wip/tools/pack.py): the same texts with short names and few blanks. -/
import Derived.Deep.CondSized
import Derived.Deep.DeepHandedRow
import Derived.Deep.DeepWitnessRowRef
import Derived.Lib.CountLaws
import Derived.Lib.IndexMore
import Derived.Lib.LaidIn
import Derived.Lib.LaidTab
import Derived.Lib.LaidU8T
import Derived.Lib.SpaceR
import Derived.OpenShut
import Derived.ProofKit
import Derived.SevenTiedAt
import Derived.SizedLaws
import Derived.Test.YtkpflnijijccpaaGreatDoorCards
import Derived.Test.YtkpflnijijccpaaGreatDoorRows
import Derived.Test.YtkpflnijijccpaaGreatDoorTie
import Derived.WalkKit
import Derived.Test.YtkpflnijijccpaaGreatDoorX004
set_option linter.defProp false
set_option linter.unusedVariables false
set_option linter.unusedSimpArgs false
set_option linter.unusedSectionVars false
set_option maxRecDepth 100000
set_option maxHeartbeats 4000000
namespace Go.Proofs.YtkpflnijijccpaaGreatDoor
open Vc
noncomputable section
theorem aRc {l:pG}(h:IL l=false):(sO l).Pairwise (· < ·):=by
 unfold IL at h;have h1: ¬(Lib.compact (sO l)).length<(sO l).length:=of_decide_eq_false h;generalize hs:sO l=s at h1;have hpw:s.Pairwise (·<=·):=by rw[<-hs];exact aIT l
 have h2:((List.range s.length).filter (Lib.keeps s.toArray)).length=(List.range s.length).length:=by
  have h3:(Lib.compact s).length=((List.range s.length).filter (Lib.keeps s.toArray)).length:=by
   unfold Lib.compact Lib.compactUpTo;rw[aVX]
  have h4:=List.length_filter_le (Lib.keeps s.toArray) (List.range s.length);rw[List.length_range] at h4|-;omega
 have h3:=List.length_filter_eq_length_iff.1 h2;refine aAs (r:=fun a b:pF=>a<b) (fun a b c=>List.lt_trans) fun i hi=> ?_;have hk:=h3 (i+1) (aWe.2 hi);have hne:s[i+1]≠s[i]:=by
  intro e;have:=Lib.keeps_neg (d:=s.toArray) (m:=i+1) pI (by
   rw[Nat.add_sub_cancel,getElem!_pos s.toArray (i+1) (by simpa using hi),getElem!_pos s.toArray i pL];simpa using e)
  rw[this] at hk;cases hk
 have hle:s[i]<=s[i+1]:=aVV.1 hpw i (i+1) pI hi pI;exact aI7 (a:=s[i+1]) (b:=s[i]) (fun hlt=>hle hlt) hne
theorem aKa:u6 []=[]:=by kernel_rfl
theorem aRd (s:pF):AX s<=4:=by
 unfold AX;cases h:IF.findIdx? fun x=>decide (x=s) with
 |none=>show (-1:Int)<=4;decide
 |some k=>
  have:=(aVL.1 h).1;show (k:Int)<=4;unfold IF at this;simp only[aUY,aU7] at this;omega
theorem aKb {l:List sB}{n:pF}(h:(l.any fun a=>decide (a.1=n))=false):sC l n=[]:=by
 have go: ∀(l:List sB) (v:pF),(l.any fun a=>decide (a.1=n))=false->l.foldl (fun v a=>if n=a.1 then a.2.1 else v) v=v:=by
  intro l
  induction l with
  |nil=>intro v _;rfl
  |cons a l ih=>
   intro v h;rw[List.any_cons,aVG] at h;have h1: ¬n=a.1:=fun e=>(of_decide_eq_false h.1) e.symm;rw[List.foldl_cons,aUX h1];exact ih v h.2
 exact go l [] h
theorem aRe (L:List TE): ∀a∈(rR L).2.2.1,t7 a.2.1=true:=aJN L
theorem aRf {L:List TE}(n:pF):t7 (sC (rR L).2.2.1 n)=true:=by
 cases h:(rR L).2.2.1.any fun a=>decide (a.1=n) with
 |false=>rw[aKb h];exact UK
 |true=>
  obtain⟨a,ha,_,hg⟩:=UJ h;rw[hg];exact aRe L a ha
def yOf (x:xY) (st:FJ):tQ:=(sC x.2.2.1 uJ,(st.1,(st.2.1,(st.2.2.1,(sO (u6 (sC x.2.2.1 uP)),(max 0 (AX (sC x.2.2.1 xG)),(st.2.2.2.1,())))))))
theorem aAX:I6 B5:=⟨UK,UK,pW,pW⟩
theorem aRg {es:List s8}{L R:List TE}{y:s8}(h:yR es (rR L) L=some (y,R)): ∃P,L=P++R/\tJ P/\xK y=true/\(es.any fun z=>decide (z.1=y.1))=false/\es.length≠1000/\
  (rR L).1≠3/\(rR L).1≠0/\(∀(es':List s8) R',(es'.any fun z=>decide (z.1=y.1))=false->es'.length≠1000->yR es' (rR (P++R')) (P++R')=some (y,R')):=by
 unfold yR at h;split at h
 .rename_i hc;obtain⟨⟨st,r⟩,hq,he⟩:=aU1.1 h;dsimp only at he;have hy:yOf (rR L) st=y:=aVc Prod.fst he;have hr:r=R:=aVc Prod.snd he;subst hr;obtain⟨c1,c2,c3,c4,c5,c6,c7,c8,c9⟩:=hc;have htag: ∃t q,L=t::q/\t.1=2:=aJ9 (by rcases c1 with e|e<;>rw[e]<;>decide)
  obtain⟨t,q,hL,ht⟩:=htag;obtain⟨P,e1,e2,e3,e4⟩: ∃P,L=P++r/\tJ P/\(∀R',(if (rR L).1=1 then uB (P++R').length B5 ((P++R').drop 1) else some (B5,(P++R').drop 1))=some (st,R'))/\I6 st:=by
   by_cases h1:(rR L).1=1
   .rw[aUU h1] at hq;rw[hL,List.drop_one,List.tail_cons] at hq;obtain⟨P,a1,a2,a3,a4⟩:=aAV _ _ _ _ _ hq aAX;refine⟨t::P,by rw[hL,a1];rfl,a2.cons,fun R'=> ?_,a4⟩;rw[aUU h1];show uB (P++R':List TE).length.succ B5 (P++R')=_;exact a3 R' _ (by rw[aUW];omega)
   .rw[aUX h1] at hq;rw[hL,List.drop_one,List.tail_cons] at hq;have hq':=aUZ hq;have h2:B5=st:=aVc Prod.fst hq';have h3:q=r:=aVc Prod.snd hq';subst h2 h3;exact⟨[t],hL,tJ.one ht,fun R'=>by rw[aUX h1];rfl,aAX⟩
  have hid:(sC (rR L).2.2.1 uJ)≠[]/\(sC (rR L).2.2.1 uJ).length<=200:=by
   have ha:=c3;unfold xM at ha;rw[aU6] at ha;have:=aVC.1 ha.2 uJ aU2;obtain⟨a,ham,hn,hg⟩:=UJ this;have hw:=aVB.1 c4 a ham;unfold B4 at hw;rw[aUU hn] at hw;simp only[aV5,aU8,not_or] at hw;rw[hg];exact⟨hw.1,pI⟩
  have hfl: ∀f∈u6 (sC (rR L).2.2.1 uP),uT f=true:=by
   cases hh:(rR L).2.2.1.any fun a=>decide (a.1=uP) with
   |false=>rw[aKb hh,aKa];intro f hf;cases hf
   |true=>
    obtain⟨a,ham,hn,hg⟩:=UJ hh;have hw:=aVB.1 c4 a ham;unfold B4 at hw;rw[aUX (by rw[hn];decide),aUX (by rw[hn];decide)] at hw;rw[hg];intro f hf;simp only[aVo,Bool.not_eq_false] at hw;exact aVC.1 hw f hf
  have hfo:E5 (sO (u6 (sC (rR L).2.2.1 uP)))=true:=aQq (by rw[Z2];exact c8) (fun f hf=>hfl f ((aAj _).mem_iff.1 hf)) (aRc c7);have hyk:xK y=true:=by
   rw[<-hy];have hs:=aRd (sC (rR L).2.2.1 xG);unfold xK yOf;dsimp only;rw[aRf,e4.src,e4.tgt,e4.com,e4.fld,hfo,decide_eq_false hid.1,aVk (show ((sC (rR L).2.2.1 uJ).length:Int)<=200 by have:=hid.2;omega),aVk (show (0:Int)<=max 0 (AX (sC (rR L).2.2.1 xG)) by omega),aVk (show max 0 (AX (sC (rR L).2.2.1 xG))<=4 by omega)];rfl
  have hy1:y.1=sC (rR L).2.2.1 uJ:=by rw[<-hy];rfl
  refine⟨P,e1,e2,hyk,by rw[hy1];exact c6,c9,by rcases c1 with e|e<;>rw[e]<;>decide,by rcases c1 with e|e<;>rw[e]<;>decide,fun es' R' h1 h2=> ?_⟩
  have hpk:rR (P++R')=rR L:=by rw[e1];exact FO e2.ne
  rw[hpk];unfold yR;rw[aUU ⟨c1,c2,c3,c4,c5,by rw[<-hy1];exact h1,c7,c8,h2⟩,e3 R'];show some (yOf (rR L) st,R')=_;rw[hy]
 .cases h
end
noncomputable section
theorem ZI {L:List TE}(h:(rR L).2.1≠[]): ∃t r,L=t::r/\t.1=2:=by
 cases L with
 |nil=>exact absurd rfl h
 |cons t r=>
  refine⟨t,r,rfl,?_⟩;by_cases h2:t.1=2
  .exact h2
  .have:vQ t=eN:=by unfold vQ;exact aUX h2
   have hx:(vQ t).2.1≠[]:=h;rw[this] at hx;exact absurd rfl hx
theorem Q9 (L:List TE): ∀(P1 r:List TE),rD L=P1++r->P1≠[]->L=L.takeWhile vO++(P1++r)/\∀R',rD (L.takeWhile vO++(P1++R'))=P1++R':=fun P1 r h1 h2=>by
 have hG: ∀t∈L.takeWhile vO,vO t=true:=fun t ht=>aVC.1 (List.all_takeWhile) t ht;refine⟨by rw[<-h1];exact(List.takeWhile_append_dropWhile).symm,fun R'=> ?_⟩;cases P1 with
 |nil=>exact absurd rfl h2
 |cons p P'=>
  have hp:vO p=false:=by
   have h3:L.dropWhile vO=p::(P'++r):=h1;have:=List.head?_dropWhile_not vO L;rw[h3] at this;simpa using this
  unfold rD;rw[List.dropWhile_append_of_pos hG,List.cons_append,List.dropWhile_cons,hp];rfl
theorem aAY: ∀(n:Nat) (st st':GU) (L R:List TE),wO n st L=some (st',R)->w9 st.1=true->w4 st.2=true->∃P,L=P++R/\tJ P/\(∀R' m,P.length<=m->wO m st (P++R')=some (st',R'))/\w9 st'.1=true/\w4 st'.2=true
 |0,_,_,_,_,h,_,_=>by cases h
 |n+1,st,st',L,R,h,hv1,hv2=>by
  unfold wO at h;have goon: ∀(st1:GU) (P1 r:List TE),rD L=P1++r->tJ P1->wO n st1 r=some (st',R)->w9 st1.1=true->w4 st1.2=true->(∀R' m,wO (m+1) st (L.takeWhile vO++(P1++R'))=wO m st1 R')->
    ∃P,L=P++R/\tJ P/\(∀R' m,P.length<=m->wO m st (P++R')=some (st',R'))/\w9 st'.1=true/\w4 st'.2=true:=by
   intro st1 P1 r h1 h2 h3 h4 h4' h5;obtain⟨P,e1,e2,e3,e4⟩:=aAY n st1 st' r R h3 h4 h4';have hL:=(Q9 L P1 r h1 h2.ne).1;refine⟨L.takeWhile vO++(P1++P),?_,tJ.app (tJ.app e2),fun R' m hm=> ?_,e4⟩
   .rw[aU0,aU0,<-e1];exact hL
   .have hp:=aVp.2 h2.ne;simp only[aUW] at hm;obtain⟨m,rfl⟩: ∃k,m=k+1:=⟨m-1,pI⟩;rw[aU0,aU0,h5,e3 R' m pI]
  by_cases hc:(rR (rD L)).2.1=yQ/\(rR (rD L)).1≠3
  .rw[aUU hc] at h;have htag:=ZI (L:=rD L) (by rw[hc.1];decide);cases hr:AG (rR (rD L)) st.1 (rD L) with
   |none=>rw[hr] at h;cases h
   |some w=>
    obtain⟨cs,r⟩:=w;rw[hr] at h;obtain⟨P1,e1,e2,e3,e4⟩:=aJ7 hr htag hv1;refine goon (cs,st.2) P1 r e1 e2 h e4 hv2 fun R' m=> ?_;have hpk:rR (P1++R')=rR (rD L):=by rw[e1];exact FO e2.ne
    rw[wO,(Q9 L P1 r e1 e2.ne).2,hpk,aUU hc,e3]
  .rw[aUX hc] at h;by_cases hf:(rR (rD L)).2.1=yD/\(rR (rD L)).1≠3
   .rw[aUU hf] at h;have htag:=ZI (L:=rD L) (by rw[hf.1];decide);cases hr:AH (rR (rD L)) st.2 (rD L) with
    |none=>rw[hr] at h;cases h
    |some w=>
     obtain⟨fs,r⟩:=w;rw[hr] at h;obtain⟨P1,e1,e2,e3,e4⟩:=aJ8 hr htag hv2;refine goon (st.1,fs) P1 r e1 e2 h hv1 e4 fun R' m=> ?_;have hpk:rR (P1++R')=rR (rD L):=by rw[e1];exact FO e2.ne
     rw[wO,(Q9 L P1 r e1 e2.ne).2,hpk,aUX hc,aUU hf,e3]
   .rw[aUX hf] at h;by_cases he:(rR (rD L)).1=1/\(rR (rD L)).2.1=yE/\(rR (rD L)).2.2.1=[]/\(rR (rD L)).2.2.2=false
    .rw[aUU he] at h;obtain⟨t,q,h1,ht⟩:=ZI (L:=rD L) (by rw[he.2.1];decide);have e0:=aUZ h;have e1:st=st':=aVc Prod.fst e0;have e2:(rD L).drop 1=R:=aVc Prod.snd e0;rw[h1,List.drop_one,List.tail_cons] at e2;subst e1 e2;have h1':rD L=[t]++q:=h1;obtain⟨g1,g2⟩:=Q9 L [t] q h1' pK;refine⟨L.takeWhile vO++[t],by rw[aU0];exact g1,tJ.app (tJ.one ht),fun R' m hm=> ?_,hv1,hv2⟩;simp only[aUW,aUY,aU7] at hm;obtain⟨m,rfl⟩: ∃k,m=k+1:=⟨m-1,pI⟩;have hpk:rR ([t]++R')=rR (rD L):=by rw[h1'];exact FO pK
     rw[wO,aU0,g2,hpk,aUX hc,aUX hf,aUU he];rfl
    .rw[aUX he] at h;cases h
theorem aRh {L R:List TE}{tag:pF}{st:GU}(h:FL L=some (tag,st,R)): ∃P,L=P++R/\tJ P/\(∀R',FL (P++R')=some (tag,st,R'))/\xJ tag=true/\w9 st.1=true/\w4 st.2=true:=by
 unfold FL at h;split at h
 .rename_i hc;obtain⟨⟨st1,r⟩,hq,he⟩:=aU1.1 h;dsimp only at he;have e1:sC (rR (rD L)).2.2.1 wN=tag:=aVc Prod.fst he;have e2:st1=st:=aVc (fun x=>x.2.1) he;have e3:r=R:=aVc (fun x=>x.2.2) he;subst e2 e3;obtain⟨t,q,h1,ht⟩:=ZI (L:=rD L) (by rw[hc.2.1];decide);rw[h1,List.drop_one,List.tail_cons] at hq;obtain⟨P,a1,a2,a3,a4,a5⟩:=aAY _ _ _ _ _ hq pW pW;have h1':rD L=[t]++q:=h1;obtain⟨g1,g2⟩:=Q9 L [t] q h1' pK;refine⟨L.takeWhile vO++([t]++P),by rw[aU0,aU0,<-a1];exact g1,tJ.app (tJ.app a2),fun R'=> ?_,?_,a4,a5⟩
  .have hpk:rR ([t]++(P++R'))=rR (rD L):=by rw[h1'];exact FO pK
   unfold FL;rw[aU0,aU0,g2,hpk,aUU hc];show (wO (P++R').length.succ ([],[]) (P++R')).map _=_;rw[a3 R' _ (by rw[aUW];omega),e1];rfl
  .have ha:=hc.2.2.1;unfold xM at ha;rw[aU6] at ha;have:=aVC.1 ha.2 wN aU2;obtain⟨a,ham,_,hg⟩:=UJ this;rw[<-e1,hg];exact aVC.1 hc.2.2.2.1 a ham
 .cases h
structure aAZ (P:List TE) (y:s8):Prop where
 lst:tJ P
 ok:xK y=true
 rd: ∀(es:List s8) R,(es.any fun z=>decide (z.1=y.1))=false->es.length≠1000->(rR (rD (P++R))).1≠3/\yR es (rR (rD (P++R))) (rD (P++R))=some (y,R)
inductive BR:List (List TE)->List s8->Prop where
 |nil:BR [] []
 |cons {P:List TE}{y:s8}{Ps:List (List TE)}{ys:List s8}:aAZ P y->BR Ps ys->BR (P::Ps) (y::ys)
def BS:List (List TE)->Nat->pS
 |[],_=>[]
 |_::Ps,k=>(Ps.flatten.length+k)::BS Ps k
theorem aRi {es:List s8}{y:s8}(h:B3 es) (h1:xK y=true) (h2:(es.any fun z=>decide (z.1=y.1))=false) (h3:es.length≠1000):B3 (es++[y]):=by
 have hl:=h.len;refine⟨by rw[aUW,aWo];omega,fun x hx=> ?_,?_⟩
 .rcases aVJ.1 hx with hx|hx
  .exact h.ok x hx
  .rw[aVb.1 hx];exact h1
 .rw[aWM];refine⟨h.pw,List.pairwise_singleton _ _,fun a ha b hb=> ?_⟩;rw[aVb.1 hb];have:=aVB.1 h2 a ha;simpa using this
theorem aKc: ∀(n:Nat) (es:List s8) (ks:pS) (L:List TE) (es':List s8) (ks':pS) (r1:List TE),FM n es ks L=some (es',ks',r1)->B3 es->
  ∃Ps ys T,L=Ps.flatten++T/\BR Ps ys/\es'=es++ys/\ks'=ks++BS Ps T.length/\r1=rD T/\(rR r1).1=3/\B3 es'
 |0,_,_,_,_,_,_,h,_=>by cases h
 |n+1,es,ks,L,es',ks',r1,h,hv=>by
  unfold FM at h;by_cases h3:(rR (rD L)).1=3
  .rw[aUU h3] at h;cases h;exact⟨[],[],L,rfl,.nil,by simp,by simp [BS],rfl,h3,hv⟩
  .rw[aUX h3] at h;cases hx:yR es (rR (rD L)) (rD L) with
   |none=>rw[hx] at h;cases h
   |some w=>
    obtain⟨y,r⟩:=w;rw[hx] at h;dsimp only at h;obtain⟨P,e1,e2,e3,e4,e5,e6,e7,e8⟩:=aRg hx;obtain⟨Ps,ys,T,a1,a2,a3,a4,a5,a6,a7⟩:=aKc n _ _ _ _ _ _ h (aRi hv e3 e4 e5);obtain⟨g1,g2⟩:=Q9 L P r e1 e2.ne;refine⟨(L.takeWhile vO++P)::Ps,y::ys,T,?_,.cons ⟨tJ.app e2,e3,fun es2 R h1 h2=> ?_⟩ a2,?_,?_,a5,a6,a7⟩
    .rw[aVQ,aU0,aU0,<-a1];exact g1
    .rw[aU0,g2];refine⟨?_,e8 es2 R h1 h2⟩;have hpk:rR (P++R)=rR (rD L):=by rw[e1];exact FO e2.ne
     rw[hpk];exact e6
    .rw[a3,aU0];rfl
    .rw[a4,aU0];show _=ks++((Ps.flatten.length+T.length)::BS Ps T.length);rw[a1,aUW];rfl
theorem aKd: ∀(Ps:List (List TE)) (ys es:List s8) (ks:pS) (T:List TE) (n:Nat),BR Ps ys->B3 (es++ys)->(rR (rD T)).1=3->Ps.length<n->
  FM n es ks (Ps.flatten++T)=some (es++ys,ks++BS Ps T.length,rD T)
 |[],ys,es,ks,T,n,hp,hv,h3,hn=>by
  cases hp;obtain⟨n,rfl⟩: ∃k,n=k+1:=⟨n-1,pI⟩;unfold FM;simp only[List.flatten_nil,List.nil_append];rw[aUU h3];simp [BS]
 |P::Ps,ys,es,ks,T,n,hp,hv,h3,hn=>by
  cases hp with
  |cons h1 h2=>
   rename_i y ys;obtain⟨n,rfl⟩: ∃k,n=k+1:=⟨n-1,pI⟩;have hpw:=hv.pw;rw[aWM] at hpw;have hf:(es.any fun z=>decide (z.1=y.1))=false:=by
    rw[aVB];intro z hz;have:=hpw.2.2 z hz y aU2;simpa using this
   have hl:es.length≠1000:=by
    have:=hv.len;rw[aUW,aUY] at this;omega
   obtain⟨k1,k2⟩:=h1.rd es (Ps.flatten++T) hf hl;unfold FM;rw[aVQ,aU0,aUX k1,k2];dsimp only;simp only[aUY] at hn;rw[aKd Ps ys (es++[y]) _ T n h2 (by rw[aU0];exact hv) h3 pI,aU0,aU0];show some (es++(y::ys),ks++((Ps.flatten++T).length::BS Ps T.length),rD T)=some (es++(y::ys),ks++((Ps.flatten.length+T.length)::BS Ps T.length),rD T);rw[aUW]
structure QA (H:List TE) (tag:pF) (st:GU):Prop where
 lst:tJ H
 tagk:xJ tag=true
 com:w9 st.1=true
 fld:w4 st.2=true
 rd: ∀R,FL (H++R)=some (tag,st,R)
def N3 (T:List TE):Prop:=(rR (rD T)).1=3/\IN (rD T)=true
theorem aRj {L:List TE}(h:IN L=true): ∃r2 r3,uX yE L=some r2/\uX zE (rD r2)=some r3/\(rD r3).head?.map (·.1)=some 4:=by
 cases h1:uX yE L with
 |none=>rw[aAK h1] at h;cases h
 |some r2=>
  cases h2:uX zE (rD r2) with
  |none=>rw[aAL h1 h2] at h;cases h
  |some r3=>
   rw[ZD h1 h2] at h;exact⟨r2,r3,rfl,h2,aVw h⟩
theorem aA0 {Ps:List (List TE)}{ys:List s8}(h:BR Ps ys):Ps.length<=Ps.flatten.length/\Ps.length=ys.length:=by
 induction h with
 |nil=>simp
 |cons h1 _ ih=>
  have:=aVp.2 h1.lst.ne;simp only[aUY,aVQ,aUW];omega
theorem aRk {L:List TE}{c:C4}{ks:pS}(h:CI L=some (c,ks)): ∃H Ps T,L=H++(Ps.flatten++T)/\QA H c.1 (c.2.1,c.2.2.1)/\BR Ps c.2.2.2.1/\N3 T/\ks=(Ps.flatten++T).length::BS Ps T.length/\zL c=true/\B3 c.2.2.2.1:=by
 unfold CI at h;cases hh:FL L with
 |none=>rw[hh] at h;cases h
 |some v=>
  obtain⟨tag,st,r⟩:=v;rw[hh] at h;dsimp only at h;obtain⟨H,e1,e2,e3,e4,e5,e6⟩:=aRh hh;cases he:FM (r.length+1) [] [r.length] r with
  |none=>rw[he] at h;cases h
  |some w=>
   obtain⟨es,ks',r1⟩:=w;rw[he] at h;dsimp only at h;obtain⟨Ps,ys,T,a1,a2,a3,a4,a5,a6,a7⟩:=aKc _ _ _ _ _ _ _ he ⟨by simp,fun x hx=>(by cases hx),List.Pairwise.nil⟩;have a3':es=ys:=a3;subst a3';cases h1:uX yE r1 with
   |none=>rw[h1] at h;cases h
   |some r2=>
    rw[h1] at h;dsimp only at h;cases h2:uX zE (rD r2) with
    |none=>rw[h2] at h;cases h
    |some r3=>
     rw[h2] at h;dsimp only at h;by_cases hd:(rD r3).head?.map (·.1)=some 4
     .rw[aUU hd] at h;have e0:=aUZ h;have ec:(tag,(st.1,(st.2,(es,()))))=c:=aVc Prod.fst e0;have ek:ks'=ks:=aVc Prod.snd e0;subst ec ek;refine⟨H,Ps,T,by rw[<-a1];exact e1,⟨e2,e4,e5,e6,e3⟩,a2,⟨by rw[<-a5];exact a6,by rw[<-a5,ZD h1 h2];exact aVk hd⟩,?_,Z7 e4 e5 e6 a7,a7⟩;rw[a4,<-a1];rfl
     .rw[aUX hd] at h;cases h
theorem aRl {H:List TE}{Ps:List (List TE)}{T:List TE}{c:C4}(h1:QA H c.1 (c.2.1,c.2.2.1)) (h2:BR Ps c.2.2.2.1) (h3:B3 c.2.2.2.1) (h4:N3 T):CI (H++(Ps.flatten++T))=some (c,(Ps.flatten++T).length::BS Ps T.length):=by
 obtain⟨r2,r3,k1,k2,k3⟩:=aRj h4.2;have hl:=(aA0 h2).1;have he:=aKd Ps c.2.2.2.1 [] [(Ps.flatten++T).length] T ((Ps.flatten++T).length+1) h2 h3 h4.1 (by rw[aUW];omega);unfold CI;rw[h1.rd];dsimp only;rw[he];dsimp only;rw[k1];dsimp only;rw[k2];dsimp only;rw[aUU k3];rfl
end
noncomputable section
def sV (P:List TE):pF:=P.flatMap (·.2)
theorem KQ (P Q:List TE):sV (P++Q)=sV P++sV Q:=by simp [sV]
theorem QB (t:TE) (Q:List TE):sV (t::Q)=t.2++sV Q:=rfl
theorem aKe: ∀(n m:Nat) (s:pF),s.length<n->s.length<m->IM n s=IM m s
 |0,_,_,h,_=>by omega
 |_+1,0,_,_,h=>by omega
 |n+1,m+1,s,h1,h2=>by
  unfold IM;by_cases hs:s=[]
  .rw[aUU hs,aUU hs]
  .rw[aUX hs,aUX hs];by_cases h0:(sA s).1=0
   .rw[aUU h0,aUU h0]
   .have hp:=(Q7 hs).2.1 h0;have hl:=aVp.2 hs;rw[aUX h0,aUX h0,aKe n m _ (by rw[aVg];omega) (by rw[aVg];omega)]
theorem aA1:uK []=[(4,[])]:=rfl
theorem ZJ {s:pF}(hs:s≠[]) (h0:(sA s).1≠0):uK s=sA s::uK (s.drop (sA s).2.length):=by
 have hp:=(Q7 hs).2.1 h0;have hl:=aVp.2 hs;unfold uK;rw[IM,aUX hs,aUX h0];congr 1;exact aKe _ _ _ (by rw[aVg];omega) pI
theorem aA2 {s:pF}(hs:s≠[]) (h0:(sA s).1=0):uK s=[sA s]:=by
 unfold uK;rw[IM,aUX hs,aUU h0]
theorem aRm {s:pF}(h0:(sA s).1≠0):(sA s).2=s.take (sA s).2.length:=by
 unfold sA at h0|-;split
 .rename_i h;rw[aUU h] at h0;exact absurd rfl h0
 .rename_i h;dsimp only;rw[aVj];rcases Nat.le_total (wB s).2.toNat s.length with h1|h1
  .rw[Nat.min_eq_left h1]
  .rw[Nat.min_eq_right h1,List.take_length,List.take_of_length_le h1]
theorem aKf {s:pF}(h0:(sA s).1≠0):s=(sA s).2++s.drop (sA s).2.length:=by
 have h:=aRm h0;have h2:=(aWi (sA s).2.length s).symm;rw[<-h] at h2;exact h2
theorem aA3: ∀(P R:List TE) (s:pF),uK s=P++R->R≠[]->∃u,s=sV P++u/\uK u=R
 |[],R,s,h,_=>⟨s,rfl,h⟩
 |t::P,R,s,h,hR=>by
  by_cases hs:s=[]
  .subst hs;rw[aA1] at h;have:=aVc List.length h;have hp:=aVp.2 hR;simp only[aUY,aU7,List.cons_append,aUW] at this;omega
  .by_cases h0:(sA s).1=0
   .rw[aA2 hs h0] at h;have:=aVc List.length h;have hp:=aVp.2 hR;simp only[aUY,aU7,List.cons_append,aUW] at this;omega
   .rw[ZJ hs h0] at h;injection h with e1 e2
    obtain⟨u,h1,h2⟩:=aA3 P R _ e2 hR;refine⟨u,?_,h2⟩;rw[QB,<-e1,aU0,<-h1];exact aKf h0
theorem aA4: ∀(s u:pF) (q:Bool) (k:Nat),clo q s=some k->clo q (s++u)=some k
 |[],_,_,_,h=>by cases h
 |b::r,u,q,k,h=>by
  rw[List.cons_append];unfold clo at h|-;by_cases h1:b=34
  .rw[aUU h1] at h|-;obtain⟨j,hj,rfl⟩:=aU1.1 h;rw[aA4 r u _ j hj];rfl
  .rw[aUX h1] at h|-;by_cases h2:b=62/\q=false
   .rw[aUU h2] at h|-;exact h
   .rw[aUX h2] at h|-;obtain⟨j,hj,rfl⟩:=aU1.1 h;rw[aA4 r u _ j hj];rfl
theorem aA5: ∀(s:pF) (q:Bool) (k:Nat),clo q s=some k->clo q (s.take (k+1))=some k/\s[k]? =some 62
 |[],_,_,h=>by cases h
 |b::r,q,k,h=>by
  unfold clo at h;by_cases h1:b=34
  .rw[aUU h1] at h;obtain⟨j,hj,rfl⟩:=aU1.1 h;obtain⟨e1,e2⟩:=aA5 r _ j hj;refine⟨?_,by simpa using e2⟩;rw[List.take_succ_cons];unfold clo;rw[aUU h1,e1];rfl
  .rw[aUX h1] at h;by_cases h2:b=62/\q=false
   .rw[aUU h2] at h;cases h;refine⟨?_,by simp [h2.1]⟩;rw[List.take_succ_cons];unfold clo;rw[aUX h1,aUU h2]
   .rw[aUX h2] at h;obtain⟨j,hj,rfl⟩:=aU1.1 h;obtain⟨e1,e2⟩:=aA5 r _ j hj;refine⟨?_,by simpa using e2⟩;rw[List.take_succ_cons];unfold clo;rw[aUX h1,aUX h2,e1];rfl
theorem ZK {k:Nat}{s:pF}(h1:xH s=false) (h2:s.head? =some 60) (h3:clo false s=some k):sA s=(2,s.take (k+1)):=by
 have hc:BI s=(k:Int):=by unfold BI;rw[h3]
 have hn:wB s=(2,(k:Int)+1):=by
  unfold wB;rw[aUX (by rw[h1];decide),aUU h2,hc,aUX pI]
 unfold sA;rw[hn,aUX (by dsimp only;omega)];show (2,s.take ((k:Int)+1).toNat)=_;rw[show ((k:Int)+1).toNat=k+1 by omega]
theorem aKg {s:pF}(h:(sA s).1=2):xH s=false/\s.head? =some 60/\∃k,clo false s=some k/\sA s=(2,s.take (k+1)):=by
 have hN:(wB s).1=2/\¬(wB s).2<0:=by
  unfold sA at h;split at h
  .cases h
  .rename_i hn;exact⟨h,hn⟩
 unfold wB at hN;by_cases hi:xH s=true
 .rw[aUU hi] at hN;exact absurd hN.1 pK
 .rw[aUX hi] at hN;by_cases h60:s.head? =some 60
  .rw[aUU h60] at hN;cases hc:clo false s with
   |none=>
    have:BI s= -1:=by unfold BI;rw[hc]
    rw[this] at hN;exact absurd pJ hN.2
   |some k=>
    have hi':xH s=false:=by simpa using hi
    exact⟨hi',h60,k,rfl,ZK hi' h60 hc⟩
  .rw[aUX h60] at hN;exact absurd hN.1 pK
theorem aRn {s:pF}(h:(sA s).1=2) (u:pF):sA ((sA s).2++u)=sA s:=by
 obtain⟨h1,h2,k,h3,h4⟩:=aKg h;rw[h4];dsimp only;obtain⟨e1,e2⟩:=aA5 s false k h3;have hk:k<s.length:=XX h3;have hlen:(s.take (k+1)).length=k+1:=by rw[aVj];omega
 have hc:=aA4 (s.take (k+1)) u false k e1;have hh:(s.take (k+1)++u).head? =some 60:=by
  cases s with
  |nil=>cases h2
  |cons b r=>rw[List.take_succ_cons];exact h2
 have hn:xH (s.take (k+1)++u)=false:=by
  cases hq:xH (s.take (k+1)++u) with
  |false=>rfl
  |true=>
   exfalso;unfold xH at hq h1;have hq:=aVw hq;have h1:=of_decide_eq_false h1;by_cases h4:4<=k+1
   .rw[aVN pI,List.take_take,Nat.min_eq_left h4] at hq;exact h1 hq
   .have h5:((s.take (k+1)++u).take 4)[k]? =some 62:=by
     rw[aWd,aUU pI,aVf pI,aWd,aUU pI];exact e2
    rw[hq] at h5;have:k=0\/k=1\/k=2:=by omega
    rcases this with rfl|rfl|rfl<;>simp [M4] at h5
 rw[ZK hn hh hc,aVN pI,List.take_of_length_le pI]
end
noncomputable section
theorem ZL {s sub:pF}{i:Nat}:Lib.occAt s sub i=true↔(s.drop i).take sub.length=sub:=by
 unfold Lib.occAt;rw[List.isPrefixOf_iff_prefix,List.prefix_iff_eq_take];exact eq_comm
theorem aKh {l u:pF}{m j n:Nat}(h:j+n<=m) (hm:m<=l.length):((l.take m++u).drop j).take n=(l.drop j).take n:=by
 rw[List.drop_append_of_le_length (by rw[aVj];omega),aVN (by rw[aVg,aVj];omega),List.drop_take,List.take_take,Nat.min_eq_left pI]
abbrev FP:pF:=[45,45,62]
theorem aRo {l u:pF}{i:Nat}(h:Lib.index l FP=i):Lib.index (l.take (i+3)++u) FP=i/\i+3<=l.length:=by
 have hr:=Lib.index_room l FP pI;simp only[aUY,aU7] at hr;have hl:i+3<=l.length:=by omega
 rcases Lib.index_spec l FP with⟨h1,_⟩ |⟨k,h1,h2,h3⟩
 .omega
 .have hk:k=i:=by omega
  subst hk;refine⟨Lib.index_first (by rw[aUW,aVj];omega) ?_ fun j hj=> ?_,hl⟩
  .rw[ZL,aKh (by simp only[aUY,aU7];omega) hl];exact ZL.1 h3.1
  .cases hq:Lib.occAt (l.take (k+3)++u) FP j with
   |false=>rfl
   |true=>
    rw[ZL,aKh (by simp only[aUY,aU7];omega) hl] at hq;have:=ZL.2 hq;rw[h3.2 j hj] at this;cases this
theorem aKi {s:pF}{i:Nat}(h1:xH s=true) (h2:Lib.index (s.drop 4) FP=i):sA s=(1,s.take (i+7)):=by
 have hn:wB s=(1,(i:Int)+7):=by
  unfold wB;rw[aUU h1,h2,aUU pI]
 unfold sA;rw[hn,aUX (by dsimp only;omega)];show (1,s.take ((i:Int)+7).toNat)=_;rw[show ((i:Int)+7).toNat=i+7 by omega]
theorem aKj {s:pF}(h:(sA s).1=1):xH s=true/\∃i:Nat,Lib.index (s.drop 4) FP=i/\sA s=(1,s.take (i+7)):=by
 have hN:(wB s).1=1/\¬(wB s).2<0:=by
  unfold sA at h;split at h
  .cases h
  .rename_i hn;exact⟨h,hn⟩
 unfold wB at hN;by_cases hi:xH s=true
 .rw[aUU hi] at hN;by_cases h0:0<=Lib.index (s.drop 4) FP
  .obtain⟨i,hi2⟩: ∃i:Nat,Lib.index (s.drop 4) FP=i:=⟨(Lib.index (s.drop 4) FP).toNat,pI⟩;exact⟨hi,i,hi2,aKi hi hi2⟩
  .rw[aUX h0] at hN;exact absurd (show Lib.index (s.drop 4) FP<0 by omega) hN.2
 .rw[aUX hi] at hN;by_cases h60:s.head? =some 60
  .rw[aUU h60] at hN;exact absurd hN.1 pK
  .rw[aUX h60] at hN;exact absurd hN.1 pK
theorem aRp {s:pF}(h:(sA s).1=1) (u:pF):sA ((sA s).2++u)=sA s:=by
 obtain⟨h1,i,h2,h3⟩:=aKj h;obtain⟨e1,e2⟩:=aRo (u:=u) h2;rw[aVg] at e2;rw[h3];dsimp only;have hn:xH (s.take (i+7)++u)=true:=by
  unfold xH at h1|-;have h1:=aVw h1;rw[aVN (by rw[aVj];omega),List.take_take,Nat.min_eq_left pI];exact aVk h1
 have hd:(s.take (i+7)++u).drop 4=(s.drop 4).take (i+3)++u:=by
  rw[List.drop_append_of_le_length (by rw[aVj];omega),List.drop_take];rfl
 rw[aKi (i:=i) hn (by rw[hd];exact e1),aVN (by rw[aVj];omega),List.take_take,Nat.min_self]
theorem aKk: ∀(w:pF),(∀b∈w,b≠60)->Lib.indexByte w 60= -1
 |[],_=>rfl
 |b::w,h=>by
  have ih:=aKk w (fun c hc=>h c (aU3 _ hc));have hb: ¬(b==60)=true:=by simpa using h b aU2
  unfold Lib.indexByte;rw[aUX hb,ih];rfl
theorem aKl: ∀(w u:pF),(∀b∈w,b≠60)->Lib.indexByte (w++60::u) 60=w.length
 |[],_,_=>rfl
 |b::w,u,h=>by
  have ih:=aKl w u (fun c hc=>h c (aU3 _ hc));have hb: ¬(b==60)=true:=by simpa using h b aU2
  rw[List.cons_append];unfold Lib.indexByte;rw[aUX hb,ih,aUX pK,aUY];omega
theorem aKm: ∀(s:pF),(∀b∈s,b≠60)\/∃w u,s=w++60::u/\∀b∈w,b≠60
 |[]=> .inl (fun b hb=>by cases hb)
 |b::s=>by
  by_cases hb:b=60
  .subst hb;exact .inr ⟨[],s,rfl,fun b hb=>by cases hb⟩
  .rcases aKm s with h|⟨w,u,rfl,h⟩
   .exact .inl fun c hc=>by rcases aU9.1 hc with rfl|hc;exact hb;exact h c hc
   .exact .inr ⟨b::w,u,rfl,fun c hc=>by rcases aU9.1 hc with rfl|hc;exact hb;exact h c hc⟩
theorem aKn {s:pF}(h:s.head?≠some 60):xH s=false:=by
 unfold xH;refine decide_eq_false fun e=>h ?_;cases s with
 |nil=>cases e
 |cons b r=>
  rw[List.take_succ_cons] at e;injection e with e1 _
  rw[e1];rfl
theorem aA6 {w u:pF}(hw:w≠[]) (h: ∀b∈w,b≠60) (hu:u=[]\/u.head? =some 60):sA (w++u)=(3,w):=by
 have hh:(w++u).head?≠some 60:=by
  cases w with
  |nil=>exact absurd rfl hw
  |cons b r=>
   intro e;have:b=60:=by simpa using e
   exact h b aU2 this
 have hn:wB (w++u)=(3,(w.length:Int)):=by
  unfold wB;rw[aUX (by rw[aKn hh];decide),aUX hh];rcases hu with rfl|hu
  .rw[List.append_nil,aKk w h,aUU pJ]
  .cases u with
   |nil=>cases hu
   |cons b r=>
    have:b=60:=by simpa using hu
    subst this;rw[aKl w r h,aUX pI]
 unfold sA;rw[hn,aUX (by dsimp only;omega)];show (3,(w++u).take (w.length:Int).toNat)=_;rw[aVD,aVS]
theorem aRq {s:pF}(hs:s≠[]) (h:(sA s).1=3): ∃w u,s=w++u/\w≠[]/\(∀b∈w,b≠60)/\(u=[]\/u.head? =some 60)/\sA s=(3,w):=by
 have hN:(wB s).1=3:=by
  unfold sA at h;split at h
  .cases h
  .exact h
 unfold wB at hN;by_cases hi:xH s=true
 .rw[aUU hi] at hN;exact absurd hN pK
 .rw[aUX hi] at hN;by_cases h60:s.head? =some 60
  .rw[aUU h60] at hN;exact absurd hN pK
  .rcases aKm s with h1|⟨w,u,rfl,h1⟩
   .exact⟨s,[],(List.append_nil s).symm,hs,h1,.inl rfl,by have:=aA6 hs h1 (u:=[]) (.inl rfl);rwa [List.append_nil] at this⟩
   .have hw:w≠[]:=fun e=>by subst e;exact h60 rfl
    exact⟨w,60::u,rfl,hw,h1,.inr rfl,aA6 hw h1 (.inr rfl)⟩
def w5:List TE->Prop
 |[]=>True
 |t::r=>t.2≠[]/\(((t.1=1\/t.1=2)/\t.2.head? =some 60/\∀u,sA (t.2++u)=t)\/(t.1=3/\(∀b∈t.2,b≠60)/\∃v q,r=v::q/\v.2.head? =some 60))/\w5 r
theorem aA7: ∀(P:List TE),w5 P->∀u,uK (sV P++u)=P++uK u
 |[],_,u=>rfl
 |t::r,h,u=>by
  obtain⟨h1,h2,h3⟩:=h;have ih:=aA7 r h3 u;have hf:sA (t.2++(sV r++u))=t:=by
   rcases h2 with⟨_,_,h2⟩ |⟨h2,h4,v,q,rfl,hv⟩
   .exact h2 _
   .have hh:(sV (v::q)++u).head? =some 60:=by
     rw[QB];cases hv2:v.2 with
     |nil=>rw[hv2] at hv;cases hv
     |cons b x=>rw[hv2] at hv;exact hv
    rw[aA6 h1 h4 (.inr hh)];exact Prod.ext h2.symm rfl
  have hne:t.2++(sV r++u)≠[]:=by simp [h1]
  have h0:(sA (t.2++(sV r++u))).1≠0:=by
   rw[hf];rcases h2 with⟨h2|h2,_⟩ |⟨h2,_⟩<;>rw[h2]<;>decide
  rw[QB,aU0,ZJ hne h0,hf,aWk,ih];rfl
theorem aRr {s:pF}(hs:s≠[]) (h0:(sA s).1≠0):(sA s).1=1\/(sA s).1=2\/(sA s).1=3:=(Q7 hs).2.2.2.resolve_left h0
theorem aRs {s:pF}(h:xH s=true):s.head? =some 60:=by
 cases hh:decide (s.head? =some 60) with
 |true=>exact aVw hh
 |false=>rw[aKn (of_decide_eq_false hh)] at h;cases h
theorem aA8: ∀(P R:List TE) (s:pF),uK s=P++R->R≠[]->tJ P->w5 P
 |[],_,_,_,_,_=>trivial
 |t::P,R,s,h,hR,hl=>by
  have hs:s≠[]:=by
   rintro rfl;rw[aA1] at h;have:=aVc List.length h;have hp:=aVp.2 hR;simp only[aUY,aU7,List.cons_append,aUW] at this;omega
  have h0:(sA s).1≠0:=by
   intro h0;rw[aA2 hs h0] at h;have:=aVc List.length h;have hp:=aVp.2 hR;simp only[aUY,aU7,List.cons_append,aUW] at this;omega
  rw[ZJ hs h0] at h;injection h with e1 e2
  have e2:uK (s.drop (sA s).2.length)=P++R:=e2;have hne:t.2≠[]:=by
   have:=(Q7 hs).2.1 h0;rw[e1] at this;exact aVp.1 this
  have hrest:P=[]\/tJ P:=by
   obtain⟨Q,v,hq,hv⟩:=hl;cases Q with
   |nil=>left;injection hq with _ hq
   |cons w Q=>right;injection hq with _ hq;exact⟨Q,v,hq,hv⟩
  have hseg:w5 P:=by
   rcases hrest with rfl|hl2
   .trivial
   .exact aA8 P R _ e2 hR hl2
  have head60: ∀{x:pF},x≠[]->x.head? =some 60->(sA x).1≠0->(sA x).2.head? =some 60:=by
   intro x hx h1 h2;have hsp:=aKf h2;have hp:=(Q7 hx).2.1 h2;cases hq:(sA x).2 with
   |nil=>rw[hq] at hp;simp at hp
   |cons b q=>rw[hsp,hq] at h1;exact h1
  refine⟨hne,?_,hseg⟩;rcases aRr hs h0 with k|k|k
  .left;refine⟨.inl (by rw[<-e1];exact k),?_,fun u=>by rw[<-e1];exact aRp k u⟩;rw[<-e1];exact head60 hs (aRs (aKj k).1) h0
  .left;refine⟨.inr (by rw[<-e1];exact k),?_,fun u=>by rw[<-e1];exact aRn k u⟩;rw[<-e1];exact head60 hs (aKg k).2.1 h0
  .right;obtain⟨w,u,hw1,hw2,hw3,hw4,hw5⟩:=aRq hs k;have ht:t=(3,w):=by rw[<-e1];exact hw5
   have hPne:P≠[]:=by
    rintro rfl;obtain⟨Q,v,hq,hv⟩:=hl;cases Q with
    |nil=>injection hq with hq _;rw[<-hq,ht] at hv;simp at hv
    |cons x Q=>injection hq with _ hq;have:=aVc List.length hq;simp at this
   have hu:s.drop (sA s).2.length=u:=by rw[hw5,hw1,aWk]
   rw[hu] at e2;refine⟨by rw[ht],by rw[ht];exact hw3,?_⟩;cases P with
   |nil=>exact absurd rfl hPne
   |cons v q=>
    refine⟨v,q,rfl,?_⟩;rcases hw4 with rfl|hu60
    .rw[aA1] at e2;have:=aVc List.length e2;have hp:=aVp.2 hR;simp only[aUY,aU7,List.cons_append,aUW] at this;omega
    .have hune:u≠[]:=by rintro rfl;cases hu60
     by_cases hu0:(sA u).1=0
     .rw[aA2 hune hu0] at e2;have:=aVc List.length e2;have hp:=aVp.2 hR;simp only[aUY,aU7,List.cons_append,aUW] at this;omega
     .rw[ZJ hune hu0] at e2;injection e2 with e3 _
      rw[<-e3];exact head60 hune hu60 hu0
end
noncomputable section
theorem aKo {T:List TE}(h:N3 T):T≠[]:=by
 rintro rfl;have:=h.1;simp [rD,rR,eN] at this
theorem aKp: ∀(Ps:List (List TE)) (ys:List s8) (T:List TE) (u:pF),uK u=Ps.flatten++T->BR Ps ys->T≠[]->∃tl,u=(Ps.map sV).flatten++tl/\uK tl=T/\∀P∈Ps,w5 P
 |[],_,T,u,h,_,_=>⟨u,rfl,h,fun P hP=>by cases hP⟩
 |P::Ps,ys,T,u,h,he,hT=>by
  cases he with
  |cons h1 h2=>
   rw[aVQ,aU0] at h;have hR:Ps.flatten++T≠[]:=by simp [hT]
   have hs:=aA8 P _ u h hR h1.lst;obtain⟨v,e1,e2⟩:=aA3 P _ u h hR;obtain⟨tl,a1,a2,a3⟩:=aKp Ps _ T v e2 h2 hT;refine⟨tl,?_,a2,fun Q hQ=> ?_⟩
   .rw[e1,a1,aV0,aVQ,aU0]
   .rcases aU9.1 hQ with rfl|hQ
    .exact hs
    .exact a3 Q hQ
structure UM (s:pF) (c:C4) (H:List TE) (Ps:List (List TE)) (tl:pF):Prop where
 eq:s=sV H++((Ps.map sV).flatten++tl)
 lx:uK s=H++(Ps.flatten++uK tl)
 hd:QA H c.1 (c.2.1,c.2.2.1)
 ents:BR Ps c.2.2.2.1
 inv:B3 c.2.2.2.1
 tail:N3 (uK tl)
 ok:zL c=true
 segH:w5 H
 segP: ∀P∈Ps,w5 P
theorem aKq {s:pF}{c:C4}{ks:pS}(h:CI (uK s)=some (c,ks)): ∃H Ps tl,UM s c H Ps tl/\ks=(Ps.flatten++uK tl).length::BS Ps (uK tl).length:=by
 obtain⟨H,Ps,T,h1,h2,h3,h4,h5,h6,h7⟩:=aRk h;have hT:=aKo h4;have hR:Ps.flatten++T≠[]:=by simp [hT]
 have hs:=aA8 H _ s h1 hR h2.lst;obtain⟨u,e1,e2⟩:=aA3 H _ s h1 hR;obtain⟨tl,a1,a2,a3⟩:=aKp Ps _ T u e2 h3 hT;subst a2;exact⟨H,Ps,tl,⟨by rw[e1,a1],h1,h2,h3,h7,h4,h6,hs,a3⟩,h5⟩
theorem aKr: ∀(Ps:List (List TE)) (tl:pF),(∀P∈Ps,w5 P)->uK ((Ps.map sV).flatten++tl)=Ps.flatten++uK tl
 |[],_,_=>rfl
 |P::Ps,tl,h=>by
  rw[aV0,aVQ,aU0,aA7 P (h P aU2),aKr Ps tl (fun Q hQ=>h Q (aU3 _ hQ)),aVQ,aU0]
theorem aRt {c:C4}{H:List TE}{Ps:List (List TE)}{tl:pF}(h1:QA H c.1 (c.2.1,c.2.2.1)) (h2:BR Ps c.2.2.2.1) (h3:B3 c.2.2.2.1) (h4:N3 (uK tl)) (h5:w5 H) (h6: ∀P∈Ps,w5 P):
  UM (sV H++((Ps.map sV).flatten++tl)) c H Ps tl/\CI (uK (sV H++((Ps.map sV).flatten++tl)))=some (c,(Ps.flatten++uK tl).length::BS Ps (uK tl).length):=by
 have hl:uK (sV H++((Ps.map sV).flatten++tl))=H++(Ps.flatten++uK tl):=by rw[aA7 H h5,aKr Ps tl h6]
 exact⟨⟨rfl,hl,h1,h2,h3,h4,Z7 h1.tagk h1.com h1.fld h3,h5,h6⟩,by rw[hl];exact aRl h1 h2 h3 h4⟩
theorem aKs {T:List tH}(hc:BQ T) (h0: ∀t r,T=t::r->t.2.2.1=0): ∀(k:Nat) (hk:k<T.length),(T[k]).2.2.1=((sV ((T.map er).take k)).length:Int)
 |0,hk=>by
  cases T with
  |nil=>simp at hk
  |cons t r=>simpa[sV] using h0 t r rfl
 |k+1,hk=>by
  have ih:=aKs hc h0 k pI;rw[hc k hk,ih,List.take_add_one,aU5 (by rw[aVX];omega),KQ,aUW];simp [sV,er]
theorem aKt {s:pF}(hs:s.length<=900000000) {P R:List TE}(h:uK s=P++R) (hR:R≠[]):zM (wC s) R.length=((sV P).length:Int):=by
 obtain⟨_,hc⟩:=aJV hs;have he:=aJU s;have hlen:(wC s).length=P.length+R.length:=by
  have:=aVc List.length he;rw[aVX,h,aUW] at this;exact this
 have hp:=aVp.2 hR;have h0: ∀t r,wC s=t::r->t.2.2.1=0:=by
  intro t r e;obtain⟨t',r',e1,e2⟩:=aAI (s:=s) (n:=s.length+1) (i:=0) pI (aV4 _);have e1:wC s=t'::r':=e1;rw[e] at e1;injection e1 with e3 _
  rw[e3];exact e2
 obtain⟨k,hk0⟩: ∃k,k=(wC s).length-R.length:=⟨_,rfl⟩;have hkP:k=P.length:=by omega
 have hk:k<(wC s).length:=by omega
 have ht:(P++R).take k=P:=by rw[hkP,aVS]
 have hpa:=aKs hc h0 k hk;rw[he,h,ht] at hpa;unfold zM FK;rw[<-hk0,aVA hk,KL];exact hpa
theorem aKu {s:pF}(hs:s.length<=900000000): ∀(Ps:List (List TE)) (Q T:List TE),uK s=Q++(Ps.flatten++T)->T≠[]->
  (BS Ps T.length).map (zM (wC s))=(E6 (sV Q).length (Ps.map sV)).map fun k:Nat=>(k:Int)
 |[],_,_,_,_=>rfl
 |P::Ps,Q,T,h,hT=>by
  have h':uK s=(Q++P)++(Ps.flatten++T):=by rw[h,aVQ];simp only[aU0]
  have ih:=aKu hs Ps (Q++P) T h' hT;have hp:=aKt hs h' (by simp [hT]);rw[aUW] at hp;rw[KQ,aUW] at ih hp;show zM (wC s) (Ps.flatten.length+T.length)::(BS Ps T.length).map _=_;rw[hp,ih];rfl
theorem aRu {s:pF}(hs:s.length<=900000000) {c:C4}{H:List TE}{Ps:List (List TE)}{tl:pF}(h:UM s c H Ps tl):
  ((Ps.flatten++uK tl).length::BS Ps (uK tl).length).map (zM (wC s))=((sV H).length::E6 (sV H).length (Ps.map sV)).map fun k:Nat=>(k:Int):=by
 have hT:=aKo h.tail;rw[aV0,aV0,aKu hs Ps H _ h.lx hT,aKt hs h.lx (by simp [hT])]
theorem ZM {L:pS}{j:Nat}:qR (.int .i64) (L.map fun k:Nat=>(k:Int)) (j:Int)=((L.getD j 0:Nat):Int):=by
 unfold qR;rw[aVD,aVq,List.getElem?_map,aVq];cases L[j]? <;>rfl
theorem aA9 {s a b c:pF}(h:s=a++(b++c)) {x y:Nat}(hx:x=a.length) (hy:y=a.length+b.length):sF s (x:Int) (y:Int)=b:=by
 subst hx hy;have:=aQu h;exact this
theorem aRv {s h tl:pF}{ps:pG}(hs:s.length<=900000000) (hq:s=h++(ps.flatten++tl)) (hn:ps.length<=1000) {r:((List sE)×Int×Int×pF×pG×(List r7)×(List s8)×pO×pM)}(he:zB s=some r) (h0:r.2.2.1=0) (hE:r.2.2.2.2.2.2.2.1=(h.length::E6 h.length ps).map fun k:Nat=>(k:Int)):
  CC s=some (h,ps,tl,0):=by
 have hL:(h.length::E6 h.length ps).length=ps.length+1:=by rw[aUY,aJe]
 have hget: ∀j,j<=ps.length->(h.length::E6 h.length ps).getD j 0=h.length+(ps.take j).flatten.length:=fun j hj=>aJf ps _ j hj;have hsl:s.length=h.length+ps.flatten.length+tl.length:=by rw[hq];simp only[aUW];omega
 have hle: ∀j,(ps.take j).flatten.length<=ps.flatten.length:=fun j=>by
  have:=aVc List.length (aJg ps j);rw[aUW] at this;omega
 have hEl:(r.2.2.2.2.2.2.2.1.length:Int)=((ps.length+1:Nat):Int):=by rw[hE,aVX,hL]
 have k:=U5 (f:=PJ s r) (fun i b=>(i+1,b)) (fun b=>b) (n:=ps.length) (M:=1000000) (B:=1) (fun i=>[ps.getD i []]) (fun i hi=>by simp) [] pL (fun i b hi hM=>by
  have e1:=hget i pI;have e2:=hget (i+1) pI;have e3:(ps.take (i+1)).flatten=(ps.take i).flatten++ps[i]:=by
   rw[List.take_add_one,aU5 hi,List.flatten_append];simp
  have e4:s=(h++(ps.take i).flatten)++(ps[i]++((ps.drop (i+1)).flatten++tl)):=by
   rw[hq,aJg ps i,aVA hi,aVQ];simp only[aU0]
  have e5:sF s ((h.length::E6 h.length ps).getD i 0:Nat) ((h.length::E6 h.length ps).getD (i+1) 0:Nat)=ps[i]:=aA9 e4 (by rw[e1,aUW]) (by rw[e2,e3,aUW,aUW];omega);have e6:=hle (i+1);have e7:(ps.take i).flatten.length<=(ps.take (i+1)).flatten.length:=by rw[e3,aUW];omega
  have hsub:((i:Int)+1)-1=(i:Int):=by omega
  have hcast:(i:Int)+1=((i+1:Nat):Int):=rfl;unfold PJ;dsimp only;rw[hsub,hEl,aUU pL,aUU (by unfold qG;omega),aUU ⟨pI,pI⟩,aUU ⟨pI,pI⟩,hE,hcast,ZM,ZM,e5,e1,e2,aUU (by show (0:Int)<=((h.length+(ps.take i).flatten.length:Nat):Int)/\((h.length+(ps.take i).flatten.length:Nat):Int)<=((h.length+(ps.take (i+1)).flatten.length:Nat):Int)/\((h.length+(ps.take (i+1)).flatten.length:Nat):Int)<=(s.length:Int);omega),aUU pL,aUU (by unfold qG;omega),CD hi]) (fun b=>by
  unfold PJ;dsimp only;rw[hEl,aUX pK])
 have k':rQ (PJ s r) ((1:Int),[])=_:=k;have z0:=hget 0 pI;have zl:=hget ps.length (aVi _);rw[List.take_length] at zl;have hl1:((ps.length+1:Nat):Int)-1=(ps.length:Int):=by omega
 unfold CC;rw[he,aUS,h0,aUX pJ,hEl,hl1,hE];rw[show (0:Int)=((0:Nat):Int) from rfl,ZM,ZM,z0,zl];rw[aUU ⟨pI,pI⟩,aUU ⟨pI,pI,by simp;omega⟩,aUU (by unfold qG;omega),aUU ⟨pI,pI⟩];rw[aUU (by show (0:Int)<=((h.length+ps.flatten.length:Nat):Int)/\((h.length+ps.flatten.length:Nat):Int)<=(s.length:Int)/\(s.length:Int)<=(s.length:Int);omega)];rw[k',U6 (l:=ps) (d:=[]) (fun x=>[x])];unfold sU;rw[aUS,List.nil_append,aI4,List.map_id'];have c1:sF s ((0:Nat):Int) ((h.length+(List.take 0 ps).flatten.length:Nat):Int)=h:=aA9 (a:=[]) (b:=h) (c:=ps.flatten++tl) hq rfl pK;have c2:sF s ((h.length+ps.flatten.length:Nat):Int) (s.length:Int)=tl:=aA9 (a:=h++ps.flatten) (b:=tl) (c:=[]) (by rw[hq];simp) pK (by rw[hsl];simp only[aUW]);rw[c1,c2]
theorem aRw {s:pF}{r:((List sE)×Int×Int×pF×pG×(List r7)×(List s8)×pO×pM)}(he:zB s=some r) (h0:r.2.2.1≠0):CC s=some ([],[],[],r.2.2.1):=by
 unfold CC;rw[he,aUS,aUU (by simpa using h0)]
theorem aRx {s:pF}(hs:s.length<=900000000):
  (∃c H Ps tl,UM s c H Ps tl/\(∃ks,CI (uK s)=some (c,ks))/\yA s=some (c.1,c.2.1,c.2.2.1,c.2.2.2.1,0,0))\/
  (∃p e,e≠0/\CI (uK s)=none/\yA s=some ([],[],[],[],p,e)):=by
 obtain⟨r,hr,hm⟩:=aJY hs;cases hp:CI (uK s) with
 |none=>
  rw[hp] at hm;right;refine⟨r.2.1,r.2.2.1,hm,rfl,?_⟩;unfold yA;rw[hr,aUS,aUU (by simpa using hm)]
 |some w=>
  obtain⟨c,ks⟩:=w;rw[hp] at hm;obtain⟨m1,m2,m3⟩:=hm;obtain⟨H,Ps,tl,hb,hk⟩:=aKq hp;left;refine⟨c,H,Ps,tl,hb,⟨ks,rfl⟩,?_⟩;unfold yA;rw[hr,aUS,aUX (by rw[m1];decide),<-m2]
theorem aRy {s:pF}(hs:s.length<=900000000):
  (∃c H Ps tl,UM s c H Ps tl/\(∃ks,CI (uK s)=some (c,ks))/\yA s=some (c.1,c.2.1,c.2.2.1,c.2.2.2.1,0,0)/\CC s=some (sV H,Ps.map sV,tl,0))\/
  (∃p e,e≠0/\CI (uK s)=none/\yA s=some ([],[],[],[],p,e)/\CC s=some ([],[],[],e)):=by
 obtain⟨r,hr,hm⟩:=aJY hs;cases hp:CI (uK s) with
 |none=>
  rw[hp] at hm;dsimp only at hm;right;refine⟨r.2.1,r.2.2.1,hm,rfl,?_,aRw hr hm⟩;unfold yA;rw[hr,aUS,aUU (by simpa using hm)]
 |some w=>
  obtain⟨c,ks⟩:=w;rw[hp] at hm;obtain⟨m1,m2,m3⟩:=hm;obtain⟨H,Ps,tl,hb,hk⟩:=aKq hp;left;refine⟨c,H,Ps,tl,hb,⟨ks,rfl⟩,?_,?_⟩
  .unfold yA;rw[hr,aUS,aUX (by rw[m1];decide),<-m2]
  .refine aRv hs hb.eq ?_ hr m1 ?_
   .rw[aVX,(aA0 hb.ents).2];exact hb.inv.len
   .rw[m3,hk];exact aRu hs hb
end
noncomputable section
theorem aBa (s:pF):tG s [32]=Lib.splitK [32] 0 (Lib.count s [32]) s:=by
 unfold tG;rw[Lib.splitB_data]
theorem aRz {s:pF}(h: ∀b∈s,b≠32):Lib.index s [32]= -1:=by
 rw[Lib.index_one]
 induction s with
 |nil=>rfl
 |cons b w ih=>
  have ih:=ih (fun c hc=>h c (aU3 _ hc));have hb: ¬(b==32)=true:=by simpa using h b aU2
  unfold Lib.indexByte;rw[aUX hb,ih];rfl
theorem aRA {w u:pF}(h: ∀b∈w,b≠32):Lib.index (w++32::u) [32]=w.length:=by
 rw[Lib.index_one]
 induction w with
 |nil=>rfl
 |cons b w ih=>
  have ih:=ih (fun c hc=>h c (aU3 _ hc));have hb: ¬(b==32)=true:=by simpa using h b aU2
  rw[List.cons_append];unfold Lib.indexByte;rw[aUX hb,ih,aUX pK,aUY];omega
theorem aRB {s:pF}(h: ∀b∈s,b≠32):tG s [32]=[s]:=by
 rw[aBa,Lib.count_miss (aRz h)];rfl
theorem aRC {x r:pF}(h: ∀b∈x,b≠32):tG (x++32::r) [32]=x::tG r [32]:=by
 have hi:=aRA (u:=r) h;have hd:(x++32::r).drop (x.length+1)=r:=by
  rw[<-aWA,aWk];rfl
 rw[aBa,aBa,Lib.count_hit pK hi];rw[show (x.length+([32]:pF).length)=x.length+1 from rfl,hd,Nat.add_comm 1];unfold Lib.splitK;rw[hi,aUX pK];simp only[aVD,aVU,aVS];congr 1;rw[show (x.length+([32]:pF).length)=x.length+1 from rfl,hd];cases Lib.count r [32]<;>rfl
theorem aKv: ∀(r:pG) (x:pF),(∀y∈x::r,∀b∈y,b≠32)->tG (x++r.flatMap (fun y=>[32]++y)) [32]=x::r
 |[],x,h=>by rw[List.flatMap_nil,List.append_nil];exact aRB (h x aU2)
 |y::r,x,h=>by
  rw[aVM];show tG (x++32::(y++r.flatMap _)) [32]=_;rw[aRC (h x aU2),aKv r y (fun z hz=>h z (aU3 _ hz))]
theorem aKw {x:pF}(h:uT x=true):x≠[]/\∀b∈x,b≠32/\b≠34/\b≠60/\b≠62:=by
 cases x with
 |nil=>cases h
 |cons c t=>
  refine⟨by simp,?_⟩;unfold uT at h;simp only[aU6,aVo,aVB] at h;have hs: ∀b:UInt8,yO b.toNat=true->b≠32/\b≠34/\b≠60/\b≠62:=by
   intro b hb;refine⟨?_,?_,?_,?_⟩<;>rintro rfl<;>exact absurd hb pJ
  have hn: ∀b:UInt8,yB b.toNat=false->b≠32/\b≠34/\b≠60/\b≠62:=by
   intro b hb;refine⟨?_,?_,?_,?_⟩<;>rintro rfl<;>exact absurd hb pJ
  intro b hb;rcases aU9.1 hb with rfl|hb
  .exact hs b h.1.2
  .exact hn b (by simpa using h.2 b hb)
theorem aKx {l:pG}(h: ∀x∈l,uT x=true):u6 (vX l [32])=l:=by
 cases l with
 |nil=>exact aKa
 |cons x r=>
  unfold u6;rw[ZF,aKv r x (fun y hy b hb=>((aKw (h y hy)).2 b hb).1)];unfold uO;rw[List.filter_eq_self];intro y hy;simpa using(aKw (h y hy)).1
theorem aKy {l:pG}(h:l.Pairwise (· < ·)):sO l=l:=by
 have h2:l.Pairwise (·<=·):=h.imp fun hab hba=>List.lt_irrefl _ (List.lt_trans hab hba);have hp:=aAj l;exact hp.eq_of_pairwise (fun a b _ _ h1 h2=>List.le_antisymm h1 h2) (aIT l) h2
theorem aRD {l:pG}(h:l.Pairwise (· < ·)):IL l=false:=by
 unfold IL;rw[aKy h];have:Lib.compact l=l:=Lib.compact_all l fun j hj=>by
  cases j with
  |zero=>simp [Lib.keeps]
  |succ j=>
   refine Lib.keeps_pos ?_;rw[Nat.add_sub_cancel,getElem!_pos l.toArray (j+1) (by simpa using hj),getElem!_pos l.toArray j pL];intro e;have h1:=aVV.1 h j (j+1) pI hj pI;simp only[List.getElem_toArray] at e;rw[e] at h1;exact List.lt_irrefl _ h1
 rw[this];exact decide_eq_false (aWw _)
structure FQ (a:pF×pF×pF):Prop where
 ne:a.1≠[]
 nm: ∀b∈a.1,BP b=true
 raw: ∀b∈a.2.1,b≠34
 txt:xX a.2.1=some a.2.2
def uH (l:List (pF×pF×pF)):pF:=l.flatMap fun a=>((([32]++a.1)++[61,34])++a.2.1)++[34]
def zN (l:List (pF×pF×pF)):List sB:=l.map fun a=>(a.1,(a.2.2,()))
theorem aBb {w u:pF}(h: ∀b∈w,BP b=true) (hu:u=[]\/∃b r,u=b::r/\BP b=false):tK (w++u)=w.length:=by
 unfold tK;rcases hu with rfl|⟨b,r,rfl,hb⟩
 .rw[List.append_nil,aWf.2 (fun b hb=>by rw[h b hb];rfl)];rfl
 .have:(w++b::r).findIdx? (fun b=> !BP b)=some w.length:=by
   rw[aVL];refine⟨by simp,by simp [hb],fun j hj=> ?_⟩;rw[List.getElem_append_left hj,h _ (aVW hj)];decide
  rw[this];rfl
theorem aRE {w u:pF}(h: ∀b∈w,b≠34):Lib.indexByte (w++34::u) 34=w.length:=by
 induction w with
 |nil=>rfl
 |cons b w ih=>
  have ih:=ih (fun c hc=>h c (aU3 _ hc));have hb: ¬(b==34)=true:=by simpa using h b aU2
  rw[List.cons_append];unfold Lib.indexByte;rw[aUX hb,ih,aUX pK,aUY];omega
theorem aRF {a:pF×pF×pF}(h:FQ a) (u:pF):IK (a.1++61::34::(a.2.1++34::u))=some (a.1,a.2.2,u):=by
 have hw:tK (a.1++61::34::(a.2.1++34::u))=a.1.length:=aBb h.nm (.inr ⟨61,_,rfl,pJ⟩);have hp:=aVp.2 h.ne;have hc:xL (61::34::(a.2.1++34::u)) [61,34]=(a.2.1++34::u,true):=by
  unfold xL;rw[aUU pX];rfl
 have hi:=aRE (u:=u) h.raw;have hq:DE (a.2.1++34::u)=(a.2.1,u,true):=by
  unfold DE;rw[hi,aUU pI];simp only[aVD,aVS];congr 1;rw[<-aWA,aWk];rfl
 unfold IK;rw[hw,aUX pI,aWk,hc,aUX pK];dsimp only;rw[hq,aUX pK];dsimp only;rw[h.txt,aVS]
theorem aKz: ∀(l:List (pF×pF×pF)) (acc:List sB) (n:Nat),(∀a∈l,FQ a)->l.length<n->(l.map (·.1)).Nodup->(∀a∈l,∀f∈acc,f.1≠a.1)->E7 n (uH l) acc false=some (acc++zN l,false)
 |[],acc,n,_,hn,_,_=>by
  obtain⟨n,rfl⟩: ∃k,n=k+1:=⟨n-1,by simp at hn;omega⟩;simp [E7,uH,zN]
 |a::l,acc,n,h,hn,hd,hacc=>by
  obtain⟨n,rfl⟩: ∃k,n=k+1:=⟨n-1,by simp at hn;omega⟩;have ha:=h a aU2;have e1:uH (a::l)=32::(a.1++61::34::(a.2.1++34::uH l)):=by
   unfold uH;rw[aVM];simp
  have e2:(uH (a::l)).dropWhile blk=a.1++61::34::(a.2.1++34::uH l):=by
   rw[e1,List.dropWhile_cons,aUU pJ];cases hn1:a.1 with
   |nil=>exact absurd hn1 ha.ne
   |cons b r=>
    have hb:=ha.nm b (by rw[hn1];exact aU2);have:blk b=false:=by
     cases hq:blk b with
     |false=>rfl
     |true=>
      unfold blk at hq;have hm:b∈([32,9,10,13]:pF):=by simpa using hq
      simp only[aU9,aWv,or_false] at hm;rcases hm with rfl|rfl|rfl|rfl<;>exact absurd hb pJ
    rw[List.cons_append,List.dropWhile_cons,this];rfl
  rw[aV0,List.nodup_cons] at hd;have hne:a.1++61::34::(a.2.1++34::uH l)≠[]:=by simp
  have htw:(false||acc.any fun x=>decide (x.1=a.1))=false:=by
   rw[Bool.false_or,aVB];intro f hf;simpa using hacc a aU2 f hf
  unfold E7;rw[e2,aUX hne,aRF ha];dsimp only;rw[aUX (by rw[e1,aUY];omega),htw,aKz l _ n (fun b hb=>h b (aU3 _ hb)) (by simpa using hn) hd.2 (fun b hb f hf=> ?_)]
  .simp [zN]
  .rcases aVJ.1 hf with hf|hf
   .exact hacc b (aU3 _ hb) f hf
   .rw[aVb.1 hf];intro e;exact hd.1 (List.mem_map.2 ⟨b,hb,e.symm⟩)
end
noncomputable section
def vJ (name:pF) (l:List (pF×pF×pF)):pF:=60::(name++(uH l++[62]))
def wF (name:pF):pF:=60::47::(name++[62])
structure QC (t:TE):Prop where
 two:t.1=2
 hd:t.2.head? =some 60
 fst: ∀u,sA (t.2++u)=t
theorem QC.ne {t:TE}(h:QC t):t.2≠[]:=by
 intro e;have:=h.hd;rw[e] at this;cases this
theorem aBc {t:TE}{P:List TE}(h:QC t) (hP:w5 P):w5 (t::P):=⟨h.ne,.inl ⟨.inr h.two,h.hd,h.fst⟩,hP⟩
theorem UN {w:pF}{t:TE}{P:List TE}(hw:w≠[]) (h: ∀b∈w,b≠60) (ht:QC t) (hP:w5 P):w5 ((3,w)::t::P):=⟨hw,.inr ⟨rfl,h,t,P,rfl,ht.hd⟩,aBc ht hP⟩
theorem aBd: ∀{P Q:List TE},w5 P->tJ P->w5 Q->w5 (P++Q)
 |[],_,_,_,hQ=>hQ
 |t::P,Q,h,hl,hQ=>by
  obtain⟨h1,h2,h3⟩:=h;have hrest:P=[]\/tJ P:=by
   obtain⟨A,v,hq,hv⟩:=hl;cases A with
   |nil=>left;injection hq with _ hq
   |cons w A=>right;injection hq with _ hq;exact⟨A,v,hq,hv⟩
  have h4:w5 (P++Q):=by
   rcases hrest with rfl|hl2
   .exact hQ
   .exact aBd h3 hl2 hQ
  refine⟨h1,?_,h4⟩;rcases h2 with h2|⟨h2,h5,v,q,rfl,hv⟩
  .exact .inl h2
  .exact .inr ⟨h2,h5,v,q++Q,rfl,hv⟩
theorem aKA (q:Bool) (b:UInt8) (r:pF):clo q (b::r)=if b=34 then(clo (!q) r).map (· +1) else if b=62/\q=false then some 0 else(clo q r).map (· +1):=rfl
theorem ZN: ∀(w r:pF),(∀b∈w,b≠34/\b≠62)->clo false (w++r)=(clo false r).map (· +w.length)
 |[],r,_=>by cases h:clo false r<;>simp [h]
 |b::w,r,h=>by
  have hb:=h b aU2;rw[List.cons_append,aKA,aUX hb.1,aUX (fun e=>hb.2 e.1),ZN w r (fun c hc=>h c (aU3 _ hc)),Option.map_map];congr 1
theorem aKB: ∀(w r:pF),(∀b∈w,b≠34)->clo true (w++34::r)=(clo false r).map (· +(w.length+1))
 |[],r,_=>by
  show (if (34:UInt8)=34 then(clo (!true) r).map (· +1) else _)=_;rw[aUU rfl];rfl
 |b::w,r,h=>by
  have hb:=h b aU2;rw[List.cons_append,aKA,aUX hb,aUX pK,aKB w r (fun c hc=>h c (aU3 _ hc)),Option.map_map];congr 1
theorem IS {b:UInt8}(h:BP b=true):b≠34/\b≠62/\b≠47/\b≠33/\b≠60:=by
 refine⟨?_,?_,?_,?_,?_⟩<;>rintro rfl<;>exact absurd h pJ
theorem ZO (a:pF×pF×pF) (l:List (pF×pF×pF)):uH (a::l)=(32::(a.1++[61]))++34::(a.2.1++34::uH l):=by
 unfold uH;rw[aVM];simp
theorem aKC: ∀(l:List (pF×pF×pF)) (r:pF),(∀a∈l,FQ a)->clo false (uH l++r)=(clo false r).map (· +(uH l).length)
 |[],r,_=>by
  show clo false r=(clo false r).map (· +0);cases clo false r<;>rfl
 |a::l,r,h=>by
  have ha:=h a aU2;have ih:=aKC l r (fun b hb=>h b (aU3 _ hb));have e:uH (a::l)++r=(32::(a.1++[61]))++34::(a.2.1++34::(uH l++r)):=by rw[ZO];simp
  have hq:clo false (34::(a.2.1++34::(uH l++r)))=(clo true (a.2.1++34::(uH l++r))).map (· +1):=by
   show (if (34:UInt8)=34 then(clo (!false) _).map (· +1) else _)=_;rw[aUU rfl];rfl
  rw[e,ZN _ _ (fun b hb=>by
   rcases aU9.1 hb with rfl|hb
   .decide
   .rcases aVJ.1 hb with hb|hb
    .exact⟨(IS (ha.nm b hb)).1,(IS (ha.nm b hb)).2.1⟩
    .rw[aVb.1 hb];decide),hq,aKB _ _ ha.raw,ih,ZO]
  simp only[Option.map_map,aUW,aUY,aU7];congr 1;funext x;simp only[Function.comp];omega
theorem ZP {name:pF}{l:List (pF×pF×pF)}(hn:name≠[]) (hs: ∀b∈name,BP b=true) (hl: ∀a∈l,FQ a):QC (2,vJ name l):=by
 refine⟨rfl,rfl,fun u=> ?_⟩;dsimp only;have hc:clo false (vJ name l++u)=some (name.length+(uH l).length+1):=by
  have e:vJ name l++u=(60::name)++(uH l++62::u):=by unfold vJ;simp
  rw[e,ZN _ _ (fun b hb=>by
   rcases aU9.1 hb with rfl|hb
   .decide
   .exact⟨(IS (hs b hb)).1,(IS (hs b hb)).2.1⟩),aKC l _ hl]
  have:clo false (62::u)=some 0:=rfl;rw[this];simp only[Option.map_some,aUY];congr 1;omega
 have hnote:xH (vJ name l++u)=false:=by
  unfold xH;refine decide_eq_false fun e=> ?_;cases name with
  |nil=>exact hn rfl
  |cons b r=>
   have hb:=(IS (hs b aU2)).2.2.2.1;have h2:=aVc (fun x=>x[1]?) e;have h3:((vJ (b::r) l++u).take 4)[1]? =some b:=by
    rw[aWd,aUU pI];rfl
   have h4:M4[1]? =some 33:=rfl;rw[h3,h4] at h2;exact hb (aUZ h2)
 rw[ZK hnote rfl hc];congr 1;have hlen:(vJ name l).length=name.length+(uH l).length+1+1:=by
  unfold vJ;simp only[aUY,aUW,aU7];omega
 rw[<-hlen,aVS]
theorem aRG (l:List (pF×pF×pF)):uH l=[]\/∃q,uH l=q++[34]:=by
 rcases List.eq_nil_or_concat l with rfl|⟨l',a,rfl⟩
 .exact .inl rfl
 .right;refine⟨uH l'++((([32]++a.1)++[61,34])++a.2.1),?_⟩;unfold uH;simp
theorem aKD {q:pF}{z:UInt8}:(q++[z]).drop ((q++[z]).length-1)=[z]:=by
 rw[aUW,aWo,Nat.add_sub_cancel,aWk]
theorem N4 {name:pF}{l:List (pF×pF×pF)}(hn:name≠[]) (hs: ∀b∈name,BP b=true) (hl: ∀a∈l,FQ a) (hd:(l.map (·.1)).Nodup):vQ (2,vJ name l)=(1,name,zN l,false):=by
 have hi:((vJ name l).drop 1).take ((vJ name l).length-2)=name++uH l:=by
  unfold vJ;rw[List.drop_one,List.tail_cons,<-aU0];simp only[aUY,aUW,aU7];rw[show name.length+(uH l).length+(0+1)+1-2=(name++uH l).length by rw[aUW];omega,aVS]
 have hlen:(vJ name l).length-3=(name++uH l).length-1:=by
  unfold vJ;simp only[aUY,aUW,aU7];omega
 have h47:(name++uH l).take 1≠[47]:=by
  cases name with
  |nil=>exact absurd rfl hn
  |cons b r=>
   intro e;rw[List.cons_append,List.take_succ_cons] at e;injection e with e1 _
   exact(IS (hs b aU2)).2.2.1 e1
 have hlast:(name++uH l).drop ((name++uH l).length-1)≠[47]:=by
  rcases aRG l with h|⟨q,h⟩
  .rw[h,List.append_nil];rcases List.eq_nil_or_concat name with e|⟨q,z,e⟩
   .exact absurd e hn
   .rw[List.concat_eq_append] at e;rw[e,aKD];intro e2;injection e2 with e3 _
    exact(IS (hs z (by rw[e];simp))).2.2.1 e3
  .rw[h,<-aU0,aKD];decide
 have hw:tK (name++uH l)=name.length:=by
  refine aBb hs ?_;cases l with
  |nil=>exact .inl rfl
  |cons a l=>exact .inr ⟨32,_,by rw[ZO];rfl,pJ⟩
 have hp:=aVp.2 hn;have hr:CE (vJ name l)=some (1,name,zN l,false):=by
  unfold CE;rw[hi,hlen,aUX h47,aUX hlast];dsimp only;rw[hw,aUX pI,aWk,aVS,aKz l [] _ hl ?_ hd (fun a _ f hf=>by cases hf)]
  .rfl
  .have:l.length<=(uH l).length:=by
    clear hi hlen h47 hlast hw hd
    induction l with
    |nil=>simp
    |cons a l ih=>
     have:=ih (fun b hb=>hl b (aU3 _ hb));rw[ZO];simp only[aUY,aUW];omega
   rw[aUW];omega
 show (if (2:Int)=2 then(CE (vJ name l)).getD eN else eN)=_;rw[aUU rfl,hr];rfl
theorem aKE {name:pF}(hs: ∀b∈name,BP b=true):QC (2,wF name):=by
 refine⟨rfl,rfl,fun u=> ?_⟩;dsimp only;have hc:clo false (wF name++u)=some (name.length+2):=by
  have e:wF name++u=(60::47::name)++(62::u):=by unfold wF;simp
  rw[e,ZN _ _ (fun b hb=>by
   rcases aU9.1 hb with rfl|hb
   .decide
   .rcases aU9.1 hb with rfl|hb
    .decide
    .exact⟨(IS (hs b hb)).1,(IS (hs b hb)).2.1⟩)]
  have:clo false (62::u)=some 0:=rfl;rw[this];simp only[Option.map_some,aUY];congr 1;omega
 have hnote:xH (wF name++u)=false:=by
  unfold xH;refine decide_eq_false fun e=> ?_;have h2:=aVc (fun x=>x[1]?) e;have h3:((wF name++u).take 4)[1]? =some 47:=by
   rw[aWd,aUU pI];rfl
  have h4:M4[1]? =some 33:=rfl;rw[h3,h4] at h2;cases h2
 rw[ZK hnote rfl hc];congr 1;have hlen:(wF name).length=name.length+2+1:=by
  unfold wF;simp only[aUY,aUW,aU7]
 rw[<-hlen,aVS]
theorem aKF {name:pF}(hn:name≠[]) (hs: ∀b∈name,BP b=true):(vQ (2,wF name)).1=3/\(vQ (2,wF name)).2.1=name:=by
 have hi:((wF name).drop 1).take ((wF name).length-2)=47::name:=by
  unfold wF;rw[List.drop_one,List.tail_cons];simp only[aUY,aUW,aU7];rw[show name.length+(0+1)+1+1-2=(47::name).length by rw[aUY];omega,<-List.cons_append,aVS]
 have hw:tK name=name.length:=by
  have:=aBb (u:=[]) hs (.inl rfl);rwa [List.append_nil] at this
 have hp:=aVp.2 hn;have hr:CE (wF name)=some (3,name,[],false):=by
  unfold CE;rw[hi,aUU pX,List.drop_one,List.tail_cons,hw,aVR,List.take_length,aUX (by simp [KK,hn])]
 have he:vQ (2,wF name)=(3,name,[],false):=by
  show (if (2:Int)=2 then(CE (wF name)).getD eN else eN)=_;rw[aUU rfl,hr];rfl
 rw[he];exact⟨rfl,rfl⟩
end
noncomputable section
theorem aRH:((List.range 256).all fun b=>decide (uV b≠[])&&((uV b).all fun c=>decide (c≠60)&&decide (c≠34)))=true:=by kernel_rfl
theorem aKG (b:UInt8):uV b.toNat≠[]/\∀c∈uV b.toNat,c≠60/\c≠34:=by
 have h:=aVC.1 aRH b.toNat (aWe.2 (UInt8.toNat_lt b));simp only[aU6,aU8,aVC] at h;exact h
theorem aRI {s:pF}(h:s≠[]):v6 s≠[]:=by
 cases s with
 |nil=>exact absurd rfl h
 |cons b s=>
  unfold v6;rw[aVM];simp [(aKG b).1]
theorem aBe {s:pF}: ∀c∈v6 s,c≠60/\c≠34:=by
 intro c hc;unfold v6 at hc;obtain⟨b,_,hb⟩:=List.mem_flatMap.1 hc;exact(aKG b).2 c hb
def KR (s:pF):List TE:=if s=[] then[] else[(3,v6 s)]
def vK (ind name:pF) (l:List (pF×pF×pF)) (s:pF):List TE:=(3,10::ind)::(2,vJ name l)::(KR s++[(2,wF name)])
theorem QD (ind name:pF) (l:List (pF×pF×pF)) (s:pF):sV (vK ind name l s)=E9 ind name (uH l) s:=by
 unfold vK E9 KR vJ wF sV;by_cases h:s=[]
 .subst h;simp [v6]
 .simp [h]
structure B6 (name:pF):Prop where
 ne:name≠[]
 sm: ∀b∈name,BP b=true
theorem UO:B6 yQ:=⟨pJ,pJ⟩
theorem UP:B6 yD:=⟨pJ,pJ⟩
theorem ZQ:B6 wY:=⟨pJ,pJ⟩
theorem ZR:B6 zD:=⟨pJ,pJ⟩
theorem N5:B6 zY:=⟨pJ,pJ⟩
theorem ZS:B6 yE:=⟨pJ,pJ⟩
theorem ZT:B6 zE:=⟨pJ,pJ⟩
theorem QE (ind name:pF) (l:List (pF×pF×pF)) (s:pF):tJ (vK ind name l s):=by
 unfold vK;exact(tJ.app (P:=KR s) (tJ.one (t:=(2,wF name)) rfl)).cons.cons
theorem QF {ind name:pF}{l:List (pF×pF×pF)}{s:pF}(hi: ∀b∈ind,b≠60) (hn:B6 name) (hl: ∀a∈l,FQ a):w5 (vK ind name l s):=by
 have hc:=aKE hn.sm;unfold vK;refine UN pK (fun b hb=> ?_) (ZP hn.ne hn.sm hl) ?_
 .rcases aU9.1 hb with rfl|hb
  .decide
  .exact hi b hb
 .unfold KR;by_cases h:s=[]
  .rw[aUU h];exact aBc hc trivial
  .rw[aUX h];exact UN (aRI h) (fun b hb=>(aBe b hb).1) hc trivial
theorem aRJ {ind:pF}(h: ∀b∈ind,blk b=true):vO (3,10::ind)=true:=by
 unfold vO KK;have:(List.all (10::ind) blk)=true:=aVC.2 fun b hb=>by
  rcases aU9.1 hb with rfl|hb
  .decide
  .exact h b hb
 rw[this];rfl
theorem UQ {t:TE}{R:List TE}(h:t.1=2):rD (t::R)=t::R:=by
 unfold rD;rw[List.dropWhile_cons];have:vO t=false:=by unfold vO;rw[h];rfl
 rw[this];rfl
theorem ZU {t:TE}{R:List TE}(h:vO t=true):rD (t::R)=rD R:=by
 unfold rD;rw[List.dropWhile_cons,h];rfl
theorem KS {ind name:pF}{l:List (pF×pF×pF)}{s:pF}(hi: ∀b∈ind,blk b=true) (R:List TE):rD (vK ind name l s++R)=(2,vJ name l)::(KR s++((2,wF name)::R)):=by
 have e:vK ind name l s++R=(3,10::ind)::(2,vJ name l)::(KR s++((2,wF name)::R)):=by unfold vK;simp
 rw[e,ZU (aRJ hi),UQ rfl]
theorem ZV {x:xY}{name:pF}{l:List (pF×pF×pF)}{s:pF}(hn:B6 name) (hx:x.1≠2) (hx2:x.2.1=name) (hs:t7 s=true) (R:List TE):yC x ((2,vJ name l)::(KR s++((2,wF name)::R)))=some (s,R):=by
 have hc:=aKF hn.ne hn.sm;have hnd:uX x.2.1 ((2,wF name)::R)=some R:=by rw[ZG,aUU ⟨hc.1,hc.2.trans hx2.symm⟩]
 unfold KR;by_cases h:s=[]
 .rw[aUU h];subst h;show yC x ((2,vJ name l)::(2,wF name)::R)=_;rw[UL x _ _ _ hx,aUX pK,hnd];rfl
 .rw[aUX h];show yC x ((2,vJ name l)::(3,v6 s)::(2,wF name)::R)=_;rw[UL x _ _ _ hx,aUU rfl];dsimp only;rw[aAy hs];dsimp only;rw[hnd];rfl
theorem aRK {s:pF}(h:v6 s=s) (ht:t7 s=true):xX s=some s:=by
 have:=aAy ht;rwa [h] at this
theorem ZW {n s:pF}(hn:B6 n) (h:v6 s=s) (ht:t7 s=true):FQ (n,s,s):=⟨hn.ne,hn.sm,fun b hb=>by rw[<-h] at hb;exact(aBe b hb).2,aRK h ht⟩
theorem aRL {n s:pF}(hn:B6 n) (ht:t7 s=true):FQ (n,v6 s,s):=⟨hn.ne,hn.sm,fun b hb=>(aBe b hb).2,aAy ht⟩
theorem nmN:B6 vI:=⟨pJ,pJ⟩
theorem nmI:B6 uJ:=⟨pJ,pJ⟩
theorem aRO:B6 xG:=⟨pJ,pJ⟩
theorem aRP:B6 uP:=⟨pJ,pJ⟩
theorem aRQ:B6 wN:=⟨pJ,pJ⟩
def EC (f:sB):List (pF×pF×pF):=[(vI,f.1,f.1)]
theorem aBf {f:sB}(h:uT f.1=true): ∀a∈EC f,FQ a:=by
 intro a ha;rw[aVb.1 ha];exact ZW nmN (aQY h) (aAr h)
theorem aKH {ind s:pF}(hi: ∀b∈ind,blk b=true) (R:List TE):rR (rD (vK ind yQ [] s++R))=(1,yQ,[],false):=by
 rw[KS hi];exact N4 UO.ne UO.sm (fun a ha=>by cases ha) .nil
theorem aKI {ind:pF}{f:sB}(h:uT f.1=true) (hi: ∀b∈ind,blk b=true) (R:List TE):rR (rD (vK ind yD (EC f) f.2.1++R))=(1,yD,[(vI,(f.1,()))],false):=by
 rw[KS hi];exact N4 UP.ne UP.sm (aBf h) (by simp [EC])
theorem aKJ {ind s:pF}{cs:pG}(hi: ∀b∈ind,blk b=true) (hs:t7 s=true) (hc:cs.length≠20) (R:List TE):AG (1,yQ,[],false) cs (rD (vK ind yQ [] s++R))=some (cs++[s],R):=by
 unfold AG;rw[aUU ⟨rfl,rfl,hc⟩,KS hi,ZV UO pK rfl hs];rfl
theorem aRR {l:List sB}{n v:pF}(h: ∀y∈l,y.1<n):GN l n v=l++[(n,(v,()))]:=by
 have h1:BO l n=none:=by
  unfold BO;rw[aWf];intro y hy;have:=h y hy;simp only[aVE];intro he;rw[he] at this;exact List.lt_irrefl _ this
 have hk:GM l n=l.length:=by
  unfold GM;rw[aWf.2 fun y hy=>by rw[IH];simp [h y hy]];rfl
 unfold GN;rw[h1,hk,List.take_length,aVR,List.append_nil];rfl
theorem aKK {ind:pF}{f:sB}{fs:List sB}(hi: ∀b∈ind,blk b=true) (hn:uT f.1=true) (hs:t7 f.2.1=true) (hlt: ∀y∈fs,y.1<f.1) (hc:fs.length≠20) (R:List TE):AH (1,yD,[(vI,(f.1,()))],false) fs (rD (vK ind yD (EC f) f.2.1++R))=some (fs++[f],R):=by
 have hg:sC [(vI,(f.1,()))] vI=f.1:=by
  unfold sC;rw[List.foldl_cons,List.foldl_nil,aUU rfl]
 have hall:xM [(vI,(f.1,()))] [vI] [vI]=true:=by
  unfold xM;simp
 have hany:(fs.any fun y=>decide (y.1=sC [(vI,(f.1,()))] vI))=false:=by
  rw[hg,aVB];intro y hy e;have:=hlt y hy;rw[aVw e] at this;exact List.lt_irrefl _ this
 unfold AH;rw[aUU ⟨hall,by simpa using hn,rfl,hany,hc⟩,KS hi,ZV UP pK rfl hs];show some (GN fs (sC [(vI,(f.1,()))] vI) f.2.1,R)=_;rw[hg,aRR hlt]
end
noncomputable section
abbrev FR (n:Int):pF:=qR .str ([[110,101,119],[102,117,122,122,121],[116,114,97,110,115,108,97,116,101,100],[114,101,118,105,101,119,101,100],[111,98,115,111,108,101,116,101]]:pG) n
def xN (x:tQ):List (pF×pF×pF):=
 (uJ,v6 x.1,x.1)::((if x.2.2.2.2.2.1=0 then[] else[(xG,FR x.2.2.2.2.2.1,FR x.2.2.2.2.2.1)])++(if x.2.2.2.2.1=[] then[] else[(uP,vX x.2.2.2.2.1 [32],vX x.2.2.2.2.1 [32])]))
theorem aBg {n:Int}(h0:0<=n) (h4:n<=4):v6 (FR n)=FR n/\t7 (FR n)=true/\AX (FR n)=n:=by
 have:n=0\/n=1\/n=2\/n=3\/n=4:=by omega
 rcases this with rfl|rfl|rfl|rfl|rfl<;>exact⟨pW,pW,pW⟩
theorem UR {x:pF}(h:uT x=true):x.length<=40/\∀b∈x,uV b.toNat=[b]/\b.toNat<128:=by
 cases x with
 |nil=>cases h
 |cons c t=>
  unfold uT at h;simp only[aU6,aVo,aVB,aVE] at h;refine⟨by rw[aUY];omega,fun b hb=> ?_⟩;rcases aU9.1 hb with rfl|hb
  .refine⟨(UH b).2.2 h.1.2,?_⟩;have:=h.1.2;unfold yO at this;simp only[aU6,aU8] at this;omega
  .have h2:yB b.toNat=false:=by simpa using h.2 b hb
   exact⟨(UH b).1 h2,aI6 h2⟩
theorem aKL {l:pG}(h: ∀x∈l,uT x=true) (hl:l.length<=20):v6 (vX l [32])=vX l [32]/\t7 (vX l [32])=true:=by
 have hb: ∀b∈vX l [32],uV b.toNat=[b]/\b.toNat<128:=by
  intro b hb;cases l with
  |nil=>simp [vX,Lib.join_nil] at hb
  |cons x r=>
   rw[ZF] at hb;rcases aVJ.1 hb with hb|hb
   .exact(UR (h x aU2)).2 b hb
   .obtain⟨y,hy,hb⟩:=List.mem_flatMap.1 hb;rcases aVJ.1 hb with hb|hb
    .rw[aVb.1 hb];exact⟨pW,pJ⟩
    .exact(UR (h y (aU3 _ hy))).2 b hb
 have hlen:(vX l [32]).length<=1000:=by
  cases l with
  |nil=>simp [vX,Lib.join_nil]
  |cons x r=>
   rw[ZF,aUW];have h2:=(UR (h x aU2)).1;have h3:=N0 (l:=r) (h:=fun y=>[32]++y) (B:=41) fun y hy=>by
    have:=(UR (h y (aU3 _ hy))).1;simp only[aUW,aUY,aU7];omega
   simp only[aUY] at hl;have h4:r.length*41<=20*41:=aWl _ pI;omega
 refine⟨aAN fun b hb2=>(hb b hb2).1,?_⟩;unfold t7;rw[aVk (show ((vX l [32]).length:Int)<=4000 by omega),aAq fun b hb2=>(hb b hb2).2];rfl
structure US (x:tQ):Prop where
 ne:x.1≠[]
 len:x.1.length<=200
 id:t7 x.1=true
 src:t7 x.2.1=true
 tgt:t7 x.2.2.1=true
 com:w9 x.2.2.2.1=true
 flg:E5 x.2.2.2.2.1=true
 r0:0<=x.2.2.2.2.2.1
 r4:x.2.2.2.2.2.1<=4
 fld:w4 x.2.2.2.2.2.2.1=true
theorem aBh {x:tQ}(h:xK x=true):US x:=by
 unfold xK at h;simp only[aU6,aU8,aVo,aVE] at h;obtain⟨⟨⟨⟨⟨⟨⟨⟨h1,h2⟩,h3⟩,h4⟩,h5⟩,h6⟩,h7⟩,h8,h9⟩,h10⟩:=h;exact⟨h1,pI,h3,h4,h5,h6,h7,h8,h9,h10⟩
theorem aKM {x:tQ}(h:US x): ∀a∈xN x,FQ a:=by
 obtain⟨f1,f2,f3⟩:=U8 h.flg;obtain⟨s1,s2,s3⟩:=aBg h.r0 h.r4;obtain⟨j1,j2⟩:=aKL f2 f1;intro a ha;unfold xN at ha;rcases aU9.1 ha with rfl|ha
 .exact aRL nmI h.id
 .rcases aVJ.1 ha with ha|ha
  .split at ha
   .cases ha
   .rw[aVb.1 ha];exact ZW aRO s1 s2
  .split at ha
   .cases ha
   .rw[aVb.1 ha];exact ZW aRP j1 j2
theorem aRS (x:tQ):((xN x).map (·.1)).Nodup:=by
 unfold xN;by_cases h1:x.2.2.2.2.2.1=0<;>by_cases h2:x.2.2.2.2.1=[]<;>simp [h1,h2]
theorem aRT (x:tQ):sC (zN (xN x)) uJ=x.1/\sC (zN (xN x)) xG=(if x.2.2.2.2.2.1=0 then[] else FR x.2.2.2.2.2.1)/\sC (zN (xN x)) uP=vX x.2.2.2.2.1 [32]:=by
 have hj:vX [] [32]=[]:=rfl;unfold xN zN sC;by_cases h1:x.2.2.2.2.2.1=0<;>by_cases h2:x.2.2.2.2.1=[]<;>simp [h1,h2,hj]
theorem aRU (x:tQ):xM (zN (xN x)) [uJ] [uJ,xG,uP]=true:=by
 unfold xM xN zN;by_cases h1:x.2.2.2.2.2.1=0<;>by_cases h2:x.2.2.2.2.1=[]<;>simp [h1,h2]
theorem aRV {x:tQ}(h:US x):(zN (xN x)).any B4=false:=by
 obtain⟨f1,f2,f3⟩:=U8 h.flg;obtain⟨s1,s2,s3⟩:=aBg h.r0 h.r4;rw[aVB];intro a ha;unfold zN at ha;obtain⟨b,hb,rfl⟩:=List.mem_map.1 ha;unfold xN at hb;rcases aU9.1 hb with rfl|hb
 .unfold B4;rw[aUU rfl];have:=h.len;simp [h.ne];omega
 .rcases aVJ.1 hb with hb|hb
  .split at hb
   .cases hb
   .rw[aVb.1 hb];unfold B4;rw[aUX (by dsimp only;decide),aUU rfl];dsimp only;rw[s3,aVk h.r0];decide
  .split at hb
   .cases hb
   .rw[aVb.1 hb];unfold B4;rw[aUX (by dsimp only;decide),aUX (by dsimp only;decide)];dsimp only;rw[aKx f2,aVC.2 f2];decide
def IT (x:tQ):List TE:=x.2.2.2.1.flatMap (fun s=>vK i4 yQ [] s)++(((if x.2.1=[] then[] else vK i4 wY [] x.2.1)++(if x.2.2.1=[] then[] else vK i4 zD [] x.2.2.1))++x.2.2.2.2.2.2.1.flatMap (fun f=>vK i4 yD (EC f) f.2.1))
def KT:List TE:=[(3,[10,32,32]),(2,wF zY)]
def DG (x:tQ):List TE:=(3,[10,32,32])::(2,vJ zY (xN x))::(IT x++KT)
theorem ZX {α:Type}(l:List α) (g:α->List TE):sV (l.flatMap g)=l.flatMap fun a=>sV (g a):=by
 unfold sV;rw[List.flatMap_assoc]
theorem QG (n r v:pF):uH [(n,r,v)]=((([32]++n)++[61,34])++r)++[34]:=by
 unfold uH;rw[aVM,List.flatMap_nil,List.append_nil]
theorem aRW (x:tQ):sV (DG x)=zZ x:=by
 have hin:sV (IT x)=(DF i4 x.2.2.2.1++(FN x++EB x))++GX i4 x.2.2.2.2.2.2.1:=by
  unfold IT;rw[KQ,KQ,KQ,ZX,ZX];have e1:(fun s=>sV (vK i4 yQ [] s))=GW i4:=by funext s;rw[QD];rfl
  have e2:(fun f:sB=>sV (vK i4 yD (EC f) f.2.1))=EA i4:=by
   funext f;rw[QD];unfold EC EA;rw[QG];unfold IP;rfl
  have e3:sV (if x.2.1=[] then[] else vK i4 wY [] x.2.1)=FN x:=by
   unfold FN;by_cases h:x.2.1=[]
   .rw[aUU h,aUU h];rfl
   .rw[aUX h,aUX h,QD];rfl
  have e4:sV (if x.2.2.1=[] then[] else vK i4 zD [] x.2.2.1)=EB x:=by
   unfold EB;by_cases h:x.2.2.1=[]
   .rw[aUU h,aUU h];rfl
   .rw[aUX h,aUX h,QD];rfl
  rw[e1,e2,e3,e4];unfold DF GX;simp only[aU0]
 have hatt:uH (xN x)=((([32,105,100,61,34]++v6 x.1)++[34])++IQ x.2.2.2.2.2.1)++GY x.2.2.2.2.1:=by
  have e0:uH (xN x)=uH [(uJ,v6 x.1,x.1)]++(uH (if x.2.2.2.2.2.1=0 then[] else[(xG,FR x.2.2.2.2.2.1,FR x.2.2.2.2.2.1)])++uH (if x.2.2.2.2.1=[] then[] else[(uP,vX x.2.2.2.2.1 [32],vX x.2.2.2.2.1 [32])])):=by
   unfold xN uH;rw[aVM,List.flatMap_append];simp
  have e1:uH (if x.2.2.2.2.2.1=0 then[] else[(xG,FR x.2.2.2.2.2.1,FR x.2.2.2.2.2.1)])=IQ x.2.2.2.2.2.1:=by
   unfold IQ;by_cases h:x.2.2.2.2.2.1=0
   .rw[aUU h,aUU h];rfl
   .rw[aUX h,aUX h,QG];rfl
  have e2:uH (if x.2.2.2.2.1=[] then[] else[(uP,vX x.2.2.2.2.1 [32],vX x.2.2.2.2.1 [32])])=GY x.2.2.2.2.1:=by
   unfold GY;by_cases h:x.2.2.2.2.1=[]
   .rw[aUU h,aUU h];rfl
   .rw[aUX h,aUX h,QG];rfl
  rw[e0,e1,e2,QG];simp only[aU0];rfl
 unfold DG;rw[QB,QB,KQ,hin];unfold vJ zZ KP;rw[hatt];simp only[aU0,List.cons_append,List.nil_append];rfl
end
noncomputable section
theorem KU: ∀b∈i4,blk b=true:=by decide
theorem ZY: ∀b∈i2,blk b=true:=by decide
theorem ZZ: ∀b∈i4,b≠60:=by decide
theorem aKN: ∀b∈i2,b≠60:=by decide
theorem UT {α:Type}{g:α->List TE}{Q:List TE}(hQ:w5 Q): ∀{l:List α},(∀a∈l,w5 (g a)/\tJ (g a))->w5 (l.flatMap g++Q)
 |[],_=>hQ
 |a::l,h=>by
  rw[aVM,aU0];exact aBd (h a aU2).1 (h a aU2).2 (UT hQ fun b hb=>h b (aU3 _ hb))
theorem aKO {P Q:List TE}{p:Prop}[Decidable p] (h1:w5 P) (h2:tJ P) (hQ:w5 Q):w5 ((if p then[] else P)++Q):=by
 by_cases h:p
 .rw[aUU h];exact hQ
 .rw[aUX h];exact aBd h1 h2 hQ
theorem aRX:w5 KT:=UN pK pJ (aKE N5.sm) trivial
theorem aRY {x:tQ}(h:US x):w5 (DG x):=by
 obtain⟨g1,g2,g3⟩:=GP h.fld;unfold DG;refine UN pK pJ (ZP N5.ne N5.sm (aKM h)) ?_;unfold IT;simp only[aU0];refine UT ?_ fun s _=>⟨QF ZZ UO (fun a ha=>by cases ha),QE _ _ _ _⟩;refine aKO (QF ZZ ZQ (fun a ha=>by cases ha)) (QE _ _ _ _) ?_;refine aKO (QF ZZ ZR (fun a ha=>by cases ha)) (QE _ _ _ _) ?_;exact UT aRX fun f hf=>⟨QF ZZ UP (aBf (g2 f hf).1),QE _ _ _ _⟩
theorem aRZ (x:tQ):tJ (DG x):=by
 unfold DG;refine(tJ.app ?_).cons.cons;exact⟨[(3,[10,32,32])],(2,wF zY),rfl,rfl⟩
theorem aKP: ∀(l:pG) (st:FJ) (n:Nat) (R:List TE),(∀s∈l,t7 s=true)->st.2.2.1.length+l.length<=20->
  uB (n+l.length) st (l.flatMap (fun s=>vK i4 yQ [] s)++R)=uB n (st.1,st.2.1,st.2.2.1++l,st.2.2.2.1,st.2.2.2.2.1,st.2.2.2.2.2) R
 |[],st,n,R,_,_=>by
  simp only[List.flatMap_nil,List.nil_append,List.append_nil,aU7,aVU]
 |s::l,st,n,R,h,hl=>by
  simp only[aUY] at hl;have ih:=aKP l (st.1,st.2.1,st.2.2.1++[s],st.2.2.2.1,st.2.2.2.2.1,st.2.2.2.2.2) n R (fun y hy=>h y (aU3 _ hy)) (by simp only[aUW,aUY,aU7];omega);rw[aVM,aU0,aUY,<-aVF,uB,aKH KU,aUX pK,aUU rfl,aKJ KU (h s aU2) pI];dsimp only;rw[ih];simp only[aU0,List.cons_append,List.nil_append]
theorem aKQ: ∀(l:List sB) (st:FJ) (n:Nat) (R:List TE),(∀f∈l,uT f.1=true/\t7 f.2.1=true)->(st.2.2.2.1++l).Pairwise (fun a b=>a.1<b.1)->st.2.2.2.1.length+l.length<=20->
  uB (n+l.length) st (l.flatMap (fun f=>vK i4 yD (EC f) f.2.1)++R)=uB n (st.1,st.2.1,st.2.2.1,st.2.2.2.1++l,st.2.2.2.2.1,st.2.2.2.2.2) R
 |[],st,n,R,_,_,_=>by
  simp only[List.flatMap_nil,List.nil_append,List.append_nil,aU7,aVU]
 |f::l,st,n,R,h,hp,hl=>by
  simp only[aUY] at hl;have hf:=h f aU2;have hlt: ∀y∈st.2.2.2.1,y.1<f.1:=fun y hy=>(aWM.1 hp).2.2 y hy f aU2;have ih:=aKQ l (st.1,st.2.1,st.2.2.1,st.2.2.2.1++[f],st.2.2.2.2.1,st.2.2.2.2.2) n R (fun y hy=>h y (aU3 _ hy)) (by simpa using hp) (by simp only[aUW,aUY,aU7];omega);rw[aVM,aU0,aUY,<-aVF,uB,aKI hf.1 KU,aUX pK,aUX pK,aUU rfl,aKK KU hf.1 hf.2 hlt pI];dsimp only;rw[ih];simp only[aU0,List.cons_append,List.nil_append]
theorem aR0 (st:FJ) (n:Nat) (R:List TE):uB (n+1) st (KT++R)=some (st,R):=by
 have hc:=aKF N5.ne N5.sm;have hs:rD (KT++R)=(2,wF zY)::R:=by
  show rD ((3,[10,32,32])::(2,wF zY)::R)=_;rw[ZU pJ,UQ rfl]
 rw[uB,hs,aUU (.inl hc.1),ZG,aUU hc];rfl
theorem aR1 {x:tQ}(h:US x): ∃K b1 b2,∀R,uB K B5 ((IT x++KT)++R)=some ((x.2.1,x.2.2.1,x.2.2.2.1,x.2.2.2.2.2.2.1,b1,b2),R):=by
 obtain⟨c1,c2⟩:=KJ h.com;obtain⟨g1,g2,g3⟩:=GP h.fld;obtain⟨b1,e2⟩: ∃b,∀n R,uB (n+1) ([],[],[]++x.2.2.2.1,[],false,false) ((if x.2.1=[] then[] else vK i4 wY [] x.2.1)++R)=uB (n+(if x.2.1=[] then 1 else 0)) (x.2.1,[],[]++x.2.2.2.1,[],b,false) R:=by
  by_cases hh:x.2.1=[]
  .refine⟨false,fun n R=> ?_⟩;rw[aUU hh,aUU hh,hh];rfl
  .refine⟨true,fun n R=> ?_⟩;have hp:rR (rD (vK i4 wY [] x.2.1++R))=(1,wY,[],false):=by
    rw[KS KU];exact N4 ZQ.ne ZQ.sm (fun a ha=>by cases ha) .nil
   rw[aUX hh,aUX hh,uB,hp,aUX pK,aUX pJ,aUX pJ,aUU rfl,aUU ⟨rfl,rfl,rfl⟩,KS KU,ZV ZQ pK rfl h.src];rfl
 obtain⟨b2,e3⟩: ∃b,∀n R,uB (n+1) (x.2.1,[],[]++x.2.2.2.1,[],b1,false) ((if x.2.2.1=[] then[] else vK i4 zD [] x.2.2.1)++R)=uB (n+(if x.2.2.1=[] then 1 else 0)) (x.2.1,x.2.2.1,[]++x.2.2.2.1,[],b1,b) R:=by
  by_cases hh:x.2.2.1=[]
  .refine⟨false,fun n R=> ?_⟩;rw[aUU hh,aUU hh,hh];rfl
  .refine⟨true,fun n R=> ?_⟩;have hp:rR (rD (vK i4 zD [] x.2.2.1++R))=(1,zD,[],false):=by
    rw[KS KU];exact N4 ZR.ne ZR.sm (fun a ha=>by cases ha) .nil
   rw[aUX hh,aUX hh,uB,hp,aUX pK,aUX pJ,aUX pJ,aUX pJ,aUU rfl,aUU ⟨rfl,rfl,rfl⟩,KS KU,ZV ZR pK rfl h.tgt];rfl
 refine⟨((((1+x.2.2.2.2.2.2.1.length)+(if x.2.2.1=[] then 0 else 1))+(if x.2.1=[] then 0 else 1))+x.2.2.2.1.length),b1,b2,fun R=> ?_⟩;have s2: ∀n R,uB (n+(if x.2.1=[] then 0 else 1)) ([],[],[]++x.2.2.2.1,[],false,false) ((if x.2.1=[] then[] else vK i4 wY [] x.2.1)++R)=uB n (x.2.1,[],[]++x.2.2.2.1,[],b1,false) R:=by
  intro n R;by_cases hh:x.2.1=[]
  .have:=e2 0 [];rw[aUU hh,aUU hh,List.nil_append,aVU];cases n with
   |zero=>rfl
   |succ n=>have:=e2 n R;rwa [aUU hh,aUU hh,List.nil_append] at this
  .have:=e2 n R;rw[aUX hh,aUX hh,aVU] at this;rw[aUX hh,aUX hh];exact this
 have s3: ∀n R,uB (n+(if x.2.2.1=[] then 0 else 1)) (x.2.1,[],[]++x.2.2.2.1,[],b1,false) ((if x.2.2.1=[] then[] else vK i4 zD [] x.2.2.1)++R)=uB n (x.2.1,x.2.2.1,[]++x.2.2.2.1,[],b1,b2) R:=by
  intro n R;by_cases hh:x.2.2.1=[]
  .rw[aUU hh,aUU hh,List.nil_append,aVU];cases n with
   |zero=>rfl
   |succ n=>have:=e3 n R;rwa [aUU hh,aUU hh,List.nil_append] at this
  .have:=e3 n R;rw[aUX hh,aUX hh,aVU] at this;rw[aUX hh,aUX hh];exact this
 unfold IT;simp only[aU0];rw[aKP x.2.2.2.1 B5 _ _ c2 (by show 0+_<=20;omega)];show uB _ ([],[],[]++x.2.2.2.1,[],false,false) _=_;rw[s2,s3,aKQ x.2.2.2.2.2.2.1 _ 1 _ (fun f hf=>⟨(g2 f hf).1,(g2 f hf).2.2⟩) (by simpa using g3) (by show 0+_<=20;omega)];rw[show (1:Nat)=0+1 from rfl,aR0];rfl
end
noncomputable section
theorem aR2 {x:tQ}(hx:xK x=true):aAZ (DG x) x:=by
 have h:=aBh hx;obtain⟨f1,f2,f3⟩:=U8 h.flg;obtain⟨s1,s2,s3⟩:=aBg h.r0 h.r4;obtain⟨K,b1,b2,hrun⟩:=aR1 h;refine⟨aRZ x,hx,fun es R hf hl=> ?_⟩;have hsk:rD (DG x++R)=(2,vJ zY (xN x))::((IT x++KT)++R):=by
  show rD ((3,[10,32,32])::(2,vJ zY (xN x))::((IT x++KT)++R))=_;rw[ZU pJ,UQ rfl]
 have hpk:rR (rD (DG x++R))=(1,zY,zN (xN x),false):=by
  rw[hsk];exact N4 N5.ne N5.sm (aKM h) (aRS x)
 rw[hpk];refine⟨by simp,?_⟩;obtain⟨g1,g2,g3⟩:=aRT x;obtain⟨P,p1,_,p3,_⟩:=aAV K B5 _ _ R (hrun R) aAX;have hP:P=IT x++KT:=(List.append_cancel_right p1).symm;subst hP;have hst:max 0 (AX (sC (zN (xN x)) xG))=x.2.2.2.2.2.1:=by
  rw[g2];by_cases h0:x.2.2.2.2.2.1=0
  .rw[aUU h0,h0];decide
  .rw[aUX h0,s3];have:=h.r0;omega
 have hfl:u6 (sC (zN (xN x)) uP)=x.2.2.2.2.1:=by rw[g3];exact aKx f2
 have hin:uB (rD (DG x++R)).length B5 ((rD (DG x++R)).drop 1)=some ((x.2.1,x.2.2.1,x.2.2.2.1,x.2.2.2.2.2.2.1,b1,b2),R):=by
  rw[hsk];exact p3 R _ (by simp only[aUY,aUW];omega)
 unfold yR;rw[aUU ⟨.inl rfl,rfl,aRU x,aRV h,rfl,by dsimp only;rw[g1];exact hf,by dsimp only;rw[hfl];exact aRD f3,by dsimp only;rw[hfl];exact f1,hl⟩,aUU rfl,hin];show some ((sC (zN (xN x)) uJ,(x.2.1,(x.2.2.1,(x.2.2.2.1,(sO (u6 (sC (zN (xN x)) uP)),(max 0 (AX (sC (zN (xN x)) xG)),(x.2.2.2.2.2.2.1,()))))))),R)=some (x,R);rw[g1,hfl,aKy f3,hst]
def KV:List TE:=[(3,[10]),(2,vJ yE [])]
def QH (c:C4):List (pF×pF×pF):=[(wN,c.1,c.1)]
def KW (c:C4):List TE:=c.2.1.flatMap (fun s=>vK i2 yQ [] s)++c.2.2.1.flatMap (fun f=>vK i2 yD (EC f) f.2.1)
def IU (c:C4):List TE:=(2,vJ zE (QH c))::(KW c++KV)
theorem aKR {s:pF}(h:xJ s=true):t7 s=true:=by
 unfold xJ at h;simp only[aU6,aVo,aVB,aU8] at h;unfold t7;rw[aVk (show (s.length:Int)<=4000 by omega),aAq fun b hb=> ?_]
 .rfl
 .have:=h.1 b hb;unfold MW at this;simp at this;have:=UInt8.toNat_lt b;omega
theorem aKS {c:C4}(h:xJ c.1=true): ∀a∈QH c,FQ a:=by
 intro a ha;rw[aVb.1 ha];exact ZW aRQ (aQX h) (aKR h)
theorem aKT (c:C4):sV (IU c)=IR c:=by
 have e1:(fun s=>sV (vK i2 yQ [] s))=GW i2:=by funext s;rw[QD];rfl
 have e2:(fun f:sB=>sV (vK i2 yD (EC f) f.2.1))=EA i2:=by
  funext f;rw[QD];unfold EC EA;rw[QG];unfold IP;rfl
 unfold IU KW;rw[QB,KQ,KQ,ZX,ZX,e1,e2];unfold vJ QH IR DF GX;rw[QG];simp only[aU0,List.cons_append,List.nil_append];rfl
theorem aR3 {c:C4}(h1:xJ c.1=true) (h3:w4 c.2.2.1=true):w5 (IU c):=by
 obtain⟨g1,g2,g3⟩:=GP h3;unfold IU KW;refine aBc (ZP ZT.ne ZT.sm (aKS h1)) ?_;simp only[aU0];refine UT ?_ fun s _=>⟨QF aKN UO (fun a ha=>by cases ha),QE _ _ _ _⟩;refine UT ?_ fun f hf=>⟨QF aKN UP (aBf (g2 f hf).1),QE _ _ _ _⟩;exact UN pK pJ (ZP ZS.ne ZS.sm (fun a ha=>by cases ha)) trivial
theorem aKU: ∀(l:pG) (st:GU) (n:Nat) (R:List TE),(∀s∈l,t7 s=true)->st.1.length+l.length<=20->
  wO (n+l.length) st (l.flatMap (fun s=>vK i2 yQ [] s)++R)=wO n (st.1++l,st.2) R
 |[],st,n,R,_,_=>by
  simp only[List.flatMap_nil,List.nil_append,List.append_nil,aU7,aVU]
 |s::l,st,n,R,h,hl=>by
  simp only[aUY] at hl;have ih:=aKU l (st.1++[s],st.2) n R (fun y hy=>h y (aU3 _ hy)) (by simp only[aUW,aUY,aU7];omega);rw[aVM,aU0,aUY,<-aVF,wO,aKH ZY,aUU ⟨rfl,by simp⟩,aKJ ZY (h s aU2) pI];dsimp only;rw[ih];simp only[aU0,List.cons_append,List.nil_append]
theorem aKV: ∀(l:List sB) (st:GU) (n:Nat) (R:List TE),(∀f∈l,uT f.1=true/\t7 f.2.1=true)->(st.2++l).Pairwise (fun a b=>a.1<b.1)->st.2.length+l.length<=20->
  wO (n+l.length) st (l.flatMap (fun f=>vK i2 yD (EC f) f.2.1)++R)=wO n (st.1,st.2++l) R
 |[],st,n,R,_,_,_=>by
  simp only[List.flatMap_nil,List.nil_append,List.append_nil,aU7,aVU]
 |f::l,st,n,R,h,hp,hl=>by
  simp only[aUY] at hl;have hf:=h f aU2;have hlt: ∀y∈st.2,y.1<f.1:=fun y hy=>(aWM.1 hp).2.2 y hy f aU2;have ih:=aKV l (st.1,st.2++[f]) n R (fun y hy=>h y (aU3 _ hy)) (by simpa using hp) (by simp only[aUW,aUY,aU7];omega);rw[aVM,aU0,aUY,<-aVF,wO,aKI hf.1 ZY,aUX (by rintro⟨e,_⟩;exact absurd (show yD=yQ from e) pJ),aUU ⟨rfl,by simp⟩,aKK ZY hf.1 hf.2 hlt pI];dsimp only;rw[ih];simp only[aU0,List.cons_append,List.nil_append]
theorem aR4 (st:GU) (n:Nat) (R:List TE):wO (n+1) st (KV++R)=some (st,R):=by
 have hs:rD (KV++R)=(2,vJ yE [])::R:=by
  show rD ((3,[10])::(2,vJ yE [])::R)=_;rw[ZU pJ,UQ rfl]
 have hp:rR (rD (KV++R))=(1,yE,[],false):=by
  rw[hs];exact N4 ZS.ne ZS.sm (fun a ha=>by cases ha) .nil
 rw[wO,hp,aUX (by rintro⟨e,_⟩;exact absurd e pJ),aUX (by rintro⟨e,_⟩;exact absurd e pJ),aUU ⟨rfl,rfl,rfl,rfl⟩,hs];rfl
theorem aR5 {c:C4}(h1:xJ c.1=true) (h2:w9 c.2.1=true) (h3:w4 c.2.2.1=true):QA (IU c) c.1 (c.2.1,c.2.2.1):=by
 obtain⟨c1,c2⟩:=KJ h2;obtain⟨g1,g2,g3⟩:=GP h3;have hlst:tJ (IU c):=by
  unfold IU;exact(tJ.app ⟨[(3,[10])],(2,vJ yE []),rfl,rfl⟩).cons
 refine⟨hlst,h1,h2,h3,fun R=> ?_⟩;have hsk:rD (IU c++R)=(2,vJ zE (QH c))::((KW c++KV)++R):=by
  show rD ((2,vJ zE (QH c))::((KW c++KV)++R))=_;rw[UQ rfl]
 have hpk:rR (rD (IU c++R))=(1,zE,[(wN,(c.1,()))],false):=by
  rw[hsk];exact N4 ZT.ne ZT.sm (aKS h1) (by simp [QH])
 have hrun: ∀R,wO ((1+c.2.2.1.length)+c.2.1.length) ([],[]) ((KW c++KV)++R)=some ((c.2.1,c.2.2.1),R):=by
  intro R;unfold KW;simp only[aU0];rw[aKU c.2.1 ([],[]) _ _ c2 (by show 0+_<=20;omega),aKV c.2.2.1 _ 1 _ (fun f hf=>⟨(g2 f hf).1,(g2 f hf).2.2⟩) (by simpa using g3) (by show 0+_<=20;omega)];rw[show (1:Nat)=0+1 from rfl,aR4];rfl
 obtain⟨P,p1,_,p3,_⟩:=aAY _ ([],[]) _ _ R (hrun R) pW pW;have hP:P=KW c++KV:=(List.append_cancel_right p1).symm;subst hP;have hg:sC [(wN,(c.1,()))] wN=c.1:=by
  unfold sC;rw[List.foldl_cons,List.foldl_nil,aUU rfl]
 have hall:xM [(wN,(c.1,()))] [wN] [wN]=true:=by
  unfold xM;simp
 unfold FL;rw[hpk,aUU ⟨rfl,rfl,hall,by simpa using h1,rfl⟩,hsk,List.drop_one,List.tail_cons,p3 R _ (by simp only[aUY,aUW];omega)];show some (sC [(wN,(c.1,()))] wN,(c.2.1,c.2.2.1),R)=_;rw[hg]
theorem aR6:N3 (uK Q8):=⟨pW,pW⟩
theorem aR7 {c:C4}(h:zL c=true):B3 c.2.2.2.1:=by
 have ha:=U9 h;exact⟨ha.2.2.2.1,ha.2.2.2.2.1,ha.2.2.2.2.2⟩
end
noncomputable section
theorem a0a (ind name attrs s:pF):(E9 ind name attrs s).length≤ind.length+attrs.length+2*name.length+6*s.length+7:=by
  have:=PZ s;simp only[E9,aUW,aUY,aU7];omega
theorem aKW {ind:pF}(hi:ind.length≤4) {l:pG}(h:w9 l=true):(DF ind l).length≤500000:=by
  obtain⟨h1,h2⟩:=KJ h
  have:=N0 (l:=l) (h:=GW ind) (B:=25000) fun x hx=>by
    have h3:=a0a ind yQ [] x;have h4:=AE (h2 x hx);unfold GW;simp only[aUY,aU7] at h3;omega
  unfold DF;have h5:l.length*25000≤20*25000:=aWl _ h1;omega
theorem aKX {ind:pF}(hi:ind.length≤4) {l:List sB}(h:w4 l=true):(GX ind l).length≤500000:=by
  obtain⟨h1,h2,_⟩:=GP h
  have:=N0 (l:=l) (h:=EA ind) (B:=25000) fun x hx=>by
    have h3:=a0a ind yD (IP x.1) x.2.1;have h4:=AE (h2 x hx).2.2;have h5:=(UR (h2 x hx).1).1;unfold EA;have h6:(IP x.1).length=x.1.length+8:=by simp only[IP,aUW,aUY,aU7];omega
    simp only[aUY,aU7] at h3;omega
  unfold GX;have h5:l.length*25000≤20*25000:=aWl _ h1;omega
theorem aR8 {x:tQ}(hx:xK x=true):(zZ x).length≤1100000:=by
  have h:=aBh hx;obtain⟨f1,f2,f3⟩:=U8 h.flg;have c1:=aKW (ind:=i4) pK h.com;have c2:=aKX (ind:=i4) pK h.fld
  have c3:(FN x).length≤25000:=by
    unfold FN;split
    .simp
    · have h3:=a0a i4 wY [] x.2.1
      have h4:=AE h.src;simp only[aUY,aU7] at h3;omega
  have c4:(EB x).length≤25000:=by
    unfold EB;split
    .simp
    · have h3:=a0a i4 zD [] x.2.2.1
      have h4:=AE h.tgt;simp only[aUY,aU7] at h3;omega
  have c5:=aAT h.r0 h.r4;have c6:=PZ x.1;have c7:=h.len
  have c8:(GY x.2.2.2.2.1).length≤5000:=by
    have hj:=AE (aKL f2 f1).2;unfold GY;split
    .simp
    .simp only[aUW,aUY,aU7];omega
  simp only[zZ,KP,aUW,aUY,aU7];omega
theorem aR9 {c:C4}(h:zL c=true):(IR c).length≤1100000:=by
  have ha:=U9 h;have c1:=aKW (ind:=i2) pK ha.2.1;have c2:=aKX (ind:=i2) pK ha.2.2.1;have c3:=AE (aKR ha.1);simp only[IR,aUW,aUY,aU7];omega
end
noncomputable section
theorem aSa {es:List tQ}{x:tQ}{k:Nat}(h:es.Pairwise (fun a b=>a.1≠b.1)) (hx: ∀(j:Nat) (hj:j<es.length),j≠k->es[j].1≠x.1):(es.set k x).Pairwise (fun a b=>a.1≠b.1):=by
 rw[aVV] at h|-;intro i j hi hj hij;rw[List.length_set] at hi hj;rw[List.getElem_set,List.getElem_set];by_cases h1:k=i
 .rw[aUU h1,aUX pI];exact fun e=>hx j hj pI e.symm
 .rw[aUX h1];by_cases h2:k=j
  .rw[aUU h2];exact hx i hi pI
  .rw[aUX h2];exact h i j hi hj hij
theorem aSb {es:List tQ}{x:pF}{k:Nat}(hp:es.Pairwise (fun a b=>a.1≠b.1)) (h:(PX es x).2=true->(PX es x).1=(k:Int)): ∀(j:Nat) (hj:j<es.length),j≠k->es[j].1≠x:=by
 intro j hj hne he;unfold PX at h;cases hf:es.findIdx? fun y=>decide (y.1=x) with
 |none=>
  have:=aWf.1 hf es[j] (aVW hj);rw[he] at this;simp at this
 |some i=>
  rw[hf] at h;have hik:(i:Int)=(k:Int):=h rfl;obtain⟨hi,hie,_⟩:=aVL.1 hf;have hie':es[i].1=x:=by simpa using hie
  rw[aVV] at hp;rcases aV8 i j with h1|h1
  .exact hp i j hi hj h1 (by rw[hie',he])
  .exact hp j i hj hi pI (by rw[hie',he])
theorem aSc {es:List tQ}{x:tQ}{k:Nat}(h:B3 es) (hx:xK x=true) (hf: ∀(j:Nat) (hj:j<es.length),j≠k->es[j].1≠x.1):B3 (es.set k x):=
 ⟨by rw[List.length_set];exact h.len,fun y hy=>by
  rcases List.mem_or_eq_of_mem_set hy with h1|h1
  .exact h.ok y h1
  .rw[h1];exact hx,aSa h.pw hf⟩
theorem aSd {x:tQ}(hx:xK x=true):B3 [x]:=⟨by simp,fun y hy=>by rw[aVb.1 hy];exact hx,List.pairwise_singleton _ _⟩
theorem aSe {a:Int}(h0:0<=a) (h1:a<65536) {n:Nat}(hn:0<n): ∃k:Nat,k<n/\Int.tmod (IntKind.wrap .i64 a) (n:Int)=(k:Int):=by
 obtain⟨m,rfl⟩:=Int.eq_ofNat_of_zero_le h0;refine⟨m%n,Nat.mod_lt _ hn,?_⟩;have hw:IntKind.wrap .i64 (m:Int)=(m:Int):=by
  have e:(m:Int) %2^64=m:=Int.emod_eq_of_lt pI pI;have e2:IntKind.wrap .i64 (m:Int)=if (true&&decide ((m:Int) %2^64>=2^63))=true then(m:Int) %2^64-2^64 else(m:Int) %2^64:=rfl;rw[e2,e,aUX pL]
 rw[hw];exact(Int.ofNat_tmod m n).symm
theorem aSf {ts:pG}{x:pF}: ∀(k:Nat),(ts.set k x).flatten.length<=ts.flatten.length+x.length:=by
 induction ts with
 |nil=>intro k;simp
 |cons t ts ih=>
  intro k;cases k with
  |zero=>simp only[List.set_cons_zero,aVQ,aUW];omega
  |succ k=>
   have:=ih k;simp only[List.set_cons_succ,aVQ,aUW];omega
theorem IJ.fitP {x:tQ}(e:IJ x):Z0 x:=⟨GV e.id,GV e.src,GV e.tgt,UG e.com,UG e.flg,aAM e.fld⟩
theorem aKY {P:List TE}{x:s8}(hP:aAZ P x): ∀{Ps:List (List TE)}{ys:List s8}(k:Nat),BR Ps ys->BR (Ps.set k P) (ys.set k x)
 |_,_,_,.nil=> .nil
 |_,_,0,.cons _ h2=> .cons hP h2
 |_,_,k+1,.cons h1 h2=> .cons h1 (aKY hP k h2)
theorem aKZ {c:C4}{H:List TE}{Ps:List (List TE)}{tl:pF}(h1:QA H c.1 (c.2.1,c.2.2.1)) (h2:BR Ps c.2.2.2.1) (h3:B3 c.2.2.2.1) (h4:N3 (uK tl)) (h5:w5 H) (h6: ∀P∈Ps,w5 P) (hl:(sV H++((Ps.map sV).flatten++tl)).length<=900000000):
  yA (sV H++((Ps.map sV).flatten++tl))=some (c.1,c.2.1,c.2.2.1,c.2.2.2.1,0,0):=by
 obtain⟨_,hk⟩:=aRt h1 h2 h3 h4 h5 h6;rcases aRx hl with⟨c',H',Ps',tl',_,⟨ks',h1⟩,h2⟩ |⟨p,e,_,h1,_⟩
 .rw[hk] at h1;cases h1;exact h2
 .rw[hk] at h1;cases h1
theorem aSg (s:pF) {a:Int}(h0:0<=a) (h1:a<65536) {x:tQ}(hx:aAo x):MU s a x=some true:=by
 unfold MU;rw[aQ9,aUS,aUX pJ];obtain⟨b,hb,hbe,hbf⟩:=aQh x hx;rw[hb,hbe,aUU xW];by_cases hA:((decide ((4000:Int)<(List.length s:Int)))||(!b))=true
 .rw[hA,aUU (fun h=>absurd h pJ),aUU (by rw[Bool.true_or])]
 .rw[aV2] at hA;rw[hA];simp only[aVG,aVE,aV9] at hA;have hw:=hbf hA.2;obtain⟨hv,hve⟩:=aP9 x hw.fitP;rw[hv,hve,aUU xW,Bool.false_or];by_cases hok:xK x=true
  .rw[aUX (by rw[hok];decide)];have hs4:s.length<=4000:=by have:=hA.1;omega
   rcases aRy (s:=s) pI with⟨c,H,Ps,tl,hB,_,p2,p1⟩ |⟨p,e,he,_,g2,g1⟩
   .obtain⟨tag,cms,fds,es,⟨⟩⟩:=c;have p7:zL (tag,(cms,(fds,(es,()))))=true:=hB.ok;have hc:=U9 p7;dsimp only at p2 hc;have hE:B3 es:=aR7 p7;have hw2:=aJc p7;have hEn:BR Ps es:=hB.ents;have hlen:(Ps.map sV).length=es.length:=by rw[aVX];exact(aA0 hEn).2
    rw[p1,aUS,p2,aUS];dsimp only;rw[aUX pK,aJ5 hw2,aUU p7,aUS];have hok1:zL (([120]:pF),(([]:pG),(([]:List r7),(([x]:List s8),()))))=true:=Z7 pW pW pW (aSd hok);rw[aJ5 (aJc hok1),aUU hok1,aUS];dsimp only;rw[aUX (by simp [hlen])];have hsum:=aVc List.length hB.eq;simp only[aUW] at hsum;have hH:=aR9 p7;have hB1:(GO (IR (tag,(cms,(fds,(es,()))))) (Ps.map sV) Q8).length<=900000000:=by
     unfold GO;simp only[aUW,aUY,aU7];omega
    have hm1:=aKZ (c:=(tag,(cms,(fds,(es,()))))) (aR5 hc.1 hc.2.1 hc.2.2.1) hEn hE aR6 (aR3 hc.1 hc.2.2.1) hB.segP (by rw[aKT];exact hB1);rw[aKT] at hm1;rw[aI3 (IR (tag,(cms,(fds,(es,())))),(Ps.map sV,(Q8,()))) (by show (Ps.map sV).length<=_;have:=hE.len;omega) (by exact aVZ hB1 pJ),aUS];dsimp only;rw[show GO (IR (tag,(cms,(fds,(es,()))))) (Ps.map sV) Q8=IR (tag,(cms,(fds,(es,()))))++((Ps.map sV).flatten++Q8) from rfl,hm1,aUS];dsimp only;obtain⟨q1,q2⟩:=aJd p7;dsimp only at q2;rw[q1,aUU xW,q2,aUX pK];by_cases hz:(decide ((List.length (Ps.map sV):Int)=(0:Int)))=true
    .rw[aUU hz]
    .rw[aUX hz];have hz':0<(Ps.map sV).length:=by simp only[aU8] at hz;omega
     obtain⟨k,hk,hke⟩:=aSe h0 h1 hz';rw[aUU (show (List.length (Ps.map sV):Int)≠0 by omega),aQd _ _ (show es.length<=5000 by have:=hE.len;omega),aUS,hke];dsimp only;by_cases hf:((PX es x.1).2&&(!decide ((PX es x.1).1=(k:Int))))=true
     .rw[aUU hf]
     .rw[aUX hf];have hfe: ∀(j:Nat) (hj:j<es.length),j≠k->es[j].1≠x.1:=aSb hE.pw (fun h=>by
       rw[h] at hf;simpa using hf)
      have hE2:=aSc hE hok hfe;have hset:=aKY (aR2 hok) k hEn;have hfl:=aSf (ts:=Ps.map sV) (x:=zZ x) k;have hil:=aR8 hok;have hmap:(Ps.set k (DG x)).map sV=(Ps.map sV).set k (zZ x):=by rw[List.map_set,aRW]
      have hB2:(GO (sV H) ((Ps.map sV).set k (zZ x)) tl).length<=900000000:=by
       unfold GO;simp only[aUW];omega
      have hes:=hE.len;rw[List.nil_append,List.nil_append,aVD,aUU pI,aUU pK,aUU pI,aUU pI,aUU pI];have hn:qR .str (List.map zZ [x]) (0:Int)=zZ x:=rfl;have hseg2: ∀P∈Ps.set k (DG x),w5 P:=fun P hP=>by
       rcases List.mem_or_eq_of_mem_set hP with h2|h2
       .exact hB.segP P h2
       .rw[h2];exact aRY (aBh hok)
      have hm2:=aKZ (c:=(tag,(cms,(fds,(es.set k x,()))))) hB.hd hset hE2 hB.tail hB.segH hseg2 (by rw[hmap];exact hB2);rw[hmap] at hm2;rw[hn,aI3 (sV H,((Ps.map sV).set k (zZ x),(tl,()))) (by show ((Ps.map sV).set k (zZ x)).length<=_;rw[List.length_set];omega) (by exact aVZ hB2 pJ),aUS];dsimp only;rw[show GO (sV H) ((Ps.map sV).set k (zZ x)) tl=sV H++(((Ps.map sV).set k (zZ x)).flatten++tl) from rfl,hm2,aUS];dsimp only;have p8:zL (tag,(cms,(fds,(es.set k x,()))))=true:=Z7 hc.1 hc.2.1 hc.2.2.1 hE2;obtain⟨q3,q4⟩:=aJd p8;dsimp only at q4;rw[aUU pK,q3,aUU xW,q4];rfl
   .rw[g1,aUS,g2,aUS];dsimp only;rw[aUU (by simp [he])];simp
  .rw[aV2] at hok;rw[aUU (by rw[hok];decide)]
end
end Go.Proofs.YtkpflnijijccpaaGreatDoor
namespace Go.Proofs.YtkpflnijijccpaaGreatDoor
open Go.ChangeShapes Go.WideShapes Go.ChangeAt Go.RowKit
section
variable {H:Type}{enc:TypeId×pU->H}{P:Program}
theorem aSh (hl:laidOutB P=true) {W W':pT}(hb:Below W.heap.size W W'):
  ∀{ts:List TypeId}{vs:pP}{ds:List (DataW H)}{ps:List MemPlace},(∀t∈ts,P.readableRec t=true/\t<P.types.size)->
  DataW.TrodAll enc P W 0 (fun _=>true) true ts vs ds ps->(∀x∈ps,x.block<W.heap.size)->
  DataW.TrodAll enc P W' 0 (fun b=>decide (b<W.heap.size)) true ts vs ds ps:=by
 intro ts
 induction ts with
 |nil=>
  intro vs ds ps _ h _;obtain⟨rfl,rfl,rfl⟩:=trodAll_nil h;exact trodAll_mk0
 |cons t ts ih=>
  intro vs ds ps hr h hlt;obtain⟨v,vs',d,ds',p,q,rfl,rfl,rfl,h0,r0⟩:=trodAll_cons h;exact trodAll_cons_mk (Below.trod hl (hr t pK).1 (hr t pK).2 h0 hb (fun x hx=>hlt x (by simp [hx]))) (ih (fun t' ht'=>hr t' (by simp [ht'])) r0 (fun x hx=>hlt x (by simp [hx])))
theorem aSi {f:Func}{s:ChangeSpec}{W W':pT}{args:Array pU}{ds gs:List (DataW H)}{before:List MemPlace}{tb:TypeId}
  (hl:laidOutB P=true) (hr: ∀t∈f.params.toList,P.readableRec t=true/\t<P.types.size)
  (hW:DataW.Whole enc P f.params.toList s.vars false W args.toList ds gs before) (hv:s.vars=[])
  (hfn:s.fn H ds={results:=[.lit (.bool true)],args:=ds}) (hrt:f.resultTypes= #[tb]) (htb:P.underlying tb=some .bool)
  (hb:Below W.heap.size W W'):s.post enc P f false true false false W args (.bool true) W':=by
 have hW':=hW;obtain⟨p,q,hA,hV,rfl,hfz,hnd⟩:=hW;rw[hv] at hV;obtain⟨rfl,rfl⟩:=trodVars_none hV;have hlt: ∀x∈p,x.block<W.heap.size:=fun x hx=>by simpa using hW'.lt x (by simp [hx])
 refine⟨ds,[],p++[],[],p,[],hW',?_,?_,?_,hb.frame _,fun h=>by cases h⟩
 .rw[List.append_nil,hfn,hrt];exact trodAll_mk1 (shut_bool htb true)
 .rw[List.append_nil,hfn];exact aSh hl hb hr hA hlt
 .rw[hv,List.append_nil,hfn];rfl
end
section
variable {H:Type}{enc:TypeId×pU->H}
theorem aSj {C:Checked}{f:FuncId}{fn:Func}{s:ChangeSpec}{tb:TypeId}{IV:List (String×DataW Unit)}(own:ownKnob C.prog.godebug=none) {os:Os}(started:os.Started) (F:Stop.Interp)
  (noInit:C.prog.inits.idxOf? f=none) (hfn:C.prog.funcs[f]? =some fn)
  (hl:laidOutB C.prog=true) (hr: ∀t∈fn.params.toList,C.prog.readableRec t=true/\t<C.prog.types.size) (hv:s.vars=[])
  (hrt:fn.resultTypes= #[tb]) (htb:C.prog.underlying tb=some .bool)
  (hspec: ∀(ds:List (DataW H)) (W:pT) (args:Array pU) ps,DataW.TrodAll enc C.prog W 0 (fun _=>true) true fn.params.toList args.toList ds ps->s.fn H ds={results:=[.lit (.bool true)],args:=ds})
  (witness: ∃(w:pT) (tape:Tape) (i:Input),w.os=os/\(w.forCall tape i).Shaped C.prog/\i.vars=[]/\Input.okWide C.prog (w.forCall tape i) .any w.heap.size f i/\
   (OpenSpec.ofChange s).preRow enc C.prog fn [] false IV (w.forCall tape i).memory i.args/\Assume.holds {} C.prog (lone (Frame.enter C.prog f i.args .normal) [] (w.forCall tape i)))
  (contract: ∀(W:pT) (base:Nat) (args:Array pU) (ds:List (DataW H)) (ps:List MemPlace),
   (∀(j:Nat) t v,fn.params[j]? =some t->args[j]? =some v->Value.okWide C.prog W .any base t v)->
   DataW.TrodAll enc C.prog W 0 (fun _=>true) true fn.params.toList args.toList ds ps->
   (∀x∈ps,x.block<W.heap.size)->(DataW.weightsEach C.prog fn.params.toList ds).all (·<=reachBytes)=true->laidMetH C.prog IV W->W.ShapedOpen C.prog->
   Calls C.prog f args W fun e W'=>e= .returned (.bool true)/\Below W.heap.size W W'):
  ReturnsInHanded {} C os f .any ((OpenSpec.ofChange s).preRow enc C.prog fn [] false IV) (s.post enc C.prog fn false true false false):=by
 refine returnsInHanded_of_row (C:=C) (s:=OpenSpec.ofChange s) (F:=F) own started noInit hfn witness ?_;intro W base args ds gs before hval hW _ _ hsz hL hsh _;have hW':=hW;obtain⟨p,q,hA,hV,rfl,hfz,hnd⟩:=hW;have hV':DataW.TrodVars enc C.prog W (fun _=>true) s.vars gs q:=hV;rw[hv] at hV';obtain⟨rfl,rfl⟩:=trodVars_none hV';have hlt: ∀x∈p,x.block<W.heap.size:=fun x hx=>by simpa using hW'.lt x (by simp [hx])
 have hvt:(OpenSpec.ofChange s).bare.plain.varTypes C.prog=[]:=by
  simp [OpenSpec.ofChange,ChangeSpec.plain,hv];rfl
 rw[hvt,List.append_nil,List.append_nil] at hsz;refine(contract W base args ds p hval hA hlt hsz hL hsh).mono fun e W' ⟨he,hb⟩=> ?_;subst he;exact⟨_,rfl,aSi hl hr hW' hv (hspec ds W args p hA) hrt htb hb⟩
end
end Go.Proofs.YtkpflnijijccpaaGreatDoor
namespace Go.Proofs.YtkpflnijijccpaaGreatDoor
open Go.Shelf Go.Lib
open Vc
theorem aSk:(Rows.laid_unicode_utf8_first:DataW Unit)=Lib.firstData:=by kernel_rfl
theorem aSl:(Rows.laid_unicode_utf8_acceptRanges:DataW Unit)=Lib.acceptData:=by kernel_rfl
def aSm:pO:=[0,1,56,2,57,49,28,3,61,58,42,50,38,29,17,4,62,47,59,36,45,43,51,22,53,39,33,30,24,18,12,5,63,55,48,27,60,41,37,16,46,35,44,21,52,32,23,11,54,26,40,15,34,20,31,10,25,14,19,9,13,8,7,6]
theorem aSn:(Rows.laid_internal_strconv_uint64pow10:DataW Unit)=Lib.tabData .u64 Lib.pow10Tab:=by kernel_rfl
theorem aSo:(Rows.laid_strings_asciiSpace:DataW Unit)=Lib.tabData .u8 Lib.asciiSpaceTab:=by kernel_rfl
theorem aSp {P:Program}{w:pT}{g:Nat}{t:TypeId}{k:IntKind}{zero:Array pU}(h:w.ShapedOpen P) (hg:g<P.globals.size)
  (h0:((begin P (fun _ _=>0) default).world.heap[g]?).bind Obj.row? =some (zero,t)) (hz:zero.size=1)
  (hb:P.buildable t=true) (hc:P.cellTypes P.depth t=some [t]) (hu:P.underlying t=some (.int k)): ∃m,w.cell? ⟨g,0,none⟩=some (.int k m):=by
 obtain⟨cs,hh,hs,hr⟩:=h.1 g zero t hg h0;obtain⟨ts,hts,_,hall⟩:=hr hb;rw[hc] at hts;cases hts;have h1:0<cs.size:=by omega
 obtain⟨u,hu',hok⟩:=hall 0 cs[0] (by simp [h1]);have:u=t:=by simpa using hu'.symm
 subst this;have hcell:w.cell? ⟨g,0,none⟩=some cs[0]:=by simp [World.cell?,hh,h1]
 rw[hcell];unfold Cell.ok at hok;rw[hu] at hok;cases hv:cs[0]<;>rw[hv] at hok<;>simp at hok
 rename_i k' m;exact⟨m,by rw[hok.1]⟩
theorem aSq {W:pT}(hsh:W.ShapedOpen Tryz.prog): ∃m,W.cell? ⟨1,0,none⟩=some (.int .i64 m):=
 aSp (t:=3) (zero:= #[.int .i64 0]) hsh (aVw pW) pW rfl pW pW Tryz.underlying3
def aSr:Ren:=⟨fun x=>x,fun x=>if x=5 then 5 else if x=119 then 182 else if x=138 then 229 else 230,fun x=>if x=3 then 3 else 4⟩
theorem aK0 {P:Program}{w:pT}{n:String}{g:Nat}{cs:Array pU}(hg:P.globalNamed n=some g) (h:w.var? P n=some cs): ∃e fz,w.heap[g]? =some (.cells cs e fz):=by
 unfold World.var? at h;rw[hg,aUS] at h;split at h
 .rename_i cs' e fz hh;cases h;exact⟨e,fz,hh⟩
 .cases h
theorem aSs {W:pT}(hL:laidMet Tryz.prog Rows.elementsPrintRow.laid W) (hsh:W.ShapedOpen Tryz.prog):DH W:=by
 obtain⟨m,hm⟩:=aSq hsh;have hp:=laidMet.reads hL (.tail _ (.tail _ (.head _)));have h1:=laidMet.reads hL (.tail _ (.tail _ (.tail _ (.head _))));have hs:=laidMet.reads hL (.tail _ (.tail _ (.tail _ (.tail _ (.tail _ (.head _))))));have h2:=laidMet.reads hL (.tail _ (.tail _ (.tail _ (.tail _ (.tail _ (.tail _ (.head _)))))));rw[aSn] at hp;rw[aSo] at hs;rw[aSk] at h2;rw[aSl] at h1;have hU:Lib.Utf8Tabs 3 4 W:=utf8Tabs_of_readsT (ρ:=aSr) ⟨pW,pW,pW,pW⟩ ⟨pW,pW,pW,pW,pW,pW,pW⟩ h2 h1;have hP: ∃e fz,W.heap[5]? =some (.cells (Lib.pow10Tab.map fun z=>Value.int .u64 z).toArray e fz):=by
  obtain⟨g,t,cs,fuel,p,hg,ht,hv,hd⟩:=hp;have hg0:Tryz.prog.globalNamed "internal/strconv.uint64pow10" =some 5:=by kernel_rfl
  have ht0:(Tryz.prog.globals[5]?).map (·.type)=some 267:=by kernel_rfl
  obtain rfl:=aUZ (hg0.symm.trans hg);obtain rfl:=aUZ (ht0.symm.trans ht);have hc:=cells_of_tab Tryz.underlying267 Tryz.underlying207 pW pW hd;rw[<-hc];exact aK0 hg hv
 have hS: ∃e fz,W.heap[0]? =some (.cells (Lib.asciiSpaceTab.map fun z=>Value.int .u8 z).toArray e fz):=by
  obtain⟨g,t,cs,fuel,p,hg,ht,hv,hd⟩:=hs;have hg0:Tryz.prog.globalNamed "strings.asciiSpace" =some 0:=by kernel_rfl
  have ht0:(Tryz.prog.globals[0]?).map (·.type)=some 182:=by kernel_rfl
  obtain rfl:=aUZ (hg0.symm.trans hg);obtain rfl:=aUZ (ht0.symm.trans ht);have hc:=cells_of_tab Tryz.underlying182 Tryz.underlying5 pW pW hd;rw[<-hc];exact aK0 hg hv
 refine⟨?_,hU,⟨m,hm⟩,fun x hx=> ?_⟩
 .obtain⟨e,fz,h⟩:=hP;have b0:5<W.heap.size:=(aVn.1 h).1;show 6<=W.heap.size;omega
 .unfold aBl at hx;simp only[aU9,aWv,or_false] at hx;rcases hx with rfl|rfl
  .exact⟨pJ,hP⟩
  .exact⟨pJ,hS⟩
noncomputable def a0b (os:Os):pT:=
 let N:=(World.settled Tryz.prog os).heap.size
 let w0:=World.holding Tryz.prog os ⟨#[.cells (Lib.whiteT.map fun(z:Nat)=>Value.int .u16 (z:Int)).toArray 241,.cells #[.slice (some ⟨N,0,none⟩) 7 7,.slice none 0 0,.int .i64 2] 238],#[],[]⟩
 let uM (h:Array Obj) (g:Nat) (cs:Array pU):Array Obj:=h.modify g fun
  | .cells _ t frozen=> .cells cs t frozen
  |o=>o
 let h1:=uM w0.heap 3 (Lib.firstTab.map fun z=>Value.int .u8 z).toArray
 let h2:=uM h1 4 ((List.range 16).flatMap fun i=>[Value.int .u8 (Lib.accLo i),Value.int .u8 (Lib.accHi i)]).toArray
 let h3:=uM h2 7 (aSm.map fun z=>Value.int .u8 z).toArray
 let h4:=uM h3 6 (([0,1,28,2,29,14,24,3,30,22,20,15,25,17,4,8,31,27,13,23,21,19,16,7,26,12,18,6,11,5,10,9]:pO).map fun z=>Value.int .u8 z).toArray
 let h5:=uM h4 5 ((List.range 20).map fun i=>Value.int .u64 (10^i)).toArray
 let h6:=uM h5 0 (Lib.asciiSpaceTab.map fun z=>Value.int .u8 z).toArray
 let h7:=uM h6 2 #[.pointer (some ⟨N+1,0,none⟩)]
 {w0 with heap:=h7}
theorem aSt (os:Os) (args:Array pU):laidMet Tryz.prog Rows.elementsPrintRow.laid ((a0b os).forCall (fun _ _=>0) ⟨#[],args,[]⟩).memory:=
 laidMet_of_run3 10 pW pW pW
end Go.Proofs.YtkpflnijijccpaaGreatDoor
namespace Go.Proofs.YtkpflnijijccpaaGreatDoor
open Vc Go.RowKit
inductive aBi where
 |ty (t:TypeId) |fs (o:Nat) (l:List Field)
inductive zO (P:Program):aBi->Ty->Prop
 |bool {t}:P.underlying t=some .bool->zO P (.ty t) .bool
 |int {t k}:P.underlying t=some (.int k)->zO P (.ty t) (.int k)
 |str {t}:P.underlying t=some .string->zO P (.ty t) .str
 |list {t e u}:P.underlying t=some (.slice e)->P.cellsOf e=u.cells->0<u.cells->0<P.bytesOf e->zO P (.ty e) u->zO P (.ty t) (.list u)
 |struct {t fs ty}:ty.isRow=true->P.underlying t=some (.struct fs)->P.cellsOf t=ty.cells->zO P (.fs 0 fs.toList) ty->zO P (.ty t) ty
 |nil {o}:zO P (.fs o []) .unit
 |cons {o}{f:Field}{r a b}:f.offset=o->P.cellsOf f.type=a.cells->zO P (.ty f.type) a->zO P (.fs (o+a.cells) r) b->zO P (.fs o (f::r)) (.pair a b)
def Bd:(t:Ty)->t.den->Prop
 | .str,s=>List.length s<=140737488351232
 | .int k,n=>(Lit.int k n).wf=true
 | .list u,l=>List.length l<=140737488351232/\∀x:u.den,x∈(l:List u.den)->Bd u x
 | .pair a b,x=>Bd a x.1/\Bd b x.2
 |_,_=>True
def GZ (w:pT):Gh:=⟨fun b _=>b<w.heap.size,fun _=>none,fun _ _=>none⟩
theorem aK1 {α:Type}{R:α->pP->Prop}{w:pT}{S:Nat->Nat->Prop}{c b:Nat}: ∀{l:List α}{o:Nat},(∀i x,l[i]? =some x->∃cs,cs.length=c/\w.rangeAt b (o+i*c) cs/\(∀j,j<c->S b (o+i*c+j))/\R x cs)->zH R w S c b o l
 |[],_,_=>trivial
 |x::l,o,h=>by
  refine⟨?_,aK1 fun i y hy=> ?_⟩
  .obtain⟨cs,h1,h2,h3,h4⟩:=h 0 x rfl;exact⟨cs,h1,by simpa using h2,by simpa using h3,h4⟩
  .obtain⟨cs,h1,h2,h3,h4⟩:=h (i+1) y (by simpa using hy);have e:o+(i+1)*c=o+c+i*c:=by rw[aV7];omega
   exact⟨cs,h1,by rw[<-e];exact h2,by rw[<-e];exact h3,h4⟩
section
variable {H:Type}{enc:TypeId×pU->H}{P:Program}{W:pT}
theorem aK2 {e:TypeId}: ∀{l:List (DataW H)}{i:Nat}{d:DataW H},l[i]? =some d->∀n∈d.weights P e,n∈DataW.weightsAll P e l
 |d0::l,0,d,h,n,hn=>by
  simp only[aVt,aUT] at h;subst h;simp only[DataW.weightsAll,aVJ];exact .inl hn
 |d0::l,i+1,d,h,n,hn=>by
  simp only[aVH] at h;simp only[DataW.weightsAll,aVJ];exact .inr (aK2 h n hn)
 |[],_,_,h,_,_=>by simp at h
def aSu (enc:TypeId×pU->H) (P:Program) (W:pT):aBi->Ty->Prop
 | .ty t,u=> ∀(fuel:Nat) (cs:pP) (y:DataW H×List MemPlace),DataW.trod enc P W 0 (fun _=>true) true fuel t cs=some y->(∀n∈y.1.weights P t,n<=reachBytes)->∃x:u.den,Rd (GZ W) W u x cs/\Bd u x
 | .fs o l,u=> ∀(fuel:Nat) (cs:pP) (xs:List (DataW H×List MemPlace)),cs.length=o+u.cells->xs.length=l.length->(∀(i:Nat) (f:Field),l[i]? =some f->DataW.trod enc P W 0 (fun _=>true) true fuel f.type ((cs.drop f.offset).take (P.cellsOf f.type))=xs[i]?)->(∀n∈DataW.weightsEach P (l.map (·.type)) (xs.map (·.1)),n<=reachBytes)->∃x:u.den,Rd (GZ W) W u x (cs.drop o)/\Bd u x
theorem aSv {e:TypeId}{u:Ty}{a:Addr}{len cap:Nat}(hc:P.cellsOf e=u.cells) (hpos:0<u.cells) (hcap:len<=cap)
  (each: ∀i,i<len->∃(cs:pP) (x:u.den),W.cells? 0 (a.add (i*u.cells)) u.cells=some cs/\Rd (GZ W) W u x cs/\Bd u x):
  ∃l:List u.den,l.length=len/\Rd (GZ W) W (.list u) l [.slice (some a) len cap]/\∀x∈l,Bd u x:=by
 have build: ∀k,k<=len->∃l:List u.den,l.length=k/\∀i x,l[i]? =some x->∃cs:pP,W.cells? 0 (a.add (i*u.cells)) u.cells=some cs/\Rd (GZ W) W u x cs/\Bd u x:=by
  intro k
  induction k with
  |zero=>intro _;exact⟨[],rfl,fun i x h=>by simp at h⟩
  |succ k ih=>
   intro hk;obtain⟨l,h1,h2⟩:=ih pI;obtain⟨cs,x,h3,h4⟩:=each k pI;refine⟨l++[x],by simp [h1],fun i y hy=> ?_⟩;rw[List.getElem?_append] at hy;split at hy
   .exact h2 i y hy
   .rename_i hi;obtain⟨j,hj⟩: ∃j,i=l.length+j:=⟨i-l.length,pI⟩;subst hj;rw[aVK] at hy;cases j with
    |zero=>
     simp only[aVt,aUT] at hy;subst hy;exact⟨cs,by rw[aVU,h1];exact h3,h4⟩
    |succ j=>simp at hy
 obtain⟨l,hll,hle⟩:=build len (aVi _);refine⟨l,hll,?_,fun x hx=> ?_⟩
 .subst hll;by_cases hl0:l=[]
  .subst hl0;exact⟨some a,cap,rfl,hcap,.inl rfl⟩
  .obtain⟨b,off,spot⟩:=a;have hlp:0<l.length:=aVp.2 hl0;have hspot:spot=none:=by
    obtain⟨cs,x,h3,_⟩:=each 0 hlp;have h4:=(World.cells?_some h3).2.2 0 hpos;have hlen0:=(World.cells?_some h3).2.1;rw[aU5 pI] at h4;simpa[Addr.add] using World.cell?_spot h4
   subst hspot;refine⟨_,cap,rfl,hcap,.inr ⟨b,off,rfl,aK1 fun i x hx=> ?_⟩⟩;obtain⟨cs,h3,h4,_⟩:=hle i x hx;obtain⟨_,h5,h6⟩:=World.cells?_some h3;have hcell: ∀j v,cs[j]? =some v->W.cell? ⟨b,off+i*u.cells+j,none⟩=some v:=by
    intro j v hv;have hj:j<u.cells:=by have:=(aVd.1 hv).1;omega
    have:=h6 j hj;rw[hv] at this;rw[aWJ,aWJ] at this;exact this
   refine⟨cs,h5,hcell,fun j hj=> ?_,h4⟩;exact Vc.WK (hcell 0 _ (aU5 pI))
 .obtain⟨i,hi,he⟩:=aWQ hx;obtain⟨cs,h3,h4,h5⟩:=hle i x (by rw[aU5 hi,he]);exact h5
theorem aSw {ix:aBi}{u:Ty}(h:zO P ix u):aSu enc P W ix u:=by
 induction h with
 |bool ht=>
  intro fuel cs y hy _;obtain⟨b,rfl,_⟩:=DataW.trod_bool ht hy;exact⟨b,rfl,trivial⟩
 |int ht=>
  intro fuel cs y hy _;obtain⟨n,rfl,_,hw⟩:=DataW.trod_int ht hy;exact⟨n,rfl,hw⟩
 |str ht=>
  intro fuel cs y hy hw;obtain⟨s,rfl,rfl,_⟩:=DataW.trod_string ht hy;refine⟨s.data.toList,by show [Value.string s]=[Value.string ⟨s.data.toList.toArray⟩];rw[aWr],?_⟩;exact hw _ (by simp [DataW.weights])
 | @list t e u ht hc hpos hb _ ih=>
  intro fuel cs y hy hw;rcases DataW.trod_slice ht hy with⟨rfl,_⟩ |⟨a,len,cap,elems,rest,n,_,rfl,rfl,_,hl,_,hlen,hall,_,_⟩
  .exact⟨[],⟨none,0,rfl,aVi _,.inl rfl⟩,by simp,fun x hx=>by cases hx⟩
  .have hws:DataW.weights P t (.slice (elems.map (·.1)) (rest.map (·.1)))=((elems.map (·.1)).length+(rest.map (·.1)).length)*P.bytesOf e::(DataW.weightsAll P e (elems.map (·.1))++DataW.weightsAll P e (rest.map (·.1))):=by
    simp [DataW.weights,ht]
   rw[hws] at hw;have hn:=hw _ aU2;obtain⟨l,h1,h2,h3⟩:=aSv (W:=W) (a:=a) (cap:=cap) hc hpos hl fun i hi=>by
    have h1:=hall i hi;rw[hc,aU5 pI,Option.bind_eq_some_iff] at h1;obtain⟨cs,h2,h3⟩:=h1;obtain⟨x,hx⟩:=ih n cs _ h3 fun m hm=>hw m (by
     refine aU3 _ (aVJ.2 (.inl (aK2 (i:=i) ?_ m hm)));rw[List.getElem?_map,aU5 pI];rfl)
    exact⟨cs,x,h2,hx⟩
   refine⟨l,h2,?_,h3⟩;have:elems.length<=(elems.length+rest.length)*P.bytesOf e:=by
    calc elems.length<=(elems.length+rest.length)*1:=by omega
     _<=_:=Nat.mul_le_mul_left _ hb
   simp only[aVX] at hn;have hr:reachBytes=140737488351232:=rfl;show l.length<=_;omega
 |struct hrow ht hcl _ ih=>
  intro fuel cs y hy hw;obtain⟨xs,n,rfl,rfl,hl,hlen,hf⟩:=DataW.trod_struct ht hy;have:=ih n cs xs (by rw[hl,hcl];omega) (by rw[hlen];simp) (fun i f hi=>hf i f (by simpa using hi)) fun m hm=>hw m (by simpa[DataW.weights,ht] using hm);rwa [aWc] at this
 |nil=>
  intro fuel cs xs hl _ _ _;refine⟨(),?_,trivial⟩;show cs.drop _=[];exact List.drop_of_length_le (by simp [Ty.cells] at hl;omega)
 | @cons o f r a b ho hc _ _ iha ihb=>
  intro fuel cs xs hl hx hf hw;cases xs with
  |nil=>simp at hx
  |cons x0 xs=>
   have h0:=hf 0 f rfl;rw[hc,ho] at h0;obtain⟨xa,ra,ba⟩:=iha fuel _ x0 h0 fun m hm=>hw m (by simp only[aV0,DataW.weightsEach,aVJ];exact .inl hm);obtain⟨xb,rb,bb⟩:=ihb fuel cs xs (by simp only[Ty.cells] at hl;omega) (by simpa using hx) (fun i f' hi=>by have:=hf (i+1) f' (by simpa using hi);simpa using this) fun m hm=>hw m (by simp only[aV0,DataW.weightsEach,aVJ];exact .inr hm);refine⟨(xa,xb),⟨_,_,(aWi a.cells (cs.drop o)).symm,ra,?_⟩,ba,bb⟩;rw[aWA];exact rb
theorem aBj {t:TypeId}{u:Ty}{base:Nat}{v:pU}{d:DataW H}{ps:List MemPlace}(h:zO P (.ty t) u) (hok:Value.okWide P W .any base t v) (hT:DataW.Trod enc P W 0 (fun _=>true) true t v d ps) (hw: ∀n∈d.weights P t,n<=reachBytes): ∃x:u.den,tT (GZ W) W u x v/\Bd u x:=by
 obtain⟨fuel,hf⟩:=hT;obtain⟨x,hx,hb⟩:=aSw (enc:=enc) (W:=W) h fuel _ _ hf hw;refine⟨x,?_,hb⟩;cases h with
 |bool ht=>obtain⟨b,rfl⟩:=Go.WideShapes.okWide_bool ht hok;exact .inr ⟨rfl,hx⟩
 |int ht=>obtain⟨b,rfl⟩:=Go.WideShapes.okWide_int ht hok;exact .inr ⟨rfl,hx⟩
 |str ht=>obtain⟨b,rfl⟩:=Go.WideShapes.okWide_string ht hok;exact .inr ⟨rfl,hx⟩
 |list ht=>obtain⟨a,l,c,rfl⟩:=Go.WideShapes.okWide_slice ht hok;exact .inr ⟨rfl,hx⟩
 |struct hrow ht=>obtain⟨cs,rfl,_⟩:=Go.WideShapes.okWide_struct ht hok;exact .inl ⟨hrow,cs.toList,by rw[aWr],hx⟩
end
end Go.Proofs.YtkpflnijijccpaaGreatDoor
namespace Go.Proofs.YtkpflnijijccpaaGreatDoor
open Vc
open Go.ChangeShapes Go.WideShapes Go.ChangeAt Go.RowKit
theorem N6:zO Tryz.prog (.ty 9) .str:= .str Tryz.underlying9
theorem aK3:zO Tryz.prog (.ty 24) (.list .str):= .list Tryz.underlying24 pW pJ (aVw pW) N6
theorem aSx:zO Tryz.prog (.ty 111) (.pair .str (.pair .str .unit)):=by
 refine .struct rfl Tryz.underlying111 pW ?_;exact .cons rfl pW N6 (.cons rfl pW N6 .nil)
theorem aSy:zO Tryz.prog (.ty 33) (.list (.pair .str (.pair .str .unit))):= .list Tryz.underlying33 pW pJ (aVw pW) aSx
theorem aSz:zO Tryz.prog (.ty 53) sN:=by
 refine .struct rfl Tryz.underlying53 pW ?_;exact .cons rfl pW N6 (.cons rfl pW N6 (.cons rfl pW N6 (.cons rfl pW aK3 (.cons rfl pW aK3 (.cons rfl pW (.int Tryz.underlying3) (.cons rfl pW aSy .nil))))))
theorem aSA {x:tQ}(h:Bd sN x):aAo x:=by
 obtain⟨h1,h2,h3,⟨h4,k4⟩,⟨h5,k5⟩,_,⟨h7,k7⟩,_⟩:=h;exact⟨h1,h2,h3,⟨h4,k4⟩,⟨h5,k5⟩,h7,fun y hy=>⟨(k7 y hy).1,(k7 y hy).2.1⟩⟩
theorem aSB:zO Tryz.prog (.ty 5) (.int .u8):= .int Tryz.underlying5
theorem aK4 {n:Int}(h:Bd (.int .u8) n):0<=n/\n<65536:=by
 have h':(Lit.int .u8 n).wf=true:=h;unfold Lit.wf at h';rw[aU6,aU8,aU8] at h';have h1:(0:Int)<=n:=h'.1;have h2:n<=2^8-1:=h'.2;omega
theorem aSC {W:pT}(hT:DH W) (v0 v1 v2:pU) (x0:pF) (x1:Int) (x2:tQ) (h0:tT (GZ W) W .str x0 v0) (h1:tT (GZ W) W (.int .u8) x1 v1) (h2:tT (GZ W) W sN x2 v2) (B0:Bd .str x0) (B1:Bd (.int .u8) x1) (B2:Bd sN x2):
  Calls Tryz.prog 6 #[v0,v1,v2] W fun e W'=>e= .returned (.bool true)/\Below W.heap.size W W':=by
 have hC:a95 (TY x0 x1 x2) YQ=some (PN x0 x1 x2):=aPD _ _ _;have ht:=aSg x0 (aK4 B1).1 (aK4 B1).2 (aSA B2);refine(aPF.1.2 (GZ W) W (TY x0 x1 x2) [v0,v1,v2] [] _ ⟨(fun i b h=>by cases h),(fun i j bi bj b o _ h=>by cases h),fun b o h=>h,hT,(fun i blk b o h=>by cases h)⟩ ⟨v0,[v1,v2],rfl,⟨h0,trivial⟩,v1,[v2],rfl,⟨h1,trivial⟩,v2,[],rfl,⟨h2,trivial⟩,rfl⟩ hC ?_).mono fun e W' ⟨v,g',he,r⟩=> ?_
 .intro p hp;have:p=((MU x0 x1 x2).isSome=true):=by simpa[PN] using hp
  rw[this,ht];rfl
 .have hv:v= .bool true:=by
   have h1:=r.ret;unfold PN at h1;rw[ht] at h1;exact wI h1.1
  subst hv;exact⟨he,⟨r.fr.os,r.fr.tape,r.fr.output,r.fr.size,fun k hk=>r.fr.blk k hk (fun o ⟨i,blk,hi,_⟩=>by cases hi)⟩⟩
end Go.Proofs.YtkpflnijijccpaaGreatDoor
namespace Go.Proofs.YtkpflnijijccpaaGreatDoor
open Go.ChangeShapes Go.WideShapes Go.ChangeAt Go.RowKit Go.Lib
theorem aSD:(Rows.elementsExchangeRow.inPlace==Tryz.prog.inPlace 6)=true:=by kernel_rfl
theorem aSE:(Rows.elementsExchangeRow.unfollowed==Tryz.prog.unfollowed 6)=true:=by kernel_rfl
theorem aSF:(Rows.elementsExchangeRow.recurses==Tryz.prog.recurses 6)=true:=by kernel_rfl
theorem aSG:(Rows.elementsExchangeRow.named==Tryz.prog.varsNamed 6)=true:=by kernel_rfl
theorem aSH:joinedFacts Tryz.prog 6 Tryz.f6 Rows.elementsExchangeSpec Rows.elementsExchangeRow=true:=by
 unfold joinedFacts;rw[aSD,aSE,aSF,aSG]
 kernel_rfl
namespace elementsExchangeLaw
theorem own:ownKnob Tryz.prog.godebug=none:=by kernel_rfl
theorem IV:laidOutB Tryz.prog=true:=by kernel_rfl
theorem aSI:Tryz.prog.readableRec 53=true:=by kernel_rfl
theorem aSJ:53<Tryz.prog.types.size:=aVw pW
theorem aSK:Tryz.prog.readableRec 9=true:=by kernel_rfl
theorem aSL:9<Tryz.prog.types.size:=aVw pW
theorem aSM:Tryz.prog.readableRec 5=true:=by kernel_rfl
theorem aSN:5<Tryz.prog.types.size:=aVw pW
theorem aSO (os:Os) {H:Type}(enc:TypeId×pU->H):
  (OpenSpec.ofChange Rows.elementsExchangeSpec).preRow enc Tryz.prog Tryz.f6 [] false Rows.elementsExchangeRow.laid ((a0b os).forCall (fun _ _=>0) ⟨#[],#[.string ⟨#[]⟩,.int .u8 0,.agg #[.string ⟨#[]⟩,.string ⟨#[]⟩,.string ⟨#[]⟩,.slice none 0 0,.slice none 0 0,.int .i64 0,.slice none 0 0]],[]⟩).memory #[.string ⟨#[]⟩,.int .u8 0,.agg #[.string ⟨#[]⟩,.string ⟨#[]⟩,.string ⟨#[]⟩,.slice none 0 0,.slice none 0 0,.int .i64 0,.slice none 0 0]]:=by
 have hw:(DataW.whole enc Tryz.prog ((a0b os).forCall (fun _ _=>0) ⟨#[],#[.string ⟨#[]⟩,.int .u8 0,.agg #[.string ⟨#[]⟩,.string ⟨#[]⟩,.string ⟨#[]⟩,.slice none 0 0,.slice none 0 0,.int .i64 0,.slice none 0 0]],[]⟩).memory Tryz.f6.params.toList (OpenSpec.ofChange Rows.elementsExchangeSpec).vars false #[.string ⟨#[]⟩,.int .u8 0,.agg #[.string ⟨#[]⟩,.string ⟨#[]⟩,.string ⟨#[]⟩,.slice none 0 0,.slice none 0 0,.int .i64 0,.slice none 0 0]].toList 8).map (fun x=>(x.1,x.2.1))=
   some ([.lit (.string []),.lit (.int .u8 0),.agg [.lit (.string []),.lit (.string []),.lit (.string []),.nil,.nil,.lit (.int .i64 0),.nil]],[]):=by kernel_rfl
 obtain⟨⟨x1,x2,x3⟩,hx,hx1⟩:=aU1.1 hw;simp only[aVs] at hx1;obtain⟨rfl,rfl⟩:=hx1;exact OpenSpec.preRow_of_cond 8 hx pW (fun k hk=>by cases hk) pW (aSt os _)
theorem lifted (os:Os) (started:os.Started) (H:Type) (enc:TypeId×pU->H) (F:Stop.Interp):
  ReturnsInHanded {} Tryz.checked os 6 .any ((OpenSpec.ofChange Rows.elementsExchangeSpec).preRow enc Tryz.prog Tryz.f6 [] false Rows.elementsExchangeRow.laid) (Rows.elementsExchangeSpec.post enc Tryz.prog Tryz.f6 false true false false):=by
 refine aSj (C:=Tryz.checked) (tb:=4) own started F pW Tryz.func6 IV ?_ rfl rfl Tryz.underlying4 ?_
  (witness_row_atRef (enc:=enc) (C:=Tryz.checked) false (a0b os) #[.string ⟨#[]⟩,.int .u8 0,.agg #[.string ⟨#[]⟩,.string ⟨#[]⟩,.string ⟨#[]⟩,.slice none 0 0,.slice none 0 0,.int .i64 0,.slice none 0 0]] rfl pW pW pW (aSO os enc)) ?_
 .intro t ht;rw[Tryz.params6] at ht;simp only[aU9,aWv,or_false] at ht;rcases ht with rfl|rfl|rfl
  .exact⟨aSK,aSL⟩
  .exact⟨aSM,aSN⟩
  .exact⟨aSI,aSJ⟩
 .intro ds W args ps h;have h':DataW.TrodAll enc Tryz.prog W 0 (fun _=>true) true Tryz.f6.params.toList args.toList ds ps:=h;rw[Tryz.params6] at h';obtain⟨v0,v1,v2,d0,d1,d2,p0,p1,p2,rfl,rfl,rfl,h0,h1,h2⟩:=trodAll_three h';rfl
 .intro W base args ds ps hval0 hA0 hlt hsz0 hL hsh;have hval: ∀(j:Nat) t v,Tryz.f6.params[j]? =some t->args[j]? =some v->Value.okWide Tryz.prog W .any base t v:=hval0;have hA:DataW.TrodAll enc Tryz.prog W 0 (fun _=>true) true Tryz.f6.params.toList args.toList ds ps:=hA0;have hsz:(DataW.weightsEach Tryz.prog Tryz.f6.params.toList ds).all (·<=reachBytes)=true:=hsz0;rw[Tryz.params6] at hA hval hsz;obtain⟨v0,v1,v2,d0,d1,d2,p0,p1,p2,rfl,rfl,rfl,h0,h1,h2⟩:=trodAll_three hA;obtain⟨x0,g0,B0⟩:=aBj N6 (hval 0 9 v0 rfl rfl) h0 (fun n hn=>by
   have:=aVC.1 hsz n (DataW.weights_mem_each (j:=0) rfl rfl n hn);simpa using this)
  obtain⟨x1,g1,B1⟩:=aBj aSB (hval 1 5 v1 rfl rfl) h1 (fun n hn=>by
   have:=aVC.1 hsz n (DataW.weights_mem_each (j:=1) rfl rfl n hn);simpa using this)
  obtain⟨x2,g2,B2⟩:=aBj aSz (hval 2 53 v2 rfl rfl) h2 (fun n hn=>by
   have:=aVC.1 hsz n (DataW.weights_mem_each (j:=2) rfl rfl n hn);simpa using this)
  exact aSC (aSs hL hsh) v0 v1 v2 x0 x1 x2 g0 g1 g2 B0 B1 B2
end elementsExchangeLaw
theorem aK5:Rows.ElementsExchangeSaid:=
 OpenClaim.holds_of_wide 6 Tryz.f6 rfl rfl rfl rfl rfl rfl rfl ⟨rfl,rfl,rfl,rfl,rfl⟩ rfl rfl rfl rfl rfl pW Tryz.func6 aSH
  (aVw pW) (by unfold Func.isWrapper;first|(rw[aUU (by decide+kernel)];kernel_rfl) |(rw[aUX (by decide+kernel)];exact⟨rfl,rfl⟩))
  (fun os started H enc _=>by rw[OpenClaim.pre_eq_preRow];exact elementsExchangeLaw.lifted os started H enc (fun _ _ _=>0))
#print axioms aK5
end Go.Proofs.YtkpflnijijccpaaGreatDoor
namespace Go.Proofs.YtkpflnijijccpaaGreatDoor
open Go
theorem aSP:Rows.elementsExchangeRow.wfByText (OpenSpec.ofChange Rows.elementsExchangeSpec)=true:=by kernel_rfl
theorem aSQ:Tryz.prog.mainIs=some (true, "1008dd62a78bd228180e1c22f450e234c81a9eabf1ab0f49fd7302bf1e97eed2".toList):=by kernel_rfl
theorem aSR:false=Tryz.prog.looks []:=by kernel_rfl
theorem aSS:false=Rows.elementsExchangeRow.goesBy Tryz.prog:=by kernel_rfl
theorem aST:Tryz.prog.funcNamed "calque/calquelaw41.ElementsExchange" =some 6:=by kernel_rfl
theorem aSU:([9,5,53].all fun u=> !Tryz.prog.wantsStandIn u)=true:=by kernel_rfl
theorem elementsExchangeCard_holds:Rows.ElementsExchangeCardSaid:=
 Claim7.holds_tied_plain_at .later [] [.data,.data,.data,.data,.listed,.data,.pinned] true (true, "1008dd62a78bd228180e1c22f450e234c81a9eabf1ab0f49fd7302bf1e97eed2") false
  aK5 (fun _ h=>by cases h) aSP (fun _ h=>by cases h) elementsExchange_row_tie rfl ⟨rfl,rfl⟩ aSQ rfl
  (fun f fn hf hfn=>by
   obtain rfl:f=6:=aUZ (aST.symm.trans hf) |>.symm
   obtain rfl:fn=Tryz.f6:=(aUZ (Tryz.func6.symm.trans hfn)).symm;exact⟨aSR,fun j t ht=>by
    rw[Tryz.params6] at ht;have hm:t∈[9,5,53]:=by simpa using Array.mem_of_getElem? ht
    exact(show Tryz.prog.wantsStandIn t=false by simpa using aVC.1 aSU t hm)⟩)
  aSS
#print axioms elementsExchangeCard_holds
end Go.Proofs.YtkpflnijijccpaaGreatDoor
