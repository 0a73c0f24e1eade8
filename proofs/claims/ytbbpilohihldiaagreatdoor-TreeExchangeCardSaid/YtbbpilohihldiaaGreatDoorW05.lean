/- TreeExchange returns true for all arguments (an item replaced by the canonical item of another entry gives the catalog with this entry instead; with the canonical head and tail it stays): the tied card of the statement, over the row's statement. No condition. -/
/- Packed by a program of mine (wip/tools/pack.py): the same texts with short names and few blanks. -/
import Derived.Deep.CondSized
import Derived.Deep.DeepHandedRow
import Derived.Deep.DeepWitnessRowRef
import Derived.Lib.LaidIn
import Derived.Lib.LaidTab
import Derived.Lib.LaidU8T
import Derived.OpenShut
import Derived.ProofKit
import Derived.SevenTiedAt
import Derived.SizedLaws
import Derived.Test.YtbbpilohihldiaaGreatDoorCards
import Derived.Test.YtbbpilohihldiaaGreatDoorRows
import Derived.Test.YtbbpilohihldiaaGreatDoorTie
import Derived.WalkKit
import Derived.Test.YtbbpilohihldiaaGreatDoorW04
set_option linter.defProp false
set_option linter.unusedVariables false
set_option linter.unusedSimpArgs false
set_option linter.unusedSectionVars false
set_option maxRecDepth 100000
set_option maxHeartbeats 4000000
namespace Go.Proofs.YtbbpilohihldiaaGreatDoor
open Vc
def H0 {x y:UInt8}{l:pG}(r:pG) (h:2<=l.length):sV x y (l++r)=sV x y l:=by
 match l,h with
 |b::c::t,_=>rfl
def YS {x y:UInt8}{l:pG}(h:sV x y l=true):2<=l.length:=by
 match l,h with
 |b::c::t,_=>simp
def a90: ∀{l:pG}{e:Nat}(r:pG),uO l=some e->uO (l++r)=some e
 |[],_,_,h=>by cases h
 |[b],e,r,h=>by
  unfold uO at h;split at h
  .rename_i hb;simp [sV] at hb
  .rw[uO] at h;cases h
 |b::c::t,e,r,h=>by
  rw[uO] at h;rw[List.cons_append,uO,<-List.cons_append,H0 r pL];by_cases hb:sV 42 47 (b::c::t)=true
  .rw[aU8 hb] at h|-;exact h
  .rw[aVa hb] at h|-;cases hc:uO (c::t) with
   |none=>rw[hc] at h;cases h
   |some e'=>
    rw[hc] at h;rw[a90 r hc];exact h
def aJG {α:Type}{p:α->Bool}{l r:List α}(h:(l.findIdx? p).getD l.length<l.length):((l++r).findIdx? p).getD (l++r).length=(l.findIdx? p).getD l.length:=by
 rw[List.findIdx?_append];cases hf:l.findIdx? p with
 |none=>rw[hf] at h;exact absurd h (aW3 _)
 |some k=>rfl
def YT: ∀(n:Nat) (l r:pG),l.length<=n->(G l).2=true->(G l).1<l.length->(∀u,l.drop (G l).1≠47::u)->G (l++r)=G l
 |_,[],_,_,_,h,_=>by simp at h
 |0,_::_,_,hl,_,_,_=>by simp at hl
 |n+1,b::t,r,hl,h2,h1,h3=>by
  simp only[aVd] at hl;by_cases hw:vR b=true
  .rw[C1 hw] at h1 h2 h3;rw[List.cons_append,C1 hw,C1 hw,YT n t r pJ h2 (by simp only[BZ,aVd] at h1;omega) (fun u e=>h3 u (by
    show (b::t).drop (1+(G t).1)=_;rw[Nat.add_comm,aWS];exact e))]
  .by_cases hb1:sV 47 47 (b::t)=true
   .have hp:=K8 hb1;rw[EJ hw hb1] at h1 h2 h3;have h1':tQ (b::t)+(G ((b::t).drop (tQ (b::t)))).1<(b::t).length:=h1;have hln:tQ ((b::t)++r)=tQ (b::t):=aJG (by show tQ (b::t)<_;omega);have hb1':sV 47 47 (b::(t++r))=true:=by rw[<-List.cons_append,H0 r (YS hb1)];exact hb1
    rw[List.cons_append,EJ hw hb1',EJ hw hb1,<-List.cons_append,hln,List.drop_append_of_le_length hp.2];rw[YT n ((b::t).drop (tQ (b::t))) r (by rw[aVh];simp only[aVd] at hp|-;omega) h2 (by rw[aVh];omega) (fun u e=>h3 u (by rw[aVQ] at e;exact e))]
   .by_cases hb2:sV 47 42 (b::t)=true
    .have h2l:=YS hb2;have hb1': ¬sV 47 47 (b::(t++r))=true:=by rw[<-List.cons_append,H0 r h2l];exact hb1
     have hb2':sV 47 42 (b::(t++r))=true:=by rw[<-List.cons_append,H0 r h2l];exact hb2
     cases hc:uO ((b::t).drop 2) with
     |none=>rw[MG hw hb1 hb2 hc] at h2;cases h2
     |some e=>
      have hlt:=PL hc;rw[aVh] at hlt;have hc':uO ((b::(t++r)).drop 2)=some e:=by
       rw[<-List.cons_append,List.drop_append_of_le_length h2l];exact a90 r hc
      rw[EK hw hb1 hb2 hc] at h1 h2 h3;have h1':e+4+(G ((b::t).drop (e+4))).1<(b::t).length:=h1;rw[List.cons_append,EK hw hb1' hb2' hc',EK hw hb1 hb2 hc,<-List.cons_append,List.drop_append_of_le_length pJ];rw[YT n ((b::t).drop (e+4)) r (by rw[aVh];simp only[aVd];omega) h2 (by rw[aVh];omega) (fun u e'=>h3 u (by rw[aVQ] at e';exact e'))]
    .rw[GV hw hb1 hb2] at h3|-;have hb:b≠47:=fun e=>h3 t (by rw[e];rfl);rw[List.cons_append,GV hw (YM hb) (YM hb)]
def a91 {d:UInt8}: ∀(n:Nat) (l r:pG) (k:Nat),l.length<=n->sU d l=some k->sU d (l++r)=some k
 |_,[],_,_,_,h=>by rw[PG] at h;cases h
 |0,_::_,_,_,hl,_=>by simp at hl
 |n+1,b::t,r,k,hl,h=>by
  simp only[aVd] at hl;by_cases hd:b=d
  .rw[MB hd] at h;rw[List.cons_append,MB hd];exact h
  .by_cases hb:b=92
   .rw[MC hd hb] at h;rw[List.cons_append,MC hd hb];cases t with
    |nil=>rw[List.drop_nil,PG] at h;cases h
    |cons c u=>
     have h':(sU d u).map (· +2)=some k:=h;show (sU d (u++r)).map (· +2)=some k;cases hu:sU d u with
     |none=>rw[hu] at h';cases h'
     |some j=>
      rw[hu] at h';rw[a91 n u r j (by simp only[aVd] at hl;omega) hu];exact h'
   .rw[MD hd hb] at h;rw[List.cons_append,MD hd hb];cases hu:sU d t with
    |none=>rw[hu] at h;cases h
    |some j=>
     rw[hu] at h;rw[a91 n t r j pJ hu];exact h
def H4 (l:pG):Prop:=(tX l).1=1\/(tX l).1=3\/((tX l).1=2/\(tX l).2.2<l.length)
def aR3 {l:pG}(r:pG) (h:H4 l):tX (l++r)=tX l:=by
 cases l with
 |nil=>
  rcases h with h|h|⟨h,_⟩
  .exact absurd h (show¬(4:Int)=1 by decide)
  .exact absurd h (show¬(4:Int)=3 by decide)
  .exact absurd h (show¬(4:Int)=2 by decide)
 |cons b t=>
  rw[List.cons_append];by_cases h1:b=123\/b=125
  .rw[FT h1,FT h1]
  .by_cases h2:b=34
   .unfold H4 at h;rw[DM h1 h2] at h;rw[DM h1 h2,DM h1 h2];unfold x9 at h|-;cases he:sU 34 t with
    |none=>
     rw[he] at h;rcases h with h|h|⟨h,_⟩
     .exact absurd h (show¬(0:Int)=1 by decide)
     .exact absurd h (show¬(0:Int)=3 by decide)
     .exact absurd h (show¬(0:Int)=2 by decide)
    |some k=>
     have hk:=PH t.length t k (aVp _) he;rw[a91 t.length t r k (aVp _) he];dsimp only;rw[aV5 pJ]
   .by_cases h3:yB b.toNat=true
    .unfold H4 at h;rw[DN h1 h2 h3] at h;rw[DN h1 h2 h3,DN h1 h2 h3];have hl:wA (b::t)<(b::t).length:=by
      rcases h with h|h|⟨_,h⟩
      .exact absurd h (show¬(2:Int)=1 by decide)
      .exact absurd h (show¬(2:Int)=3 by decide)
      .exact h
     have hw:wA (b::(t++r))=wA (b::t):=by
      rw[<-List.cons_append];exact aJG hl
     rw[hw,<-List.cons_append,aV5 pJ]
    .unfold H4 at h;rw[K9 h1 h2 h3] at h;rcases h with h|h|⟨h,_⟩
     .exact absurd h (show¬(0:Int)=1 by decide)
     .exact absurd h (show¬(0:Int)=3 by decide)
     .exact absurd h (show¬(0:Int)=2 by decide)
def aR4 {u:pG}: ¬H4 (47::u):=by
 unfold H4;rw[aIe];rintro(h|h|⟨h,_⟩)
 .exact absurd h (show¬(0:Int)=1 by decide)
 .exact absurd h (show¬(0:Int)=3 by decide)
 .exact absurd h (show¬(0:Int)=2 by decide)
def aR5: ¬H4 []:=by
 rintro(h|h|⟨h,_⟩)
 .exact absurd h (show¬(4:Int)=1 by decide)
 .exact absurd h (show¬(4:Int)=3 by decide)
 .exact absurd h (show¬(4:Int)=2 by decide)
def aJH {l:pG}(r:pG) (hg:(G l).2=true) (h:H4 (l.drop (G l).1)):tO (l++r)=tO l:=by
 have hlt:(G l).1<l.length:=by
  by_cases hh:(G l).1<l.length
  .exact hh
  .rw[List.drop_eq_nil_of_le pJ] at h;exact absurd h aR5
 have hG:=YT l.length l r (aVp _) hg hlt (fun u e=>by rw[e] at h;exact aR4 h);unfold tO;rw[hG,aU8 hg,aU8 hg,List.drop_append_of_le_length pJ,aR3 r h]
def aJI: ∀{l:pG}{e:Nat}(r:pG),uO (l++r)=some e->e+2<=l.length->uO l=some e
 |[],_,_,_,h=>by simp at h
 |[b],_,_,_,h=>by simp at h
 |b::c::t,e,r,h,hl=>by
  rw[List.cons_append,uO,<-List.cons_append,H0 r pL] at h;rw[uO];by_cases hb:sV 42 47 (b::c::t)=true
  .rw[aU8 hb] at h|-;exact h
  .rw[aVa hb] at h|-;cases hc:uO ((c::t)++r) with
   |none=>rw[hc] at h;cases h
   |some e'=>
    rw[hc] at h;obtain rfl:e'+1=e:=aVe h;rw[aJI r hc (by simp only[aVd] at hl|-;omega)];rfl
def aJJ {α:Type}{p:α->Bool}{l r:List α}(h:((l++r).findIdx? p).getD (l++r).length<l.length):(l.findIdx? p).getD l.length=((l++r).findIdx? p).getD (l++r).length:=by
 rw[List.findIdx?_append] at h|-;cases hf:l.findIdx? p with
 |some k=>rfl
 |none=>
  rw[hf] at h;cases hr:r.findIdx? p with
  |none=>rw[hr] at h;simp only[Option.map_none,Option.or_none,Option.getD_none,aVc] at h;omega
  |some k=>rw[hr] at h;simp only[Option.map_some,Option.none_or,aWz] at h;omega
def YU: ∀(n:Nat) (l r:pG),l.length<=n->(G (l++r)).2=true->(G (l++r)).1<l.length->G l=G (l++r)
 |_,[],_,_,_,h=>by simp at h
 |0,_::_,_,hl,_,_=>by simp at hl
 |n+1,b::t,r,hl,h2,h1=>by
  simp only[aVd] at hl;rw[List.cons_append] at h1 h2|-;by_cases hw:vR b=true
  .rw[C1 hw] at h1 h2;rw[C1 hw,C1 hw,YU n t r pJ h2 (by simp only[BZ,aVd] at h1;omega)]
  .by_cases hb1:sV 47 47 (b::(t++r))=true
   .rw[EJ hw hb1] at h1 h2;have hp:=K8 hb1;have h1':tQ (b::(t++r))+(G ((b::(t++r)).drop (tQ (b::(t++r))))).1<(b::t).length:=h1;have hln:tQ (b::t)=tQ (b::(t++r)):=aJJ (l:=b::t) (r:=r) (by show tQ (b::(t++r))<_;omega);have h2l:2<=(b::t).length:=by omega
    have hb1':sV 47 47 (b::t)=true:=by rw[<-H0 r h2l];exact hb1
    rw[EJ hw hb1,EJ hw hb1',hln];rw[<-hln,<-List.cons_append,List.drop_append_of_le_length (by rw[hln];omega)] at h1' h2|-;rw[YU n ((b::t).drop (tQ (b::t))) r (by rw[aVh,hln];simp only[aVd] at hp|-;omega) h2 (by rw[aVh];omega)]
   .by_cases hb2:sV 47 42 (b::(t++r))=true
    .cases hc:uO ((b::(t++r)).drop 2) with
     |none=>rw[MG hw hb1 hb2 hc] at h2;cases h2
     |some e=>
      rw[EK hw hb1 hb2 hc] at h1 h2;have h1':e+4+(G ((b::(t++r)).drop (e+4))).1<(b::t).length:=h1;have h2l:2<=(b::t).length:=by omega
      have hb1': ¬sV 47 47 (b::t)=true:=by rw[<-H0 r h2l];exact hb1
      have hb2':sV 47 42 (b::t)=true:=by rw[<-H0 r h2l];exact hb2
      have hc':uO ((b::t).drop 2)=some e:=by
       rw[<-List.cons_append,List.drop_append_of_le_length h2l] at hc;exact aJI r hc (by rw[aVh];omega)
      rw[EK hw hb1 hb2 hc,EK hw hb1' hb2' hc'];rw[<-List.cons_append,List.drop_append_of_le_length pJ] at h1' h2|-;rw[YU n ((b::t).drop (e+4)) r (by rw[aVh];simp only[aVd];omega) h2 (by rw[aVh];omega)]
    .rw[GV hw hb1 hb2];have hb1': ¬sV 47 47 (b::t)=true:=fun h=>hb1 (by rw[<-List.cons_append,H0 r (YS h)];exact h);have hb2': ¬sV 47 42 (b::t)=true:=fun h=>hb2 (by rw[<-List.cons_append,H0 r (YS h)];exact h);rw[GV hw hb1' hb2']
def a92 {d:UInt8}: ∀(n:Nat) (l r:pG) (k:Nat),l.length<=n->sU d (l++r)=some k->k<l.length->sU d l=some k
 |_,[],_,_,_,_,h=>by simp at h
 |0,_::_,_,_,hl,_,_=>by simp at hl
 |n+1,b::t,r,k,hl,h,hk=>by
  simp only[aVd] at hl hk;rw[List.cons_append] at h;by_cases hd:b=d
  .rw[MB hd] at h|-;exact h
  .by_cases hb:b=92
   .rw[MC hd hb] at h|-;cases t with
    |nil=>
     cases r with
     |nil=>exact h
     |cons c u=>
      have h':(sU d u).map (· +2)=some k:=h;cases hu:sU d u with
      |none=>rw[hu] at h';cases h'
      |some j=>
       rw[hu] at h';have:j+2=k:=aVe h';simp only[aVv] at hk;omega
    |cons c u=>
     have h':(sU d (u++r)).map (· +2)=some k:=h;show (sU d u).map (· +2)=some k;cases hu:sU d (u++r) with
     |none=>rw[hu] at h';cases h'
     |some j=>
      rw[hu] at h';have hj:j+2=k:=aVe h';simp only[aVd] at hl hk;rw[a92 n u r j pJ hu pJ];exact h'
   .rw[MD hd hb] at h|-;cases hu:sU d (t++r) with
    |none=>rw[hu] at h;cases h
    |some j=>
     rw[hu] at h;have hj:j+1=k:=aVe h;rw[a92 n t r j pJ hu pJ];exact h
def In (l r:pG):Prop:=((tX (l++r)).1=1/\(tX (l++r)).2.2<=l.length)\/((tX (l++r)).1=3/\l≠[])\/((tX (l++r)).1=2/\(tX (l++r)).2.2<l.length)
def aR6 {l r:pG}(hne:l≠[]) (h:In l r):tX l=tX (l++r)/\H4 l:=by
 cases l with
 |nil=>exact absurd rfl hne
 |cons b t=>
  unfold In at h;rw[List.cons_append] at h|-;by_cases h1:b=123\/b=125
  .refine⟨by rw[FT h1,FT h1],.inr (.inl ?_)⟩;rw[FT h1]
  .by_cases h2:b=34
   .rw[DM h1 h2] at h;have key:x9 t=x9 (t++r)/\(x9 t).1=1:=by
     unfold x9 at h|-;cases he:sU 34 (t++r) with
     |none=>
      rw[he] at h;rcases h with⟨h,_⟩ |⟨h,_⟩ |⟨h,_⟩
      .exact absurd h (show¬(0:Int)=1 by decide)
      .exact absurd h (show¬(0:Int)=3 by decide)
      .exact absurd h (show¬(0:Int)=2 by decide)
     |some k=>
      rw[he] at h;dsimp only at h|-;by_cases hb:(yK 3 ((t++r).take k)).2.2≠0\/tG (yK 3 ((t++r).take k)).1=false
      .rw[aU8 hb] at h;rcases h with⟨h,_⟩ |⟨h,_⟩ |⟨h,_⟩
       .exact absurd h (show¬(0:Int)=1 by decide)
       .exact absurd h (show¬(0:Int)=3 by decide)
       .exact absurd h (show¬(0:Int)=2 by decide)
      .rw[aVa hb] at h;have hk:k+2<=(b::t).length:=by
        rcases h with⟨_,h⟩ |⟨h,_⟩ |⟨h,_⟩
        .exact h
        .exact absurd h (show¬(1:Int)=3 by decide)
        .exact absurd h (show¬(1:Int)=2 by decide)
       simp only[aVd] at hk;rw[a92 t.length t r k (aVp _) he pJ];dsimp only;rw[aV5 pJ] at hb|-;rw[aVa hb];exact⟨rfl,rfl⟩
    refine⟨by rw[DM h1 h2,DM h1 h2];exact key.1,.inl ?_⟩;rw[DM h1 h2];exact key.2
   .by_cases h3:yB b.toNat=true
    .rw[DN h1 h2 h3] at h;have hl:wA (b::(t++r))<(b::t).length:=by
      rcases h with⟨h,_⟩ |⟨h,_⟩ |⟨_,h⟩
      .exact absurd h (show¬(2:Int)=1 by decide)
      .exact absurd h (show¬(2:Int)=3 by decide)
      .exact h
     have hw:wA (b::t)=wA (b::(t++r)):=aJJ (l:=b::t) (r:=r) hl;constructor
     .rw[DN h1 h2 h3,DN h1 h2 h3,hw,<-List.cons_append,aV5 (by rw[List.cons_append];omega)]
     .refine .inr (.inr ?_);rw[DN h1 h2 h3];exact⟨rfl,by show wA (b::t)<_;omega⟩
    .rw[K9 h1 h2 h3] at h;rcases h with⟨h,_⟩ |⟨h,_⟩ |⟨h,_⟩
     .exact absurd h (show¬(0:Int)=1 by decide)
     .exact absurd h (show¬(0:Int)=3 by decide)
     .exact absurd h (show¬(0:Int)=2 by decide)
def aR7 {l r:pG}(r':pG) (hk:((tO (l++r)).1=1/\(tO (l++r)).2.2.2<=l.length)\/((tO (l++r)).1=3/\(tO (l++r)).2.2.2<=l.length)\/((tO (l++r)).1=2/\(tO (l++r)).2.2.2<l.length)):tO (l++r')=tO (l++r):=by
 unfold tO at hk;by_cases hg:(G (l++r)).2=true
 .rw[aU8 hg] at hk;dsimp only at hk;have hpos:(tX ((l++r).drop (G (l++r)).1)).1≠0->(tX ((l++r).drop (G (l++r)).1)).1≠4->0<(tX ((l++r).drop (G (l++r)).1)).2.2:=fun h0 h4=>aIq h0 h4;have hlt:(G (l++r)).1<l.length:=by
   rcases hk with⟨h,h'⟩ |⟨h,h'⟩ |⟨h,h'⟩
   .have:=hpos (by rw[h];decide) (by rw[h];decide);omega
   .have:=hpos (by rw[h];decide) (by rw[h];decide);omega
   .omega
  have hG:=YU l.length l r (aVp _) hg hlt;have hd:(l++r).drop (G (l++r)).1=l.drop (G l).1++r:=by rw[<-hG,List.drop_append_of_le_length (by rw[hG];omega)]
  rw[hd] at hk;have hne:l.drop (G l).1≠[]:=by
   intro e;have:=aVL List.length e;rw[aVh,hG] at this;simp only[aVv] at this;omega
  have hIn:In (l.drop (G l).1) r:=by
   unfold In;rw[aVh,hG];rw[hG] at hk hne;rcases hk with⟨h,h'⟩ |⟨h,h'⟩ |⟨h,h'⟩
   .exact .inl ⟨h,pJ⟩
   .exact .inr (.inl ⟨h,hne⟩)
   .exact .inr (.inr ⟨h,pJ⟩)
  obtain⟨_,hW⟩:=aR6 hne hIn;have hg':(G l).2=true:=by rw[hG];exact hg
  rw[aJH r' hg' hW,aJH r hg' hW]
 .rw[aVa hg] at hk;rcases hk with⟨h,_⟩ |⟨h,_⟩ |⟨h,_⟩
  .exact absurd h (show¬(0:Int)=1 by decide)
  .exact absurd h (show¬(0:Int)=3 by decide)
  .exact absurd h (show¬(0:Int)=2 by decide)
structure MT (s s':pG) (P P' n:Nat):Prop where
 le:P+n<=s.length
 le':P'+n<=s'.length
 eq:(s.drop P).take n=(s'.drop P').take n
def MT.tok {s s':pG}{P P' n j:Nat}(h:MT s s' P P' n) (hj:j<=n) (hk:(kS s (P+j)=1/\nS s (P+j)<=P+n)\/(kS s (P+j)=3/\nS s (P+j)<=P+n)\/(kS s (P+j)=2/\nS s (P+j)<P+n)):
  kS s' (P'+j)=kS s (P+j)/\xS s' (P'+j)=xS s (P+j)/\∃m,nS s (P+j)=P+m/\nS s' (P'+j)=P'+m/\j<=m/\m<=n:=by
 obtain⟨l,hl⟩: ∃l,((s.drop P).take n).drop j=l:=⟨_,rfl⟩;have hll:l.length=n-j:=by
  rw[<-hl,aVh,aVx,aVh];have:=h.le;omega
 have e1:s.drop (P+j)=l++s.drop (P+n):=by
  have h1:s.drop P=(s.drop P).take n++s.drop (P+n):=by
   conv=>lhs;rw[<-aWn n (s.drop P)]
   rw[aVQ]
  rw[<-aVQ,h1,List.drop_append_of_le_length (by rw[aVx,aVh];have:=h.le;omega),hl]
 have e2:s'.drop (P'+j)=l++s'.drop (P'+n):=by
  have h1:s'.drop P'=(s'.drop P').take n++s'.drop (P'+n):=by
   conv=>lhs;rw[<-aWn n (s'.drop P')]
   rw[aVQ]
  rw[<-aVQ,h1,List.drop_append_of_le_length (by rw[aVx,aVh];have:=h.le';omega),<-h.eq,hl]
 unfold kS xS nS at*;rw[e1] at hk|-;rw[e2];have hsw:=aR7 (l:=l) (r:=s.drop (P+n)) (s'.drop (P'+n)) (by
  rw[hll];rcases hk with⟨a,b⟩ |⟨a,b⟩ |⟨a,b⟩
  .exact .inl ⟨a,pJ⟩
  .exact .inr (.inl ⟨a,pJ⟩)
  .exact .inr (.inr ⟨a,pJ⟩))
 rw[hsw];refine⟨rfl,rfl,j+(tO (l++s.drop (P+n))).2.2.2,pJ,pJ,pJ,?_⟩;rcases hk with⟨a,b⟩ |⟨a,b⟩ |⟨a,b⟩<;>omega
inductive BK (s:pG) (Q:Nat) (sr tg:pG) (cm fg:pH) (st:Int) (fd:List s7) (d1 d2 d3:Bool):Bool->Nat->pG->pG->pH->pH->Int->List s7->Bool->Bool->Bool->Prop
 |com {hd:Bool}(h1:xS s Q=xW) (h2: ¬20<=cm.length) (h3:kS s (nS s Q)=1):BK s Q sr tg cm fg st fd d1 d2 d3 hd (nS s (nS s Q)) sr tg (cm++[xS s (nS s Q)]) fg st fd d1 d2 d3
 |fld {hd:Bool}(h1:xS s Q=zE) (h2:kS s (nS s Q)=1) (h3:sS (xS s (nS s Q))=true) (h4:(fd.any fun y=>decide (y.1=xS s (nS s Q)))=false) (h5: ¬20<=fd.length) (h6:kS s (nS s (nS s Q))=1):BK s Q sr tg cm fg st fd d1 d2 d3 hd (nS s (nS s (nS s Q))) sr tg cm fg st (BG fd (xS s (nS s Q)) (xS s (nS s (nS s Q)))) d1 d2 d3
 |flg (h1:xS s Q=CW) (h2:kS s (nS s Q)=2) (h3:sS (xS s (nS s Q))=true) (h4:(fg.any fun y=>decide (y=xS s (nS s Q)))=false) (h5: ¬20<=fg.length):BK s Q sr tg cm fg st fd d1 d2 d3 false (nS s (nS s Q)) sr tg cm (EN fg (xS s (nS s Q))) st fd d1 d2 d3
 |src (h1:xS s Q=uC) (h2:d1=false) (h3:kS s (nS s Q)=1):BK s Q sr tg cm fg st fd d1 d2 d3 false (nS s (nS s Q)) (xS s (nS s Q)) tg cm fg st fd true d2 d3
 |tgt (h1:xS s Q=uD) (h2:d2=false) (h3:kS s (nS s Q)=1):BK s Q sr tg cm fg st fd d1 d2 d3 false (nS s (nS s Q)) sr (xS s (nS s Q)) cm fg st fd d1 true d3
 |sta (h1:xS s Q=uP) (h2:d3=false) (h3:kS s (nS s Q)=2) (h4: ¬uJ (xS s (nS s Q))<0):BK s Q sr tg cm fg st fd d1 d2 d3 false (nS s (nS s Q)) sr tg cm fg (uJ (xS s (nS s Q))) fd d1 d2 true
section
variable {s s':pG}{P P' n j Q P1:Nat}{sr tg sr2 tg2:pG}{cm fg cm2 fg2:pH}{st st2:Int}{fd fd2:List s7}{d1 d2 d3 e1 e2 e3 hd:Bool}
def aR8 (ht:MT s s' P P' n) (hj:j<=n) (h:BK s (P+j) sr tg cm fg st fd d1 d2 d3 hd P1 sr2 tg2 cm2 fg2 st2 fd2 e1 e2 e3) (hk:kS s (P+j)=2) (hP1:P1<P+n):
  kS s' (P'+j)=2/\∃m,P1=P+m/\m<=n/\BK s' (P'+j) sr tg cm fg st fd d1 d2 d3 hd (P'+m) sr2 tg2 cm2 fg2 st2 fd2 e1 e2 e3:=by
 cases h with
 |com h1 h2 h3=>
  have p2:=wS (s:=s) (P:=nS s (P+j)) pJ pJ;obtain⟨k1,x1,m1,a1,b1,c1,c2⟩:=ht.tok hj (.inr (.inr ⟨hk,pJ⟩));rw[a1] at h3 hP1 p2|-;obtain⟨k2,x2,m2,a2,b2,c3,c4⟩:=ht.tok c2 (.inl ⟨h3,pJ⟩);refine⟨by rw[k1];exact hk,m2,a2,c4,?_⟩;have:=BK.com (s:=s') (Q:=P'+j) (sr:=sr) (tg:=tg) (cm:=cm) (fg:=fg) (st:=st) (fd:=fd) (d1:=d1) (d2:=d2) (d3:=d3) (hd:=hd) (by rw[x1];exact h1) h2 (by rw[b1,k2];exact h3);rw[b1,b2,x2] at this;exact this
 |fld h1 h2 h3 h4 h5 h6=>
  have p2:=wS (s:=s) (P:=nS s (P+j)) pJ pJ;have p3:=wS (s:=s) (P:=nS s (nS s (P+j))) pJ pJ;obtain⟨k1,x1,m1,a1,b1,c1,c2⟩:=ht.tok hj (.inr (.inr ⟨hk,pJ⟩));rw[a1] at h2 h3 h4 h6 hP1 p2 p3|-;obtain⟨k2,x2,m2,a2,b2,c3,c4⟩:=ht.tok c2 (.inl ⟨h2,pJ⟩);rw[a2] at h6 hP1 p2 p3|-;obtain⟨k3,x3,m3,a3,b3,c5,c6⟩:=ht.tok c4 (.inl ⟨h6,pJ⟩);refine⟨by rw[k1];exact hk,m3,a3,c6,?_⟩;have:=BK.fld (s:=s') (Q:=P'+j) (sr:=sr) (tg:=tg) (cm:=cm) (fg:=fg) (st:=st) (fd:=fd) (d1:=d1) (d2:=d2) (d3:=d3) (hd:=hd) (by rw[x1];exact h1) (by rw[b1,k2];exact h2) (by rw[b1,x2];exact h3) (by rw[b1,x2];exact h4) h5 (by rw[b1,b2,k3];exact h6);rw[b1,b2,b3,x2,x3] at this;exact this
 |flg h1 h2 h3 h4 h5=>
  have p2:=wS (s:=s) (P:=nS s (P+j)) pJ pJ;obtain⟨k1,x1,m1,a1,b1,c1,c2⟩:=ht.tok hj (.inr (.inr ⟨hk,pJ⟩));rw[a1] at h2 h3 h4 hP1 p2|-;obtain⟨k2,x2,m2,a2,b2,c3,c4⟩:=ht.tok c2 (.inr (.inr ⟨h2,pJ⟩));refine⟨by rw[k1];exact hk,m2,a2,c4,?_⟩;have:=BK.flg (s:=s') (Q:=P'+j) (sr:=sr) (tg:=tg) (cm:=cm) (fg:=fg) (st:=st) (fd:=fd) (d1:=d1) (d2:=d2) (d3:=d3) (by rw[x1];exact h1) (by rw[b1,k2];exact h2) (by rw[b1,x2];exact h3) (by rw[b1,x2];exact h4) h5;rw[b1,b2,x2] at this;exact this
 |src h1 h2 h3=>
  have p2:=wS (s:=s) (P:=nS s (P+j)) pJ pJ;obtain⟨k1,x1,m1,a1,b1,c1,c2⟩:=ht.tok hj (.inr (.inr ⟨hk,pJ⟩));rw[a1] at h3 hP1 p2|-;obtain⟨k2,x2,m2,a2,b2,c3,c4⟩:=ht.tok c2 (.inl ⟨h3,pJ⟩);refine⟨by rw[k1];exact hk,m2,a2,c4,?_⟩;have:=BK.src (s:=s') (Q:=P'+j) (sr:=sr) (tg:=tg) (cm:=cm) (fg:=fg) (st:=st) (fd:=fd) (d1:=d1) (d2:=d2) (d3:=d3) (by rw[x1];exact h1) h2 (by rw[b1,k2];exact h3);rw[b1,b2,x2] at this;exact this
 |tgt h1 h2 h3=>
  have p2:=wS (s:=s) (P:=nS s (P+j)) pJ pJ;obtain⟨k1,x1,m1,a1,b1,c1,c2⟩:=ht.tok hj (.inr (.inr ⟨hk,pJ⟩));rw[a1] at h3 hP1 p2|-;obtain⟨k2,x2,m2,a2,b2,c3,c4⟩:=ht.tok c2 (.inl ⟨h3,pJ⟩);refine⟨by rw[k1];exact hk,m2,a2,c4,?_⟩;have:=BK.tgt (s:=s') (Q:=P'+j) (sr:=sr) (tg:=tg) (cm:=cm) (fg:=fg) (st:=st) (fd:=fd) (d1:=d1) (d2:=d2) (d3:=d3) (by rw[x1];exact h1) h2 (by rw[b1,k2];exact h3);rw[b1,b2,x2] at this;exact this
 |sta h1 h2 h3 h4=>
  have p2:=wS (s:=s) (P:=nS s (P+j)) pJ pJ;obtain⟨k1,x1,m1,a1,b1,c1,c2⟩:=ht.tok hj (.inr (.inr ⟨hk,pJ⟩));rw[a1] at h3 h4 hP1 p2|-;obtain⟨k2,x2,m2,a2,b2,c3,c4⟩:=ht.tok c2 (.inr (.inr ⟨h3,pJ⟩));refine⟨by rw[k1];exact hk,m2,a2,c4,?_⟩;have:=BK.sta (s:=s') (Q:=P'+j) (sr:=sr) (tg:=tg) (cm:=cm) (fg:=fg) (st:=st) (fd:=fd) (d1:=d1) (d2:=d2) (d3:=d3) (by rw[x1];exact h1) h2 (by rw[b1,k2];exact h3) (by rw[b1,x2];exact h4);rw[b1,b2,x2] at this;exact this
def aR9 (hsm:s.length<=4000000000) {c:C4}{bad bad0 at0 e0:Int}{ends:pP}{i:rZ}(hQ:Q<=s.length) (hk:kS s Q=2) (hf:fd.length<=1000) (hg:fg.length<=1000) (h:BK s Q sr tg cm fg st fd d1 d2 d3 hd P1 sr2 tg2 cm2 fg2 st2 fd2 e1 e2 e3):
  uL (s,(at0,(bad0,(e0,(c,(ends,())))))) i hd ((Q:Int),bad,0,sr,tg,cm,fg,st,fd,d1,d2,d3)=some (.inl ((P1:Int),bad,0,sr2,tg2,cm2,fg2,st2,fd2,e1,e2,e3)):=by
 have hQ2:=(tC hQ).2;rw[AM hsm hQ hk];cases h with
 |com h1 h2 h3=>rw[T7 hsm hQ2 h1 h2,aU7,aU8 h3]
 |fld h1 h2 h3 h4 h5 h6=>
  rw[T8 hsm hQ2 h1 hf,aU7];unfold EM;rw[aVa (by simp [h2]),aVa (by simp [h3]),aVa (by simp [h4]),aVa h5,aVa (by simp [h6])]
 |flg h1 h2 h3 h4 h5=>
  rw[T9 hsm hQ2 h1 hg,aU7];unfold EO;rw[aVa (by simp [h2]),aVa (by simp [h3]),aVa (by simp [h4]),aVa h5]
 |src h1 h2 h3=>
  subst h2;rw[EP hsm hQ2 (by rw[h1];decide) (by rw[h1];decide) (by rw[h1];decide),aU7,aVa (by rw[h1];simp),aU8 h1,aU8 h3]
 |tgt h1 h2 h3=>
  subst h2;rw[EP hsm hQ2 (by rw[h1];decide) (by rw[h1];decide) (by rw[h1];decide),aU7,aVa (by rw[h1];simp),aVa (by rw[h1];decide),aU8 h1,aU8 h3]
 |sta h1 h2 h3 h4=>
  subst h2;rw[EP hsm hQ2 (by rw[h1];decide) (by rw[h1];decide) (by rw[h1];decide),aU7,aVa (by rw[h1];simp),aVa (by rw[h1];decide),aVa (by rw[h1];decide),aU8 h1,aU8 h3,aVa h4]
end
section
variable {s:pG}{Q:Nat}{sr tg:pG}{cm fg:pH}{st:Int}{fd:List s7}{d1 d2 d3 hd:Bool}
def aSa (hsm:s.length<=4000000000) {c:C4}{bad bad0 at0 e0:Int}{ends:pP}{i:rZ}(hQ:Q<=s.length) (hk:kS s Q=2) (hf:fd.length<=1000) (hg:fg.length<=1000) {rs:IM}
  (h:uL (s,(at0,(bad0,(e0,(c,(ends,())))))) i hd ((Q:Int),bad,0,sr,tg,cm,fg,st,fd,d1,d2,d3)=some (.inl rs)) (he:rs.2.2.1=0):
  ∃(P1:Nat) (sr2 tg2:pG) (cm2 fg2:pH) (st2:Int) (fd2:List s7) (e1 e2 e3:Bool),rs=((P1:Int),bad,0,sr2,tg2,cm2,fg2,st2,fd2,e1,e2,e3)/\BK s Q sr tg cm fg st fd d1 d2 d3 hd P1 sr2 tg2 cm2 fg2 st2 fd2 e1 e2 e3:=by
 have hQ2:=(tC hQ).2;rw[AM hsm hQ hk] at h;have nope: ∀{x:IM},some (Sum.inl x)=some (Sum.inl (β:=S9⊕GW) rs)->x.2.2.1≠0->False:=fun hx hn=>by
  have:=Sum.inl.inj (aVe hx);rw[this] at hn;exact hn he
 have e3:(3:Int)≠0:=by decide
 have e6:(6:Int)≠0:=by decide
 have e9:(9:Int)≠0:=by decide
 by_cases h1:xS s Q=xW
 .by_cases h20:20<=cm.length
  .rw[a9A hsm hQ2 h1 h20,aU7] at h;exact(nope h e6).elim
  .rw[T7 hsm hQ2 h1 h20,aU7] at h;by_cases k1:kS s (nS s Q)=1
   .rw[aU8 k1] at h;exact⟨_,_,_,_,_,_,_,_,_,_,(Sum.inl.inj (aVe h)).symm,.com h1 h20 k1⟩
   .rw[aVa k1] at h;exact(nope h e3).elim
 .by_cases h2:xS s Q=zE
  .rw[T8 hsm hQ2 h2 hf,aU7] at h;unfold EM at h;by_cases k1:kS s (nS s Q)≠1
   .rw[aU8 k1] at h;exact(nope h e3).elim
   .rw[aVa k1] at h;by_cases k2:sS (xS s (nS s Q))=false
    .rw[aU8 k2] at h;exact(nope h e3).elim
    .rw[aVa k2] at h;by_cases k3:(fd.any fun y=>decide (y.1=xS s (nS s Q)))=true
     .rw[aU8 k3] at h;exact(nope h e9).elim
     .rw[aVa k3] at h;by_cases k4:20<=fd.length
      .rw[aU8 k4] at h;exact(nope h e6).elim
      .rw[aVa k4] at h;by_cases k5:kS s (nS s (nS s Q))≠1
       .rw[aU8 k5] at h;exact(nope h e3).elim
       .rw[aVa k5] at h;exact⟨_,_,_,_,_,_,_,_,_,_,(Sum.inl.inj (aVe h)).symm,.fld h2 pJ (by simpa using k2) (Bool.eq_false_iff.2 k3) k4 pJ⟩
  .cases hd with
   |true=>
    rw[a9B hsm hQ2 h1 h2,aU7] at h;exact(nope h e3).elim
   |false=>
    by_cases h3:xS s Q=CW
    .rw[T9 hsm hQ2 h3 hg,aU7] at h;unfold EO at h;by_cases k1:kS s (nS s Q)≠2
     .rw[aU8 k1] at h;exact(nope h e3).elim
     .rw[aVa k1] at h;by_cases k2:sS (xS s (nS s Q))=false
      .rw[aU8 k2] at h;exact(nope h e3).elim
      .rw[aVa k2] at h;by_cases k3:(fg.any fun y=>decide (y=xS s (nS s Q)))=true
       .rw[aU8 k3] at h;exact(nope h e9).elim
       .rw[aVa k3] at h;by_cases k4:20<=fg.length
        .rw[aU8 k4] at h;exact(nope h e6).elim
        .rw[aVa k4] at h;exact⟨_,_,_,_,_,_,_,_,_,_,(Sum.inl.inj (aVe h)).symm,.flg h3 pJ (by simpa using k2) (Bool.eq_false_iff.2 k3) k4⟩
    .rw[EP hsm hQ2 h1 h2 h3,aU7] at h;by_cases k0:((decide (xS s Q=uC)&&d1)||(decide (xS s Q=uD)&&d2)||(decide (xS s Q=uP)&&d3))=true
     .rw[aU8 k0] at h;exact(nope h e9).elim
     .rw[aVa k0] at h;simp only[aVZ,aVg,aVf,not_or,not_and,aV6] at k0;by_cases a1:xS s Q=uC
      .rw[aU8 a1] at h;by_cases k1:kS s (nS s Q)=1
       .rw[aU8 k1] at h;exact⟨_,_,_,_,_,_,_,_,_,_,(Sum.inl.inj (aVe h)).symm,.src a1 (k0.1.1 a1) k1⟩
       .rw[aVa k1] at h;exact(nope h e3).elim
      .rw[aVa a1] at h;by_cases a2:xS s Q=uD
       .rw[aU8 a2] at h;by_cases k1:kS s (nS s Q)=1
        .rw[aU8 k1] at h;exact⟨_,_,_,_,_,_,_,_,_,_,(Sum.inl.inj (aVe h)).symm,.tgt a2 (k0.1.2 a2) k1⟩
        .rw[aVa k1] at h;exact(nope h e3).elim
       .rw[aVa a2] at h;by_cases a3:xS s Q=uP
        .rw[aU8 a3] at h;by_cases k1:kS s (nS s Q)=2
         .rw[aU8 k1] at h;by_cases k2:uJ (xS s (nS s Q))<0
          .rw[aU8 k2] at h;exact(nope h e3).elim
          .rw[aVa k2] at h;exact⟨_,_,_,_,_,_,_,_,_,_,(Sum.inl.inj (aVe h)).symm,.sta a3 (k0.2 a3) k1 k2⟩
         .rw[aVa k1] at h;exact(nope h e3).elim
        .rw[aVa a3] at h;exact(nope h e3).elim
end
def aJK {s s':pG}(hsm:s.length<=4000000000) (hsm':s'.length<=4000000000) {P P' n:Nat}(ht:MT s s' P P' n) {hd:Bool}{c c':C4}{bad bad' bad0 bad0' at0 at0' e0 e0':Int}{ends ends':pP}{i i':rZ}(he:ends.length<=5000) (he':ends'.length<=5000) {vN:pG×pG×pH×pH×Int×List s7}{bad2:Int}{ends2:pP}:
  ∀(k j:Nat) (sr tg:pG) (cm fg:pH) (st:Int) (fd:List s7) (d1 d2 d3:Bool),s.length- (P+j)<=k->j<=n->KM sr tg cm fg st fd->
  rE (uL (s,(at0,(bad0,(e0,(c,(ends,())))))) i hd) (((P+j:Nat):Int),bad,0,sr,tg,cm,fg,st,fd,d1,d2,d3)=some (.inr (((P+n:Nat):Int),bad2,0,ends2,vN))->
  rE (uL (s',(at0',(bad0',(e0',(c',(ends',())))))) i' hd) (((P'+j:Nat):Int),bad',0,sr,tg,cm,fg,st,fd,d1,d2,d3)=some (.inr (((P'+n:Nat):Int),bad',0,ends'++[((P'+n:Nat):Int)],vN))
 |k,j,sr,tg,cm,fg,st,fd,d1,d2,d3,hk,hj,hB,h=>by
  have hP:P+j<=s.length:=by have:=ht.le;omega
  have hP':P'+j<=s'.length:=by have:=ht.le';omega
  have hfl:fd.length<=1000:=by have:=(IS hB.fd).1;omega
  have hgl:fg.length<=1000:=by have:=(TG hB.fg).1;omega
  by_cases h2:kS s (P+j)=2
  .obtain⟨rs,r1,r2⟩:=aJs (c:=c) (bad:=bad) (bad0:=bad0) (at0:=at0) (e0:=e0) (ends:=ends) (i:=i) (hd:=hd) (d1:=d1) (d2:=d2) (d3:=d3) hsm hP h2 hB;rw[AO r1] at h;rcases r2 with r2|⟨P1,sr2,tg2,cm2,fg2,st2,fd2,e1,e2,e3,p1,p2,rfl,hB2⟩
   .obtain⟨p,b,e,q1,q2,q3,q4,q5,q6,q7,q8,q9⟩:=rs;rw[vB (ML r2)] at h;cases h
   .obtain⟨P1',sr3,tg3,cm3,fg3,st3,fd3,f1,f2,f3,hrs,hR⟩:=aSa hsm hP h2 hfl hgl r1 rfl;have hPP:P1=P1':=by
     have:=aVL (fun x:IM=>x.1) hrs;have this:(P1:Int)=(P1':Int):=this;omega
    subst hPP;simp only[aVD,true_and] at hrs;obtain⟨rfl,rfl,rfl,rfl,rfl,rfl,rfl,rfl,rfl⟩:=hrs;obtain⟨ro,g1,g2⟩:=YP (c:=c) (bad:=bad) (bad0:=bad0) (at0:=at0) (e0:=e0) (i:=i) (hd:=hd) hsm he s.length P1 sr2 tg2 cm2 fg2 st2 fd2 e1 e2 e3 pJ p2 hB2;have hlt:P1<P+n:=by
     rw[h] at g1;cases g1;rcases g2 with⟨_,g,_⟩ |⟨_,g,g'⟩ |⟨P3,_,_,_,_,_,_,g3,_,g4,_⟩
     .cases g
     .cases g;exact absurd rfl g'
     .have:=aVL (fun x:S9⊕GW=>match x with| .inl _=>(0:Int) | .inr y=>y.1) g4
      have this:((P+n:Nat):Int)=(P3:Int):=this;omega
    obtain⟨t1,m,t2,t3,t4⟩:=aR8 ht hj hR h2 hlt;subst t2;rw[AO (aR9 hsm' hP' t1 hfl hgl t4)]
    match k,hk with
    |0,hk=>exact absurd p2 pJ
    |k+1,hk=>exact aJK hsm hsm' ht he he' k m _ _ _ _ _ _ _ _ _ pJ t3 hB2 h
  .by_cases hx:kS s (P+j)=3/\xS s (P+j)=[125]
   .rw[vB (TA hsm hP hx.1 hx.2 he)] at h;simp only[aU9,Sum.inr.injEq,aVD] at h;obtain⟨g1,_,_,_,g2⟩:=h;have g1:(nS s (P+j):Int)=((P+n:Nat):Int):=g1;obtain⟨k1,x1,m,a1,b1,_,_⟩:=ht.tok hj (.inr (.inl ⟨hx.1,pJ⟩));have hm:m=n:=by omega
    subst hm;rw[vB (TA hsm' hP' (by rw[k1];exact hx.1) (by rw[x1];exact hx.2) he'),b1,g2]
   .rw[vB (a9E hsm hP h2 hx)] at h;simp at h
end Go.Proofs.YtbbpilohihldiaaGreatDoor
namespace Go.Proofs.YtbbpilohihldiaaGreatDoor
open Vc
section
variable {s s':pG}(hsm:s.length<=4000000000) (hsm':s'.length<=4000000000) {P P' n j:Nat}(ht:MT s s' P P' n) (hj:j<=n)
include hsm hsm' ht hj
theorem aJL {x:pG}{hd:Bool}{c c':C4}{bad bad' bad2:Int}{ends ends' ends2:pP}(he:ends.length<=5000) (he':ends'.length<=5000) {vN:pG×pG×pH×pH×Int×List s7}
  (h:vC (s,(((P+j:Nat):Int),(bad,(0,(c,(ends,())))))) (i0 x) hd=some (((P+n:Nat):Int),bad2,0,ends2,vN)):
  vC (s',(((P'+j:Nat):Int),(bad',(0,(c',(ends',())))))) (i0 x) hd=some (((P'+n:Nat):Int),bad',0,ends'++[((P'+n:Nat):Int)],vN):=by
 have hP:P+j<=s.length:=by have:=ht.le;omega
 have hP':P'+j<=s'.length:=by have:=ht.le';omega
 unfold vC at h;rw[AK hsm hP,aU7] at h;by_cases h1:(decide (kR (kS s (P+j))=3)&&(decide (([123]:pG)=[])||decide (xS s (P+j)=[123])))=true
 .rw[vJ h1] at h;dsimp only at h;have hQ:=tC hP;have h1':=h1;simp only[aVg,aVZ,aVf] at h1';have hk:kS s (P+j)=3:=(yM pK pK).1 h1'.1;have hx:xS s (P+j)=[123]:=h1'.2.resolve_left pL;obtain⟨ro,g1,g2⟩:=YP (c:=c) (bad:=bad) (bad0:=bad) (at0:=((P+j:Nat):Int)) (e0:=0) (i:=i0 x) (hd:=hd) hsm he s.length (nS s (P+j)) [] [] [] [] 0 [] false false false pJ hQ.2 a9S;have g1':rE (uL (s,(((P+j:Nat):Int),(bad,((0:Int),(c,(ends,())))))) (i0 x) hd) ((nS s (P+j):Int),bad,0,(i0 x).2.1,(i0 x).2.2.1,(i0 x).2.2.2.1,(i0 x).2.2.2.2.1,(i0 x).2.2.2.2.2.1,(i0 x).2.2.2.2.2.2.1,false,false,false)=some ro:=g1;rw[g1'] at h;rcases g2 with⟨r9,rfl,g2⟩ |⟨r10,rfl,g2⟩ |⟨P2,a1,a2,a3,a4,a5,a6,q1,q2,rfl,q3⟩
  .have:=aVe h;simp only[aVD] at this;exact absurd this.2.2.1 g2
  .have:r10=_:=aVe h;rw[this] at g2;exact absurd rfl g2
  .have hr:=aVe h;simp only[aVD] at hr;have hpn:(P2:Int)=((P+n:Nat):Int):=hr.1;obtain⟨k1,x1,m,b1,b2,_,b4⟩:=ht.tok hj (.inr (.inl ⟨hk,pJ⟩));have hl:rE (uL (s,(((P+j:Nat):Int),(bad,((0:Int),(c,(ends,())))))) (i0 x) hd) (((P+m:Nat):Int),bad,0,[],[],[],[],0,[],false,false,false)=some (.inr (((P+n:Nat):Int),bad2,0,ends2,vN)):=by
    rw[<-b1];refine g1.trans ?_;congr 2;exact aVe h
   have hl':=aJK (bad':=bad') (c':=c') (bad0':=bad') (at0':=((P'+j:Nat):Int)) (e0':=0) (i':=i0 x) hsm hsm' ht he he' s.length m [] [] [] [] 0 [] false false false pJ b4 a9S hl;unfold vC;rw[AK hsm' hP',aU7,vJ (by rw[k1,x1];exact h1)];dsimp only;rw[b2];have hl2:rE (uL (s',(((P'+j:Nat):Int),(bad',((0:Int),(c',(ends',())))))) (i0 x) hd) (((P'+m:Nat):Int),bad',0,(i0 x).2.1,(i0 x).2.2.1,(i0 x).2.2.2.1,(i0 x).2.2.2.2.1,(i0 x).2.2.2.2.2.1,(i0 x).2.2.2.2.2.2.1,false,false,false)=_:=hl';rw[hl2];rfl
 .rw[xN h1] at h;dsimp only at h;rw[vB (ML (show (3:Int)≠0 by decide))] at h;have:=aVe h;simp only[aVD] at this;exact absurd this.2.2.1 pK
theorem aSb {tag tag':pG}{cms cms':pH}{fds fds':List s7}{es es' es2:List t6}{bad bad' bad2:Int}{ends ends' ends2:pP}(he:ends.length<=5000) (he':ends'.length<=5000) (hes:DW es) (hes':es'.length<1000)
  (h:BE (s,(((P+j:Nat):Int),(bad,(0,((tag,(cms,(fds,(es,())))),(ends,()))))))=some (((P+n:Nat):Int),bad2,0,es2,ends2)) (hnew: ∀y,es2=es++[y]->(es'.any fun z=>decide (z.1=y.1))=false):
  ∃y,es2=es++[y]/\BE (s',(((P'+j:Nat):Int),(bad',(0,((tag',(cms',(fds',(es',())))),(ends',()))))))=some (((P'+n:Nat):Int),bad',0,es'++[y],ends'++[((P'+n:Nat):Int)]):=by
 have hP:P+j<=s.length:=by have:=ht.le;omega
 have hP':P'+j<=s'.length:=by have:=ht.le';omega
 have hQ:=tC hP;have hR:=tC hQ.2;have e3:(3:Int)≠0:=by decide
 have nope: ∀{x:E5},some x=some ((((P+n:Nat):Int),bad2,0,es2,ends2):E5)->x.2.2.1≠0->False:=fun hx hn=>by
  rw[aVe hx] at hn;exact hn rfl
 unfold BE at h;rw[AK hsm hP,aU7] at h;by_cases h0:(decide (kR (kS s (P+j))=2)&&(decide (([101,110,116,114,121]:pG)=[])||decide (xS s (P+j)=[101,110,116,114,121])))=true
 .have hk:kS s (P+j)=2:=(yM pK pK).1 (by rw[aVg,aVf] at h0;exact h0.1);have hPQ:P+j<nS s (P+j):=wS pJ pJ;rw[vJ h0] at h;dsimp only at h;rw[AL hsm hQ.2 pK pK,aU7] at h;by_cases hk1:kS s (nS s (P+j))=1
  .have hQR:nS s (P+j)<nS s (nS s (P+j)):=wS pJ pJ;rw[vJ (by simpa using hk1)] at h;dsimp only at h;rw[aVa (show¬(!decide ((0:Int)=0))=true from by decide),PP _ _ (show es.length<=5000 by have:=hes.len;omega),aU7,TB] at h;dsimp only at h;by_cases hid:(decide (xS s (nS s (P+j))=[])||decide ((200:Int)<((xS s (nS s (P+j))).length:Int)))=true
   .rw[aU8 hid] at h;unfold sH at h;rw[wR] at h;exact(nope h e3).elim
   .rw[aVa hid] at h;by_cases hdup:(es.any fun y=>decide (y.1=xS s (nS s (P+j))))=true
    .rw[aU8 hdup] at h;unfold sH at h;rw[wR] at h;exact(nope h (show (9:Int)≠0 by decide)).elim
    .rw[aVa hdup] at h;by_cases hm:(1000:Int)<=(es.length:Int)
     .rw[aU8 (show decide ((1000:Int)<=(es.length:Int))=true from aWh hm)] at h;unfold sH at h;rw[wR] at h;exact(nope h (show (6:Int)≠0 by decide)).elim
     .rw[aVa (show¬decide ((1000:Int)<=(es.length:Int))=true from by simpa using hm)] at h;obtain⟨r,g1,g2⟩:=YQ (c:=(tag,(cms,(fds,(es,()))))) (bad:=bad) (hd:=false) (x:=xS s (nS s (P+j))) hsm hR.2 he;have g1':vC (s,((nS s (nS s (P+j)):Int),(bad,((0:Int),((tag,(cms,(fds,(es,())))),(ends,())))))) (xS s (nS s (P+j)),([],([],([],([],(0,([],()))))))) false=some r:=g1;rw[g1',aU7,aU8 pM,aU8 pM] at h;rcases g2 with g2|⟨P2,sr,tg,cm,fg,st,fd,q1,q2,rfl,q3⟩
      .exact(nope h g2).elim
      .have hr:=aVe h;simp only[aVD] at hr;have hpn:(P2:Int)=((P+n:Nat):Int):=hr.1;have hes2:=hr.2.2.2.1;obtain⟨k1,x1,m1,a1,b1,_,c2⟩:=ht.tok hj (.inr (.inr ⟨hk,pJ⟩));have hk1':=hk1;rw[a1] at hk1';obtain⟨k2,x2,m2,a2,b2,_,c4⟩:=ht.tok c2 (.inl ⟨hk1',by rw[<-a1];omega⟩);have hpos:nS s (nS s (P+j))=P+m2:=by rw[a1];exact a2
       have hB:vC (s,(((P+m2:Nat):Int),(bad,(0,((tag,(cms,(fds,(es,())))),(ends,())))))) (i0 (xS s (nS s (P+j)))) false=some (((P+n:Nat):Int),bad,0,ends++[(P2:Int)],sr,tg,cm,fg,st,fd):=by
        rw[<-hpos,<-hpn];exact g1
       have hB':=aJL (bad':=bad') (c':=(tag',(cms',(fds',(es',()))))) (ends':=ends') hsm hsm' ht c4 he he' hB;refine⟨(xS s (nS s (P+j)),(sr,(tg,(cm,(fg,(st,(fd,()))))))),by rw[<-hes2];simp,?_⟩;have hnw:=hnew (xS s (nS s (P+j)),(sr,(tg,(cm,(fg,(st,(fd,()))))))) (by rw[<-hes2];simp);unfold BE;rw[AK hsm' hP',aU7,vJ (by rw[k1,x1];exact h0)];dsimp only;have hQ':=tC hP';have hxx:xS s' (nS s' (P'+j))=xS s (nS s (P+j)):=by rw[b1,x2,a1]
       rw[AL hsm' hQ'.2 pK pK,aU7,vJ (by rw[b1,k2];simpa using hk1')];dsimp only;rw[aVa (show¬(!decide ((0:Int)=0))=true from by decide),PP _ _ (show es'.length<=5000 by omega),aU7,TB];dsimp only;rw[hxx,aVa hid,aVa (fun hh=>aWZ (hnw.symm.trans hh)),aVa (show¬decide ((1000:Int)<=(es'.length:Int))=true from by simp;omega)];have hB2:vC (s',((nS s' (nS s' (P'+j)):Int),(bad',((0:Int),((tag',(cms',(fds',(es',())))),(ends',())))))) (xS s (nS s (P+j)),([],([],([],([],(0,([],()))))))) false=some (((P'+n:Nat):Int),bad',0,ends'++[((P'+n:Nat):Int)],sr,tg,cm,fg,st,fd):=by
        rw[b1,b2];exact hB'
       rw[hB2,aU7,aU8 pM,aU8 pM];rfl
  .rw[xN (by simpa using hk1)] at h;dsimp only at h;rw[aU8 (show (!decide ((3:Int)=0))=true from by decide)] at h;exact(nope h e3).elim
 .rw[xN h0] at h;dsimp only at h;rw[KB hsm hP e3,aU7] at h;dsimp only at h;rw[aU8 (show (!decide ((3:Int)=0))=true from by decide)] at h;exact(nope h e3).elim
end
def TL (t:pG) (y:t6):Prop:= ∀(s z:pG) (P:Nat) (bad:Int) (tag:pG) (cms:pH) (fds:List s7) (es:List t6) (ends:pP),s.length<=4000000000->At s P (t++z)->es.length<1000->(es.any fun w=>decide (w.1=y.1))=false->ends.length<=5000->
 BE (s,((P:Int),(bad,(0,((tag,(cms,(fds,(es,())))),(ends,()))))))=some (((P+t.length:Nat):Int),bad,0,es++[y],ends++[((P+t.length:Nat):Int)])
def YV {s l z:pG}{P:Nat}(h:At s P (l++z)):P+l.length<=s.length:=by
 have h1:=h.le;have h2:=aVL List.length h.eq;rw[aVh,aVc] at h2;omega
def YW {s l z:pG}{P:Nat}(h:At s P (l++z)):At s (P+l.length) z:=by
 refine⟨YV h,?_⟩;rw[<-aVQ,h.eq,aWR]
def aSc {x:t6}(h:wZ x=true):TL (yS x) x:=by
 intro s z P bad tag cms fds es ends hsm hA hes hnew he;obtain⟨P',A',e⟩:=aRF (bad:=bad) (tag:=tag) (cms:=cms) (fds:=fds) (es:=es) (ends:=ends) hsm h hes hnew he hA;obtain⟨q1,q2⟩:=aJo hsm A';obtain⟨r1,r2⟩:=aJo hsm (YW hA);have hl:=YV hA;have:P'=P+(yS x).length:=by
  have h1:=A'.le;have h2:=aVL List.length A'.eq;have h3:=aVL List.length (YW hA).eq;rw[aVh] at h2 h3;omega
 rw[e,this]
def aSd {s:pG}{P n:Nat}{tag:pG}{cms:pH}{fds:List s7}{es:List t6}{y:t6}{bad bad2:Int}{ends ends2:pP}(hsm:s.length<=4000000000) (hP:P+n<=s.length) (he:ends.length<=5000) (hes:DW es)
  (h:BE (s,((P:Int),(bad,(0,((tag,(cms,(fds,(es,())))),(ends,()))))))=some (((P+n:Nat):Int),bad2,0,es++[y],ends2)):TL ((s.drop P).take n) y:=by
 intro s' z P' bad' tag' cms' fds' es' ends' hsm' hA hes' hnew he';have hn:((s.drop P).take n).length=n:=by rw[aVx,aVh];omega
 have hl:=YV hA;rw[hn] at hl|-;have ht:MT s s' P P' n:=⟨hP,hl,by rw[hA.eq,List.take_left' hn]⟩;obtain⟨y',h1,h2⟩:=aSb (j:=0) (tag':=tag') (cms':=cms') (fds':=fds') (es':=es') (bad':=bad') (ends':=ends') hsm hsm' ht (aVX _) he he' hes hes' (by rw[aWs];exact h) (fun w hw=>by
  have:y=w:=by simpa using hw
  rw[<-this];exact hnew)
 have:y=y':=by simpa using h1
 rw[this];exact h2
inductive C5:pH->List t6->Prop
 |nil:C5 [] []
 |cons {t:pG}{y:t6}{ts:pH}{ys:List t6}(h:TL t y) (hs:C5 ts ys):C5 (t::ts) (y::ys)
def aSe {s:pG}(hsm:s.length<=4000000000) {P:Nat}(hP:P<=s.length) {tag:pG}{cms:pH}{fds:List s7}{es:List t6}{bad:Int}{ends:pP}{r:E5}
  (h:BE (s,((P:Int),(bad,(0,((tag,(cms,(fds,(es,())))),(ends,()))))))=some r) (he:r.2.2.1=0):kS s P=2:=by
 have e3:(3:Int)≠0:=by decide
 unfold BE at h;rw[AK hsm hP,aU7] at h;by_cases h0:(decide (kR (kS s P)=2)&&(decide (([101,110,116,114,121]:pG)=[])||decide (xS s P=[101,110,116,114,121])))=true
 .exact(yM pK pK).1 (by rw[aVg,aVf] at h0;exact h0.1)
 .rw[xN h0] at h;dsimp only at h;rw[KB hsm hP e3,aU7] at h;dsimp only at h;rw[aU8 (show (!decide ((3:Int)=0))=true from by decide)] at h;have:=aVe h;rw[<-this] at he;exact absurd he e3
def aJM {s tl:pG}(ht:(G tl).1=tl.length) (hsm:s.length<=4000000000) {rr:Int×Int×Int×pG×pH×List r5×pP}: ∀(ts:pH) (ys es:List t6) (P:Nat) (ends:pP),C5 ts ys->At s P (ts.flatten++tl)->(es++ys).Pairwise (fun a b=>a.1≠b.1)->es.length+ys.length<=1000->ends.length<=es.length+1->
  ∃P':Nat,rE (vD s rr) ((P:Int),0,0,es,ends)=some ((P':Int),0,0,es++ys,ends++(TK P ts).map fun n:Nat=>(n:Int))
 |_,_,es,P,ends,.nil,hA,_,_,_=>by
  refine⟨P,?_⟩;have hA':At s P tl:=hA;have hl:=aVL List.length hA'.eq;rw[aVh] at hl;have hg:=PM (KA hsm) hA.le;rw[hA'.eq,ht] at hg;rw[List.append_nil];refine(wW ?_).trans (by rw[TK,List.map_nil,List.append_nil]);unfold vD;dsimp only;rw[hg,aU8 vS,aVa];show¬(decide ((0:Int)=0)&&decide (((P+tl.length:Nat):Int)<(s.length:Int)))=true;simp;omega
 |_,_,es,P,ends,.cons (t:=t) (y:=y) (ts:=ts) (ys:=ys) h hs,hA,hp,hl,hle=>by
  rw[aVd] at hl;have e:(t::ts).flatten++tl=t++(ts.flatten++tl):=by simp
  rw[e] at hA;have hnew:(es.any fun w=>decide (w.1=y.1))=false:=by
   rw[aV1];intro w hw;simpa using(aWy.1 hp).2.2 w hw y aVw
  have h1:=h s _ P 0 rr.2.2.2.1 rr.2.2.2.2.1 rr.2.2.2.2.2.1 es ends hsm hA pJ hnew pJ;have hk:=aSe hsm hA.le h1 rfl;have hlt:P+(G (s.drop P)).1<s.length:=by
   by_cases hh:P+(G (s.drop P)).1<s.length
   .exact hh
   .have:=(k4 hA.le).2 hh;omega
  have hg:=PM (KA hsm) hA.le;obtain⟨P2,h2⟩:=aJM ht hsm (rr:=rr) ts ys (es++[y]) (P+t.length) (ends++[((P+t.length:Nat):Int)]) hs (YW hA) (by rw[aVi,aV2];exact hp) (by rw[aVc,aVT];omega) (by simp only[aVc,aVT];omega);refine⟨P2,?_⟩;have hst:vD s rr ((P:Int),0,0,es,ends)=some (.inl (((P+t.length:Nat):Int),0,0,es++[y],ends++[((P+t.length:Nat):Int)])):=by
   unfold vD;dsimp only;rw[hg,aU8 vS,aU8 (show (decide ((0:Int)=0)&&decide (val (some (((P+(G (s.drop P)).1:Nat):Int)))<(s.length:Int)))=true from by
    show (decide ((0:Int)=0)&&decide (((P+(G (s.drop P)).1:Nat):Int)<(s.length:Int)))=true;simp;omega),h1,aU7]
  rw[HR hst,h2,aVi,aVi,aV2,aV2,TK,aWq]
def KN (s:pG):Nat->pT->pH
 |_,[]=>[]
 |P,x::xs=>(s.drop P).take (x-P)::KN s x xs
def aJN (s:pG): ∀(P:Nat) (xs:pT),(KN s P xs).length=xs.length
 |_,[]=>rfl
 |_,x::xs=>by rw[KN,aVd,aVd,aJN]
def aJO (s:pG): ∀(xs:pT) (P j:Nat),j<xs.length->(KN s P xs)[j]? =some ((s.drop ((P::xs).getD j 0)).take ((P::xs).getD (j+1) 0- (P::xs).getD j 0))
 |[],_,_,h=>by simp at h
 |x::xs,P,0,_=>by rw[KN];rfl
 |x::xs,P,j+1,h=>by
  rw[KN,aVV,aJO s xs x j (by simpa using h)];rfl
def aSf (s:pG) (a:Nat) (xs:pT):(DQ s (a::xs)).drop 1=KN s a xs:=by
 apply List.ext_getElem?;intro j;rw[List.getElem?_drop];by_cases hj:j<xs.length
 .rw[aJE (by rw[aVd];omega),aJO s xs a j hj];congr 1;show qV s ((if 1+j=0 then 0 else(a::xs).getD (1+j-1) 0:Nat):Int) (((a::xs).getD (1+j) 0:Nat):Int)=_;rw[aVa pJ,aVY,Nat.add_comm 1 j];unfold qV;rw[aVN,aVN]
 .rw[aWo pM,aWo (by rw[aJN];omega)]
def PX:Nat->pT->Nat
 |P,[]=>P
 |_,x::l=>PX x l
def aJP (a:Nat): ∀(l:pT),IQ (a::l)=PX a l
 |[]=>rfl
 |x::l=>by
  have h:=aJP x l;unfold IQ at h|-;rw[aVd,aVd,Nat.add_sub_cancel,List.getD_cons_succ];rw[aVd,Nat.add_sub_cancel] at h;exact h
def aJQ {s:pG}(hsm:s.length<=4000000000) {bad:Int}{rr:Int×Int×Int×pG×pH×List r5×pP}: ∀(n P:Nat) (es:List t6) (ends:pP),s.length-P<=n->P<=s.length->DW es->ends.length=es.length+1->
  ∃ro,rE (vD s rr) ((P:Int),bad,0,es,ends)=some ro/\(ro.2.2.1=0->∃(ls:pT) (ys:List t6),ro.2.2.2.1=es++ys/\ro.2.2.2.2=ends++ls.map (fun n:Nat=>(n:Int))/\C5 (KN s P ls) ys/\PX P ls<=s.length/\(G (s.drop (PX P ls))).1=(s.drop (PX P ls)).length)
 |n,P,es,ends,hn,hP,hes,hle=>by
  have hg:=PM (KA hsm) hP;by_cases hlt:P+(G (s.drop P)).1<s.length
  .obtain⟨r,h1,h2⟩:=aJt (bad:=bad) (tag:=rr.2.2.2.1) (cms:=rr.2.2.2.2.1) (fds:=rr.2.2.2.2.2.1) hsm hP (show ends.length<=5000 by have:=hes.len;omega) hes;have hst:vD s rr ((P:Int),bad,0,es,ends)=some (.inl r):=by
    unfold vD;dsimp only;rw[hg,aU8 vS,aU8 (show (decide ((0:Int)=0)&&decide (val (some (((P+(G (s.drop P)).1:Nat):Int)))<(s.length:Int)))=true from by
     show (decide ((0:Int)=0)&&decide (((P+(G (s.drop P)).1:Nat):Int)<(s.length:Int)))=true;simp;omega),h1,aU7]
   rw[AO hst];rcases h2 with h2|⟨P',y,p1,p2,rfl,h3⟩
   .obtain⟨p,b,e,q1,q2⟩:=r;have h2':e≠0:=h2;have hs2:vD s rr (p,b,e,q1,q2)=some (.inr (p,b,e,q1,q2)):=by
     unfold vD;dsimp only;rw[aU8 (by intro hh;simp [h2'] at hh),aVa (by simp [h2'])]
    rw[vB hs2];exact⟨_,rfl,fun h=>absurd h h2'⟩
   .have hpp:P+(P'-P)=P':=by omega
    have hR:TL ((s.drop P).take (P'-P)) y:=aSd (bad2:=bad) (ends2:=ends++[(P':Int)]) hsm pJ (show ends.length<=5000 by have:=hes.len;omega) hes (by rw[hpp];exact h1)
    match n,hn with
    |0,hn=>exact absurd p2 pJ
    |n+1,hn=>
     obtain⟨ro,g1,g2⟩:=aJQ hsm (bad:=bad) (rr:=rr) n P' (es++[y]) (ends++[(P':Int)]) pJ p2 h3 (by simp only[aVc,aVT];omega);refine⟨ro,g1,fun he=> ?_⟩;obtain⟨ls,ys,k1,k2,k3,k4⟩:=g2 he;exact⟨P'::ls,y::ys,by rw[k1,aVi,aV2],by rw[k2,aVi,aV2,aWq],.cons hR k3,k4⟩
  .have hst:vD s rr ((P:Int),bad,0,es,ends)=some (.inr ((P:Int),bad,0,es,ends)):=by
    unfold vD;dsimp only;rw[hg,aU8 vS,aVa];show¬(decide ((0:Int)=0)&&decide (((P+(G (s.drop P)).1:Nat):Int)<(s.length:Int)))=true;simp;omega
   rw[vB hst];exact⟨_,rfl,fun _=>⟨[],[],by rw[List.append_nil],by rw[List.map_nil,List.append_nil],.nil,hP,by
    show (G (s.drop P)).1=(s.drop P).length;have:=MH _ (s.drop P) (aVp _);rw[aVh] at this|-;omega⟩⟩
def Gap (g:pG):Prop:= ∀r,G (g++r)=BZ g.length (G r)
def aSg:Gap []:=fun r=>by
 show G r=(0+(G r).1,(G r).2);rw[aVF]
abbrev C0:C4:=(([]:pG),(([]:pH),(([]:List r5),(([]:List rZ),()))))
def MU (h tag:pG) (cms:pH) (fds:List s7):Prop:= ∀(s z:pG) (P:Nat),s.length<=4000000000->At s P (h++z)->
 kS s P=2/\xS s P=[99,97,116,97,108,111,103]/\kS s (nS s P)=1/\xS s (nS s P)=tag/\uM tag=true/\
  ∃(sr tg:pG) (fg:pH) (st:Int),vC (s,((nS s (nS s P):Int),((0:Int),((0:Int),(C0,(([]:pP),())))))) (i0 []) true=some (((P+h.length:Nat):Int),0,0,[((P+h.length:Nat):Int)],sr,tg,cms,fg,st,fds)
def aSh {h tag:pG}{cms:pH}{fds:List s7}(hh:MU h tag cms fds) {s z:pG}(hsm:s.length<=4000000000) (hA:At s 0 (h++z)):
  CU (s,((0:Int),((0:Int),((0:Int),(C0,(([]:pP),()))))))=some ((h.length:Int),0,0,tag,cms,fds,[(h.length:Int)]):=by
 obtain⟨k1,x1,k2,x2,ht,sr,tg,fg,st,hb⟩:=hh s z 0 hsm hA;have hQ:=tC hA.le;rw[aVF] at hb;have h1:vY (s,(((0:Nat):Int),((0:Int),((0:Int),(C0,(([]:pP),())))))) 2 [99,97,116,97,108,111,103]=_:=AK hsm hA.le;have h1':vY (s,((0:Int),((0:Int),((0:Int),(C0,(([]:pP),())))))) 2 [99,97,116,97,108,111,103]=_:=h1;unfold CU;rw[h1',aU7,vJ (by rw[(yM pK pK).2 k1,x1];decide)];dsimp only;rw[AL hsm hQ.2 pK pK,aU7,vJ (by simpa using k2)];dsimp only;rw[M9 _ (KC hsm hQ.2),x2,ht,aU8 vS,aVa (show¬(decide ((0:Int)=0)&& !(val (some true)))=true from by decide)];unfold sB;rw[aU7];dsimp only;have hb':vC (s,((nS s (nS s 0):Int),((0:Int),((0:Int),(([],([],([],([],())))),(([]:pP),())))))) ([],([],([],([],([],(0,([],()))))))) true=_:=hb;rw[hb',aU7]
def aJS {s:pG}(hsm:s.length<=4000000000) {r:H7}(h:CU (s,((0:Int),((0:Int),((0:Int),(C0,(([]:pP),()))))))=some r) (he:r.2.2.1=0):
  ∃(P':Nat) (tag:pG) (cm:pH) (fd:List s7),P'<=s.length/\r=((P':Int),0,0,tag,cm,fd,[(P':Int)])/\MU (s.take P') tag cm fd:=by
 have hP:0<=s.length:=aVX _;have hQ:=tC hP;have hR:=tC hQ.2;have e3:(3:Int)≠0:=by decide
 have h1:vY (s,(((0:Nat):Int),((0:Int),((0:Int),(C0,(([]:pP),())))))) 2 [99,97,116,97,108,111,103]=_:=AK hsm hP;have h1':vY (s,((0:Int),((0:Int),((0:Int),(C0,(([]:pP),())))))) 2 [99,97,116,97,108,111,103]=_:=h1;have nope: ∀{x:H7},some x=some r->x.2.2.1≠0->False:=fun hx hn=>by
  rw[aVe hx] at hn;exact hn he
 unfold CU at h;rw[h1',aU7] at h;by_cases h0:(decide (kR (kS s 0)=2)&&(decide (([99,97,116,97,108,111,103]:pG)=[])||decide (xS s 0=[99,97,116,97,108,111,103])))=true
 .have h0':=h0;simp only[aVg,aVZ,aVf] at h0';have hk:kS s 0=2:=(yM pK pK).1 h0'.1;have hx:xS s 0=[99,97,116,97,108,111,103]:=h0'.2.resolve_left pL;rw[vJ h0] at h;dsimp only at h;rw[AL hsm hQ.2 pK pK,aU7] at h;by_cases hk1:kS s (nS s 0)=1
  .rw[vJ (by simpa using hk1)] at h;dsimp only at h;rw[M9 _ (KC hsm hQ.2),aU8 vS] at h;by_cases ht:uM (xS s (nS s 0))=true
   .rw[aVa (show¬(decide ((0:Int)=0)&& !val (some (uM (xS s (nS s 0)))))=true from by rw[ht];decide)] at h;unfold sB at h;rw[aU7] at h;dsimp only at h;obtain⟨q,g1,g2⟩:=YQ (c:=C0) (bad:=0) (ends:=[]) (hd:=true) (x:=[]) hsm hR.2 pK;have g1':vC (s,((nS s (nS s 0):Int),((0:Int),((0:Int),(([],([],([],([],())))),(([]:pP),())))))) ([],([],([],([],([],(0,([],()))))))) true=some q:=g1;rw[g1',aU7] at h;rcases g2 with g2|⟨P',sr,tg,cm,fg,st,fd,q1,q2,rfl,q3⟩
    .exact(nope h g2).elim
    .refine⟨P',xS s (nS s 0),cm,fd,q2,(aVe h).symm,?_⟩;intro s' z P hsm' hA;have hl:(s.take P').length=P':=by rw[aVx];omega
     have hAl:=YV hA;rw[hl] at hAl|-;have tw:MT s s' 0 P P':=⟨pJ,hAl,by rw[hA.eq,aWf,List.take_left' hl]⟩;obtain⟨k1,x1,m1,a1,b1,_,c2⟩:=tw.tok (j:=0) (aVX _) (.inr (.inr ⟨by simpa using hk,by
      have:=wS (s:=s) (P:=nS s 0) pJ pJ;simp only[aWs];omega⟩))
     simp only[aWs,aVF] at k1 x1 a1 b1;obtain⟨k2,x2,m2,a2,b2,_,c4⟩:=tw.tok c2 (.inl ⟨by rw[aVF,<-a1];exact hk1,by rw[aVF,<-a1];omega⟩);rw[aVF,aVF,<-a1] at a2;rw[<-b1,aVF,<-a1] at k2 x2;rw[<-b1] at b2;have hB:vC (s,(((0+m2:Nat):Int),((0:Int),((0:Int),(C0,(([]:pP),())))))) (i0 []) true=some (((0+P':Nat):Int),0,0,[(P':Int)],sr,tg,cm,fg,st,fd):=by
      rw[aVF,aVF,<-a2];exact g1
     have hB':=aJL (bad':=0) (c':=C0) (ends':=[]) hsm hsm' tw c4 pK pK hB;rw[<-b2] at hB';exact⟨k1.trans hk,x1.trans hx,k2.trans hk1,x2,ht,sr,tg,fg,st,hB'⟩
   .exfalso;rw[aU8 (show (decide ((0:Int)=0)&& !val (some (uM (xS s (nS s 0)))))=true from by rw[show uM (xS s (nS s 0))=false from by simpa using ht];decide)] at h;unfold sH at h;rw[wR] at h;unfold sB at h;rw[aU7] at h;dsimp only at h;obtain⟨ro,hro,g1,g2⟩:=IN (P:=nS s (nS s 0)) (c2:=C0) (bad:=(fS s (nS s 0):Int)) (e:=3) (ends2:=[]) (hd:=true) (i:=i0 []) hsm hR.2 pK;have hro':vC (s,((nS s (nS s 0):Int),((fS s (nS s 0):Int),((3:Int),(([],([],([],([],())))),(([]:pP),())))))) ([],([],([],([],([],(0,([],()))))))) true=some ro:=hro;rw[hro',aU7] at h;exact nope h (by show ro.2.2.1≠0;rw[g2];decide)
  .exfalso;rw[xN (by simpa using hk1)] at h;dsimp only at h;rw[aU8 (by intro hh;simp at hh),aVa (show¬(decide ((3:Int)=0)&& !val (I6 (xS s (nS s 0))))=true from by simp)] at h;unfold sB at h;rw[aU7] at h;dsimp only at h;obtain⟨ro,hro,g1,g2⟩:=IN (P:=nS s 0) (c2:=C0) (bad:=(fS s (nS s 0):Int)) (e:=3) (ends2:=[]) (hd:=true) (i:=i0 []) hsm hQ.2 pK;have hro':vC (s,((nS s 0:Int),((fS s (nS s 0):Int),((3:Int),(([],([],([],([],())))),(([]:pP),())))))) ([],([],([],([],([],(0,([],()))))))) true=some ro:=hro;rw[hro',aU7] at h;exact nope h (by show ro.2.2.1≠0;rw[g2];decide)
 .exfalso;rw[xN h0] at h;dsimp only at h;have h2:vY (s,(((0:Nat):Int),((fS s 0:Int),((3:Int),(C0,(([]:pP),())))))) 1 []=_:=KB hsm hP e3;rw[h2,aU7] at h;dsimp only at h;rw[aU8 (by intro hh;simp at hh),aVa (show¬(decide ((3:Int)=0)&& !val (I6 (xS s 0)))=true from by simp)] at h;unfold sB at h;rw[aU7] at h;dsimp only at h;obtain⟨ro,hro,g1,g2⟩:=IN (P:=0) (c2:=C0) (bad:=(fS s 0:Int)) (e:=3) (ends2:=[]) (hd:=true) (i:=i0 []) hsm hP pK;have hro':vC (s,(((0:Nat):Int),((fS s 0:Int),((3:Int),(([],([],([],([],())))),(([]:pP),())))))) ([],([],([],([],([],(0,([],()))))))) true=some ro:=hro;rw[hro',aU7] at h;exact nope h (by show ro.2.2.1≠0;rw[g2];decide)
def aSi {c:C4}(h1:uM c.1=true) (h2:xL c.2.1=true) (h3:xM c.2.2.1=true) (hl:(DT c).length<=4000000000):MU (DT c) c.1 c.2.1 c.2.2.1:=by
 have hA:At (DT c) 0 (DT c++[]):=⟨aVX _,by rw[aWf,List.append_nil]⟩;obtain⟨P1,A1,e1⟩:=aRG hl h1 h2 h3 hA;have hP:P1=(DT c).length:=by
  have:=aVL List.length A1.eq;rw[aVh,aVv] at this;have:=A1.le;omega
 obtain⟨P',tag,cm,fd,q1,q2,q3⟩:=aJS hl e1 rfl;simp only[aVD,Int.natCast_inj,true_and] at q2;obtain⟨e1,rfl,rfl,rfl,_⟩:=q2;rw[<-e1,hP,List.take_length] at q3;exact q3
def aSj {h tl tag:pG}{cms:pH}{fds:List s7}{ts:pH}{ys:List t6}(hH:MU h tag cms fds) (hR:C5 ts ys) (ht:(G tl).1=tl.length) (h6:ys.Pairwise (fun a b=>a.1≠b.1)) (h4:ys.length<=1000) (hsm:(h++(ts.flatten++tl)).length<=4000000000):
  ∃ends,EI (h++(ts.flatten++tl))=some (tag,cms,fds,ys,ends,0,0):=by
 obtain⟨s,hs⟩: ∃s,h++(ts.flatten++tl)=s:=⟨_,rfl⟩;rw[hs] at hsm|-;have hA:At s 0 (h++(ts.flatten++tl)):=⟨aVX _,by rw[aWf];exact hs.symm⟩;have e1:=aSh hH hsm hA;have A1:=YW hA;rw[aVF] at A1;obtain⟨P2,e2⟩:=aJM ht hsm (rr:=((h.length:Int),0,0,tag,cms,fds,[(h.length:Int)])) ts ys [] h.length [(h.length:Int)] hR A1 (by simpa using h6) (by simpa using h4) pL;refine⟨[(h.length:Int)]++(TK h.length ts).map fun n:Nat=>(n:Int),?_⟩;unfold EI;rw[e1,aU7];dsimp only;rw[e2];unfold sB;rw[aU7];dsimp only;rw[aVa (show¬(!decide ((0:Int)=0))=true from by decide),List.nil_append]
def aSk {s:pG}(hsm:s.length<=4000000000) {v:pG×pH×List r5×List rZ×pP×Int×Int}(h:EI s=some v) (he:v.2.2.2.2.2.2=0): ∃(a:Nat) (ls:pT),v.2.2.2.2.1=(a::ls).map (fun n:Nat=>(n:Int))/\MU (pc s (a::ls) 0) v.1 v.2.1 v.2.2.1/\C5 ((DQ s (a::ls)).drop 1) v.2.2.2.1/\(G (qV s (IQ (a::ls):Nat) (s.length:Int))).1=(qV s (IQ (a::ls):Nat) (s.length:Int)).length:=by
 obtain⟨r,h1,_⟩:=aJv hsm;unfold EI at h;rw[h1,aU7] at h;by_cases h2:r.2.2.1=0
 .obtain⟨P',tag,cm,fd,p1,rfl,hH⟩:=aJS hsm h1 h2;dsimp only at h;obtain⟨ro,g1,g2⟩:=aJQ (bad:=0) (rr:=((P':Int),0,0,tag,cm,fd,[(P':Int)])) hsm s.length P' [] [(P':Int)] pJ p1 ⟨pK,fun x hx=>(by cases hx),List.Pairwise.nil⟩ pL;rw[g1] at h;unfold sB at h;rw[aU7] at h;obtain⟨p,b,e,q1,q2⟩:=ro;dsimp only at h;by_cases hz:e=0
  .rw[aVa (by simp [hz])] at h;obtain⟨ls,ys,k1,k2,k3,k4,k5⟩:=g2 hz;have hv:=aVe h;dsimp only at k1 k2;refine⟨P',ls,?_,?_,?_,?_⟩
   .rw[<-hv];show q2=_;rw[k2];rfl
   .rw[<-hv];have:pc s (P'::ls) 0=s.take P':=by
     show qV s ((0:Nat):Int) ((P':Nat):Int)=_;unfold qV;rw[aVN,aVN,aWf,Nat.sub_zero]
    rw[this];exact hH
   .rw[<-hv,aSf];show C5 _ q1;rw[k1];exact k3
   .have:qV s (IQ (P'::ls):Nat) (s.length:Int)=s.drop (PX P' ls):=by
     rw[aJP];unfold qV;rw[aVN,aVN,List.take_of_length_le (by rw[aVh];exact aVp _)]
    rw[this];exact k5
  .rw[aU8 (by simp [hz])] at h;rw[<-aVe h] at he;exact absurd he hz
 .obtain⟨p,b,e,q1,q2,q3,q4⟩:=r;have h2':e≠0:=h2;have hs2:vD s (p,b,e,q1,q2,q3,q4) (p,b,e,[],q4)=some (.inr (p,b,e,[],q4)):=by
   unfold vD;dsimp only;rw[aU8 (by intro hh;simp [h2'] at hh),aVa (by simp [h2'])]
  dsimp only at h;rw[vB hs2] at h;unfold sB at h;rw[aU7] at h;dsimp only at h;rw[aU8 (by simp [h2'])] at h;rw[<-aVe h] at he;exact absurd he h2'
def aSl {g:pG}(hg:Gap g): ∀(n:Nat) (t:pG),t.length<=n->(G t).1=t.length->(G (t++(10::g))).1=(t++(10::g)).length:=by
 have base:(G (10::g)).1=(10::g).length:=by
  have h:=hg [];rw[List.append_nil] at h;rw[C1 pK,h];show 1+(g.length+(G []).1)=_;rw[aPA];simp only[aVd];omega
 intro n
 induction n with
 |zero=>
  intro t h _;have:t=[]:=aVE pJ;rw[this];exact base
 |succ n ih=>
  intro t h ht;cases t with
  |nil=>exact base
  |cons b t=>
   simp only[aVd] at h ht;by_cases h0:vR b=true
   .rw[C1 h0] at ht;have ht':1+(G t).1=t.length+1:=ht;rw[List.cons_append,C1 h0];show 1+(G (t++(10::g))).1=_;rw[ih t pJ pJ,aVd];omega
   .by_cases h1:sV 47 47 (b::t)=true
    .rw[EJ h0 h1] at ht;have hl:=K8 h1;have hln:tQ ((b::t)++(10::g))=tQ (b::t):=by
      unfold tQ;rw[List.findIdx?_append];cases hf:(b::t).findIdx? fun b=>decide (b=10) with
      |some k=>simp
      |none=>simp [aWd]
     have hb:sV 47 47 ((b::t)++(10::g))=true:=by
      cases t with
      |nil=>simp [sV] at h1
      |cons c t=>exact h1
     have ht':tQ (b::t)+(G ((b::t).drop (tQ (b::t)))).1=t.length+1:=ht;have hd:((b::t)++(10::g)).drop (tQ (b::t))=(b::t).drop (tQ (b::t))++(10::g):=List.drop_append_of_le_length hl.2;rw[List.cons_append] at hln hb hd|-;rw[EJ h0 hb,hln,hd];show tQ (b::t)+(G ((b::t).drop (tQ (b::t))++(10::g))).1=_;simp only[aVd] at hl;rw[ih _ (by rw[aVh];simp only[aVd];omega) (by rw[aVh];simp only[aVd];omega)];simp only[aVc,aVh,aVd];omega
    .by_cases h2:sV 47 42 (b::t)=true
     .cases hc:uO ((b::t).drop 2) with
      |none=>
       rw[MG h0 h1 h2 hc] at ht;exact absurd ht pL
      |some e=>
       rw[EK h0 h1 h2 hc] at ht;have he:=PL hc;have hb: ¬sV 47 47 ((b::t)++(10::g))=true/\sV 47 42 ((b::t)++(10::g))=true:=by
        cases t with
        |nil=>simp [sV] at h2
        |cons c t=>exact⟨h1,h2⟩
       have hc':uO (((b::t)++(10::g)).drop 2)=some e:=by
        have hlen:2<=(b::t).length:=by
         rw[aVh] at he;simp only[aVd] at he|-;omega
        rw[List.drop_append_of_le_length hlen];exact a90 _ hc
       rw[aVh] at he;simp only[aVd] at he;have ht':e+4+(G ((b::t).drop (e+4))).1=t.length+1:=ht;have hd:((b::t)++(10::g)).drop (e+4)=(b::t).drop (e+4)++(10::g):=List.drop_append_of_le_length (by simp only[aVd];omega);rw[List.cons_append] at hb hc' hd|-;rw[EK h0 hb.1 hb.2 hc',hd];show e+4+(G ((b::t).drop (e+4)++(10::g))).1=_;rw[ih _ (by rw[aVh];simp only[aVd];omega) (by rw[aVh];simp only[aVd];omega)];simp only[aVc,aVh,aVd];omega
     .rw[GV h0 h1 h2] at ht;exact absurd ht pL
def aSm:(G ([10]:pG)).1=([10]:pG).length:=by
 have h:=aSl aSg 0 [] (aVp _) rfl;exact h
structure aSn (s:pG) (c:C4) (h:pG) (ts:pH) (t:pG):Prop where
 split:DK s=some (h,ts,t,0)
 parse:zD s=some (c.1,c.2.1,c.2.2.1,c.2.2.2.1,0,0)
 body:C2 h ts t=s
 head:MU h c.1 c.2.1 c.2.2.1
 items:C5 ts c.2.2.2.1
 tail:(G t).1=t.length
 ok:yP c=true
def C5.len: ∀{ts:pH}{ys:List t6},C5 ts ys->ts.length=ys.length
 |_,_,.nil=>rfl
 |_,_,.cons _ hs=>by rw[aVd,aVd,hs.len]
def C5.set {x:pG}{y:t6}(hx:TL x y): ∀{ts:pH}{ys:List t6}(k:Nat),C5 ts ys->C5 (ts.set k x) (ys.set k y)
 |_,_,_,.nil=> .nil
 |_,_,0,.cons _ hs=> .cons hx hs
 |_,_,k+1,.cons h hs=> .cons h (hs.set hx k)
def aJT {h t:pG}{ts:pH}{c:C4}(hH:MU h c.1 c.2.1 c.2.2.1) (hR:C5 ts c.2.2.2.1) (ht:(G t).1=t.length) (h6:c.2.2.2.1.Pairwise (fun a b=>a.1≠b.1)) (h4:c.2.2.2.1.length<=1000) (hsm:(C2 h ts t).length<=4000000000):
  zD (C2 h ts t)=some (c.1,c.2.1,c.2.2.1,c.2.2.2.1,0,0):=by
 obtain⟨ends,e⟩:=aSj hH hR ht h6 h4 hsm;obtain⟨v,h1,h2,_⟩:=a9U hsm;unfold OY at h2;have e':EI (C2 h ts t)=_:=e;rw[e',aU7] at h2;rw[h1,<-h2]
def aSo {s:pG}(hsm:s.length<=4000):(∃c h ts t,aSn s c h ts t)\/∃(e:Int) (w:pG×pH×List r5×List rZ×Int×Int),e≠0/\DK s=some ([],[],[],e)/\zD s=some w/\w.2.2.2.2.2=e:=by
 have hsm':s.length<=4000000000:=by omega
 obtain⟨r,v,h1,h2,h3⟩:=aQ3 hsm';obtain⟨w,q1,q2,q3⟩:=aR1 hsm';obtain⟨u,u1,u2,_⟩:=a9U hsm';have hw:w=(v.1,v.2.1,v.2.2.1,v.2.2.2.1,v.2.2.2.2.2.1,v.2.2.2.2.2.2):=by
  rw[q1] at u1;cases u1;unfold OY at u2;rw[h2,aU7] at u2;exact(aVe u2).symm
 rcases h3 with⟨e1,e2,e3,⟨l,g1,g2,g3,g4⟩,e5⟩ |⟨e1,e2⟩
 .left;rw[g1,aWF] at e5;have hS:=aQ6 hsm' g2 g3 g4 pJ h1 e1 g1;obtain⟨a,ls,m1,m2,m3,m4⟩:=aSk hsm' h2 e2;have hl:l=a::ls:=by
   have:l.map (fun n:Nat=>(n:Int))=(a::ls).map (fun n:Nat=>(n:Int)):=by rw[<-g1,<-e3,m1]
   have inj:Function.Injective (fun n:Nat=>(n:Int)):=fun a b hab=>by
    have hab':(a:Int)=(b:Int):=hab;omega
   exact(List.map_inj_right (f:=fun n:Nat=>(n:Int)) (fun a b hab=>inj hab)).1 this
  subst hl;obtain⟨v',g1',_,_,g4'⟩:=aJw hsm';rw[h2] at g1';cases g1';refine⟨(v.1,(v.2.1,(v.2.2.1,(v.2.2.2.1,())))),_,_,_,⟨hS,?_,aR2 g2 g3 g4,m2,m3,m4,?_⟩⟩
  .rw[q1,hw,e2,(g4' e2).1]
  .have:=q2 (by rw[hw];exact e2);rw[hw] at this;exact this
 .right;refine⟨r.2.2.2.2.2.2.1,w,e1,?_,q1,by rw[hw];exact e2⟩;unfold DK;rw[h1,aU7,aU8 (by simp [e1])]
def aSp {es:List t6}{x:t6}{k:Nat}(h:es.Pairwise (fun a b=>a.1≠b.1)) (hx: ∀(j:Nat) (hj:j<es.length),j≠k->es[j].1≠x.1):(es.set k x).Pairwise (fun a b=>a.1≠b.1):=by
 rw[aWe] at h|-;intro i j hi hj hij;rw[List.length_set] at hi hj;rw[List.getElem_set,List.getElem_set];by_cases h1:k=i
 .rw[aU8 h1,aVa pJ];exact fun e=>hx j hj pJ e.symm
 .rw[aVa h1];by_cases h2:k=j
  .rw[aU8 h2];exact hx i hi pJ
  .rw[aVa h2];exact h i j hi hj hij
def aSq {es:List t6}{x:pG}{k:Nat}(hp:es.Pairwise (fun a b=>a.1≠b.1)) (h:(KG es x).2=true->(KG es x).1=(k:Int)): ∀(j:Nat) (hj:j<es.length),j≠k->es[j].1≠x:=by
 intro j hj hne he;unfold KG at h;cases hf:es.findIdx? fun y=>decide (y.1=x) with
 |none=>
  have:=aWl.1 hf es[j] (aV9 hj);rw[he] at this;simp at this
 |some i=>
  rw[hf] at h;have hik:(i:Int)=(k:Int):=h rfl;obtain⟨hi,hie,_⟩:=aVM.1 hf;have hie':es[i].1=x:=by simpa using hie
  rw[aWe] at hp;rcases aWm i j with h1|h1
  .exact hp i j hi hj h1 (by rw[hie',he])
  .exact hp j i hj hi pJ (by rw[hie',he])
def aSr {es:List t6}{x:t6}{k:Nat}(h:DW es) (hx:wZ x=true) (hf: ∀(j:Nat) (hj:j<es.length),j≠k->es[j].1≠x.1):DW (es.set k x):=
 ⟨by rw[List.length_set];exact h.len,fun y hy=>by
  rcases List.mem_or_eq_of_mem_set hy with h1|h1
  .exact h.ok y h1
  .rw[h1];exact hx,aSp h.pw hf⟩
def aSs {x:t6}(hx:wZ x=true):DW [x]:=⟨by simp,fun y hy=>by rw[aVm.1 hy];exact hx,aWK _ _⟩
def aSt {c:C4}(h:yP c=true):DW c.2.2.2.1:=by
 obtain⟨_,_,_,h4,h5,h6⟩:=TH h;exact⟨h4,h5,h6⟩
def aSu {a:Int}(h0:0<=a) (h1:a<65536) {n:Nat}(hn:0<n): ∃k:Nat,k<n/\Int.tmod (IntKind.wrap .i64 a) (n:Int)=(k:Int):=by
 obtain⟨m,rfl⟩:=Int.eq_ofNat_of_zero_le h0;refine⟨m%n,Nat.mod_lt _ hn,?_⟩;have hw:IntKind.wrap .i64 (m:Int)=(m:Int):=by
  have e:(m:Int) %2^64=m:=Int.emod_eq_of_lt pJ pJ;have e2:IntKind.wrap .i64 (m:Int)=if (true&&decide ((m:Int) %2^64>=2^63))=true then(m:Int) %2^64-2^64 else(m:Int) %2^64:=rfl;rw[e2,e,aVa pM]
 rw[hw];exact(Int.ofNat_tmod m n).symm
def aSv {x:t6}(h:wZ x=true):(yS x).length<=1600000:=aRZ h
def aSw {ts:pH}{x:pG}: ∀(k:Nat),(ts.set k x).flatten.length<=ts.flatten.length+x.length:=by
 induction ts with
 |nil=>intro k;simp
 |cons t ts ih=>
  intro k;cases k with
  |zero=>simp only[List.set_cons_zero,aWN,aVc];omega
  |succ k=>
   have:=ih k;simp only[List.set_cons_succ,aWN,aVc];omega
def aSx (s:pG) {a:Int}(h0:0<=a) (h1:a<65536) {x:t6}(hx:a9I x):M7 s a x=some true:=by
 unfold M7;rw[aQ4,aU7,aVa pK];obtain⟨b,hb,hbe,hbf⟩:=aQK x hx;rw[hb,hbe,aU8 xK];by_cases hA:((decide ((4000:Int)<(s.length:Int)))||(!b))=true
 .rw[hA,aU8 (fun h=>absurd h pK),aU8 (by rw[Bool.true_or])]
 .rw[aV6] at hA;rw[hA];simp only[aWr,aVO,aWw] at hA;have hw:=hbf hA.2;obtain⟨hv,hve⟩:=aPk x hw.fitP;rw[hv,hve,aU8 xK,Bool.false_or];by_cases hok:wZ x=true
  .rw[aVa (by rw[hok];decide)];have hs4:s.length<=4000:=by have:=hA.1;omega
   rcases aSo hs4 with⟨c,h,ts,t,hp⟩ |⟨e,w,he,g1,g2,g3⟩
   .obtain⟨tag,cms,fds,es,⟨⟩⟩:=c;obtain⟨p1,p2,p3,p4,p5,p6,p7⟩:=hp;have p7:yP (tag,(cms,(fds,(es,()))))=true:=p7;have hc:=TH p7;dsimp only at p2 p4 p5 hc;have hE:DW es:=aSt p7;have hw2:=aJz p7;have hlen:=p5.len;rw[p1,aU7,p2,aU7];dsimp only;rw[aVa pL,aJf hw2,aU8 p7,aU7];have hok1:yP (([120]:pG),(([]:pH),(([]:List r5),(([x]:List rZ),()))))=true:=a9T pX pX pX (aSs hok);rw[aJf (aJz hok1),aU8 hok1,aU7];dsimp only;rw[aVa (by simp [hlen])];have hsum:=aVL List.length p3;unfold C2 at hsum;simp only[aVc] at hsum;have hH:=aR0 p7;have hB1:(C2 (DT (tag,(cms,(fds,(es,()))))) ts [10]).length<=4000000000:=by
     unfold C2;simp only[aVc,aVd,aVv];omega
    rw[aIO (DT (tag,(cms,(fds,(es,())))),(ts,(([10]:pG),()))) (by show ts.length<=_;have:=hE.len;omega) (by exact aV7 hB1 pK),aU7];dsimp only;rw[aJT (c:=(tag,(cms,(fds,(es,()))))) (aSi hc.1 hc.2.1 hc.2.2.1 pJ) p5 aSm hE.pw hE.len hB1,aU7];dsimp only;obtain⟨q1,q2⟩:=aJD p7;dsimp only at q2;rw[q1,aU8 xK,q2,aVa pL];by_cases hz:(decide ((ts.length:Int)=(0:Int)))=true
    .rw[aU8 hz]
    .rw[aVa hz];have hz':0<ts.length:=by simp only[aVf] at hz;omega
     obtain⟨k,hk,hke⟩:=aSu h0 h1 hz';rw[aU8 (show (ts.length:Int)≠0 by omega),PP _ _ (show es.length<=5000 by have:=hE.len;omega),aU7,hke];dsimp only;by_cases hf:((KG es x.1).2&&(!decide ((KG es x.1).1=(k:Int))))=true
     .rw[aU8 hf]
     .rw[aVa hf];have hfe: ∀(j:Nat) (hj:j<es.length),j≠k->es[j].1≠x.1:=aSq hE.pw (fun h=>by
       rw[h] at hf;simpa using hf)
      have hE2:=aSr hE hok hfe;have hset:=p5.set (aSc hok) k;have hfl:=aSw (ts:=ts) (x:=yS x) k;have hil:=aSv hok;have hB2:(C2 h (ts.set k (yS x)) t).length<=4000000000:=by
       unfold C2;simp only[aVc];omega
      have hes:=hE.len;rw[List.nil_append,List.nil_append,aVN,aU8 pJ,aU8 pL,aU8 pJ,aU8 pJ,aU8 pJ];have hn:rC .str (List.map yS [x]) (0:Int)=yS x:=rfl;rw[hn,aIO (h,(ts.set k (yS x),(t,()))) (by show (ts.set k (yS x)).length<=_;rw[List.length_set];omega) (by exact aV7 hB2 pK),aU7];dsimp only;rw[aJT (c:=(tag,(cms,(fds,(es.set k x,()))))) p4 hset p6 hE2.pw hE2.len hB2,aU7];dsimp only;have p8:yP (tag,(cms,(fds,(es.set k x,()))))=true:=a9T hc.1 hc.2.1 hc.2.2.1 hE2;obtain⟨q3,q4⟩:=aJD p8;dsimp only at q4;rw[aU8 pL,q3,aU8 xK,q4];rfl
   .rw[g1,aU7,g2,aU7];dsimp only;rw[g3,aU8 (by simp [he])];simp
  .rw[aV6] at hok;rw[aU8 (by rw[hok];decide)]
end Go.Proofs.YtbbpilohihldiaaGreatDoor
namespace Go.Proofs.YtbbpilohihldiaaGreatDoor
open Go.ChangeShapes Go.WideShapes Go.ChangeAt Go.RowKit
section
variable {H:Type}{enc:TypeId×pV->H}{P:Program}
theorem aSy (hl:laidOutB P=true) {W W':pU}(hb:Below W.heap.size W W'):
  ∀{ts:List TypeId}{vs:pQ}{ds:List (DataW H)}{ps:List MemPlace},(∀t∈ts,P.readableRec t=true/\t<P.types.size)->
  DataW.TrodAll enc P W 0 (fun _=>true) true ts vs ds ps->(∀x∈ps,x.block<W.heap.size)->
  DataW.TrodAll enc P W' 0 (fun b=>decide (b<W.heap.size)) true ts vs ds ps:=by
 intro ts
 induction ts with
 |nil=>
  intro vs ds ps _ h _;obtain⟨rfl,rfl,rfl⟩:=trodAll_nil h;exact trodAll_mk0
 |cons t ts ih=>
  intro vs ds ps hr h hlt;obtain⟨v,vs',d,ds',p,q,rfl,rfl,rfl,h0,r0⟩:=trodAll_cons h;exact trodAll_cons_mk (Below.trod hl (hr t pL).1 (hr t pL).2 h0 hb (fun x hx=>hlt x (by simp [hx]))) (ih (fun t' ht'=>hr t' (by simp [ht'])) r0 (fun x hx=>hlt x (by simp [hx])))
theorem aSz {f:Func}{s:ChangeSpec}{W W':pU}{args:Array pV}{ds gs:List (DataW H)}{before:List MemPlace}{tb:TypeId}
  (hl:laidOutB P=true) (hr: ∀t∈f.params.toList,P.readableRec t=true/\t<P.types.size)
  (hW:DataW.Whole enc P f.params.toList s.vars false W args.toList ds gs before) (hv:s.vars=[])
  (hfn:s.fn H ds={results:=[.lit (.bool true)],args:=ds}) (hrt:f.resultTypes= #[tb]) (htb:P.underlying tb=some .bool)
  (hb:Below W.heap.size W W'):s.post enc P f false true false false W args (.bool true) W':=by
 have hW':=hW;obtain⟨p,q,hA,hV,rfl,hfz,hnd⟩:=hW;rw[hv] at hV;obtain⟨rfl,rfl⟩:=trodVars_none hV;have hlt: ∀x∈p,x.block<W.heap.size:=fun x hx=>by simpa using hW'.lt x (by simp [hx])
 refine⟨ds,[],p++[],[],p,[],hW',?_,?_,?_,hb.frame _,fun h=>by cases h⟩
 .rw[List.append_nil,hfn,hrt];exact trodAll_mk1 (shut_bool htb true)
 .rw[List.append_nil,hfn];exact aSy hl hb hr hA hlt
 .rw[hv,List.append_nil,hfn];rfl
end
section
variable {H:Type}{enc:TypeId×pV->H}
theorem aSA {C:Checked}{f:FuncId}{fn:Func}{s:ChangeSpec}{tb:TypeId}{H6:List (String×DataW Unit)}(own:ownKnob C.prog.godebug=none) {os:Os}(started:os.Started) (F:Stop.Interp)
  (noInit:C.prog.inits.idxOf? f=none) (hfn:C.prog.funcs[f]? =some fn)
  (hl:laidOutB C.prog=true) (hr: ∀t∈fn.params.toList,C.prog.readableRec t=true/\t<C.prog.types.size) (hv:s.vars=[])
  (hrt:fn.resultTypes= #[tb]) (htb:C.prog.underlying tb=some .bool)
  (hspec: ∀(ds:List (DataW H)) (W:pU) (args:Array pV) ps,DataW.TrodAll enc C.prog W 0 (fun _=>true) true fn.params.toList args.toList ds ps->s.fn H ds={results:=[.lit (.bool true)],args:=ds})
  (witness: ∃(w:pU) (tape:Tape) (i:Input),w.os=os/\(w.forCall tape i).Shaped C.prog/\i.vars=[]/\Input.okWide C.prog (w.forCall tape i) .any w.heap.size f i/\
   (OpenSpec.ofChange s).preRow enc C.prog fn [] false H6 (w.forCall tape i).memory i.args/\Assume.holds {} C.prog (lone (Frame.enter C.prog f i.args .normal) [] (w.forCall tape i)))
  (contract: ∀(W:pU) (base:Nat) (args:Array pV) (ds:List (DataW H)) (ps:List MemPlace),
   (∀(j:Nat) t v,fn.params[j]? =some t->args[j]? =some v->Value.okWide C.prog W .any base t v)->
   DataW.TrodAll enc C.prog W 0 (fun _=>true) true fn.params.toList args.toList ds ps->
   (∀x∈ps,x.block<W.heap.size)->(DataW.weightsEach C.prog fn.params.toList ds).all (·<=reachBytes)=true->laidMetH C.prog H6 W->W.ShapedOpen C.prog->
   Calls C.prog f args W fun e W'=>e= .returned (.bool true)/\Below W.heap.size W W'):
  ReturnsInHanded {} C os f .any ((OpenSpec.ofChange s).preRow enc C.prog fn [] false H6) (s.post enc C.prog fn false true false false):=by
 refine returnsInHanded_of_row (C:=C) (s:=OpenSpec.ofChange s) (F:=F) own started noInit hfn witness ?_;intro W base args ds gs before hval hW _ _ hsz hL hsh _;have hW':=hW;obtain⟨p,q,hA,hV,rfl,hfz,hnd⟩:=hW;have hV':DataW.TrodVars enc C.prog W (fun _=>true) s.vars gs q:=hV;rw[hv] at hV';obtain⟨rfl,rfl⟩:=trodVars_none hV';have hlt: ∀x∈p,x.block<W.heap.size:=fun x hx=>by simpa using hW'.lt x (by simp [hx])
 have hvt:(OpenSpec.ofChange s).bare.plain.varTypes C.prog=[]:=by
  simp [OpenSpec.ofChange,ChangeSpec.plain,hv];rfl
 rw[hvt,List.append_nil,List.append_nil] at hsz;refine(contract W base args ds p hval hA hlt hsz hL hsh).mono fun e W' ⟨he,hb⟩=> ?_;subst he;exact⟨_,rfl,aSz hl hr hW' hv (hspec ds W args p hA) hrt htb hb⟩
end
end Go.Proofs.YtbbpilohihldiaaGreatDoor
namespace Go.Proofs.YtbbpilohihldiaaGreatDoor
open Go.Shelf Go.Lib
open Vc
theorem aSB:(Rows.laid_unicode_utf8_first:DataW Unit)=Lib.firstData:=by kernel_rfl
theorem aSC:(Rows.laid_unicode_utf8_acceptRanges:DataW Unit)=Lib.acceptData:=by kernel_rfl
def aJU:pP:=[0,1,56,2,57,49,28,3,61,58,42,50,38,29,17,4,62,47,59,36,45,43,51,22,53,39,33,30,24,18,12,5,63,55,48,27,60,41,37,16,46,35,44,21,52,32,23,11,54,26,40,15,34,20,31,10,25,14,19,9,13,8,7,6]
theorem aSD:(Rows.laid_math_bits_deBruijn64tab:DataW Unit)=Lib.tabData .u8 aJU:=by kernel_rfl
theorem aSE {P:Program}{w:pU}{g:Nat}{t:TypeId}{k:IntKind}{zero:Array pV}(h:w.ShapedOpen P) (hg:g<P.globals.size)
  (h0:((begin P (fun _ _=>0) default).world.heap[g]?).bind Obj.row? =some (zero,t)) (hz:zero.size=1)
  (hb:P.buildable t=true) (hc:P.cellTypes P.depth t=some [t]) (hu:P.underlying t=some (.int k)): ∃m,w.cell? ⟨g,0,none⟩=some (.int k m):=by
 obtain⟨cs,hh,hs,hr⟩:=h.1 g zero t hg h0;obtain⟨ts,hts,_,hall⟩:=hr hb;rw[hc] at hts;cases hts;have h1:0<cs.size:=by omega
 obtain⟨u,hu',hok⟩:=hall 0 cs[0] (by simp [h1]);have:u=t:=by simpa using hu'.symm
 subst this;have hcell:w.cell? ⟨g,0,none⟩=some cs[0]:=by simp [World.cell?,hh,h1]
 rw[hcell];unfold Cell.ok at hok;rw[hu] at hok;cases hv:cs[0]<;>rw[hv] at hok<;>simp at hok
 rename_i k' m;exact⟨m,by rw[hok.1]⟩
theorem aSF {W:pU}(hsh:W.ShapedOpen Tryz.prog): ∃m,W.cell? ⟨0,0,none⟩=some (.int .i64 m):=
 aSE (t:=3) (zero:= #[.int .i64 0]) hsh (aVU pX) pX rfl pX pX Tryz.underlying3
def aSG:Ren:=⟨fun x=>x,fun x=>if x=5 then 5 else if x=119 then 254 else if x=138 then 256 else 257,fun x=>if x=3 then 1 else 2⟩
theorem aSH {w:pU}{a:Addr}{v:pV}(h:w.cell? a=some v):a.block<w.heap.size:=by
 unfold World.cell? at h;split at h
 .rename_i hb;exact(aVz.1 hb).1
 .cases h
theorem aSI {W:pU}(hL:laidMet Tryz.prog Rows.treePrintRow.laid W) (hsh:W.ShapedOpen Tryz.prog):KO W:=by
 obtain⟨m,hm⟩:=aSF hsh;have h0:=laidMet.reads hL (.tail _ (.head _));have h1:=laidMet.reads hL (.tail _ (.tail _ (.tail _ (.head _))));have h2:=laidMet.reads hL (.tail _ (.tail _ (.tail _ (.tail _ (.head _)))));rw[aSD] at h0;rw[aSB] at h2;rw[aSC] at h1;have hU:Lib.Utf8Tabs 1 2 W:=utf8Tabs_of_readsT (ρ:=aSG) ⟨pX,pX,pX,pX⟩ ⟨pX,pX,pX,pX,pX,pX,pX⟩ h2 h1;have hT:W.cell? ⟨5,15,none⟩=some (.int .u8 4):=by
  obtain⟨g,t,cs,fuel,p,hg,ht,hv,hd⟩:=h0;have hg0:Tryz.prog.globalNamed "math/bits.deBruijn64tab" =some 5:=by kernel_rfl
  have ht0:(Tryz.prog.globals[5]?).map (·.type)=some 289:=by kernel_rfl
  obtain rfl:=aVe (hg0.symm.trans hg);obtain rfl:=aVe (ht0.symm.trans ht);have hc:=cells_of_tab Tryz.underlying289 Tryz.underlying5 pX pX hd;rw[World.var?_cell hg hv 15,<-aWj,hc];rfl
 refine⟨?_,hU,⟨m,hm⟩,fun x hx=> ?_⟩
 .have b0:5<W.heap.size:=aSH hT;show 6<=W.heap.size;omega
 .unfold a96 at hx;obtain rfl:=aVm.1 hx;exact⟨pK,hT⟩
noncomputable def YX (os:Os):pU:=
 let w0:=World.holding Tryz.prog os ⟨#[],#[],[]⟩
 let uA (h:Array Obj) (g:Nat) (cs:Array pV):Array Obj:=h.modify g fun
  | .cells _ t frozen=> .cells cs t frozen
  |o=>o
 let h1:=uA w0.heap 1 (Lib.firstTab.map fun z=>Value.int .u8 z).toArray
 let h2:=uA h1 2 ((List.range 16).flatMap fun i=>[Value.int .u8 (Lib.accLo i),Value.int .u8 (Lib.accHi i)]).toArray
 let h3:=uA h2 5 (aJU.map fun z=>Value.int .u8 z).toArray
 let h4:=uA h3 4 (([0,1,28,2,29,14,24,3,30,22,20,15,25,17,4,8,31,27,13,23,21,19,16,7,26,12,18,6,11,5,10,9]:pP).map fun z=>Value.int .u8 z).toArray
 let h5:=uA h4 3 ((List.range 20).map fun i=>Value.int .u64 (10^i)).toArray
 {w0 with heap:=h5}
theorem aSJ (os:Os) (args:Array pV):laidMet Tryz.prog Rows.treePrintRow.laid ((YX os).forCall (fun _ _=>0) ⟨#[],args,[]⟩).memory:=
 (LaidIn.of_run [4,5,3,2,1] 8 pX pX pX pX:LaidIn Tryz.prog _ Rows.treePrintRow.laid _).met
end Go.Proofs.YtbbpilohihldiaaGreatDoor
namespace Go.Proofs.YtbbpilohihldiaaGreatDoor
open Vc Go.RowKit
inductive a93 where
 |ty (t:TypeId) |fs (o:Nat) (l:List Field)
inductive zH (P:Program):a93->Ty->Prop
 |bool {t}:P.underlying t=some .bool->zH P (.ty t) .bool
 |int {t k}:P.underlying t=some (.int k)->zH P (.ty t) (.int k)
 |str {t}:P.underlying t=some .string->zH P (.ty t) .str
 |list {t e u}:P.underlying t=some (.slice e)->P.cellsOf e=u.cells->0<u.cells->0<P.bytesOf e->zH P (.ty e) u->zH P (.ty t) (.list u)
 |struct {t fs ty}:ty.isRow=true->P.underlying t=some (.struct fs)->P.cellsOf t=ty.cells->zH P (.fs 0 fs.toList) ty->zH P (.ty t) ty
 |nil {o}:zH P (.fs o []) .unit
 |cons {o}{f:Field}{r a b}:f.offset=o->P.cellsOf f.type=a.cells->zH P (.ty f.type) a->zH P (.fs (o+a.cells) r) b->zH P (.fs o (f::r)) (.pair a b)
def Bd:(t:Ty)->t.den->Prop
 | .str,s=>List.length s<=140737488351232
 | .int k,n=>(Lit.int k n).wf=true
 | .list u,l=>List.length l<=140737488351232/\∀x:u.den,x∈(l:List u.den)->Bd u x
 | .pair a b,x=>Bd a x.1/\Bd b x.2
 |_,_=>True
def H5 (w:pU):Gh:=⟨fun b _=>b<w.heap.size,fun _=>none,fun _ _=>none⟩
theorem aJV {α:Type}{R:α->pQ->Prop}{w:pU}{S:Nat->Nat->Prop}{c b:Nat}: ∀{l:List α}{o:Nat},(∀i x,l[i]? =some x->∃cs,cs.length=c/\w.rangeAt b (o+i*c) cs/\(∀j,j<c->S b (o+i*c+j))/\R x cs)->yU R w S c b o l
 |[],_,_=>trivial
 |x::l,o,h=>by
  refine⟨?_,aJV fun i y hy=> ?_⟩
  .obtain⟨cs,h1,h2,h3,h4⟩:=h 0 x rfl;exact⟨cs,h1,by simpa using h2,by simpa using h3,h4⟩
  .obtain⟨cs,h1,h2,h3,h4⟩:=h (i+1) y (by simpa using hy);have e:o+(i+1)*c=o+c+i*c:=by rw[aWi];omega
   exact⟨cs,h1,by rw[<-e];exact h2,by rw[<-e];exact h3,h4⟩
section
variable {H:Type}{enc:TypeId×pV->H}{P:Program}{W:pU}
theorem aJW {e:TypeId}: ∀{l:List (DataW H)}{i:Nat}{d:DataW H},l[i]? =some d->∀n∈d.weights P e,n∈DataW.weightsAll P e l
 |d0::l,0,d,h,n,hn=>by
  simp only[aVI,aU9] at h;subst h;simp only[DataW.weightsAll,aWa];exact .inl hn
 |d0::l,i+1,d,h,n,hn=>by
  simp only[aVV] at h;simp only[DataW.weightsAll,aWa];exact .inr (aJW h n hn)
 |[],_,_,h,_,_=>by simp at h
def aSK (enc:TypeId×pV->H) (P:Program) (W:pU):a93->Ty->Prop
 | .ty t,u=> ∀(fuel:Nat) (cs:pQ) (y:DataW H×List MemPlace),DataW.trod enc P W 0 (fun _=>true) true fuel t cs=some y->(∀n∈y.1.weights P t,n<=reachBytes)->∃x:u.den,Rd (H5 W) W u x cs/\Bd u x
 | .fs o l,u=> ∀(fuel:Nat) (cs:pQ) (xs:List (DataW H×List MemPlace)),cs.length=o+u.cells->xs.length=l.length->(∀(i:Nat) (f:Field),l[i]? =some f->DataW.trod enc P W 0 (fun _=>true) true fuel f.type ((cs.drop f.offset).take (P.cellsOf f.type))=xs[i]?)->(∀n∈DataW.weightsEach P (l.map (·.type)) (xs.map (·.1)),n<=reachBytes)->∃x:u.den,Rd (H5 W) W u x (cs.drop o)/\Bd u x
theorem aSL {e:TypeId}{u:Ty}{a:Addr}{len cap:Nat}(hc:P.cellsOf e=u.cells) (hpos:0<u.cells) (hcap:len<=cap)
  (each: ∀i,i<len->∃(cs:pQ) (x:u.den),W.cells? 0 (a.add (i*u.cells)) u.cells=some cs/\Rd (H5 W) W u x cs/\Bd u x):
  ∃l:List u.den,l.length=len/\Rd (H5 W) W (.list u) l [.slice (some a) len cap]/\∀x∈l,Bd u x:=by
 have build: ∀k,k<=len->∃l:List u.den,l.length=k/\∀i x,l[i]? =some x->∃cs:pQ,W.cells? 0 (a.add (i*u.cells)) u.cells=some cs/\Rd (H5 W) W u x cs/\Bd u x:=by
  intro k
  induction k with
  |zero=>intro _;exact⟨[],rfl,fun i x h=>by simp at h⟩
  |succ k ih=>
   intro hk;obtain⟨l,h1,h2⟩:=ih pJ;obtain⟨cs,x,h3,h4⟩:=each k pJ;refine⟨l++[x],by simp [h1],fun i y hy=> ?_⟩;rw[List.getElem?_append] at hy;split at hy
   .exact h2 i y hy
   .rename_i hi;obtain⟨j,hj⟩: ∃j,i=l.length+j:=⟨i-l.length,pJ⟩;subst hj;rw[aVY] at hy;cases j with
    |zero=>
     simp only[aVI,aU9] at hy;subst hy;exact⟨cs,by rw[aWs,h1];exact h3,h4⟩
    |succ j=>simp at hy
 obtain⟨l,hll,hle⟩:=build len (aVp _);refine⟨l,hll,?_,fun x hx=> ?_⟩
 .subst hll;by_cases hl0:l=[]
  .subst hl0;exact⟨some a,cap,rfl,hcap,.inl rfl⟩
  .obtain⟨b,off,spot⟩:=a;have hlp:0<l.length:=aWB.2 hl0;have hspot:spot=none:=by
    obtain⟨cs,x,h3,_⟩:=each 0 hlp;have h4:=(World.cells?_some h3).2.2 0 hpos;have hlen0:=(World.cells?_some h3).2.1;rw[aVj pJ] at h4;simpa[Addr.add] using World.cell?_spot h4
   subst hspot;refine⟨_,cap,rfl,hcap,.inr ⟨b,off,rfl,aJV fun i x hx=> ?_⟩⟩;obtain⟨cs,h3,h4,_⟩:=hle i x hx;obtain⟨_,h5,h6⟩:=World.cells?_some h3;have hcell: ∀j v,cs[j]? =some v->W.cell? ⟨b,off+i*u.cells+j,none⟩=some v:=by
    intro j v hv;have hj:j<u.cells:=by have:=(aVq.1 hv).1;omega
    have:=h6 j hj;rw[hv] at this;rw[aW2,aW2] at this;exact this
   refine⟨cs,h5,hcell,fun j hj=> ?_,h4⟩;exact Vc.V3 (hcell 0 _ (aVj pJ))
 .obtain⟨i,hi,he⟩:=aXc hx;obtain⟨cs,h3,h4,h5⟩:=hle i x (by rw[aVj hi,he]);exact h5
theorem aSM {ix:a93}{u:Ty}(h:zH P ix u):aSK enc P W ix u:=by
 induction h with
 |bool ht=>
  intro fuel cs y hy _;obtain⟨b,rfl,_⟩:=DataW.trod_bool ht hy;exact⟨b,rfl,trivial⟩
 |int ht=>
  intro fuel cs y hy _;obtain⟨n,rfl,_,hw⟩:=DataW.trod_int ht hy;exact⟨n,rfl,hw⟩
 |str ht=>
  intro fuel cs y hy hw;obtain⟨s,rfl,rfl,_⟩:=DataW.trod_string ht hy;refine⟨s.data.toList,by show [Value.string s]=[Value.string ⟨s.data.toList.toArray⟩];rw[aWI],?_⟩;exact hw _ (by simp [DataW.weights])
 | @list t e u ht hc hpos hb _ ih=>
  intro fuel cs y hy hw;rcases DataW.trod_slice ht hy with⟨rfl,_⟩ |⟨a,len,cap,elems,rest,n,_,rfl,rfl,_,hl,_,hlen,hall,_,_⟩
  .exact⟨[],⟨none,0,rfl,aVp _,.inl rfl⟩,by simp,fun x hx=>by cases hx⟩
  .have hws:DataW.weights P t (.slice (elems.map (·.1)) (rest.map (·.1)))=((elems.map (·.1)).length+(rest.map (·.1)).length)*P.bytesOf e::(DataW.weightsAll P e (elems.map (·.1))++DataW.weightsAll P e (rest.map (·.1))):=by
    simp [DataW.weights,ht]
   rw[hws] at hw;have hn:=hw _ aVw;obtain⟨l,h1,h2,h3⟩:=aSL (W:=W) (a:=a) (cap:=cap) hc hpos hl fun i hi=>by
    have h1:=hall i hi;rw[hc,aVj pJ,Option.bind_eq_some_iff] at h1;obtain⟨cs,h2,h3⟩:=h1;obtain⟨x,hx⟩:=ih n cs _ h3 fun m hm=>hw m (by
     refine aVr _ (aWa.2 (.inl (aJW (i:=i) ?_ m hm)));rw[List.getElem?_map,aVj pJ];rfl)
    exact⟨cs,x,h2,hx⟩
   refine⟨l,h2,?_,h3⟩;have:elems.length<=(elems.length+rest.length)*P.bytesOf e:=by
    calc elems.length<=(elems.length+rest.length)*1:=by omega
     _<=_:=Nat.mul_le_mul_left _ hb
   simp only[aWF] at hn;have hr:reachBytes=140737488351232:=rfl;show l.length<=_;omega
 |struct hrow ht hcl _ ih=>
  intro fuel cs y hy hw;obtain⟨xs,n,rfl,rfl,hl,hlen,hf⟩:=DataW.trod_struct ht hy;have:=ih n cs xs (by rw[hl,hcl];omega) (by rw[hlen];simp) (fun i f hi=>hf i f (by simpa using hi)) fun m hm=>hw m (by simpa[DataW.weights,ht] using hm);rwa [aWf] at this
 |nil=>
  intro fuel cs xs hl _ _ _;refine⟨(),?_,trivial⟩;show cs.drop _=[];exact List.drop_of_length_le (by simp [Ty.cells] at hl;omega)
 | @cons o f r a b ho hc _ _ iha ihb=>
  intro fuel cs xs hl hx hf hw;cases xs with
  |nil=>simp at hx
  |cons x0 xs=>
   have h0:=hf 0 f rfl;rw[hc,ho] at h0;obtain⟨xa,ra,ba⟩:=iha fuel _ x0 h0 fun m hm=>hw m (by simp only[aWq,DataW.weightsEach,aWa];exact .inl hm);obtain⟨xb,rb,bb⟩:=ihb fuel cs xs (by simp only[Ty.cells] at hl;omega) (by simpa using hx) (fun i f' hi=>by have:=hf (i+1) f' (by simpa using hi);simpa using this) fun m hm=>hw m (by simp only[aWq,DataW.weightsEach,aWa];exact .inr hm);refine⟨(xa,xb),⟨_,_,(aWn a.cells (cs.drop o)).symm,ra,?_⟩,ba,bb⟩;rw[aVQ];exact rb
theorem a94 {t:TypeId}{u:Ty}{base:Nat}{v:pV}{d:DataW H}{ps:List MemPlace}(h:zH P (.ty t) u) (hok:Value.okWide P W .any base t v) (hT:DataW.Trod enc P W 0 (fun _=>true) true t v d ps) (hw: ∀n∈d.weights P t,n<=reachBytes): ∃x:u.den,tJ (H5 W) W u x v/\Bd u x:=by
 obtain⟨fuel,hf⟩:=hT;obtain⟨x,hx,hb⟩:=aSM (enc:=enc) (W:=W) h fuel _ _ hf hw;refine⟨x,?_,hb⟩;cases h with
 |bool ht=>obtain⟨b,rfl⟩:=Go.WideShapes.okWide_bool ht hok;exact .inr ⟨rfl,hx⟩
 |int ht=>obtain⟨b,rfl⟩:=Go.WideShapes.okWide_int ht hok;exact .inr ⟨rfl,hx⟩
 |str ht=>obtain⟨b,rfl⟩:=Go.WideShapes.okWide_string ht hok;exact .inr ⟨rfl,hx⟩
 |list ht=>obtain⟨a,l,c,rfl⟩:=Go.WideShapes.okWide_slice ht hok;exact .inr ⟨rfl,hx⟩
 |struct hrow ht=>obtain⟨cs,rfl,_⟩:=Go.WideShapes.okWide_struct ht hok;exact .inl ⟨hrow,cs.toList,by rw[aWI],hx⟩
end
end Go.Proofs.YtbbpilohihldiaaGreatDoor
namespace Go.Proofs.YtbbpilohihldiaaGreatDoor
open Vc
open Go.ChangeShapes Go.WideShapes Go.ChangeAt Go.RowKit
theorem MV:zH Tryz.prog (.ty 9) .str:= .str Tryz.underlying9
theorem aJX:zH Tryz.prog (.ty 23) (.list .str):= .list Tryz.underlying23 pX pK (aVU pX) MV
theorem aSN:zH Tryz.prog (.ty 149) (.pair .str (.pair .str .unit)):=by
 refine .struct rfl Tryz.underlying149 pX ?_;exact .cons rfl pX MV (.cons rfl pX MV .nil)
theorem aSO:zH Tryz.prog (.ty 24) (.list (.pair .str (.pair .str .unit))):= .list Tryz.underlying24 pX pK (aVU pX) aSN
theorem aSP:zH Tryz.prog (.ty 55) t7:=by
 refine .struct rfl Tryz.underlying55 pX ?_;exact .cons rfl pX MV (.cons rfl pX MV (.cons rfl pX MV (.cons rfl pX aJX (.cons rfl pX aJX (.cons rfl pX (.int Tryz.underlying3) (.cons rfl pX aSO .nil))))))
theorem aSQ {x:t6}(h:Bd t7 x):a9I x:=by
 obtain⟨h1,h2,h3,⟨h4,k4⟩,⟨h5,k5⟩,_,⟨h7,k7⟩,_⟩:=h;exact⟨h1,h2,h3,⟨h4,k4⟩,⟨h5,k5⟩,h7,fun y hy=>⟨(k7 y hy).1,(k7 y hy).2.1⟩⟩
theorem aSR:zH Tryz.prog (.ty 5) (.int .u8):= .int Tryz.underlying5
theorem aJY {n:Int}(h:Bd (.int .u8) n):0<=n/\n<65536:=by
 have h':(Lit.int .u8 n).wf=true:=h;unfold Lit.wf at h';rw[aVg,aVf,aVf] at h';have h1:(0:Int)<=n:=h'.1;have h2:n<=2^8-1:=h'.2;omega
theorem aSS {W:pU}(hT:KO W) (v0 v1 v2:pV) (x0:pG) (x1:Int) (x2:t6) (h0:tJ (H5 W) W .str x0 v0) (h1:tJ (H5 W) W (.int .u8) x1 v1) (h2:tJ (H5 W) W t7 x2 v2) (B0:Bd .str x0) (B1:Bd (.int .u8) x1) (B2:Bd t7 x2):
  Calls Tryz.prog 9 #[v0,v1,v2] W fun e W'=>e= .returned (.bool true)/\Below W.heap.size W W':=by
 have hC:a9e (SQ x0 x1 x2) XN=some (PA x0 x1 x2):=aOP _ _ _;have ht:=aSx x0 (aJY B1).1 (aJY B1).2 (aSQ B2);refine(aOR.1.2 (H5 W) W (SQ x0 x1 x2) [v0,v1,v2] [] _ ⟨(fun i b h=>by cases h),(fun i j bi bj b o _ h=>by cases h),fun b o h=>h,hT,(fun i blk b o h=>by cases h)⟩ ⟨v0,[v1,v2],rfl,⟨h0,trivial⟩,v1,[v2],rfl,⟨h1,trivial⟩,v2,[],rfl,⟨h2,trivial⟩,rfl⟩ hC ?_).mono fun e W' ⟨v,g',he,r⟩=> ?_
 .intro p hp;have:p=((M7 x0 x1 x2).isSome=true):=by simpa[PA] using hp
  rw[this,ht];rfl
 .have hv:v= .bool true:=by
   have h1:=r.ret;unfold PA at h1;rw[ht] at h1;exact xR h1.1
  subst hv;exact⟨he,⟨r.fr.os,r.fr.tape,r.fr.output,r.fr.size,fun k hk=>r.fr.blk k hk (fun o ⟨i,blk,hi,_⟩=>by cases hi)⟩⟩
end Go.Proofs.YtbbpilohihldiaaGreatDoor
namespace Go.Proofs.YtbbpilohihldiaaGreatDoor
open Go.ChangeShapes Go.WideShapes Go.ChangeAt Go.RowKit Go.Lib
theorem aST:(Rows.treeExchangeRow.inPlace==Tryz.prog.inPlace 9)=true:=by kernel_rfl
theorem aSU:(Rows.treeExchangeRow.unfollowed==Tryz.prog.unfollowed 9)=true:=by kernel_rfl
theorem aSV:(Rows.treeExchangeRow.recurses==Tryz.prog.recurses 9)=true:=by kernel_rfl
theorem aSW:(Rows.treeExchangeRow.named==Tryz.prog.varsNamed 9)=true:=by kernel_rfl
theorem aSX:joinedFacts Tryz.prog 9 Tryz.f9 Rows.treeExchangeSpec Rows.treeExchangeRow=true:=by
 unfold joinedFacts;rw[aST,aSU,aSV,aSW]
 kernel_rfl
namespace treeExchangeLaw
theorem own:ownKnob Tryz.prog.godebug=none:=by kernel_rfl
theorem H6:laidOutB Tryz.prog=true:=by kernel_rfl
theorem aSY:Tryz.prog.readableRec 55=true:=by kernel_rfl
theorem aSZ:55<Tryz.prog.types.size:=aVU pX
theorem aS0:Tryz.prog.readableRec 9=true:=by kernel_rfl
theorem aS1:9<Tryz.prog.types.size:=aVU pX
theorem aS2:Tryz.prog.readableRec 5=true:=by kernel_rfl
theorem aS3:5<Tryz.prog.types.size:=aVU pX
theorem aS4 (os:Os) {H:Type}(enc:TypeId×pV->H):
  (OpenSpec.ofChange Rows.treeExchangeSpec).preRow enc Tryz.prog Tryz.f9 [] false Rows.treeExchangeRow.laid ((YX os).forCall (fun _ _=>0) ⟨#[],#[.string ⟨#[]⟩,.int .u8 0,.agg #[.string ⟨#[]⟩,.string ⟨#[]⟩,.string ⟨#[]⟩,.slice none 0 0,.slice none 0 0,.int .i64 0,.slice none 0 0]],[]⟩).memory #[.string ⟨#[]⟩,.int .u8 0,.agg #[.string ⟨#[]⟩,.string ⟨#[]⟩,.string ⟨#[]⟩,.slice none 0 0,.slice none 0 0,.int .i64 0,.slice none 0 0]]:=by
 have hw:(DataW.whole enc Tryz.prog ((YX os).forCall (fun _ _=>0) ⟨#[],#[.string ⟨#[]⟩,.int .u8 0,.agg #[.string ⟨#[]⟩,.string ⟨#[]⟩,.string ⟨#[]⟩,.slice none 0 0,.slice none 0 0,.int .i64 0,.slice none 0 0]],[]⟩).memory Tryz.f9.params.toList (OpenSpec.ofChange Rows.treeExchangeSpec).vars false #[.string ⟨#[]⟩,.int .u8 0,.agg #[.string ⟨#[]⟩,.string ⟨#[]⟩,.string ⟨#[]⟩,.slice none 0 0,.slice none 0 0,.int .i64 0,.slice none 0 0]].toList 8).map (fun x=>(x.1,x.2.1))=
   some ([.lit (.string []),.lit (.int .u8 0),.agg [.lit (.string []),.lit (.string []),.lit (.string []),.nil,.nil,.lit (.int .i64 0),.nil]],[]):=by kernel_rfl
 obtain⟨⟨x1,x2,x3⟩,hx,hx1⟩:=aVo.1 hw;simp only[aVD] at hx1;obtain⟨rfl,rfl⟩:=hx1;exact OpenSpec.preRow_of_cond 8 hx pX (fun k hk=>by cases hk) pX (aSJ os _)
theorem lifted (os:Os) (started:os.Started) (H:Type) (enc:TypeId×pV->H) (F:Stop.Interp):
  ReturnsInHanded {} Tryz.checked os 9 .any ((OpenSpec.ofChange Rows.treeExchangeSpec).preRow enc Tryz.prog Tryz.f9 [] false Rows.treeExchangeRow.laid) (Rows.treeExchangeSpec.post enc Tryz.prog Tryz.f9 false true false false):=by
 refine aSA (C:=Tryz.checked) (tb:=4) own started F pX Tryz.func9 H6 ?_ rfl rfl Tryz.underlying4 ?_
  (witness_row_atRef (enc:=enc) (C:=Tryz.checked) false (YX os) #[.string ⟨#[]⟩,.int .u8 0,.agg #[.string ⟨#[]⟩,.string ⟨#[]⟩,.string ⟨#[]⟩,.slice none 0 0,.slice none 0 0,.int .i64 0,.slice none 0 0]] rfl pX pX pX (aS4 os enc)) ?_
 .intro t ht;rw[Tryz.params9] at ht;simp only[aVs,aW9,or_false] at ht;rcases ht with rfl|rfl|rfl
  .exact⟨aS0,aS1⟩
  .exact⟨aS2,aS3⟩
  .exact⟨aSY,aSZ⟩
 .intro ds W args ps h;have h':DataW.TrodAll enc Tryz.prog W 0 (fun _=>true) true Tryz.f9.params.toList args.toList ds ps:=h;rw[Tryz.params9] at h';obtain⟨v0,v1,v2,d0,d1,d2,p0,p1,p2,rfl,rfl,rfl,h0,h1,h2⟩:=trodAll_three h';rfl
 .intro W base args ds ps hval0 hA0 hlt hsz0 hL hsh;have hval: ∀(j:Nat) t v,Tryz.f9.params[j]? =some t->args[j]? =some v->Value.okWide Tryz.prog W .any base t v:=hval0;have hA:DataW.TrodAll enc Tryz.prog W 0 (fun _=>true) true Tryz.f9.params.toList args.toList ds ps:=hA0;have hsz:(DataW.weightsEach Tryz.prog Tryz.f9.params.toList ds).all (·<=reachBytes)=true:=hsz0;rw[Tryz.params9] at hA hval hsz;obtain⟨v0,v1,v2,d0,d1,d2,p0,p1,p2,rfl,rfl,rfl,h0,h1,h2⟩:=trodAll_three hA;obtain⟨x0,g0,B0⟩:=a94 MV (hval 0 9 v0 rfl rfl) h0 (fun n hn=>by
   have:=aV4.1 hsz n (DataW.weights_mem_each (j:=0) rfl rfl n hn);simpa using this)
  obtain⟨x1,g1,B1⟩:=a94 aSR (hval 1 5 v1 rfl rfl) h1 (fun n hn=>by
   have:=aV4.1 hsz n (DataW.weights_mem_each (j:=1) rfl rfl n hn);simpa using this)
  obtain⟨x2,g2,B2⟩:=a94 aSP (hval 2 55 v2 rfl rfl) h2 (fun n hn=>by
   have:=aV4.1 hsz n (DataW.weights_mem_each (j:=2) rfl rfl n hn);simpa using this)
  exact aSS (aSI hL hsh) v0 v1 v2 x0 x1 x2 g0 g1 g2 B0 B1 B2
end treeExchangeLaw
theorem aJZ:Rows.TreeExchangeSaid:=
 OpenClaim.holds_of_wide 9 Tryz.f9 rfl rfl rfl rfl rfl rfl rfl ⟨rfl,rfl,rfl,rfl,rfl⟩ rfl rfl rfl rfl rfl pX Tryz.func9 aSX
  (aVU pX) (by unfold Func.isWrapper;first|(rw[aU8 (by decide+kernel)];kernel_rfl) |(rw[aVa (by decide+kernel)];exact⟨rfl,rfl⟩))
  (fun os started H enc _=>by rw[OpenClaim.pre_eq_preRow];exact treeExchangeLaw.lifted os started H enc (fun _ _ _=>0))
#print axioms aJZ
end Go.Proofs.YtbbpilohihldiaaGreatDoor
namespace Go.Proofs.YtbbpilohihldiaaGreatDoor
open Go
theorem aS5:Rows.treeExchangeRow.wfByText (OpenSpec.ofChange Rows.treeExchangeSpec)=true:=by kernel_rfl
theorem aS6:Tryz.prog.mainIs=some (true, "a32bce6e8aa7af12dc4e9cc10fcfd390a8b62eedc0063c9f8df073b3dc5897a3".toList):=by kernel_rfl
theorem aS7:false=Tryz.prog.looks []:=by kernel_rfl
theorem aS8:false=Rows.treeExchangeRow.goesBy Tryz.prog:=by kernel_rfl
theorem aS9:Tryz.prog.funcNamed "calque/calquelaw40.TreeExchange" =some 9:=by kernel_rfl
theorem aTa:([9,5,55].all fun u=> !Tryz.prog.wantsStandIn u)=true:=by kernel_rfl
theorem treeExchangeCard_holds:Rows.TreeExchangeCardSaid:=
 Claim7.holds_tied_plain_at .later [] [.data,.data,.data,.data,.pinned] true (true, "a32bce6e8aa7af12dc4e9cc10fcfd390a8b62eedc0063c9f8df073b3dc5897a3") false
  aJZ (fun _ h=>by cases h) aS5 (fun _ h=>by cases h) treeExchange_row_tie rfl ⟨rfl,rfl⟩ aS6 rfl
  (fun f fn hf hfn=>by
   obtain rfl:f=9:=aVe (aS9.symm.trans hf) |>.symm
   obtain rfl:fn=Tryz.f9:=(aVe (Tryz.func9.symm.trans hfn)).symm;exact⟨aS7,fun j t ht=>by
    rw[Tryz.params9] at ht;have hm:t∈[9,5,55]:=by simpa using Array.mem_of_getElem? ht
    exact(show Tryz.prog.wantsStandIn t=false by simpa using aV4.1 aTa t hm)⟩)
  aS8
#print axioms treeExchangeCard_holds
end Go.Proofs.YtbbpilohihldiaaGreatDoor
