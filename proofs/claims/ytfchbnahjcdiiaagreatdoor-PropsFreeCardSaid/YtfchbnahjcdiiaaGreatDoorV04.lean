/- PropsFree returns true for every body, place and text (a further blank line or note ahead of a line changes nothing): the tied card of the statement, over the row's statement. No condition. -/
/- Packed by a program of mine (wip/tools/pack.py): the same texts with short names and few blanks. -/
import Derived.Deep.CondSized
import Derived.Deep.DeepHandedRow
import Derived.Deep.DeepWitnessRowRef
import Derived.KernelRfl
import Derived.Lib.LaidIn
import Derived.Lib.LaidU8T
import Derived.OpenShut
import Derived.ProofKit
import Derived.SevenTiedAt
import Derived.SizedLaws
import Derived.Test.YtfchbnahjcdiiaaGreatDoorCards
import Derived.Test.YtfchbnahjcdiiaaGreatDoorRows
import Derived.Test.YtfchbnahjcdiiaaGreatDoorTie
import Derived.WalkKit
import Derived.Test.YtfchbnahjcdiiaaGreatDoorV03
set_option linter.unusedVariables false
set_option linter.unusedSimpArgs false
set_option linter.unusedSectionVars false
namespace Go.Proofs.YtfchbnahjcdiiaaGreatDoor
open Vc
set_option maxRecDepth 100000
def uV (ends:List Int) (a i:Int) (tag:List UInt8) (cms:List (List UInt8)) (fds:List Fld) (es:List dT1) (src:List UInt8) (cm:List (List UInt8)) (fl:List (List UInt8)) (st:Int) (fd:List Fld) (hs ht:Bool) (op:Int):RS:=
  (ends,a,i,tag,cms,fds,es,[],src,[],cm,qB fl,st,fd,hs,ht,op)
section
variable {tag:List UInt8}{cms:List (List UInt8)}{fds:List Fld}{es:List dT1}{ends:List Int}{cm:List (List UInt8)}{fl:List (List UInt8)}{fd:List Fld}{ids:List (List UInt8×Bool)}{once:List (Int×Bool)}{fm dm:List (List UInt8×Bool)}{hs ht:Bool}
variable {src:List UInt8}{st op:Int}
def aFi (ends:List Int) (e:Int) (x:PS) (y:RS) (a i tz:Int):Prop:=
  ∃ tag' cms' fds' es' ends' cm' fl' fd' ids' once' fm' dm' hs' ht' src' st' op',x=xM tag' cms' fds' es' (!decide (ends'=[])) ends' cm' src' st' fd' op' ids' once' fm' dm' fl'∧
    y=uV ends' a i tag' cms' fds' es' src' cm' fl' st' fd' hs' ht' op'∧SI tag' cms' fds' es' ends' cm' fl' fd' ids' once' fm' dm' hs' ht'∧(ends'=ends∨ends'=ends++[tz])
theorem aFj (h:SI tag cms fds es ends cm fl fd ids once fm dm hs ht) (hen:ends.length≤10000) {line:List UInt8}(hl:line.length≤5000) {a i:Nat}(ha:a≤10000) {ls:List (List UInt8)}(hi:i<ls.length) (hli:ls[i]=line) (hi2:i≤10000):
    ∃ e x,CG ((a:Int),line) (xM tag cms fds es (!decide (ends=[])) ends cm src st fd op ids once fm dm fl)=some (e,x)∧
      ((e≠0∧vH ls (uV ends a i tag cms fds es src cm fl st fd hs ht op)=some (.inr (.inr ([],[],[],[],[],(a:Int),e))))∨
       (e=0∧∃y,vH ls (uV ends a i tag cms fds es src cm fl st fd hs ht op)=some (.inl y)∧aFi ends e x y ((a:Int)+(line.length:Int)) ((i:Int)+1) ((a:Int)+(line.length:Int)))):=by
  obtain⟨f,k,v,bad,h1,h2,h3,h4,h5,h6⟩:=aE0 hl
  have hto:i64 ((a:Int)+(line.length:Int)):=by unfold i64;omega
  rw[a8F (b:=uV ends a i tag cms fds es src cm fl st fd hs ht op) (i:=i) rfl hi (by omega) (by rw[hli];exact hto),hli,h1,Option.bind_some]
  have hfl:fit line:=by unfold fit;omega
  have h2':y3 (Lib.trimLeftS (sR 10 line) [32,9])=some (pX f k v bad):=h2
  by_cases hne:ends=[]
  · subst hne
    obtain⟨rp,rr,g1,g2,g3⟩:=aFe (src:=src) (st:=st) (op:=op) (tz:=(a:Int)+(line.length:Int)) (bad:=bad) h h5 h6 h3 h4
    have hc:CG ((a:Int),line) (xM tag cms fds es (!decide (([]:List Int)=[])) [] cm src st fd op ids once fm dm fl)=some (rp.1,rp.2.1,rp.2.2.1,rp.2.2.2.1,es,rp.2.2.2.2.1,rp.2.2.2.2.2.1,rp.2.2.2.2.2.2.1,rp.2.2.2.2.2.2.2.1,rp.2.2.2.2.2.2.2.2.1,rp.2.2.2.2.2.2.2.2.2.1,rp.2.2.2.2.2.2.2.2.2.2.1,rp.2.2.2.2.2.2.2.2.2.2.2.1,rp.2.2.2.2.2.2.2.2.2.2.2.2.1,rp.2.2.2.2.2.2.2.2.2.2.2.2.2.1,ids,rp.2.2.2.2.2.2.2.2.2.2.2.2.2.2.1,rp.2.2.2.2.2.2.2.2.2.2.2.2.2.2.2.1,rp.2.2.2.2.2.2.2.2.2.2.2.2.2.2.2.2.1,rp.2.2.2.2.2.2.2.2.2.2.2.2.2.2.2.2.2):=by
      unfold CG xM
      dsimp only
      rw[a1l hfl,Option.bind_some,h2',Option.bind_some,if_neg (by simp),if_pos hto]
      rw[show (!decide (([]:List Int)=[]))=false by simp,g1,Option.bind_some]
    have hr:uF (uV [] a i tag cms fds es src cm fl st fd hs ht op) (f,k,v,bad)=some (rr.2.2.2.2.2.2.2.2.2.2.2.2.2.2,rr.2.2.2.2.2.2.2.2.2.2.2.2.2.1,rr.1,rr.2.1,rr.2.2.1,es,rr.2.2.2.1,rr.2.2.2.2.1,rr.2.2.2.2.2.1,rr.2.2.2.2.2.2.1,rr.2.2.2.2.2.2.2.1,rr.2.2.2.2.2.2.2.2.1,rr.2.2.2.2.2.2.2.2.2.1,rr.2.2.2.2.2.2.2.2.2.2.1,rr.2.2.2.2.2.2.2.2.2.2.2.1,rr.2.2.2.2.2.2.2.2.2.2.2.2.1):=by
      unfold uF uV
      dsimp only
      rw[if_pos (by simp),g2,Option.bind_some]
    refine⟨_,_,hc,?_⟩
    rw[hr,Option.bind_some]
    rcases g3 with⟨e1,e2⟩ |⟨tag',cms',fds',cm',src',st',fd',op',once',fm',dm',fl',hs',ht',dn,rfl,rfl,hS⟩
    · dsimp only
      rw[e2,if_pos (by simpa using e1)]
      exact .inl ⟨e1,rfl⟩
    · dsimp only
      rw[if_neg (show¬(!decide ((0:Int)=0))=true by decide)]
      cases dn with
      | true=>
        rw[if_pos rfl,if_pos (by show ((uV [] (a:Int) (i:Int) tag cms fds es src cm fl st fd hs ht op).1.length+1)*8≤_;unfold uV;simp)]
        exact .inr ⟨rfl,_,rfl,tag',cms',fds',es,[(a:Int)+(line.length:Int)],cm',fl',fd',ids,once',fm',dm',hs',ht',src',st',op',rfl,rfl,hS,.inr rfl⟩
      | false=>
        rw[if_neg Bool.false_ne_true]
        exact .inr ⟨rfl,_,rfl,tag',cms',fds',es,[],cm',fl',fd',ids,once',fm',dm',hs',ht',src',st',op',rfl,rfl,hS,.inl rfl⟩
  · obtain⟨rp,rr,g1,g2,g3⟩:=aFh (src:=src) (st:=st) (op:=op) (at0:=(a:Int)) (idx:=(i:Int)) (tz:=(a:Int)+(line.length:Int)) (bad:=bad) h hne h5 h6 h3 h4 hen
    have hin:(!decide (ends=[]))=true:=by simpa using hne
    have hc:CG ((a:Int),line) (xM tag cms fds es (!decide (ends=[])) ends cm src st fd op ids once fm dm fl)=some (rp.1,tag,cms,fds,rp.2.1,true,rp.2.2.1,rp.2.2.2.2.1,rp.2.2.2.2.2.1,rp.2.2.2.2.2.2.1,rp.2.2.2.2.2.2.2.1,rp.2.2.2.2.2.2.2.2.1,rp.2.2.2.2.2.2.2.2.2.1,rp.2.2.2.2.2.2.2.2.2.2.1,rp.2.2.2.2.2.2.2.2.2.2.2.1,rp.2.2.2.1,rp.2.2.2.2.2.2.2.2.2.2.2.2.1,rp.2.2.2.2.2.2.2.2.2.2.2.2.2.1,rp.2.2.2.2.2.2.2.2.2.2.2.2.2.2.1,rp.2.2.2.2.2.2.2.2.2.2.2.2.2.2.2):=by
      rw[hin]
      unfold CG xM
      dsimp only
      rw[a1l hfl,Option.bind_some,h2',Option.bind_some,if_pos rfl,if_pos hto,g1,Option.bind_some]
    refine⟨_,_,hc,?_⟩
    have g2':uF (uV ends a i tag cms fds es src cm fl st fd hs ht op) (f,k,v,bad)=some rr:=g2
    rw[g2',Option.bind_some]
    rcases g3 with⟨e1,e2⟩ |⟨es',ids',cm',src',st',fd',op',once',fm',dm',fl',hs',ht',dn,rfl,rfl,hS⟩
    · rw[e2,if_pos (by simpa using e1)]
      exact .inl ⟨e1,rfl⟩
    · dsimp only
      rw[if_neg (show¬(!decide ((0:Int)=0))=true by decide)]
      cases dn with
      | true=>
        rw[if_pos rfl,if_pos (by show ((uV ends (a:Int) (i:Int) tag cms fds es src cm fl st fd hs ht op).1.length+1)*8≤_;unfold uV;dsimp only;omega)]
        exact .inr ⟨rfl,_,rfl,tag,cms,fds,es',ends++[(a:Int)+(line.length:Int)],cm',fl',fd',ids',once',fm',dm',hs',ht',src',st',op',by rw[show (!decide (ends++[(a:Int)+(line.length:Int)]=[]))=true by simp];rfl,rfl,hS,.inr rfl⟩
      | false=>
        rw[if_neg Bool.false_ne_true]
        have he:ends++(if false=true then[(a:Int)+(line.length:Int)] else[])=ends:=by simp
        rw[he] at hS⊢
        exact .inr ⟨rfl,_,rfl,tag,cms,fds,es',ends,cm',fl',fd',ids',once',fm',dm',hs',ht',src',st',op',by rw[hin];rfl,rfl,hS,.inl rfl⟩
end
def a8K (s:List UInt8) (ls:List (List UInt8)) (l:List (Int×List UInt8)) (x:PS) (y:RS):Prop:=
  (∃e at1:Int,e≠0∧uL DG l x=none∧uL DH l x=some (.inr (at1,e))∧p9 (vH ls) y=some (.inr ([],[],[],[],[],at1,e)))∨
  (∃tag' cms' fds' es' ends' cm' fl' fd' ids' once' fm' dm' hs' ht' src' st' op',uL DG l x=some (.inl (xM tag' cms' fds' es' (!decide (ends'=[])) ends' cm' src' st' fd' op' ids' once' fm' dm' fl'))∧
    uL DH l x=some (.inl (xM tag' cms' fds' es' (!decide (ends'=[])) ends' cm' src' st' fd' op' ids' once' fm' dm' fl'))∧
    p9 (vH ls) y=some (.inl (ends',tag',cms',fds',es',[],src',[],cm',qB fl',st',fd',hs',ht',op'))∧SI tag' cms' fds' es' ends' cm' fl' fd' ids' once' fm' dm' hs' ht'∧(ends'=[]∨DR s.length ends')∧ends'.length≤s.length)
theorem nS {s:List UInt8}(hs0:s.length≤5000): ∀(n a i:Nat) {tag:List UInt8}{cms:List (List UInt8)}{fds:List Fld}{es:List dT1}{ends:List Int}{cm:List (List UInt8)}{fl:List (List UInt8)}{fd:List Fld}{ids:List (List UInt8×Bool)}{once:List (Int×Bool)}{fm dm:List (List UInt8×Bool)}{hs ht:Bool}{src:List UInt8}{st op:Int},
    a≤s.length→s.length≤n+a→(sJ s).drop i=qU s n a→i≤a→SI tag cms fds es ends cm fl fd ids once fm dm hs ht→(ends=[]∨DR a ends)→ends.length≤i→
    a8K s ((sJ s).map (·.2)) (qU s n a) (xM tag cms fds es (!decide (ends=[])) ends cm src st fd op ids once fm dm fl) (uV ends a i tag cms fds es src cm fl st fd hs ht op):=by
  intro n
  induction n with
  | zero=>
    intro a i tag cms fds es ends cm fl fd ids once fm dm hs ht src st op ha hn hd hia h hea hei
    have hlen:(sJ s).length≤i:=by
      have:=congrArg List.length hd
      rw[List.length_drop,show qU s 0 a=[] from rfl,List.length_nil] at this
      omega
    have hst:vH ((sJ s).map (·.2)) (uV ends a i tag cms fds es src cm fl st fd hs ht op)=some (.inr (.inl (ends,tag,cms,fds,es,[],src,[],cm,qB fl,st,fd,hs,ht,op))):=by
      unfold vH uV
      dsimp only
      rw[if_neg (by simp;omega)]
    refine .inr ⟨tag,cms,fds,es,ends,cm,fl,fd,ids,once,fm,dm,hs,ht,src,st,op,rfl,rfl,sO hst,h,?_,by omega⟩
    rcases hea with h1|h1
    ·exact .inl h1
    ·exact .inr (a1e h1 ha)
  | succ n ih=>
    intro a i tag cms fds es ends cm fl fd ids once fm dm hs ht src st op ha hn hd hia h hea hei
    by_cases hlt:a<s.length
    · have hto:=UK hlt
      have hl:qU s (n+1) a=((a:Int),(s.drop a).take (qT s a-a))::qU s n (qT s a):=by rw[qU,if_pos hlt]
      rw[hl] at hd⊢
      have hil:i<(sJ s).length:=by
        have:=congrArg List.length hd
        rw[List.length_drop,List.length_cons] at this
        omega
      have hget:(sJ s)[i]=((a:Int),(s.drop a).take (qT s a-a)):=by
        have:=List.drop_eq_getElem_cons hil
        rw[hd] at this
        exact(List.cons.inj this).1.symm
      have hd2:(sJ s).drop (i+1)=qU s n (qT s a):=by
        have:=List.drop_eq_getElem_cons hil
        rw[hd] at this
        exact(List.cons.inj this).2.symm
      have hlen:((s.drop a).take (qT s a-a)).length=qT s a-a:=by rw[List.length_take,List.length_drop];omega
      have hi2:i<((sJ s).map (·.2)).length:=by rw[List.length_map];exact hil
      have hli:((sJ s).map (·.2))[i]=(s.drop a).take (qT s a-a):=by rw[List.getElem_map,hget]
      obtain⟨e,x,hc,hres⟩:=aFj (src:=src) (st:=st) (op:=op) h (by omega) (line:=(s.drop a).take (qT s a-a)) (by omega) (a:=a) (i:=i) (by omega) hi2 hli (by omega)
      rcases hres with⟨he,hr⟩ |⟨rfl,y,hr,tag',cms',fds',es',ends',cm',fl',fd',ids',once',fm',dm',hs',ht',src',st',op',rfl,rfl,hS,hE⟩
      · refine .inl ⟨e,(a:Int),he,?_,?_,sO hr⟩
        · unfold uL
          rw[a8D,hc,Option.bind_some,if_pos (by simpa using he)]
          rfl
        · unfold uL
          rw[a8E,hc,Option.bind_some,if_pos (by simpa using he)]
          rfl
      · have hto2:(a:Int)+(((s.drop a).take (qT s a-a)).length:Int)=((qT s a:Nat):Int):=by rw[hlen];omega
        rw[hto2] at hr hE
        have hnext:=ih (qT s a) (i+1) (src:=src') (st:=st') (op:=op') hto.2 (by omega) hd2 (by omega) hS (by
          rcases hE with rfl|rfl
          · rcases hea with h1|h1
            ·exact .inl h1
            ·exact .inr (a1e h1 (by omega))
          · rcases hea with rfl|h1
            ·exact .inr (aED _)
            ·exact .inr (aEC h1 (by omega))) (by
          rcases hE with rfl|rfl
          ·omega
          ·simp;omega)
        have hr2:p9 (vH ((sJ s).map (·.2))) (uV ends a i tag cms fds es src cm fl st fd hs ht op)=p9 (vH ((sJ s).map (·.2))) (uV ends' (qT s a:Nat) ((i+1:Nat):Int) tag' cms' fds' es' src' cm' fl' st' fd' hs' ht' op'):=AI hr
        have f1:uL DG (((a:Int),(s.drop a).take (qT s a-a))::qU s n (qT s a)) (xM tag cms fds es (!decide (ends=[])) ends cm src st fd op ids once fm dm fl)=uL DG (qU s n (qT s a)) (xM tag' cms' fds' es' (!decide (ends'=[])) ends' cm' src' st' fd' op' ids' once' fm' dm' fl'):=by
          rw[uL,a8D,hc,Option.bind_some]
          dsimp only
          rw[if_neg (show¬(!decide ((0:Int)=0))=true by decide)]
          rfl
        have f2:uL DH (((a:Int),(s.drop a).take (qT s a-a))::qU s n (qT s a)) (xM tag cms fds es (!decide (ends=[])) ends cm src st fd op ids once fm dm fl)=uL DH (qU s n (qT s a)) (xM tag' cms' fds' es' (!decide (ends'=[])) ends' cm' src' st' fd' op' ids' once' fm' dm' fl'):=by
          rw[uL,a8E,hc,Option.bind_some]
          dsimp only
          rw[if_neg (show¬(!decide ((0:Int)=0))=true by decide)]
          rfl
        unfold a8K at hnext⊢
        rw[f1,f2,hr2]
        exact hnext
    · have hl:qU s (n+1) a=qU s 0 a:=by rw[CF (by omega),CF (by omega)]
      have hlen:(sJ s).length≤i:=by
        rw[hl] at hd
        have:=congrArg List.length hd
        rw[List.length_drop,show qU s 0 a=[] from rfl,List.length_nil] at this
        omega
      have hst:vH ((sJ s).map (·.2)) (uV ends a i tag cms fds es src cm fl st fd hs ht op)=some (.inr (.inl (ends,tag,cms,fds,es,[],src,[],cm,qB fl,st,fd,hs,ht,op))):=by
        unfold vH uV
        dsimp only
        rw[if_neg (by simp;omega)]
      rw[hl]
      refine .inr ⟨tag,cms,fds,es,ends,cm,fl,fd,ids,once,fm,dm,hs,ht,src,st,op,rfl,rfl,sO hst,h,?_,by omega⟩
      rcases hea with h1|h1
      ·exact .inl h1
      ·exact .inr (a1e h1 ha)
theorem aFl {s:List UInt8}(hs0:s.length≤5000): ∃v,KX s=some v∧fit v.2.1∧fit v.2.2.1∧fit v.2.2.2.1∧(∀y∈v.2.2.2.1,EntFit y)∧
    ((v.2.2.2.2.2.2≠0∧v.1=[]∧v.2.1=[]∧v.2.2.1=[]∧v.2.2.2.1=[]∧rK s=none∧DI s=some (v.2.2.2.2.2.1,v.2.2.2.2.2.2))∨
     (v.2.2.2.2.2.2=0∧v.2.2.2.2.2.1=0∧DR s.length v.2.2.2.2.1∧v.2.2.2.2.1.length≤s.length∧∃r,rK s=some r∧r.1=v.1∧r.2.1=v.2.1∧r.2.2.1=v.2.2.1∧r.2.2.2.1=v.2.2.2.1∧r.2.2.2.2.2.1=v.2.2.2.2.1)):=by
  have hSI:SI [] [] [] [] [] [] [] [] [] [] [] [] false false:=⟨a1t,fun _=>rfl,fun _=>rfl,by decide,fun _ hh=>by(cases hh),A5,A5⟩
  have hsim:=nS hs0 s.length 0 0 (src:=[]) (st:=0) (op:= -1) (Nat.zero_le _) (by omega) (by rw[List.drop_zero];rfl) (Nat.le_refl _) hSI (.inl rfl) (Nat.le_refl _)
  have hs4:qB []=[]:=List.length_eq_zero_iff.1 (CD [])
  have hx:xM [] [] [] [] (!decide (([]:List Int)=[])) [] [] [] 0 [] (-1) [] [] [] [] []=(([]:List UInt8),([]:List (List UInt8)),([]:List p4),([]:List dT1),false,([]:List Int),([]:List (List UInt8)),([]:List UInt8),([]:List UInt8),([]:List UInt8),([]:List (List UInt8)),(0:Int),([]:List p4),(-1:Int),([]:List ((List UInt8)×Bool)),([]:List (Int×Bool)),([]:List ((List UInt8)×Bool)),([]:List ((List UInt8)×Bool)),([]:List (List UInt8))):=by
    rw[show (!decide (([]:List Int)=[]))=false by simp]
    rfl
  have hy:uV [] (0:Nat) (0:Nat) [] [] [] [] [] [] [] 0 [] false false (-1)=(([]:List Int),(0:Int),(0:Int),([]:List UInt8),([]:List (List UInt8)),([]:List p4),([]:List dT1),([]:List UInt8),([]:List UInt8),([]:List UInt8),([]:List (List UInt8)),([]:List (List UInt8)),(0:Int),([]:List p4),false,false,(-1:Int)):=by
    unfold uV
    rw[hs4]
    rfl
  rw[hx,hy] at hsim
  have hlI:qU s s.length 0=sJ s:=rfl
  rw[hlI] at hsim
  unfold KX rK DI
  rw[QS (by omega),Option.bind_some,if_pos (by omega),if_pos (by omega)]
  rcases hsim with⟨e,at1,he,h1,h2,h3⟩ |⟨tag',cms',fds',es',ends',cm',fl',fd',ids',once',fm',dm',hs',ht',src',st',op',h1,h2,h3,h4,h5,h6⟩
  · rw[h1,h2,h3]
    exact⟨_,rfl,A5,A5,A5,fun _ hh=>by(cases hh),.inl ⟨he,rfl,rfl,rfl,rfl,rfl,rfl⟩⟩
  · rw[h1,h2,h3]
    unfold xM
    simp only[qD,Option.bind_some]
    by_cases hn:ends'=[]
    · rw[if_pos (by rw[hn];rfl),if_pos (by rw[hn];rfl),if_pos (by rw[hn];rfl)]
      exact⟨_,rfl,A5,A5,A5,fun _ hh=>by(cases hh),.inl ⟨show (3:Int)≠0 by decide,rfl,rfl,rfl,rfl,rfl,rfl⟩⟩
    · have hl0: ¬decide ((List.length ends':Int)=0)=true:=FM hn
      have hd:(!(!decide (ends'=[])))=false:=by simpa using hn
      rw[if_neg hl0,hd]
      simp only[Bool.false_eq_true,↓reduceIte]
      by_cases ho:decide (0≤op')=true
      · simp only[ho,↓reduceIte]
        exact⟨_,rfl,A5,A5,A5,fun _ hh=>by(cases hh),.inl ⟨show (3:Int)≠0 by decide,(by first|rfl|trivial),(by first|rfl|trivial),(by first|rfl|trivial),(by first|rfl|trivial),(by first|rfl|trivial),(by first|rfl|trivial)⟩⟩
      · simp only[ho,Bool.false_eq_true,↓reduceIte]
        have hen:=h4.en
        exact⟨_,rfl,h4.cf,h4.ff,by unfold fit;dsimp only;omega,h4.ef,.inr ⟨(by first|rfl|trivial),(by first|rfl|trivial),h5.resolve_left hn,h6,_,rfl,(by first|rfl|trivial),(by first|rfl|trivial),(by first|rfl|trivial),(by first|rfl|trivial),(by first|rfl|trivial)⟩⟩
theorem QT {s:List UInt8}(hs0:s.length≤5000): ∃v,vI s=some v∧HL s=some v∧fit v.2.1∧fit v.2.2.1∧fit v.2.2.2.1∧∀y∈v.2.2.2.1,EntFit y:=by
  obtain⟨v,h1,f1,f2,f3,f4,h⟩:=aFl hs0
  unfold vI HL
  rw[h1,Option.bind_some]
  refine⟨_,?_,rfl,f1,f2,f3,f4⟩
  rcases h with⟨he,v1,v2,v3,v4,p1,p2⟩ |⟨he,ha,_,_,r,p1,q1,q2,q3,q4,_⟩
  ·rw[p1,if_neg (by simp),p2,Option.bind_some,if_pos (by simpa using he),v1,v2,v3,v4]
  ·rw[p1,if_pos (show (some r).isSome=true from rfl),Option.bind_some,if_neg (show¬(!decide ((0:Int)=0))=true by decide),q1,q2,q3,q4,he,ha]
end Go.Proofs.YtfchbnahjcdiiaaGreatDoor
namespace Go.Proofs.YtfchbnahjcdiiaaGreatDoor
open Vc
set_option maxRecDepth 1000000
theorem aFm:HR=some true:=by kernel_rfl
end Go.Proofs.YtfchbnahjcdiiaaGreatDoor
namespace Go.Proofs.YtfchbnahjcdiiaaGreatDoor
open Vc
set_option maxRecDepth 100000
def LN (s:List UInt8):List (List UInt8):=(sJ s).map (·.2)
inductive WL:List (List UInt8)→Prop
 |nil:WL []
 |one {u:List UInt8}(h:u≠[]) (hu:(10:UInt8)∉u):WL [u]
 |cons {u:List UInt8}{l:List (List UInt8)}(hu:(10:UInt8)∉u) (h:WL l):WL ((u++[10])::l)
theorem a8L {s:List UInt8}: ∀(n m i:Nat),s.length≤n+i→s.length≤m+i→qU s n i=qU s m i
 |0,m,i,hn,_=>by rw[CF (by omega),CF (by omega)]
 |n+1,0,i,_,hm=>by rw[CF (by omega),CF (by omega)]
 |n+1,m+1,i,hn,hm=>by
  rw[qU,qU]
  by_cases h:i<s.length
  ·have:=UK h
   rw[if_pos h,if_pos h,a8L n m (qT s i) (by omega) (by omega)]
  ·rw[if_neg h,if_neg h]
theorem aFn {a s:List UInt8}{i:Nat}:qT (a++s) (a.length+i)=a.length+qT s i:=by
 have hd:(a++s).drop (a.length+i)=s.drop i:=by rw[List.drop_append];simp
 unfold qT
 rw[hd,List.length_append]
 split
 ·omega
 ·omega
theorem a8M {a s:List UInt8}: ∀(n i:Nat),(qU (a++s) n (a.length+i)).map (·.2)=(qU s n i).map (·.2)
 |0,i=>rfl
 |n+1,i=>by
  have hd:(a++s).drop (a.length+i)=s.drop i:=by rw[List.drop_append];simp
  rw[qU,qU,aFn,hd,List.length_append]
  by_cases h:i<s.length
  ·rw[if_pos (by omega),if_pos h,List.map_cons,List.map_cons,a8M n (qT s i)]
   rw[show a.length+qT s i- (a.length+i)=qT s i-i by omega]
  ·rw[if_neg (by omega),if_neg h]
theorem a8N {u t:List UInt8}(hu:(10:UInt8)∉u):LN (u++[10]++t)=(u++[10])::LN t:=by
 have hlen:(u++[10]++t).length=u.length+1+t.length:=by simp;omega
 have hto:qT (u++[10]++t) 0=u.length+1:=a8u (Nat.zero_le _) (by omega) (fun j h _ h1 hh=>hu (by
  have h9:(u++[10]++t)[j]=u[j]'(by omega):=by simp [List.getElem_append,show j<u.length by omega,show j<u.length+1 by omega]
  rw[h9] at hh
  rw[←hh];exact List.getElem_mem _)) (by simp [List.getElem_append])
 unfold LN sJ
 rw[hlen,show u.length+1+t.length=(u.length+t.length)+1 by omega,qU,if_pos (by omega),hto,List.map_cons]
 have h2:=a8M (a:=u++[10]) (s:=t) (u.length+t.length) 0
 have h3:(u++[10]:List UInt8).length=u.length+1:=by simp
 rw[Nat.add_zero,h3] at h2
 rw[h2,a8L (u.length+t.length) t.length 0 (by omega) (by omega)]
 congr 1
 rw[List.drop_zero,Nat.sub_zero,List.take_left' (by simp)]
theorem a8O {u:List UInt8}(h:u≠[]) (hu:(10:UInt8)∉u):LN u=[u]:=by
 have hto:qT u 0=u.length:=a8v (fun j hj _ hh=>hu (by rw[←hh];exact List.getElem_mem _))
 have hpos:0<u.length:=List.length_pos_iff.2 h
 unfold LN sJ
 obtain⟨n,hn⟩: ∃n,u.length=n+1:=⟨u.length-1,by omega⟩
 rw[hn,qU,if_pos hpos,hto,CF (Nat.le_refl _)]
 simp
theorem a8P {l:List (List UInt8)}(h:WL l):LN l.flatten=l:=by
 induction h with
 |nil=>rfl
 |one h hu=>rw[List.flatten_singleton];exact a8O h hu
 |cons hu _ ih=>rw[List.flatten_cons,a8N hu,ih]
theorem QU: ∀(n:Nat) (s:List UInt8),s.length≤n→WL (LN s)∧(LN s).flatten=s:=by
 intro n
 induction n with
 |zero=>
  intro s h
  obtain rfl:=List.length_eq_zero_iff.1 (Nat.le_zero.1 h)
  exact⟨.nil,rfl⟩
 |succ n ih=>
  intro s h
  by_cases h10:(10:UInt8)∈s
  ·obtain⟨u,t,rfl,hu⟩:=List.eq_append_cons_of_mem h10
   have he:u++10::t=u++[10]++t:=by simp
   obtain⟨h1,h2⟩:=ih t (by simp at h;omega)
   rw[he,a8N hu]
   exact⟨.cons hu h1,by rw[List.flatten_cons,h2]⟩
  ·by_cases hne:s=[]
   ·subst hne;exact⟨.nil,rfl⟩
   ·rw[a8O hne h10]
    exact⟨.one hne h10,by simp⟩
end Go.Proofs.YtfchbnahjcdiiaaGreatDoor
namespace Go.Proofs.YtfchbnahjcdiiaaGreatDoor
open Vc
set_option maxRecDepth 100000
def IC (x:List UInt8):Prop:= ∃u:List UInt8,(10:UInt8)∉u∧x=u++[10]
theorem LK {l:List (List UInt8)}(h:WL l): ∀{xs:List (List UInt8)},(∀x∈xs,IC x)→WL (xs++l)
 |[],_=>h
 |x::xs,hx=>by
  obtain⟨u,hu,rfl⟩:=hx x List.mem_cons_self
  exact .cons hu (LK h (fun y hy=>hx y (List.mem_cons_of_mem _ hy)))
theorem aFo {l:List (List UInt8)}(h:WL l) {xs:List (List UInt8)}(hx: ∀x∈xs,IC x): ∀{k:Nat},k<l.length→WL (l.take k++xs++l.drop k):=by
 induction h with
 |nil=>intro k hk;simp at hk
 | @one u h hu=>
  intro k hk
  have:k=0:=by simp at hk;omega
  subst this
  simpa using LK (.one h hu) hx
 | @cons u l hu h ih=>
  intro k hk
  cases k with
  |zero=>simpa using LK (.cons hu h) hx
  |succ k=>
   rw[List.take_succ_cons,List.drop_succ_cons,List.cons_append,List.cons_append]
   exact .cons hu (ih (by simpa using hk))
theorem aFp {l:List (List UInt8)}(h:WL l) (he:l.flatten=[]∨l.flatten.getLast? =some 10): ∀x∈l,IC x:=by
 induction h with
 |nil=>intro x hx;cases hx
 | @one u h hu=>
  rw[List.flatten_singleton] at he
  rcases he with he|he
  ·exact absurd he h
  ·exact absurd (List.mem_of_getLast? he) hu
 | @cons u l hu h ih=>
  intro x hx
  rcases List.mem_cons.1 hx with rfl|hx
  ·exact⟨u,hu,rfl⟩
  ·refine ih ?_ x hx
   by_cases h0:l.flatten=[]
   ·exact .inl h0
   ·right
    rw[List.flatten_cons] at he
    rcases he with he|he
    ·exact absurd (List.append_eq_nil_iff.1 he).2 h0
    ·rw[List.getLast?_append] at he
     cases hg:l.flatten.getLast? with
     |none=>exact absurd (List.getLast?_eq_none_iff.1 hg) h0
     |some z=>rw[hg] at he;exact he
theorem aFq {l:List (List UInt8)}(h:WL l) (he:l.flatten=[]∨l.flatten.getLast? =some 10) {xs:List (List UInt8)}(hx: ∀x∈xs,IC x):WL (l++xs):=by
 have h1:=aFp h he
 have h2:WL (xs++[]):=LK .nil hx
 rw[List.append_nil] at h2
 exact LK h2 h1
end Go.Proofs.YtfchbnahjcdiiaaGreatDoor
namespace Go.Proofs.YtfchbnahjcdiiaaGreatDoor
open Vc
set_option maxRecDepth 100000
abbrev FR:=(List Int)×(List UInt8)×(List (List UInt8))×(List p4)×(List dT1)×(List UInt8)×(List UInt8)×(List UInt8)×(List (List UInt8))×(List (List UInt8))×Int×(List p4)×Bool×Bool×Int
abbrev fS:=(List UInt8)×(List (List UInt8))×(List p4)×(List dT1)×(List Int)×Int×Int
noncomputable def A6 (line:List UInt8) (b:RS):Option (RS⊕fS):=
  (xD line).bind fun q=>(uF b q).bind fun r=>
     if (!decide (r.1=(0:Int)))=true then
      some (.inr ([],[],[],[],[],b.2.1,r.1))
     else
      if r.2.1=true then
       if (List.length b.1+1)*8≤140737488355328 then
         some (.inl (b.1++[b.2.1+(List.length line:Int)],b.2.1+(List.length line:Int),b.2.2.1+1,r.2.2))
       else none
      else
        some (.inl (b.1,b.2.1+(List.length line:Int),b.2.2.1+1,r.2.2))
noncomputable def sF:List (List UInt8)→RS→Option (FR⊕fS)
  |[],b=>some (.inl (b.1,b.2.2.2))
  | l::ls,b=>(A6 l b).bind fun w=>match w with
    | .inl b'=>sF ls b'
    | .inr e=>some (.inr e)
theorem a1v {L:List (List UInt8)}(hL:L.length≤100000): ∀(ls:List (List UInt8)) (i:Nat) (b:RS),L.drop i=ls→b.2.2.1=(i:Int)→0≤b.2.1→b.2.1+(ls.flatten.length:Int)≤1000000→p9 (vH L) b=sF ls b
  | [],i,b,hd,hi,h0,h1=>by
    have hlen:L.length≤i:=by
      have:=congrArg List.length hd
      rw[List.length_drop,List.length_nil] at this
      omega
    obtain⟨b1,b2,b3,b4,b5,b6,b7,b8,b9,b10,b11,b12,b13,b14,qG,b16,b17⟩:=b
    dsimp only at hi
    subst hi
    refine sO ?_
    unfold vH
    dsimp only
    rw[if_neg (by simp;omega)]
  | l::ls,i,b,hd,hi,h0,h1=>by
    have hil:i<L.length:=by
      have:=congrArg List.length hd
      rw[List.length_drop,List.length_cons] at this
      omega
    have hc:=List.drop_eq_getElem_cons hil
    rw[hd] at hc
    obtain⟨rfl,h2⟩:=List.cons.inj hc
    rw[List.flatten_cons,List.length_append] at h1
    have hst:=a8F (b:=b) hi hil (by omega) (by unfold i64;omega)
    rw[uN,hst,sF]
    unfold A6
    rw[hi]
    cases hp:xD L[i] with
    |none=>rfl
    | some q=>
      rw[Option.bind_some,Option.bind_some]
      cases hr:uF b q with
      |none=>rfl
      | some r=>
        rw[Option.bind_some,Option.bind_some]
        by_cases g1:(!decide (r.1=(0:Int)))=true
        · rw[if_pos g1,if_pos g1]
          rfl
        · rw[if_neg g1,if_neg g1]
          by_cases g2:r.2.1=true
          · rw[if_pos g2,if_pos g2]
            by_cases g3:(List.length b.1+1)*8≤140737488355328
            · rw[if_pos g3,if_pos g3,Option.bind_some,Option.bind_some]
              exact a1v hL ls (i+1) _ h2.symm (by dsimp only;omega) (by dsimp only;omega) (by dsimp only;omega)
            · rw[if_neg g3,if_neg g3]
              rfl
          · rw[if_neg g2,if_neg g2,Option.bind_some,Option.bind_some]
            exact a1v hL ls (i+1) _ h2.symm (by dsimp only;omega) (by dsimp only;omega) (by dsimp only;omega)
end Go.Proofs.YtfchbnahjcdiiaaGreatDoor
namespace Go.Proofs.YtfchbnahjcdiiaaGreatDoor
open Vc
set_option maxRecDepth 100000
theorem a8Q {x:dT1}{hs ht:Bool}{op op':Int}{r:ES}:sU (x,(hs,(ht,(op,())))) r=sU (x,(hs,(ht,(op',())))) r:=by
 unfold sU
 rfl
theorem aFr {c:qP}{x:dT1}{hs ht:Bool}{op op':Int}{r:ES}:C0 c (x,(hs,(ht,(op,())))) r=C0 c (x,(hs,(ht,(op',())))) r:=by
 unfold C0
 rfl
def a8R (c:qP) (x:dT1) (hs ht:Bool) (op op':Int) (r:ES):Prop:=
 (v6 c (x,(hs,(ht,(op,())))) r=none∧v6 c (x,(hs,(ht,(op',())))) r=none)∨
 ∃t1 t2 t3 t4 t5 t6 t7 t8 t9 t10 t11 t12 dn e,v6 c (x,(hs,(ht,(op,())))) r=some (t1,t2,t3,t4,t5,t6,t7,t8,t9,t10,t11,t12,(if dn=true then-1 else op),dn,e)∧
  v6 c (x,(hs,(ht,(op',())))) r=some (t1,t2,t3,t4,t5,t6,t7,t8,t9,t10,t11,t12,(if dn=true then-1 else op'),dn,e)
theorem aFs {c:qP}{x:dT1}{hs ht:Bool}{op op':Int}{r:ES}:a8R c x hs ht op op' r:=by
 unfold a8R v6
 by_cases f0:r.1=0
 ·simp only[pH,Option.bind_some,decide_eq_true_eq,f0,Int.reduceEq,↓reduceIte]
  exact .inr ⟨_,_,_,_,_,_,_,_,_,_,_,_,false,_,rfl,rfl⟩
 by_cases f1:r.1=1
 ·simp only[pH,Option.bind_some,decide_eq_true_eq,f1,Int.reduceEq,↓reduceIte]
  exact .inr ⟨_,_,_,_,_,_,_,_,_,_,_,_,false,_,rfl,rfl⟩
 by_cases f2:r.1=2∨r.1=7
 ·rw[a8Q (op:=op) (op':=op')]
  cases ha:sU (x,(hs,(ht,(op',())))) r with
  |none=>
   rcases f2 with f2|f2<;>simp only[pH,Option.bind_some,decide_eq_true_eq,f2,Int.reduceEq,↓reduceIte]<;>exact .inl ⟨rfl,rfl⟩
  |some a=>
   rcases f2 with f2|f2<;>simp only[pH,Option.bind_some,decide_eq_true_eq,f2,Int.reduceEq,↓reduceIte]<;>exact .inr ⟨_,_,_,_,_,_,_,_,_,_,_,_,false,_,rfl,rfl⟩
 simp only[not_or] at f2
 by_cases f3:r.1=3
 ·simp only[pH,Option.bind_some,decide_eq_true_eq,f3,Int.reduceEq,↓reduceIte]
  split
  ·split
   ·exact .inr ⟨_,_,_,_,_,_,_,_,_,_,_,_,false,_,rfl,rfl⟩
   ·split
    ·exact .inr ⟨_,_,_,_,_,_,_,_,_,_,_,_,false,_,rfl,rfl⟩
    ·exact .inr ⟨_,_,_,_,_,_,_,_,_,_,_,_,false,_,rfl,rfl⟩
  ·exact .inl ⟨rfl,rfl⟩
 by_cases f8:r.1=8
 ·simp only[pH,Option.bind_some,decide_eq_true_eq,f8,Int.reduceEq,↓reduceIte]
  split
  ·exact .inr ⟨_,_,_,_,_,_,_,_,_,_,_,_,false,_,rfl,rfl⟩
  ·exact .inr ⟨_,_,_,_,_,_,_,_,_,_,_,_,true,_,rfl,rfl⟩
 simp only[pH,Option.bind_some,decide_eq_true_eq,f0,f1,f2.1,f2.2,f3,f8,↓reduceIte]
 exact .inr ⟨_,_,_,_,_,_,_,_,_,_,_,_,false,_,rfl,rfl⟩
end Go.Proofs.YtfchbnahjcdiiaaGreatDoor
namespace Go.Proofs.YtfchbnahjcdiiaaGreatDoor
open Vc
set_option maxRecDepth 100000
def QR (b b':RS):Prop:=
 ∃ends ends' a a' i i' tag cms fds es x1 src x2 cm fl st fd hs ht op op',b=(ends,a,i,tag,cms,fds,es,x1,src,x2,cm,fl,st,fd,hs,ht,op)∧b'=(ends',a',i',tag,cms,fds,es,x1,src,x2,cm,fl,st,fd,hs,ht,op')∧
  ends.length=ends'.length∧0≤a∧0≤a'∧(op<0↔op'<0)
def aFt (x y:Option (Int×Bool×(List UInt8)×(List (List UInt8))×(List p4)×(List dT1)×(List UInt8)×(List UInt8)×(List UInt8)×(List (List UInt8))×(List (List UInt8))×Int×(List p4)×Bool×Bool×Int)):Prop:=
 (x=none∧y=none)∨∃e dn tag cms fds es x1 src x2 cm fl st fd hs ht op op',x=some (e,dn,tag,cms,fds,es,x1,src,x2,cm,fl,st,fd,hs,ht,op)∧y=some (e,dn,tag,cms,fds,es,x1,src,x2,cm,fl,st,fd,hs,ht,op')∧(op<0↔op'<0)
theorem aFu {b b':RS}(h:QR b b') (q:Int×List UInt8×List UInt8×Bool):aFt (uF b q) (uF b' q):=by
 obtain⟨ends,ends',a,a',i,i',tag,cms,fds,es,x1,src,x2,cm,fl,st,fd,hs,ht,op,op',rfl,rfl,hl,ha,ha',hop⟩:=h
 unfold uF
 dsimp only
 rw[hl]
 by_cases h0:decide ((ends'.length:Int)=0)=true
 ·rw[if_pos h0,if_pos h0]
  rcases aFs (c:=(tag,(cms,(fds,(es,()))))) (x:=(x1,(src,(x2,(cm,(fl,(st,(fd,())))))))) (hs:=hs) (ht:=ht) (op:=op) (op':=op') (r:=(q.1,(q.2.1,(q.2.2.1,(q.2.2.2,()))))) with⟨e1,e2⟩ |⟨t1,t2,t3,t4,t5,t6,t7,t8,t9,t10,t11,t12,dn,e,e1,e2⟩
  ·rw[e1,e2];exact .inl ⟨rfl,rfl⟩
  ·rw[e1,e2]
   refine .inr ⟨_,_,_,_,_,_,_,_,_,_,_,_,_,_,_,_,_,rfl,rfl,?_⟩
   cases dn with
   |true=>exact Iff.rfl
   |false=>exact hop
 ·rw[if_neg h0,if_neg h0]
  by_cases h9:decide (q.1=9)=true
  ·rw[if_pos h9,if_pos h9,aFr (op:=op) (op':=op')]
   cases C0 (tag,(cms,(fds,(es,())))) ((x1,(src,(x2,(cm,(fl,(st,(fd,()))))))),(hs,(ht,(op',())))) (q.1,(q.2.1,(q.2.2.1,(q.2.2.2,())))) with
   |none=>exact .inl ⟨rfl,rfl⟩
   |some t=>exact .inr ⟨_,_,_,_,_,_,_,_,_,_,_,_,_,_,_,_,_,rfl,rfl,Iff.rfl⟩
  ·rw[if_neg h9,if_neg h9,a8Q (op:=op) (op':=op')]
   by_cases h2:(((decide ((2:Int)≤q.1))&&(decide (q.1≤(7:Int))))&&(!decide (q.1=(3:Int))))=true
   ·rw[if_pos h2,if_pos h2]
    cases sU ((x1,(src,(x2,(cm,(fl,(st,(fd,()))))))),(hs,(ht,(op',())))) (q.1,(q.2.1,(q.2.2.1,(q.2.2.2,())))) with
    |none=>exact .inl ⟨rfl,rfl⟩
    |some t=>
     rw[Option.bind_some,Option.bind_some]
     by_cases ho:op<0
     ·rw[if_pos (by simpa using ho),if_pos (by simpa using hop.1 ho)]
      exact .inr ⟨_,_,_,_,_,_,_,_,_,_,_,_,_,_,_,_,_,rfl,rfl,by omega⟩
     ·rw[if_neg (by simpa using ho),if_neg (by simpa using fun hh=>ho (hop.2 hh))]
      exact .inr ⟨_,_,_,_,_,_,_,_,_,_,_,_,_,_,_,_,_,rfl,rfl,hop⟩
   ·rw[if_neg h2,if_neg h2]
    by_cases h1:decide ((1:Int)<q.1)=true
    ·rw[if_pos h1,if_pos h1]
     exact .inr ⟨_,_,_,_,_,_,_,_,_,_,_,_,_,_,_,_,_,rfl,rfl,hop⟩
    ·rw[if_neg h1,if_neg h1]
     exact .inr ⟨_,_,_,_,_,_,_,_,_,_,_,_,_,_,_,_,_,rfl,rfl,hop⟩
end Go.Proofs.YtfchbnahjcdiiaaGreatDoor
namespace Go.Proofs.YtfchbnahjcdiiaaGreatDoor
open Vc
set_option maxRecDepth 100000
theorem a8S {l:List UInt8}{b b':RS}(h:QR b b'):(A6 l b=none∧A6 l b'=none)∨(∃c c',A6 l b=some (.inl c)∧A6 l b'=some (.inl c')∧QR c c')∨
  ∃a a' e,A6 l b=some (.inr ([],[],[],[],[],a,e))∧A6 l b'=some (.inr ([],[],[],[],[],a',e)):=by
 unfold A6
 cases xD l with
 |none=>exact .inl ⟨rfl,rfl⟩
 |some q=>
  rw[Option.bind_some,Option.bind_some]
  rcases aFu h q with⟨e1,e2⟩ |⟨e,dn,tag,cms,fds,es,x1,src,x2,cm,fl,st,fd,hs,ht,op,op',e1,e2,hop⟩
  ·rw[e1,e2];exact .inl ⟨rfl,rfl⟩
  ·obtain⟨ends,ends',a,a',i,i',tag0,cms0,fds0,es0,x10,src0,x20,cm0,fl0,st0,fd0,hs0,ht0,op0,op0',rfl,rfl,hl,ha,ha',hop0⟩:=h
   rw[e1,e2,Option.bind_some,Option.bind_some]
   dsimp only
   by_cases g1:(!decide (e=(0:Int)))=true
   ·rw[if_pos g1,if_pos g1]
    exact .inr (.inr ⟨_,_,_,rfl,rfl⟩)
   ·rw[if_neg g1,if_neg g1,hl]
    by_cases g2:dn=true
    ·rw[if_pos g2,if_pos g2]
     by_cases g3:(ends'.length+1)*8≤140737488355328
     ·rw[if_pos g3,if_pos g3]
      exact .inr (.inl ⟨_,_,rfl,rfl,_,_,_,_,_,_,_,_,_,_,_,_,_,_,_,_,_,_,_,_,_,rfl,rfl,by simp [hl],by omega,by omega,hop⟩)
     ·rw[if_neg g3,if_neg g3];exact .inl ⟨rfl,rfl⟩
    ·rw[if_neg g2,if_neg g2]
     exact .inr (.inl ⟨_,_,rfl,rfl,_,_,_,_,_,_,_,_,_,_,_,_,_,_,_,_,_,_,_,_,_,rfl,rfl,hl,by omega,by omega,hop⟩)
def CI (x y:Option (FR⊕fS)):Prop:=
 (x=none∧y=none)∨(∃ends ends' tag cms fds es x1 src x2 cm fl st fd hs ht op op',x=some (.inl (ends,tag,cms,fds,es,x1,src,x2,cm,fl,st,fd,hs,ht,op))∧y=some (.inl (ends',tag,cms,fds,es,x1,src,x2,cm,fl,st,fd,hs,ht,op'))∧ends.length=ends'.length∧(op<0↔op'<0))∨
 ∃a a' e,x=some (.inr ([],[],[],[],[],a,e))∧y=some (.inr ([],[],[],[],[],a',e))
theorem a1w: ∀(ls:List (List UInt8)) {b b':RS},QR b b'→CI (sF ls b) (sF ls b')
 |[],b,b',h=>by
  obtain⟨ends,ends',a,a',i,i',tag,cms,fds,es,x1,src,x2,cm,fl,st,fd,hs,ht,op,op',rfl,rfl,hl,ha,ha',hop⟩:=h
  exact .inr (.inl ⟨_,_,_,_,_,_,_,_,_,_,_,_,_,_,_,_,_,rfl,rfl,hl,hop⟩)
 |l::ls,b,b',h=>by
  rw[sF,sF]
  rcases a8S (l:=l) h with⟨e1,e2⟩ |⟨c,c',e1,e2,hq⟩ |⟨a,a',e,e1,e2⟩
  ·rw[e1,e2];exact .inl ⟨rfl,rfl⟩
  ·rw[e1,e2]
   exact a1w ls hq
  ·rw[e1,e2]
   exact .inr (.inr ⟨_,_,_,rfl,rfl⟩)
theorem skip {l:List UInt8}{f:Int}(hf:f=0∨f=1) (hp:xD l=some (f,[],[],false)) {b:RS}(h0:0≤b.2.1): ∃c,A6 l b=some (.inl c)∧QR b c:=by
 obtain⟨ends,a,i,tag,cms,fds,es,x1,src,x2,cm,fl,st,fd,hs,ht,op⟩:=b
 dsimp only at h0
 have hr:uF (ends,a,i,tag,cms,fds,es,x1,src,x2,cm,fl,st,fd,hs,ht,op) (f,[],[],false)=some (0,false,tag,cms,fds,es,x1,src,x2,cm,fl,st,fd,hs,ht,op):=by
  unfold uF v6
  dsimp only
  rcases hf with rfl|rfl
  ·simp only[pH,Option.bind_some,decide_eq_true_eq,Int.reduceEq,Int.reduceLT,↓reduceIte]
   split<;>rfl
  ·simp only[pH,Option.bind_some,decide_eq_true_eq,Int.reduceEq,Int.reduceLT,↓reduceIte]
   split<;>rfl
 refine⟨(ends,a+(l.length:Int),i+1,tag,cms,fds,es,x1,src,x2,cm,fl,st,fd,hs,ht,op),?_,_,_,_,_,_,_,_,_,_,_,_,_,_,_,_,_,_,_,_,_,_,rfl,rfl,rfl,h0,by omega,Iff.rfl⟩
 unfold A6
 rw[hp,Option.bind_some,hr,Option.bind_some]
 rfl
end Go.Proofs.YtfchbnahjcdiiaaGreatDoor
namespace Go.Proofs.YtfchbnahjcdiiaaGreatDoor
open Vc
set_option maxRecDepth 100000
theorem a8T (u:List UInt8):sR 10 (u++[10])=u:=by unfold sR;rw[if_pos (by simp)];simp
theorem a8U {more:List UInt8}:CE (32::35::more++[10])=35::more∧CE (35::more++[10])=35::more:=by
 unfold CE
 rw[a8T,a8T]
 exact⟨rfl,rfl⟩
theorem a8V {line more:List UInt8}(hc:CE line=35::more) (hl:line.length≤5000) (hd:more.head?≠some 46):xD line=some (1,[],[],false):=by
 unfold xD
 rw[a1p (by unfold fit;omega),hc,Option.bind_some,if_neg (show¬decide ((35::more:List UInt8)=[])=true by simp),a1n,Option.bind_some,FE]
 have hb: ¬qM 35 46 (35::more)=true:=by
  intro h
  obtain⟨r,hr⟩:=IB h
  injection hr with _ h2
  exact hd (by rw[h2];rfl)
 rw[if_neg hb,QO,Option.bind_some,I9,if_pos (by simp)]
theorem aFv:xD [32,9,10]=some (0,[],[],false):=by
 unfold xD
 rw[a1p (by unfold fit;decide),show CE [32,9,10]=[] from rfl]
 rfl
end Go.Proofs.YtfchbnahjcdiiaaGreatDoor
namespace Go.Proofs.YtfchbnahjcdiiaaGreatDoor
open Vc
set_option maxRecDepth 100000
theorem aFw {a b c:RS}(h1:QR a b) (h2:QR b c):QR a c:=by
 obtain⟨ends,ends',p,p',i,i',tag,cms,fds,es,x1,src,x2,cm,fl,st,fd,hs,ht,op,op',rfl,rfl,hl,ha,ha',hop⟩:=h1
 obtain⟨e1,e2,q,q',j,j',tag2,cms2,fds2,es2,y1,src2,y2,cm2,fl2,st2,fd2,hs2,ht2,o1,o2,hb,rfl,hl2,hq,hq',ho⟩:=h2
 simp only[Prod.mk.injEq] at hb
 obtain⟨rfl,rfl,rfl,rfl,rfl,rfl,rfl,rfl,rfl,rfl,rfl,rfl,rfl,rfl,rfl,rfl,rfl⟩:=hb
 exact⟨_,_,_,_,_,_,_,_,_,_,_,_,_,_,_,_,_,_,_,_,_,rfl,rfl,hl.trans hl2,ha,hq',hop.trans ho⟩
def QV (l:List UInt8):Prop:= ∃f,(f=0∨f=1)∧xD l=some (f,[],[],false)
theorem aFx {b b':RS}(h:QR b b'):0≤b'.2.1:=by
 obtain⟨ends,ends',p,p',i,i',tag,cms,fds,es,x1,src,x2,cm,fl,st,fd,hs,ht,op,op',rfl,rfl,hl,ha,ha',hop⟩:=h
 exact ha'
theorem a8W: ∀(xs post:List (List UInt8)) {b b':RS},(∀x∈xs,QV x)→QR b b'→CI (sF post b) (sF (xs++post) b')
 |[],post,b,b',_,h=>a1w post h
 |x::xs,post,b,b',hx,h=>by
  obtain⟨f,hf,hp⟩:=hx x List.mem_cons_self
  obtain⟨c,h1,h2⟩:=skip hf hp (aFx h)
  rw[List.cons_append,sF,h1]
  exact a8W xs post (fun y hy=>hx y (List.mem_cons_of_mem _ hy)) (aFw h h2)
theorem a1x (xs post:List (List UInt8)) (hx: ∀x∈xs,QV x): ∀(pre:List (List UInt8)) {b b':RS},QR b b'→CI (sF (pre++post) b) (sF (pre++xs++post) b')
 |[],b,b',h=>a8W xs post hx h
 |l::pre,b,b',h=>by
  rw[List.cons_append,List.cons_append,List.cons_append,sF,sF]
  rcases a8S (l:=l) h with⟨e1,e2⟩ |⟨c,c',e1,e2,hq⟩ |⟨a,a',e,e1,e2⟩
  ·rw[e1,e2];exact .inl ⟨rfl,rfl⟩
  ·rw[e1,e2]
   exact a1x xs post hx pre hq
  ·rw[e1,e2]
   exact .inr (.inr ⟨_,_,_,rfl,rfl⟩)
end Go.Proofs.YtfchbnahjcdiiaaGreatDoor
namespace Go.Proofs.YtfchbnahjcdiiaaGreatDoor
open Vc
set_option maxRecDepth 100000
def vC:RS:=([],0,0,[],[],[],[],[],[],[],[],[],0,[],false,false,-1)
theorem aFy (s:List UInt8):(LN s).flatten.length=s.length:=by rw[(QU s.length s (Nat.le_refl _)).2]
theorem a8X {s:List UInt8}(hs:s.length≤5000):p9 (vH (LN s)) vC=sF (LN s) vC:=by
 have hl:(LN s).length≤s.length:=by
  unfold LN
  rw[List.length_map]
  exact a1s s _ _
 refine a1v (by omega) (LN s) 0 vC (by rw[List.drop_zero]) rfl (Int.le_refl _) ?_
 rw[aFy]
 show (0:Int)+(s.length:Int)≤1000000
 omega
theorem aFz {s t:List UInt8}(hs:s.length≤5000) (ht:t.length≤5000) (h:CI (sF (LN s) vC) (sF (LN t) vC)):
  ∃v v',HL s=some v∧HL t=some v'∧v'.1=v.1∧v'.2.1=v.2.1∧v'.2.2.1=v.2.2.1∧v'.2.2.2.1=v.2.2.2.1∧v'.2.2.2.2.2=v.2.2.2.2.2:=by
 obtain⟨v,_,h1,_⟩:=QT hs
 obtain⟨v',_,h2,_⟩:=QT ht
 refine⟨v,v',h1,h2,?_⟩
 have es:=a8X hs
 have et:=a8X ht
 have hLs:zC s=some (LN s):=QS (by omega)
 have hLt:zC t=some (LN t):=QS (by omega)
 unfold HL KX at h1 h2
 rw[hLs,Option.bind_some] at h1
 rw[hLt,Option.bind_some] at h2
 have es':p9 (vH (LN s)) (([]:List Int),(0:Int),(0:Int),([]:List UInt8),([]:List (List UInt8)),([]:List p4),([]:List dT1),([]:List UInt8),([]:List UInt8),([]:List UInt8),([]:List (List UInt8)),([]:List (List UInt8)),(0:Int),([]:List p4),false,false,(-1:Int))=sF (LN s) vC:=es
 have et':p9 (vH (LN t)) (([]:List Int),(0:Int),(0:Int),([]:List UInt8),([]:List (List UInt8)),([]:List p4),([]:List dT1),([]:List UInt8),([]:List UInt8),([]:List UInt8),([]:List (List UInt8)),([]:List (List UInt8)),(0:Int),([]:List p4),false,false,(-1:Int))=sF (LN t) vC:=et
 rw[es'] at h1
 rw[et'] at h2
 rcases h with⟨e1,e2⟩ |⟨ends,ends',tag,cms,fds,es0,x1,src,x2,cm,fl,st,fd,hs0,ht0,op,op',e1,e2,hl,hop⟩ |⟨a,a',e,e1,e2⟩
 ·rw[e1] at h1;cases h1
 ·rw[e1] at h1
  rw[e2] at h2
  simp only[qD,Option.bind_some,hl] at h1 h2
  by_cases h0:decide ((ends'.length:Int)=0)=true
  ·rw[if_pos h0] at h1 h2
   cases h1;cases h2;exact⟨rfl,rfl,rfl,rfl,rfl⟩
  ·rw[if_neg h0] at h1 h2
   by_cases ho:0≤op
   ·rw[if_pos (by simpa using ho)] at h1
    rw[if_pos (by simp;omega)] at h2
    cases h1;cases h2;exact⟨rfl,rfl,rfl,rfl,rfl⟩
   ·rw[if_neg (by simpa using ho)] at h1
    rw[if_neg (by simp;omega)] at h2
    cases h1;cases h2;exact⟨rfl,rfl,rfl,rfl,rfl⟩
 ·rw[e1] at h1
  rw[e2] at h2
  cases h1;cases h2;exact⟨rfl,rfl,rfl,rfl,rfl⟩
end Go.Proofs.YtfchbnahjcdiiaaGreatDoor
namespace Go.Proofs.YtfchbnahjcdiiaaGreatDoor
open Vc
set_option maxRecDepth 1000000
end Go.Proofs.YtfchbnahjcdiiaaGreatDoor
namespace Go.Proofs.YtfchbnahjcdiiaaGreatDoor
open Vc
set_option maxRecDepth 100000
theorem a8Y {σ ρ:Type}{f:σ→Option (σ⊕ρ)}{n:Nat}(st:Nat→σ) {r:ρ}(h: ∀i,i<n→f (st i)=some (.inl (st (i+1)))) (he:f (st n)=some (.inr r)): ∀(k i:Nat),i+k=n→p9 f (st i)=some r
 |0,i,hi=>by
  have:i=n:=by omega
  subst this
  exact B7 he
 |k+1,i,hi=>by
  rw[QN (h i (by omega))]
  exact a8Y st h he k (i+1) (by omega)
end Go.Proofs.YtfchbnahjcdiiaaGreatDoor
namespace Go.Proofs.YtfchbnahjcdiiaaGreatDoor
open Vc
set_option maxRecDepth 100000
theorem a1y:QR vC vC:=⟨_,_,_,_,_,_,_,_,_,_,_,_,_,_,_,_,_,_,_,_,_,rfl,rfl,rfl,Int.le_refl _,Int.le_refl _,Iff.rfl⟩
abbrev CJ (more:List UInt8):List UInt8:=32::35::more++[10]
abbrev FN (more:List UInt8):List UInt8:=35::more++[10]
abbrev CK:List UInt8:=[32,9,10]
section
variable {more:List UInt8}(hno:(10:UInt8)∉more) (hd:more.head?≠some 46) (hm:more.length≤200)
include hno in
theorem a8Z:(∀x∈[CJ more,CK],IC x)∧(∀x∈[FN more],IC x):=by
  refine⟨fun x hx=> ?_,fun x hx=> ?_⟩
  · simp only[List.mem_cons,List.not_mem_nil,or_false] at hx
    rcases hx with rfl|rfl
    ·exact⟨32::35::more,by simp [hno],rfl⟩
    ·exact⟨[32,9],by decide,rfl⟩
  · simp only[List.mem_cons,List.not_mem_nil,or_false] at hx
    subst hx
    exact⟨35::more,by simp [hno],rfl⟩
include hd hm in
theorem a80:(∀x∈[CJ more,CK],QV x)∧(∀x∈[FN more],QV x):=by
  refine⟨fun x hx=> ?_,fun x hx=> ?_⟩
  · simp only[List.mem_cons,List.not_mem_nil,or_false] at hx
    rcases hx with rfl|rfl
    ·exact⟨1,.inr rfl,a8V a8U.1 (by simp;omega) hd⟩
    ·exact⟨0,.inl rfl,aFv⟩
  · simp only[List.mem_cons,List.not_mem_nil,or_false] at hx
    subst hx
    exact⟨1,.inr rfl,a8V a8U.2 (by simp;omega) hd⟩
include hno hd hm in
theorem aFA {s:List UInt8}(hs:s.length≤4000) {k:Nat}(hk:k<(LN s).length):
    let t:=((LN s).take k++[CJ more,CK]++(LN s).drop k).flatten
    t.length≤5000∧CI (sF (LN s) vC) (sF (LN t) vC):=by
  obtain⟨hw,hf⟩:=QU s.length s (Nat.le_refl _)
  intro t
  have hL:LN t=(LN s).take k++[CJ more,CK]++(LN s).drop k:=a8P (aFo hw (a8Z hno).1 hk)
  refine⟨?_,?_⟩
  · have h1:t.length=((LN s).take k).flatten.length+(CJ more++CK).length+((LN s).drop k).flatten.length:=by
      show (((LN s).take k++[CJ more,CK]++(LN s).drop k).flatten).length=_
      simp only[List.flatten_append,List.length_append,List.flatten_cons,List.flatten_nil,List.append_nil]
    have h2:((LN s).take k).flatten.length+((LN s).drop k).flatten.length=s.length:=by
      rw[←List.length_append,←List.flatten_append,List.take_append_drop,hf]
    simp only[List.length_append,List.length_cons,List.length_nil] at h1
    omega
  · rw[hL]
    have:=a1x [CJ more,CK] ((LN s).drop k) (a80 hd hm).1 ((LN s).take k) a1y
    rwa [List.take_append_drop] at this
include hno hd hm in
theorem aFB {s:List UInt8}(hs:s.length≤4000) (he:s=[]∨s.getLast? =some 10):
    (s++FN more).length≤5000∧CI (sF (LN s) vC) (sF (LN (s++FN more)) vC):=by
  obtain⟨hw,hf⟩:=QU s.length s (Nat.le_refl _)
  have hL:LN (s++FN more)=LN s++[FN more]:=by
    have h:=a8P (aFq hw (by rw[hf];exact he) (a8Z hno).2)
    rw[List.flatten_append,hf,List.flatten_cons,List.flatten_nil,List.append_nil] at h
    exact h
  refine⟨?_,?_⟩
  · simp only[List.length_append,List.length_cons,List.length_nil]
    omega
  · rw[hL]
    have:=a1x [FN more] [] (a80 hd hm).2 (LN s) a1y
    rwa [List.append_nil,List.append_nil] at this
end
theorem aFC (s:List UInt8):CI (sF (LN s) vC) (sF (LN s) vC):=a1w _ a1y
theorem aFD {s t:List UInt8}(hs:s.length≤5000) (ht:t.length≤5000) (h:CI (sF (LN s) vC) (sF (LN t) vC)):
    ∃v v',vI s=some v∧vI t=some v'∧v.2.2.2.2.2=v'.2.2.2.2.2∧v.1=v'.1∧tN v.2.1 v'.2.1=some true∧wL v.2.2.1 v'.2.2.1=some true∧zY v.2.2.2.1 v'.2.2.2.1=some true:=by
  obtain⟨v,p1,q1,f1,f2,f3,f4⟩:=QT hs
  obtain⟨v',p2,q2,_⟩:=QT ht
  obtain⟨w,w',e1,e2,g1,g2,g3,g4,g5⟩:=aFz hs ht h
  rw[q1] at e1
  rw[q2] at e2
  cases e1
  cases e2
  refine⟨v,v',p1,p2,g5.symm,g1.symm,?_,?_,?_⟩
  ·rw[g2];exact LG _ f1
  ·rw[g3];exact a1g _ f2
  ·rw[g4];exact aEF _ f3 f4
theorem a1z {s t:List UInt8}(hs:s.length≤5000) (ht:t.length≤5000) (h:CI (sF (LN s) vC) (sF (LN t) vC)):
    ((vI s).bind fun O=>
       (vI t).bind fun Z=>
       if (((decide (O.2.2.2.2.2=Z.2.2.2.2.2))==true)=true→((F7 (O.1,(O.2.1,(O.2.2.1,(O.2.2.2.1,())))) (Z.1,(Z.2.1,(Z.2.2.1,(Z.2.2.2.1,())))))).isSome=true) then
        some (((decide (O.2.2.2.2.2=Z.2.2.2.2.2))&&((((decide (O.1=Z.1))&&(val (tN O.2.1 Z.2.1)))&&(val (wL O.2.2.1 Z.2.2.1)))&&(val (zY O.2.2.2.1 Z.2.2.2.1)))))
       else none)=some true:=by
  obtain⟨v,v',p1,p2,g5,g1,g2,g3,g4⟩:=aFD hs ht h
  rw[p1,p2,Option.bind_some,Option.bind_some]
  have hE:F7 (v.1,(v.2.1,(v.2.2.1,(v.2.2.2.1,())))) (v'.1,(v'.2.1,(v'.2.2.1,(v'.2.2.2.1,()))))=some ():=by
    unfold F7 KF
    dsimp only
    rw[g2,g3,g4]
    rw[if_pos sL,if_pos sL,Option.bind_some,if_pos sL]
  rw[hE,if_pos sL,g2,g3,g4]
  simp [val,g5,g1]
theorem aFE {more:List UInt8}{i:Nat}(hi:i<more.length) (hm:more.length≤200):
    C9 more (i:Int)=if more[i]=10∨(i=0∧more[i]=46) then some (.inr (.inr true)) else some (.inl ((i+1:Nat):Int)):=by
  unfold C9
  rw[if_pos (rY hi),if_pos (pW hi),if_pos (fun _=>pW hi),tC hi]
  have h10:decide ((more[i].toNat:Int)=10)=decide (more[i]=10):=by
    by_cases h:more[i]=10
    ·rw[h];rfl
    ·rw[decide_eq_false h,decide_eq_false (fun hh=>h (y5.1 (show (more[i].toNat:Int)=((10:UInt8).toNat:Int) from hh)))]
  have h46:decide ((more[i].toNat:Int)=46)=decide (more[i]=46):=by
    by_cases h:more[i]=46
    ·rw[h];rfl
    ·rw[decide_eq_false h,decide_eq_false (fun hh=>h (y5.1 (show (more[i].toNat:Int)=((46:UInt8).toNat:Int) from hh)))]
  rw[h10,h46]
  by_cases hc:more[i]=10∨(i=0∧more[i]=46)
  · rw[if_pos hc,if_pos]
    rcases hc with h|⟨h,h'⟩
    ·simp [h]
    · subst h
      simp [h']
  · rw[if_neg hc,if_neg,if_pos (qO (by omega))]
    ·rfl
    · intro h
      apply hc
      simp only[Bool.or_eq_true,Bool.and_eq_true,decide_eq_true_eq] at h
      rcases h with h|⟨h,h'⟩
      ·exact .inl h
      ·exact .inr ⟨by omega,h'⟩
theorem a81 {more:List UInt8}(hm:more.length≤200): ∀(m i:Nat),i+m=more.length→(∀j (h:j<more.length),j<i→more[j]≠10∧(j=0→more[j]≠46))→
    p9 (C9 more) (i:Int)=some (.inr true)∨(p9 (C9 more) (i:Int)=some (.inl ())∧(10:UInt8)∉more∧more.head?≠some 46)
  | 0,i,hi,hp=>by
    have:i=more.length:=by omega
    subst this
    right
    refine⟨sO (by unfold C9;rw[if_neg (v7 _)]),?_,?_⟩
    · intro h
      obtain⟨j,hj,he⟩:=List.getElem_of_mem h
      exact(hp j hj hj).1 he
    · intro h
      cases more with
      |nil=>cases h
      | cons b t=>
        have:=(hp 0 (by simp) (by simp)).2 rfl
        simp at h this
        exact this h
  | m+1,i,hi,hp=>by
    have hil:i<more.length:=by omega
    have hst:=aFE hil hm
    by_cases hc:more[i]=10∨(i=0∧more[i]=46)
    · rw[if_pos hc] at hst
      exact .inl (sO hst)
    · rw[if_neg hc] at hst
      rw[AI hst]
      refine a81 hm m (i+1) (by omega) fun j h hj=> ?_
      by_cases hji:j=i
      · subst hji
        exact⟨fun h=>hc (.inl h),fun h0 h=>hc (.inr ⟨h0,h⟩)⟩
      ·exact hp j h (by omega)
def wR (L:List (List UInt8)) (more:List UInt8) (k:Int) (i:Nat):List UInt8:=
  if 0≤k∧k<i then(L.take k.toNat++[CJ more,CK]++(L.take i).drop k.toNat).flatten else(L.take i).flatten
theorem aFF {L:List (List UInt8)}{more:List UInt8}{k:Int}{i:Nat}(hi:i<L.length):
    wR L more k (i+1)=if (i:Int)=k then(wR L more k i++((([32,35]:List UInt8)++more)++([10,32,9,10]:List UInt8)))++L[i] else wR L more k i++L[i]:=by
  have ht:L.take (i+1)=L.take i++[L[i]]:=by rw[List.take_add_one,List.getElem?_eq_getElem hi];rfl
  unfold wR
  by_cases hk:(i:Int)=k
  · subst hk
    rw[if_pos rfl,if_pos (by omega),if_neg (by omega),Int.toNat_natCast,ht,List.drop_append_of_le_length (by rw[List.length_take];omega),List.drop_of_length_le (by rw[List.length_take];omega)]
    simp
  · rw[if_neg hk]
    by_cases h:0≤k∧k<i
    · rw[if_pos (by omega),if_pos h,ht,List.drop_append_of_le_length (by rw[List.length_take];omega)]
      simp [List.append_assoc]
    · rw[if_neg (by omega),if_neg h,ht]
      simp only[List.flatten_append,List.flatten_cons,List.flatten_nil,List.append_nil]
theorem a82 {L:List (List UInt8)}{more:List UInt8}{k:Int}{i:Nat}:(wR L more k i).length≤L.flatten.length+more.length+6:=by
  have h1:(L.take i).flatten.length≤L.flatten.length:=by
    have:=congrArg List.length (congrArg List.flatten (List.take_append_drop i L))
    rw[List.flatten_append,List.length_append] at this
    omega
  unfold wR
  split
  · rename_i h
    have h2:(L.take k.toNat).flatten.length+((L.take i).drop k.toNat).flatten.length=(L.take i).flatten.length:=by
      have h3:L.take k.toNat=(L.take i).take k.toNat:=by rw[List.take_take,Nat.min_eq_left (by omega)]
      rw[h3,←List.length_append,←List.flatten_append,List.take_append_drop]
    simp only[List.flatten_append,List.length_append,List.flatten_cons,List.flatten_nil,List.append_nil,List.length_cons,List.length_nil]
    omega
  ·omega
theorem aFG {s more:List UInt8}{at_:Int}{L:List (List UInt8)}(hL:L.flatten.length≤5000) (hl:L.length≤5000) (hm:more.length≤200):
    p9 (HU at_ more L) ([],0)=some (wR L more (Int.tmod (IntKind.wrap .i64 at_) ((List.length L:Int)+(1:Int))) L.length):=by
  generalize hk:Int.tmod (IntKind.wrap .i64 at_) ((List.length L:Int)+(1:Int))=k
  have hz:(([]:List UInt8),(0:Int))=(wR L more k 0,((0:Nat):Int)):=by
    unfold wR
    rw[if_neg (by omega)];rfl
  rw[hz]
  refine a8Y (f:=HU at_ more L) (n:=L.length) (fun i=>(wR L more k i,(i:Int))) (fun i hi=> ?_) ?_ L.length 0 (by omega)
  · have h0:=a82 (L:=L) (more:=more) (k:=k) (i:=i)
    have h1:=a82 (L:=L) (more:=more) (k:=k) (i:=i+1)
    have hst:=aFF (L:=L) (more:=more) (k:=k) hi
    unfold HU
    dsimp only
    rw[if_pos (rY hi),hk]
    by_cases hc:(i:Int)=k
    · rw[if_pos hc] at hst
      rw[hst] at h1⊢
      have h2:((([32,35]:List UInt8)++more)++([10,32,9,10]:List UInt8)).length=more.length+6:=by simp
      have h3:(([32,35]:List UInt8)++more).length=more.length+2:=by simp
      rw[if_pos (by simpa using hc),if_pos (by rw[h3];omega),if_pos (by rw[h2];omega),if_pos (by rw[List.length_append,h2];omega),if_pos (pW hi),uZ (t:= .str) hi,if_pos (by omega),if_pos (qO (by omega))]
      rfl
    · rw[if_neg hc] at hst
      rw[hst] at h1⊢
      rw[if_neg (by simpa using hc),if_pos (pW hi),uZ (t:= .str) hi,if_pos (by omega),if_pos (qO (by omega))]
      rfl
  · unfold HU
    dsimp only
    rw[if_neg (v7 _)]
theorem aFH {s:List UInt8}(hne:s≠[]):oZ s ((s.length:Int)-1)=(10:Int)↔s.getLast? =some 10:=by
  have hp:0<s.length:=List.length_pos_iff.2 hne
  rw[show ((s.length:Int)-1)=((s.length-1:Nat):Int) by omega,tC (show s.length-1<s.length by omega),List.getLast?_eq_getElem?,List.getElem?_eq_getElem (show s.length-1<s.length by omega)]
  constructor
  · intro h
    rw[y5.1 (show ((s[s.length-1]).toNat:Int)=((10:UInt8).toNat:Int) from h)]
  · intro h
    injection h with h
    rw[h];rfl
theorem aFI (s:List UInt8) (at_:Int) (more:List UInt8):FA s at_ more=some true:=by
  unfold FA
  rw[aFm,Option.bind_some,if_neg (by decide)]
  by_cases h:((decide ((4000:Int)<(List.length s:Int)))||(decide ((200:Int)<(List.length more:Int))))=true
  ·rw[if_pos h]
  · rw[if_neg h]
    simp only[Bool.or_eq_true,decide_eq_true_eq] at h
    have hs:s.length≤4000:=by omega
    have hm:more.length≤200:=by omega
    rcases a81 hm more.length 0 (by omega) (fun j _ h=>by omega) with hb|⟨hok,hno,hd⟩
    · have hb':p9 (C9 more) (0:Int)=some (.inr true):=hb
      rw[hb'];rfl
    · have hok':p9 (C9 more) (0:Int)=some (.inl ()):=hok
      rw[hok',qD,Option.bind_some]
      dsimp only
      have hLs:zC s=some (LN s):=QS (by omega)
      obtain⟨hw,hf⟩:=QU s.length s (Nat.le_refl _)
      have hl:(LN s).length≤s.length:=by
        unfold LN
        rw[List.length_map]
        exact a1s s _ _
      rw[hLs,Option.bind_some,if_pos (by unfold i64;omega),if_pos (by omega),aFG (s:=s) (by rw[hf];omega) (by omega) hm]
      have hkl:Int.tmod (IntKind.wrap .i64 at_) ((List.length (LN s):Int)+1)<(List.length (LN s):Int)+1:=Int.tmod_lt_of_pos _ (by omega)
      generalize Int.tmod (IntKind.wrap .i64 at_) ((List.length (LN s):Int)+1)=k at hkl⊢
      unfold pH
      rw[Option.bind_some]
      have hside: ∀q:Bool,(((decide (k=(List.length (LN s):Int)))==true)&&(q==false))=true→q=decide (s=([]:List UInt8))→s≠[]:=by
        intro q h1 h2 h3
        rw[h2,decide_eq_true h3] at h1
        simp at h1
      rw[if_pos (fun h1=>by have:=hside _ h1 rfl;unfold i64;omega),if_pos (fun h1=>by
        have:=List.length_pos_iff.2 (hside _ h1 rfl)
        omega)]
      by_cases hc:((decide (k=(List.length (LN s):Int)))&&((decide (s=([]:List UInt8)))||(decide ((oZ s ((List.length s:Int)- (1:Int)))=(10:Int)))))=true
      · rw[if_pos hc]
        simp only[Bool.and_eq_true,Bool.or_eq_true,decide_eq_true_eq] at hc
        obtain⟨hk,he⟩:=hc
        have he':s=[]∨s.getLast? =some 10:=by
          by_cases hne:s=[]
          ·exact .inl hne
          ·exact .inr ((aFH hne).1 (he.resolve_left hne))
        have ho:wR (LN s) more k (LN s).length=s:=by
          unfold wR
          rw[if_neg (by omega),List.take_length,hf]
        obtain⟨h1,h2⟩:=aFB hno hd hm hs he'
        rw[ho,if_pos (by simp;omega),if_pos (by simp;omega),if_pos (by simp;omega),Option.bind_some]
        exact a1z (by omega) h1 h2
      · rw[if_neg hc,Option.bind_some]
        by_cases hk:0≤k∧k<((LN s).length:Int)
        · have ho:wR (LN s) more k (LN s).length=((LN s).take k.toNat++[CJ more,CK]++(LN s).drop k.toNat).flatten:=by
            unfold wR
            rw[if_pos hk,List.take_length]
          obtain⟨h1,h2⟩:=aFA hno hd hm hs (k:=k.toNat) (by omega)
          rw[ho]
          exact a1z (by omega) h1 h2
        · have ho:wR (LN s) more k (LN s).length=s:=by
            unfold wR
            rw[if_neg hk,List.take_length,hf]
          rw[ho]
          exact a1z (by omega) (by omega) (aFC s)
end Go.Proofs.YtfchbnahjcdiiaaGreatDoor
namespace Go.Proofs.YtfchbnahjcdiiaaGreatDoor
open Go.ChangeShapes Go.WideShapes Go.ChangeAt Go.RowKit
section
variable {H:Type}{enc:TypeId×Value→H}{P:Program}
theorem aFJ (hl:laidOutB P=true) {W W':World}(hb:Below W.heap.size W W'):
  ∀{ts:List TypeId}{vs:List Value}{ds:List (DataW H)}{ps:List MemPlace},(∀t∈ts,P.readableRec t=true∧t<P.types.size)→
  DataW.TrodAll enc P W 0 (fun _=>true) true ts vs ds ps→(∀x∈ps,x.block<W.heap.size)→
  DataW.TrodAll enc P W' 0 (fun b=>decide (b<W.heap.size)) true ts vs ds ps:=by
 intro ts
 induction ts with
 |nil=>
  intro vs ds ps _ h _
  obtain⟨rfl,rfl,rfl⟩:=trodAll_nil h
  exact trodAll_mk0
 |cons t ts ih=>
  intro vs ds ps hr h hlt
  obtain⟨v,vs',d,ds',p,q,rfl,rfl,rfl,h0,r0⟩:=trodAll_cons h
  exact trodAll_cons_mk (Below.trod hl (hr t (by simp)).1 (hr t (by simp)).2 h0 hb (fun x hx=>hlt x (by simp [hx]))) (ih (fun t' ht'=>hr t' (by simp [ht'])) r0 (fun x hx=>hlt x (by simp [hx])))
theorem aFK {f:Func}{s:ChangeSpec}{W W':World}{args:Array Value}{ds gs:List (DataW H)}{before:List MemPlace}{tb:TypeId}
  (hl:laidOutB P=true) (hr: ∀t∈f.params.toList,P.readableRec t=true∧t<P.types.size)
  (hW:DataW.Whole enc P f.params.toList s.vars false W args.toList ds gs before) (hv:s.vars=[])
  (hfn:s.fn H ds={results:=[.lit (.bool true)],args:=ds}) (hrt:f.resultTypes= #[tb]) (htb:P.underlying tb=some .bool)
  (hb:Below W.heap.size W W'):s.post enc P f false true false false W args (.bool true) W':=by
 have hW':=hW
 obtain⟨p,q,hA,hV,rfl,hfz,hnd⟩:=hW
 rw[hv] at hV
 obtain⟨rfl,rfl⟩:=trodVars_none hV
 have hlt: ∀x∈p,x.block<W.heap.size:=fun x hx=>by simpa using hW'.lt x (by simp [hx])
 refine⟨ds,[],p++[],[],p,[],hW',?_,?_,?_,hb.frame _,fun h=>by cases h⟩
 ·rw[List.append_nil,hfn,hrt]
  exact trodAll_mk1 (shut_bool htb true)
 ·rw[List.append_nil,hfn]
  exact aFJ hl hb hr hA hlt
 ·rw[hv,List.append_nil,hfn]
  rfl
end
end Go.Proofs.YtfchbnahjcdiiaaGreatDoor
namespace Go.Proofs.YtfchbnahjcdiiaaGreatDoor
open Go.ChangeShapes Go.WideShapes Go.ChangeAt Go.RowKit
section
variable {H:Type}{enc:TypeId×Value→H}
theorem aFL {C:Checked}{f:FuncId}{fn:Func}{s:ChangeSpec}{tb:TypeId}{B9:List (String×DataW Unit)}(own:ownKnob C.prog.godebug=none) {os:Os}(started:os.Started) (F:Stop.Interp)
  (noInit:C.prog.inits.idxOf? f=none) (hfn:C.prog.funcs[f]? =some fn)
  (hl:laidOutB C.prog=true) (hr: ∀t∈fn.params.toList,C.prog.readableRec t=true∧t<C.prog.types.size) (hv:s.vars=[])
  (hrt:fn.resultTypes= #[tb]) (htb:C.prog.underlying tb=some .bool)
  (hspec: ∀(ds:List (DataW H)) (W:World) (args:Array Value) ps,DataW.TrodAll enc C.prog W 0 (fun _=>true) true fn.params.toList args.toList ds ps→s.fn H ds={results:=[.lit (.bool true)],args:=ds})
  (witness: ∃(w:World) (tape:Tape) (i:Input),w.os=os∧(w.forCall tape i).Shaped C.prog∧i.vars=[]∧Input.okWide C.prog (w.forCall tape i) .any w.heap.size f i∧
   (OpenSpec.ofChange s).preRow enc C.prog fn [] false B9 (w.forCall tape i).memory i.args∧Assume.holds {} C.prog (lone (Frame.enter C.prog f i.args .normal) [] (w.forCall tape i)))
  (contract: ∀(W:World) (base:Nat) (args:Array Value) (ds:List (DataW H)) (ps:List MemPlace),
   (∀(j:Nat) t v,fn.params[j]? =some t→args[j]? =some v→Value.okWide C.prog W .any base t v)→
   DataW.TrodAll enc C.prog W 0 (fun _=>true) true fn.params.toList args.toList ds ps→
   (∀x∈ps,x.block<W.heap.size)→laidMetH C.prog B9 W→W.ShapedOpen C.prog→
   Calls C.prog f args W fun e W'=>e= .returned (.bool true)∧Below W.heap.size W W'):
  ReturnsInHanded {} C os f .any ((OpenSpec.ofChange s).preRow enc C.prog fn [] false B9) (s.post enc C.prog fn false true false false):=by
 refine returnsInHanded_of_row (C:=C) (s:=OpenSpec.ofChange s) (F:=F) own started noInit hfn witness ?_
 intro W base args ds gs before hval hW _ _ hsz hL hsh _
 have hW':=hW
 obtain⟨p,q,hA,hV,rfl,hfz,hnd⟩:=hW
 have hV':DataW.TrodVars enc C.prog W (fun _=>true) s.vars gs q:=hV
 rw[hv] at hV'
 obtain⟨rfl,rfl⟩:=trodVars_none hV'
 have hlt: ∀x∈p,x.block<W.heap.size:=fun x hx=>by simpa using hW'.lt x (by simp [hx])
 refine(contract W base args ds p hval hA hlt hL hsh).mono fun e W' ⟨he,hb⟩=> ?_
 subst he
 exact⟨_,rfl,aFK hl hr hW' hv (hspec ds W args p hA) hrt htb hb⟩
end
end Go.Proofs.YtfchbnahjcdiiaaGreatDoor
namespace Go.Proofs.YtfchbnahjcdiiaaGreatDoor
open Go.Shelf Go.Lib
open Vc
set_option maxRecDepth 100000
theorem aFM:(Rows.laid_unicode_utf8_first:DataW Unit)=Lib.firstData:=by kernel_rfl
theorem aFN:(Rows.laid_unicode_utf8_acceptRanges:DataW Unit)=Lib.acceptData:=by kernel_rfl
theorem aFO {P:Program}{w:World}{g:Nat}{t:TypeId}{k:IntKind}{zero:Array Value}(h:w.ShapedOpen P) (hg:g<P.globals.size)
  (h0:((begin P (fun _ _=>0) default).world.heap[g]?).bind Obj.row? =some (zero,t)) (hz:zero.size=1)
  (hb:P.buildable t=true) (hc:P.cellTypes P.depth t=some [t]) (hu:P.underlying t=some (.int k)): ∃m,w.cell? ⟨g,0,none⟩=some (.int k m):=by
 obtain⟨cs,hh,hs,hr⟩:=h.1 g zero t hg h0
 obtain⟨ts,hts,_,hall⟩:=hr hb
 rw[hc] at hts
 cases hts
 have h1:0<cs.size:=by omega
 obtain⟨u,hu',hok⟩:=hall 0 cs[0] (by simp [h1])
 have:u=t:=by simpa using hu'.symm
 subst this
 have hcell:w.cell? ⟨g,0,none⟩=some cs[0]:=by simp [World.cell?,hh,h1]
 rw[hcell]
 unfold Cell.ok at hok
 rw[hu] at hok
 cases hv:cs[0]<;>rw[hv] at hok<;>simp at hok
 rename_i k' m
 exact⟨m,by rw[hok.1]⟩
theorem aFP {W:World}(hsh:W.ShapedOpen Tryz.prog): ∃m,W.cell? ⟨0,0,none⟩=some (.int .i64 m):=
 aFO (t:=3) (zero:= #[.int .i64 0]) hsh (of_decide_eq_true (by kernel_rfl)) (by kernel_rfl) rfl (by kernel_rfl) (by kernel_rfl) Tryz.underlying3
def aFQ:Ren:=⟨fun x=>x,fun x=>if x=5 then 5 else if x=119 then 224 else if x=138 then 226 else 227,fun x=>if x=3 then 1 else 2⟩
theorem a1A {w:World}{a:Addr}{v:Value}(h:w.cell? a=some v):a.block<w.heap.size:=by
 unfold World.cell? at h
 split at h
 ·rename_i hb;exact(Array.getElem?_eq_some_iff.1 hb).1
 ·cases h
theorem aFR {W:World}(hL:laidMet Tryz.prog Rows.treeParseRow.laid W) (hsh:W.ShapedOpen Tryz.prog):Tabs W:=by
 obtain⟨m,hm⟩:=aFP hsh
 have h1:=laidMet.reads hL (.head _)
 have h2:=laidMet.reads hL (.tail _ (.head _))
 rw[aFM] at h2
 rw[aFN] at h1
 have hU:Lib.Utf8Tabs 1 2 W:=utf8Tabs_of_readsT (ρ:=aFQ) ⟨by kernel_rfl,by kernel_rfl,by kernel_rfl,by kernel_rfl⟩ ⟨by kernel_rfl,by kernel_rfl,by kernel_rfl,by kernel_rfl,by kernel_rfl,by kernel_rfl,by kernel_rfl⟩ h2 h1
 refine⟨?_,hU,⟨m,hm⟩,fun _ h=>by cases h⟩
 have b0:0<W.heap.size:=a1A hm
 have b1:1<W.heap.size:=a1A (hU.1 0 (by decide))
 have b2:2<W.heap.size:=a1A (hU.2 0 (by decide)).1
 show 3≤W.heap.size
 omega
end Go.Proofs.YtfchbnahjcdiiaaGreatDoor
namespace Go.Proofs.YtfchbnahjcdiiaaGreatDoor
open Vc
open Go.ChangeShapes Go.WideShapes Go.ChangeAt Go.RowKit
set_option maxRecDepth 100000
def x4 (w:World):Gh:=⟨fun b _=>b<w.heap.size,fun _=>none,fun _ _=>none⟩
theorem aFT {W:World}(hT:Tabs W) (s:ByteArray) (a:Int) (m:ByteArray):
  Calls Tryz.prog 7 #[.string s,.int .u16 a,.string m] W fun e W'=>e= .returned (.bool true)∧Below W.heap.size W W':=by
 have hC:a0F (KZ s.data.toList a m.data.toList) PP=some (HV s.data.toList a m.data.toList):=aCK _ _ _
 have ht:=aFI s.data.toList a m.data.toList
 refine(aCM.1.2 (x4 W) W (KZ s.data.toList a m.data.toList) [.string s,.int .u16 a,.string m] [] _ ⟨(fun i b h=>by cases h),(fun i j bi bj b o _ h=>by cases h),fun b o h=>h,hT,(fun i blk b o h=>by cases h)⟩ ⟨.string s,[.int .u16 a,.string m],rfl,?_,.int .u16 a,[.string m],rfl,⟨.inr ⟨rfl,rfl⟩,trivial⟩,.string m,[],rfl,?_,rfl⟩ hC ?_).mono fun e W' ⟨v,g',he,r⟩=> ?_
 ·refine⟨?_,trivial⟩
  refine .inr ⟨rfl,?_⟩
  show [Value.string s]=[Value.string ⟨s.data.toList.toArray⟩]
  rw[Array.toArray_toList]
 ·refine⟨?_,trivial⟩
  refine .inr ⟨rfl,?_⟩
  show [Value.string m]=[Value.string ⟨m.data.toList.toArray⟩]
  rw[Array.toArray_toList]
 ·intro p hp
  have:p=((FA s.data.toList a m.data.toList).isSome=true):=by simpa[HV] using hp
  rw[this,ht];rfl
 ·have hv:v= .bool true:=by
   have h1:=r.ret
   unfold HV at h1
   rw[ht] at h1
   exact tU h1.1
  subst hv
  exact⟨he,⟨r.fr.os,r.fr.tape,r.fr.output,r.fr.size,fun k hk=>r.fr.blk k hk (fun o ⟨i,blk,hi,_⟩=>by cases hi)⟩⟩
end Go.Proofs.YtfchbnahjcdiiaaGreatDoor
namespace Go.Proofs.YtfchbnahjcdiiaaGreatDoor
open Go.ChangeShapes Go.WideShapes Go.ChangeAt Go.RowKit Go.Lib
open Go.ChangeMaps (open_string shut_string)
set_option maxRecDepth 100000
namespace propsFreeLaw
theorem own:ownKnob Tryz.prog.godebug=none:=by kernel_rfl
theorem B9:laidOutB Tryz.prog=true:=by kernel_rfl
theorem aFU:Tryz.prog.readableRec 48=true:=by kernel_rfl
theorem x5:48<Tryz.prog.types.size:=of_decide_eq_true (by kernel_rfl)
theorem a83:Tryz.prog.readableRec 9=true:=by kernel_rfl
theorem kR:9<Tryz.prog.types.size:=of_decide_eq_true (by kernel_rfl)
noncomputable def QW (os:Os):World:=
 let w0:=World.holding Tryz.prog os ⟨#[],#[],[]⟩
 let rE (h:Array Obj) (g:Nat) (cs:Array Value):Array Obj:=h.modify g fun
  | .cells _ t frozen=> .cells cs t frozen
  |o=>o
 let h1:=rE w0.heap 1 (Lib.firstTab.map fun z=>Value.int .u8 z).toArray
 let h2:=rE h1 2 ((List.range 16).flatMap fun i=>[Value.int .u8 (Lib.accLo i),Value.int .u8 (Lib.accHi i)]).toArray
 {w0 with heap:=h2}
theorem aFW (os:Os) (args:Array Value):laidMet Tryz.prog Rows.propsFreeRow.laid ((QW os).forCall (fun _ _=>0) ⟨#[],args,[]⟩).memory:=
 (LaidIn.of_run [2,1] 8 (by kernel_rfl) (by kernel_rfl) (by kernel_rfl) (by kernel_rfl):LaidIn Tryz.prog _ Rows.propsFreeRow.laid _).met
theorem aFX (os:Os) {H:Type}(enc:TypeId×Value→H):
  (OpenSpec.ofChange Rows.propsFreeSpec).preRow enc Tryz.prog Tryz.f7 [] false Rows.propsFreeRow.laid ((QW os).forCall (fun _ _=>0) ⟨#[],#[.string ⟨#[]⟩,.int .u16 0,.string ⟨#[]⟩],[]⟩).memory #[.string ⟨#[]⟩,.int .u16 0,.string ⟨#[]⟩]:=by
 have hw:(DataW.whole enc Tryz.prog ((QW os).forCall (fun _ _=>0) ⟨#[],#[.string ⟨#[]⟩,.int .u16 0,.string ⟨#[]⟩],[]⟩).memory Tryz.f7.params.toList (OpenSpec.ofChange Rows.propsFreeSpec).vars false #[Value.string ⟨#[]⟩,Value.int .u16 0,Value.string ⟨#[]⟩].toList 8).map (fun x=>(x.1,x.2.1))=
   some ([.lit (.string []),.lit (.int .u16 0),.lit (.string [])],[]):=by kernel_rfl
 obtain⟨⟨x1,x2,x3⟩,hx,hx1⟩:=Option.map_eq_some_iff.1 hw
 simp only[Prod.mk.injEq] at hx1
 obtain⟨rfl,rfl⟩:=hx1
 exact OpenSpec.preRow_of_cond 8 hx (by kernel_rfl) (fun k hk=>by cases hk) (by kernel_rfl) (aFW os _)
theorem lifted (os:Os) (started:os.Started) (H:Type) (enc:TypeId×Value→H) (F:Stop.Interp):
  ReturnsInHanded {} Tryz.checked os 7 .any ((OpenSpec.ofChange Rows.propsFreeSpec).preRow enc Tryz.prog Tryz.f7 [] false Rows.propsFreeRow.laid) (Rows.propsFreeSpec.post enc Tryz.prog Tryz.f7 false true false false):=by
 refine aFL (C:=Tryz.checked) (tb:=4) own started F (by kernel_rfl) Tryz.func7 B9 ?_ rfl rfl Tryz.underlying4 ?_
  (witness_row_atRef (enc:=enc) (C:=Tryz.checked) false (QW os) #[.string ⟨#[]⟩,.int .u16 0,.string ⟨#[]⟩] rfl (by kernel_rfl) (by kernel_rfl) (by kernel_rfl) (aFX os enc)) ?_
 ·intro t ht
  rw[Tryz.params7] at ht
  simp only[List.mem_cons,List.not_mem_nil,or_false] at ht
  rcases ht with rfl|rfl|rfl
  ·exact⟨a83,kR⟩
  ·exact⟨aFU,x5⟩
  ·exact⟨a83,kR⟩
 ·intro ds W args ps h
  have h':DataW.TrodAll enc Tryz.prog W 0 (fun _=>true) true Tryz.f7.params.toList args.toList ds ps:=h
  rw[Tryz.params7] at h'
  obtain⟨v0,v1,v2,d0,d1,d2,p0,p1,p2,rfl,rfl,rfl,h0,h1,h2⟩:=trodAll_three h'
  rfl
 ·intro W base args ds ps hval0 hA0 hlt hL hsh
  have hval: ∀(j:Nat) t v,Tryz.f7.params[j]? =some t→args[j]? =some v→Value.okWide Tryz.prog W .any base t v:=hval0
  have hA:DataW.TrodAll enc Tryz.prog W 0 (fun _=>true) true Tryz.f7.params.toList args.toList ds ps:=hA0
  rw[Tryz.params7] at hA hval
  obtain⟨v0,v1,v2,d0,d1,d2,p0,p1,p2,rfl,rfl,rfl,h0,h1,h2⟩:=trodAll_three hA
  obtain⟨s,rfl,rfl,rfl,ws⟩:=open_string Tryz.underlying9 (hval 0 9 v0 rfl rfl) h0
  obtain⟨a,rfl,rfl,rfl,_⟩:=open_int Tryz.underlying48 (hval 1 48 v1 rfl rfl) h1
  obtain⟨m,rfl,rfl,rfl,wm⟩:=open_string Tryz.underlying9 (hval 2 9 v2 rfl rfl) h2
  exact aFT (aFR hL hsh) s a m
end propsFreeLaw
theorem a85:Rows.PropsFreeSaid:=
 OpenClaim.holds_of_wide 7 Tryz.f7 rfl rfl rfl rfl rfl rfl rfl ⟨rfl,rfl,rfl,rfl,rfl⟩ rfl rfl rfl rfl rfl (by kernel_rfl) Tryz.func7 (by kernel_rfl)
  (of_decide_eq_true (by kernel_rfl)) (by unfold Func.isWrapper;first|(rw[if_pos (by decide+kernel)];kernel_rfl) |(rw[if_neg (by decide+kernel)];exact⟨rfl,rfl⟩))
  (fun os started H enc _=>by rw[OpenClaim.pre_eq_preRow];exact propsFreeLaw.lifted os started H enc (fun _ _ _=>0))
#print axioms a85
end Go.Proofs.YtfchbnahjcdiiaaGreatDoor
namespace Go.Proofs.YtfchbnahjcdiiaaGreatDoor
open Go
set_option maxRecDepth 100000
theorem propsFreeCard_holds:Rows.PropsFreeCardSaid:=
 Claim7.holds_tied_plain_at .later [] [.data,.pinned] true (true, "146bb05169042bd84b58c90b8373b19d6ea2c804118574bd5c158f8fcdc71822") false
  a85 (fun _ h=>by cases h) (by kernel_rfl) (fun _ h=>by cases h) propsFree_row_tie rfl ⟨rfl,rfl⟩ (by kernel_rfl) rfl
  (fun f fn hf hfn=>by
   obtain rfl:f=7:=Option.some.inj ((show Tryz.prog.funcNamed "calque/calquelaw38.PropsFree" =some 7 by kernel_rfl).symm.trans hf) |>.symm
   obtain rfl:fn=Tryz.f7:=(Option.some.inj (Tryz.func7.symm.trans hfn)).symm
   exact⟨by kernel_rfl,fun j t ht=>by
    rw[Tryz.params7] at ht
    have hm:t∈[9,48,9]:=by simpa using Array.mem_of_getElem? ht
    have hall:([9,48,9].all fun u=> !Tryz.prog.wantsStandIn u)=true:=by kernel_rfl
    exact(show Tryz.prog.wantsStandIn t=false by simpa using List.all_eq_true.1 hall t hm)⟩)
  (by kernel_rfl)
#print axioms propsFreeCard_holds
end Go.Proofs.YtfchbnahjcdiiaaGreatDoor
