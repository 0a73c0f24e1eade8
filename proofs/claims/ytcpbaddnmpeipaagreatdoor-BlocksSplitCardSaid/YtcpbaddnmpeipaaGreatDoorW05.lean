/- BlocksSplit returns true for every body: the tied card of the statement, over the row's statement. No condition. -/
/- Packed by a program of mine (wip/tools/pack.py): the same texts with short names and few blanks. -/
import Derived.Deep.CondSized
import Derived.Deep.DeepHandedRow
import Derived.Deep.DeepWitnessRowRef
import Derived.Lib.LaidIn
import Derived.Lib.LaidU8T
import Derived.OpenShut
import Derived.ProofKit
import Derived.SevenTiedAt
import Derived.SizedLaws
import Derived.Test.YtcpbaddnmpeipaaGreatDoorCards
import Derived.Test.YtcpbaddnmpeipaaGreatDoorRows
import Derived.Test.YtcpbaddnmpeipaaGreatDoorTie
import Derived.WalkKit
import Derived.Test.YtcpbaddnmpeipaaGreatDoorW04
set_option linter.defProp false
set_option linter.unusedVariables false
set_option linter.unusedSimpArgs false
set_option linter.unusedSectionVars false
set_option maxRecDepth 100000
set_option maxHeartbeats 4000000
namespace Go.Proofs.YtcpbaddnmpeipaaGreatDoor
open Vc
noncomputable section
structure St where
 c:C4
 ends:pH
 id:p7
 sc:p7
 tg:p7
 cm:p8
 fg:p8
 sv:Int
 fd:List tO
 op:Bool
 bs:Bool
 bt:Bool
 bh:Bool
 bf:Bool
 last:p7
 name:p7
abbrev St.x (s:St):sA:=(s.id,(s.sc,(s.tg,(s.cm,(s.fg,(s.sv,(s.fd,())))))))
abbrev St.tup (s:St):A7:=(s.c,(s.ends,(s.x,(s.op,(s.bs,(s.bt,(s.bh,(s.bf,(s.last,(s.name,()))))))))))
abbrev BT:=p7×p8×(List qG)×(List sA)×pH×p7×p7×p7×p8×p8×Int×(List qG)×Bool×Bool×Bool×Bool×Bool×p7×p7×Int
abbrev BT.err (r:BT):Int:=r.2.2.2.2.2.2.2.2.2.2.2.2.2.2.2.2.2.2.2
abbrev St.flat (s:St) (e:Int):BT:=(s.c.1,s.c.2.1,s.c.2.2.1,s.c.2.2.2.1,s.ends,s.id,s.sc,s.tg,s.cm,s.fg,s.sv,s.fd,s.op,s.bs,s.bt,s.bh,s.bf,s.last,s.name,e)
def FJ (s:St) (c:C4) (t:p7):St:=⟨c,s.ends,t,[],[],[],[],0,[],true,false,false,false,false,[],[]⟩
def JL (c:C4) (ends:pH):St:=⟨c,ends,[],[],[],[],[],0,[],false,false,false,false,false,[],[]⟩
def tG (s:St):p7:=if s.last=uP then s.cm.getLastD [] else if s.last=tQ then s.sc else if s.last=tR then s.tg else(EC s.fd s.name).1
def uA (s:St) (z:p7):St:=
 if s.last=uP then {s with cm:=s.cm.dropLast++[z]} else if s.last=tQ then {s with sc:=z} else if s.last=tR then {s with tg:=z} else {s with fd:=xC s.fd s.name z}
def rT (s:St) (next:Int):vX->Int×St
 | .bad=>(3,s)
 | .cont t=>if s.op=false\/s.last=[] then(3,s) else if sR (tG s++t)=true then(0,uA s (tG s++t)) else(3,s)
 | .beg true t=>if s.op=true\/s.ends≠[] then(3,s) else if yM t=true then(0,FJ s (t,s.c.2) t) else(3,s)
 | .beg false t=>if s.op=true\/s.ends=[] then(3,s) else if t=[]\/200<t.length then(3,s) else if (s.c.2.2.2.1.any fun y=>decide (y.1=t))=true then(9,s) else if 1000<=s.c.2.2.2.1.length then(6,s) else(0,FJ s s.c t)
 | .com t=>if s.op=false then(3,s) else if 20<=s.cm.length then(6,s) else(0,{s with cm:=s.cm++[t],last:=uP,name:=[]})
 | .src t=>if s.op=false\/s.ends=[] then(3,s) else if s.bs=true then(9,s) else(0,{s with sc:=t,bs:=true,last:=tQ,name:=[]})
 | .tgt t=>if s.op=false\/s.ends=[] then(3,s) else if s.bt=true then(9,s) else(0,{s with tg:=t,bt:=true,last:=tR,name:=[]})
 | .sta v=>if s.op=false\/s.ends=[] then(3,s) else if s.bh=true then(9,s) else(0,{s with sv:=v,bh:=true,last:=[],name:=[]})
 | .flg l=>if s.op=false\/s.ends=[] then(3,s) else if s.bf=true\/zT l=true then(9,s) else if 20<l.length then(6,s) else(0,{s with fg:=sH l,bf:=true,last:=[],name:=[]})
 | .fld n v=>if s.op=false then(3,s) else if (s.fd.any fun y=>decide (y.1=n))=true then(9,s) else if 20<=s.fd.length then(6,s) else(0,{s with fd:=xC s.fd n v,last:=vP,name:=n})
 | .fin=>if s.op=false then(3,s) else(0,JL (if s.ends=[] then(s.c.1,(s.cm,(s.fd,s.c.2.2.2))) else(s.c.1,(s.c.2.1,(s.c.2.2.1,(s.c.2.2.2.1++[s.x],()))))) (s.ends++[next]))
def CR (s:p7):Bool:=decide (s.dropWhile sO=[])||decide ((s.dropWhile sO).head? =some 35)
def wB (s:St) (line:p7) (next:Int):Int×St:=
 if CR line=true then(0,s) else match FG line with
  |none=>(3,s)
  |some l=>rT s next (B7 l)
structure uQ (s:St):Prop where
 tag:s.ends≠[]\/s.op=true->yM s.c.1=true
 hcm:BP s.c.2.1=true
 hfd:zR s.c.2.2.1=true
 es:aHI s.c.2.2.2.1
 e0:s.ends=[]->s.c.2.2.2.1=[]
 en:s.ends≠[]->s.ends.length=s.c.2.2.2.1.length+1
 room:s.op=true->s.ends≠[]->s.c.2.2.2.1.length<1000
 sc:sR s.sc=true
 tg:sR s.tg=true
 cm:BP s.cm=true
 fg:XH s.fg=true
 sv:0<=s.sv/\s.sv<=4
 fd:zR s.fd=true
 id:s.op=true->s.ends≠[]->s.id≠[]/\s.id.length<=200/\sR s.id=true/\∀y∈s.c.2.2.2.1,y.1≠s.id
 lcm:s.last=uP->s.cm≠[]
 lfd:s.last=vP->(s.fd.any fun y=>decide (y.1=s.name))=true
 lst:s.last=[]\/s.last=uP\/s.last=tQ\/s.last=tR\/s.last=vP
 off:s.op=false->s.last=[]
def XS (n:Nat):vX->Prop
 | .cont t=>t.length<=n
 | .beg _ t=>sR t=true
 | .com t=>sR t=true
 | .src t=>sR t=true
 | .tgt t=>sR t=true
 | .sta v=>0<=v/\v<=4
 | .fld n v=>w5 n=true/\sR v=true
 | .flg l=>l≠[]/\l.length<=n/\∀x∈l,w5 x=true
 |_=>True
def aO4 (s:p7):xB s<=4:=by
 unfold xB;cases h:H9.findIdx? fun x=>decide (x=s) with
 |none=>show (-1:Int)<=4;decide
 |some k=>
  have:=(aTm.1 h).1;show (k:Int)<=4;unfold H9 at this;simp only[aSI,aSY] at this;omega
def P0: ∀(n:Nat) (s:p7) (l:List Wd),xY n s=some l->(r7 l).flatten.length<=s.length/\l.length<=s.length
 |0,_,_,h=>by cases h
 |n+1,s,l,h=>by
  rw[xY] at h;split at h
  .cases h;exact⟨aTv _,aTv _⟩
  split at h
  .cases h
  rename_i h0 _ w hw;cases ht:s.dropWhile sO with
  |nil=>exact absurd ht h0
  |cons b t=>
   rw[ht] at hw;have hg:=HE ht;have hle:=SB sO s;rw[ht] at hle;have hlt:=a8U (w:=w.1) (r:=w.2) hg hw;have hs:w.1.2.1.length+w.2.length<=(b::t).length:=by
    unfold AC at hw;split at hw
    .split at hw
     .cases hw
     rename_i k hk;split at hw
     .cases hw;have h1:=a8P 2 (((b::t).drop 1).take k);have h2:=OX _ _ _ (aSW _) hk;show (uE 2 (((b::t).drop 1).take k)).1.length+((b::t).drop (k+2)).length<=(b::t).length;simp only[aTe,aS8,aSI] at h1 h2|-;omega
     cases hw
    split at hw
    .cases hw
    cases hw;have:=aS4 List.length (List.takeWhile_append_dropWhile (p:=tE) (l:=b::t));rw[aSH] at this;exact aT4 this
   cases hl:xY n w.2 with
   |none=>rw[hl] at h;cases h
   |some l'=>
    rw[hl] at h;cases h;have ih:=P0 n w.2 l' hl;constructor
    .show (w.1.2.1++(r7 l').flatten).length<=_;rw[aSH];omega
    rw[aSI];omega
def a8Z {n:Nat}{r:List Wd}{t:p7}(h: ∀w∈r,yO n w) (ho:sY r=some t):sR t=true:=by
 unfold sY at ho;split at ho
 .rename_i w;split at ho
  .rename_i hw;cases ho;have:=h w pD;unfold yO at this;rw[aSB hw] at this;exact this
  cases ho
 cases ho
def aO5 {n:Nat}{l:List Wd}(h: ∀w∈l,yO n w) (h1:(r7 l).flatten.length<=n) (h2:l.length<=n):XS n (B7 l):=by
 cases l with
 |nil=>exact trivial
 |cons w r=>
  have hr: ∀w∈r,yO n w:=fun x hx=>h x (aSQ _ hx);unfold B7;dsimp only;split
  .split
   .exact trivial
   exact h1
  unfold uI;have one: ∀(f:p7->vX),(∀t,sR t=true->XS n (f t))->XS n (((sY r).map f).getD .bad):=fun f hf=>by
   cases ho:sY r with
   |none=>exact trivial
   |some t=>exact hf t (a8Z hr ho)
  split
  .exact one _ fun t ht=>ht
  split
  .exact one _ fun t ht=>ht
  split
  .exact one _ fun t ht=>ht
  split
  .exact one _ fun t ht=>ht
  split
  .exact one _ fun t ht=>ht
  split
  .cases ho:BR r with
   |none=>exact trivial
   |some v=>
    unfold BR at ho;split at ho
    .split at ho
     .rename_i hv;cases ho;exact⟨hv.2,aO4 _⟩
     cases ho
    cases ho
  split
  .cases ho:BS r with
   |none=>exact trivial
   |some q=>
    unfold BS at ho;split at ho
    .rename_i a b;split at ho
     .rename_i hv;cases ho;have hb:=hr b pD;unfold yO at hb;rw[aSB hv.1.2] at hb;exact⟨hv.2,hb⟩
     cases ho
    cases ho
  split
  .split<;>exact trivial
  split
  .split
   .exact trivial
   rename_i hn;simp only[not_or,aT6] at hn;refine⟨by unfold r7;simpa using hn.1,by unfold r7;rw[aTw];simp only[aSI] at h2;omega,fun x hx=>?_⟩;unfold r7 at hx;obtain⟨w',hw',rfl⟩:=List.mem_map.1 hx;have:=aTt.1 hn.2 w' hw';unfold AD at this;simpa using(fun h=>this (by rw[h];simp): ¬(!w5 w'.2.1)=true)
  exact trivial
end
noncomputable section
def a80 {l:p8}(h:BP l=true):l.length<=20:=(XO h).1
def XT {l:List tO}(h:zR l=true):l.length<=20:=(XP h).1
def aHV {x:p7}(h:sR x=true):sC x:=by have:=a8T h;unfold sC;omega
def aO6 {l:List tO}{n:p7}(h:zR l=true):sR (EC l n).1=true:=by
 unfold EC;cases hk:xW l n with
 |none=>rfl
 |some k=>
  have hlt:=S1 hk;show sR (l.getD k ([],[],())).2.1=true;rw[aSZ,aSK hlt];exact((XP h).2.1 _ (aTL hlt)).2.2
def aHW {s:St}(h:uQ s):sR (tG s)=true:=by
 unfold tG;split
 .have hc:=XO h.cm;cases hl:s.cm.getLast? with
  |none=>rw[List.getLastD_eq_getLast?,hl];rfl
  |some x=>rw[List.getLastD_eq_getLast?,hl];exact hc.2 x (List.mem_of_getLast? hl)
 split
 .exact h.sc
 split
 .exact h.tg
 exact aO6 h.fd
def aHX {l:List Wd}(hl:l.length<=1000000000): ∀(n i:Nat) (s:p7),i+n=l.length->s.length+((r7 l).flatten.length- (r7 (l.take i)).flatten.length)<=9000000000000000000->
  rF (OI l) (s,(i:Int))=some (s++(r7 (l.drop i)).flatten)
 |0,i,s,hi,_=>by
  have:i=l.length:=by omega
  subst this;rw[aTu,tB];unfold OI;dsimp only;rw[aSD (xA _)];show some s=some (s++[]);rw[List.append_nil]
 |n+1,i,s,hi,hb=>by
  have hlt:i<l.length:=by omega
  have h1:(r7 (l.take (i+1))).flatten=(r7 (l.take i)).flatten++l[i].2.1:=by
   unfold r7;rw[List.take_succ_eq_append_getElem hlt,List.map_append,List.flatten_append];simp
  have h2:(r7 (l.drop i)).flatten=l[i].2.1++(r7 (l.drop (i+1))).flatten:=by
   unfold r7;rw[aS3 hlt,aTV,aUx]
  have h3:(r7 (l.take (i+1))).flatten.length<=(r7 l).flatten.length:=by
   have:r7 l=r7 (l.take (i+1))++r7 (l.drop (i+1)):=by unfold r7;rw[<-List.map_append,aTQ]
   rw[this,List.flatten_append,aSH];omega
  rw[h1,aSH] at h3;rw[tB];generalize hF:rF (OI l)=F;unfold OI;dsimp only;rw[aSB (tV hlt),aSB (sT hlt),FI hlt,aSB (by rw[aSH];omega),aSB (u7 pB),aSE];dsimp only;rw[<-hF,show ((i:Int)+1)=((i+1:Nat):Int) by omega,aHX hl n (i+1) _ pB (by rw[h1,aSH,aSH];omega),h2,aSN]
def XU {l:List Wd}{s:p7}(hl:l.length<=1000000000) (hs:s.length<=4000) (ht:(r7 l).flatten.length<=1000000000):
  E8 s l=some (s++(r7 l).flatten,sR (s++(r7 l).flatten)):=by
 have hf:sC (s++(r7 l).flatten):=by unfold sC;rw[aSH];omega
 unfold E8;rw[show ((0:Int))=((0:Nat):Int) from rfl,aHX hl l.length 0 s pB pB];unfold sN;rw[aSE,aTM,(XG _ hf).1,aSE,(XG _ hf).2]
abbrev St.cont5 (s:St) (e:Int):p7×p7×p8×(List qG)×Int:=(s.sc,s.tg,s.cm,s.fd,e)
def aHY {α:Type}{l:List α}:l.take (l.length-1)=l.dropLast:=(List.dropLast_eq_take).symm
def aO7 {s:St}(h:uQ s) (nx:Int) {l:List Wd}(hl:l.length<=1000000000) (ht:(r7 l).flatten.length<=1000000000): ∃v,JD s.tup l=some v/\
  v.2.2.2.2=(rT s nx (.cont (r7 l).flatten)).1/\((rT s nx (.cont (r7 l).flatten)).1=0->v=(uA s (tG s++(r7 l).flatten)).cont5 0):=by
 have hcl:=a80 h.cm;have hct:=a8T (aHW h);unfold JD;dsimp only[St.tup,St.x];show∃v,_/\_=(if s.op=false\/s.last=[] then((3:Int),s) else if sR (tG s++(r7 l).flatten)=true then(0,uA s (tG s++(r7 l).flatten)) else(3,s)).1/\_;by_cases h0:s.op=false\/s.last=[]
 .rw[aSB (by rcases h0 with h0|h0<;>simp [h0]),aSB h0]
  refine⟨_,rfl,rfl,fun h1=>?_⟩;have:rT s nx (.cont (r7 l).flatten)=(3,s):=aSB h0;rw[this] at h1;cases h1
 have hd:rT s nx (.cont (r7 l).flatten)=if sR (tG s++(r7 l).flatten)=true then(0,uA s (tG s++(r7 l).flatten)) else(3,s):=aSD h0;rw[hd,aSD h0];rw[not_or] at h0;rw[aSD (by
  have h1:s.op=true:=by simpa using h0.1
  rw[h1];simpa using h0.2)]
 have fin: ∀(A:Option (Bool×p7×p7×p8×(List qG))),A=some (sR (tG s++(r7 l).flatten),(uA s (tG s++(r7 l).flatten)).sc,(uA s (tG s++(r7 l).flatten)).tg,(uA s (tG s++(r7 l).flatten)).cm,(uA s (tG s++(r7 l).flatten)).fd)->
   ∃v,(sN A fun(O,Z,aA,aB,aC)=>if (!O)=true then some ((Z,aA,aB,aC,(3:Int))) else some ((Z,aA,aB,aC,(0:Int))))=some v/\
    v.2.2.2.2=(if sR (tG s++(r7 l).flatten)=true then((0:Int),uA s (tG s++(r7 l).flatten)) else(3,s)).1/\((if sR (tG s++(r7 l).flatten)=true then((0:Int),uA s (tG s++(r7 l).flatten)) else(3,s)).1=0->v=(uA s (tG s++(r7 l).flatten)).cont5 0):=by
  intro A hA;rw[hA];unfold sN;rw[aSE];dsimp only;cases sR (tG s++(r7 l).flatten) with
  |true=>exact⟨_,rfl,rfl,fun _=>rfl⟩
  |false=>exact⟨_,rfl,rfl,fun h1=>by cases h1⟩
 refine fin _ ?_;rcases h.lst with h1|h1|h1|h1|h1
 .exact absurd h1 h0.2
 .have hne:=h.lcm h1;have hpos:=aTJ.2 hne;have hcur:tG s=s.cm.getLastD []:=aSB h1;have hput:uA s (tG s++(r7 l).flatten)={s with cm:=s.cm.dropLast++[tG s++(r7 l).flatten]}:=aSB h1
  have hcur2:qE .str s.cm (((s.cm.length-1:Nat):Int))=tG s:=by
   rw[zA pB,hcur,List.getLastD_eq_getLast?,List.getLast?_eq_getElem?,aSK pB];rfl
  rw[show decide (s.last=([99,111,109,109,101,110,116]:p7))=true from aS5 h1,aSB rfl,aSB (by unfold pX;omega),aSB pB];rw[show ((s.cm.length:Int)-1)=((s.cm.length-1:Nat):Int) by omega,hcur2,XU hl hct ht,aSE,OU,aHY];have hdl:s.cm.dropLast.length=s.cm.length-1:=List.length_dropLast;rw[aSB pB,List.nil_append,aSB (by rw[hdl];simp only[aSY];omega),aSB (by rw[hdl];simp only[aSI,aSY];omega),hput]
 .have hcur:tG s=s.sc:=by unfold tG;rw[aSD (by rw[h1];decide),aSB h1]
  have hput:uA s (tG s++(r7 l).flatten)={s with sc:=tG s++(r7 l).flatten}:=by unfold uA;rw[aSD (by rw[h1];decide),aSB h1]
  rw[show decide (s.last=([99,111,109,109,101,110,116]:p7))=false from decide_eq_false (by rw[h1];decide),aSD pD,show decide (s.last=([115,111,117,114,99,101]:p7))=true from aS5 h1,aSB rfl,<-hcur,XU hl hct ht,aSE,hput]
 .have hcur:tG s=s.tg:=by unfold tG;rw[aSD (by rw[h1];decide),aSD (by rw[h1];decide),aSB h1]
  have hput:uA s (tG s++(r7 l).flatten)={s with tg:=tG s++(r7 l).flatten}:=by unfold uA;rw[aSD (by rw[h1];decide),aSD (by rw[h1];decide),aSB h1]
  rw[show decide (s.last=([99,111,109,109,101,110,116]:p7))=false from decide_eq_false (by rw[h1];decide),aSD pD,show decide (s.last=([115,111,117,114,99,101]:p7))=false from decide_eq_false (by rw[h1];decide),aSD pD,show decide (s.last=([116,97,114,103,101,116]:p7))=true from aS5 h1,aSB rfl,<-hcur,XU hl hct ht,aSE,hput]
 have hcur:tG s=(EC s.fd s.name).1:=by unfold tG;rw[aSD (by rw[h1];decide),aSD (by rw[h1];decide),aSD (by rw[h1];decide)]
 have hput:uA s (tG s++(r7 l).flatten)={s with fd:=xC s.fd s.name (tG s++(r7 l).flatten)}:=by unfold uA;rw[aSD (by rw[h1];decide),aSD (by rw[h1];decide),aSD (by rw[h1];decide)]
 have hfd:=XT h.fd;rw[show decide (s.last=([99,111,109,109,101,110,116]:p7))=false from decide_eq_false (by rw[h1];decide),aSD pD,show decide (s.last=([115,111,117,114,99,101]:p7))=false from decide_eq_false (by rw[h1];decide),aSD pD,show decide (s.last=([116,97,114,103,101,116]:p7))=false from decide_eq_false (by rw[h1];decide),aSD pD,show decide (s.last=([102,105,101,108,100]:p7))=true from aS5 h1,aSB rfl,aG5 _ _ (by unfold sC;omega),aSE,<-hcur,XU hl hct ht,aSE,aHa _ _ _ (by unfold sC;omega),aSE,hput]
end
noncomputable section
def wP {α:Type}(A:Option α) (err:α->Int) (fl:St->α) (r:Int×St):Prop:= ∃v,A=some v/\err v=r.1/\(r.1=0->v=fl r.2)
def wQ {α:Type}{A:Option α}{err:α->Int}{fl:St->α}{e:Int}{s:St}{v:α}(h:A=some v) (he:err v=e) (hne:e≠0):wP A err fl (e,s):=⟨v,h,he,fun h0=>absurd h0 hne⟩
def ED {α:Type}{A:Option α}{err:α->Int}{fl:St->α}{s:St}{v:α}(h:A=some v) (he:err v=0) (hv:v=fl s):wP A err fl (0,s):=⟨v,h,he,fun _=>hv⟩
abbrev XV:=p7×p7×p7×p7×p8×p8×Int×(List qG)×Bool×Bool×Bool×Bool×Bool×p7×p7×Int
abbrev XV.err (r:XV):Int:=r.2.2.2.2.2.2.2.2.2.2.2.2.2.2.2
abbrev St.beg16 (s:St):XV:=(s.c.1,s.id,s.sc,s.tg,s.cm,s.fg,s.sv,s.fd,s.op,s.bs,s.bt,s.bh,s.bf,s.last,s.name,0)
def SE {α:Type}{l:List α}:decide ((l.length:Int)=0)=decide (l=[]):=by cases l<;>simp<;>omega
def aO8 {s:St}(h:uQ s) (nx:Int) (hd:Bool) {t:p7}(ht:sR t=true):wP (J3 s.tup (if hd=true then wO else yE) t) XV.err St.beg16 (rT s nx (.beg hd t)):=by
 have hes:=h.es.len;unfold J3;dsimp only[St.tup,St.x];have hk:decide ((if hd=true then wO else yE)=([99,97,116,97,108,111,103]:p7))=hd:=by cases hd<;>rfl
 rw[SE,hk];cases hd with
 |true=>
  show wP _ _ _ (if s.op=true\/s.ends≠[] then((3:Int),s) else if yM t=true then(0,FJ s (t,s.c.2) t) else(3,s));by_cases h0:s.op=true\/s.ends≠[]
  .rw[aSB h0,aSB (by rcases h0 with h0|h0<;>simp [h0])]
   exact wQ rfl rfl pC
  .rw[aSD h0];simp only[not_or,Decidable.not_not] at h0;have h1:s.op=false:=by simpa using h0.1
   rw[aSD (by rw[h1,h0.2];simp),aSB (by rw[h0.2];rfl),aNM _ (aHV ht),aSE];cases htg:yM t with
   |true=>exact ED rfl rfl rfl
   |false=>exact wQ rfl rfl pC
 |false=>
  show wP _ _ _ (if s.op=true\/s.ends=[] then((3:Int),s) else if t=[]\/200<t.length then(3,s) else if (s.c.2.2.2.1.any fun y=>decide (y.1=t))=true then(9,s) else if 1000<=s.c.2.2.2.1.length then(6,s) else(0,FJ s s.c t));by_cases h0:s.op=true\/s.ends=[]
  .rw[aSB h0,aSB (by rcases h0 with h0|h0<;>simp [h0])]
   exact wQ rfl rfl pC
  rw[aSD h0];rw[not_or] at h0;have h1:s.op=false:=by simpa using h0.1
  rw[aSD (by rw[h1,decide_eq_false h0.2];simp),aSD (by rw[decide_eq_false h0.2];simp)];by_cases h2:t=[]\/200<t.length
  .rw[aSB h2,aSB (by rcases h2 with h2|h2<;>simp [h2]<;>omega)]
   exact wQ rfl rfl pC
  rw[aSD h2];rw[not_or] at h2;rw[aSD (by rw[decide_eq_false h2.1,decide_eq_false pB];simp),aOy s.c t pB,aSE];have hf:(a8Q s.c.2.2.2.1 t).2=(s.c.2.2.2.1.any fun y=>decide (y.1=t)):=by
   unfold a8Q;rw[<-a8C];cases s.c.2.2.2.1.findIdx? fun y=>decide (y.1=t)<;>rfl
  rw[hf];by_cases h3:(s.c.2.2.2.1.any fun y=>decide (y.1=t))=true
  .rw[aSB h3,aSB h3];exact wQ rfl rfl pC
  rw[aSD h3,aSD h3];by_cases h4:1000<=s.c.2.2.2.1.length
  .rw[aSB h4,aSB pE];exact wQ rfl rfl pC
  rw[aSD h4,aSD pE];exact ED rfl rfl rfl
abbrev XW:=p8×(List qG)×(List sA)×pH×p7×p7×p7×p8×p8×Int×(List qG)×Bool×Bool×Bool×Bool×Bool×p7×p7×Int
abbrev XW.err (r:XW):Int:=r.2.2.2.2.2.2.2.2.2.2.2.2.2.2.2.2.2.2
abbrev St.end19 (s:St):XW:=(s.c.2.1,s.c.2.2.1,s.c.2.2.2.1,s.ends,s.id,s.sc,s.tg,s.cm,s.fg,s.sv,s.fd,s.op,s.bs,s.bt,s.bh,s.bf,s.last,s.name,0)
def a81 {s:St}(h:uQ s):s.ends.length<=1001:=by
 have:=h.es.len;by_cases he:s.ends=[]
 .rw[he];exact aTv _
 rw[h.en he];omega
def aO9 {s:St}(h:uQ s) (next:Int):wP (IN s.tup next) XW.err St.end19 (rT s next .fin):=by
 have hes:=h.es.len;have hel:=a81 h;unfold IN;dsimp only[St.tup,St.x];show wP _ _ _ (if s.op=false then((3:Int),s) else(0,JL (if s.ends=[] then(s.c.1,(s.cm,(s.fd,s.c.2.2.2))) else(s.c.1,(s.c.2.1,(s.c.2.2.1,(s.c.2.2.2.1++[s.x],()))))) (s.ends++[next])))
 by_cases h0:s.op=false
 .rw[aSB h0,aSB (by rw[h0];rfl)];exact wQ rfl rfl pC
 have h1:s.op=true:=by simpa using h0
 rw[aSD h0,aSD (by rw[h1];simp),SE];simp only[List.nil_append];by_cases he:s.ends=[]
 .rw[aSB (aS5 he),aSB he,aSB (by simp only[aSY];omega),aSB (by simp only[aSI,aSY];omega)];exact ED rfl rfl rfl
 rw[aSD (by simpa using he),aSD he,aSB (by simp only[aSY];omega),aSB (by simp only[aSI,aSY];omega),aSB (by simp only[aSY];omega),aSB (by simp only[aSI,aSY];omega)];exact ED rfl rfl rfl
abbrev XX:=p7×p7×p8×p8×Int×(List qG)×Bool×Bool×Bool×Bool×p7×p7×Int
abbrev XX.err (r:XX):Int:=r.2.2.2.2.2.2.2.2.2.2.2.2
abbrev St.in13 (s:St):XX:=(s.sc,s.tg,s.cm,s.fg,s.sv,s.fd,s.bs,s.bt,s.bh,s.bf,s.last,s.name,0)
inductive HF:p7->List Wd->vX->Prop where
 |com (w:Wd) (t:p7) (b:Bool):HF uP [w,(b,t,())] (.com t)
 |src (w:Wd) (t:p7) (b:Bool):HF tQ [w,(b,t,())] (.src t)
 |tgt (w:Wd) (t:p7) (b:Bool):HF tR [w,(b,t,())] (.tgt t)
 |sta (w:Wd) (t:p7) (b:Bool):HF vW [w,(b,t,())] (.sta (xB t))
 |fld (w:Wd) (n v:p7) (b d:Bool):HF vP [w,(b,n,()),(d,v,())] (.fld n v)
 |flg (w:Wd) (r:List Wd):HF vK (w::r) (.flg (r7 r))
def aPa {s:St}(h:uQ s) (nx:Int) {k:p7}{l:List Wd}{c:vX}(hi:HF k l c) (hl:l.length<=1000000000):wP (J5 s.tup k l) XX.err St.in13 (rT s nx c):=by
 have hcl:=a80 h.cm;have hfl:=XT h.fd;unfold J5;dsimp only[St.tup,St.x];rw[SE];have gate: ∀(q:Bool),(((!s.op)||((decide (s.ends=[])&&q)))=true)=(s.op=false\/(s.ends=[]/\q=true)):=fun q=>by
  cases s.op<;>cases q<;>simp
 cases hi with
 |com w t b=>
  show wP _ _ _ (if s.op=false then((3:Int),s) else if 20<=s.cm.length then(6,s) else(0,{s with cm:=s.cm++[t],last:=uP,name:=[]}))
  rw[show decide (uP=([99,111,109,109,101,110,116]:p7))=true from rfl];by_cases h0:s.op=false
  .rw[aSB h0,aSB (by rw[h0];rfl)];exact wQ rfl rfl pC
  .have h1:s.op=true:=by simpa using h0
   rw[aSD h0,aSD (by rw[h1];simp),aSB rfl];by_cases h2:20<=s.cm.length
   .rw[aSB h2,aSB pE];exact wQ rfl rfl pC
   .rw[aSD h2,aSD pE,aSB (by simp only[aSY];omega),aSB ⟨pC,by simp⟩,List.nil_append,aSB (by simp only[aSI,aSY];omega)];exact ED rfl rfl rfl
 |src w t b=>
  show wP _ _ _ (if s.op=false\/s.ends=[] then((3:Int),s) else if s.bs=true then(9,s) else(0,{s with sc:=t,bs:=true,last:=tQ,name:=[]}))
  by_cases h0:s.op=false\/s.ends=[]
  .rw[aSB h0,aSB (by
    rcases h0 with h0|h0
    .rw[h0];rfl
    rw[aS5 h0];cases s.op<;>rfl)]
   exact wQ rfl rfl pC
  .rw[aSD h0];rw[not_or] at h0;have h1:s.op=true:=by simpa using h0.1
   rw[aSD (by rw[h1,decide_eq_false h0.2];simp),aSD pC,aSB pC];by_cases hb:s.bs=true
   .rw[aSB hb,aSB hb];exact wQ rfl rfl pC
   .rw[aSD hb,aSD hb,aSB ⟨pC,by simp⟩];exact ED rfl rfl rfl
 |tgt w t b=>
  show wP _ _ _ (if s.op=false\/s.ends=[] then((3:Int),s) else if s.bt=true then(9,s) else(0,{s with tg:=t,bt:=true,last:=tR,name:=[]}))
  by_cases h0:s.op=false\/s.ends=[]
  .rw[aSB h0,aSB (by
    rcases h0 with h0|h0
    .rw[h0];rfl
    rw[aS5 h0];cases s.op<;>rfl)]
   exact wQ rfl rfl pC
  .rw[aSD h0];rw[not_or] at h0;have h1:s.op=true:=by simpa using h0.1
   rw[aSD (by rw[h1,decide_eq_false h0.2];simp),aSD pC,aSD pC,aSB pC];by_cases hb:s.bt=true
   .rw[aSB hb,aSB hb];exact wQ rfl rfl pC
   .rw[aSD hb,aSD hb,aSB ⟨pC,by simp⟩];exact ED rfl rfl rfl
 |sta w t b=>
  show wP _ _ _ (if s.op=false\/s.ends=[] then((3:Int),s) else if s.bh=true then(9,s) else(0,{s with sv:=xB t,bh:=true,last:=[],name:=[]}))
  by_cases h0:s.op=false\/s.ends=[]
  .rw[aSB h0,aSB (by
    rcases h0 with h0|h0
    .rw[h0];rfl
    rw[aS5 h0];cases s.op<;>rfl)]
   exact wQ rfl rfl pC
  .rw[aSD h0];rw[not_or] at h0;have h1:s.op=true:=by simpa using h0.1
   rw[aSD (by rw[h1,decide_eq_false h0.2];simp),aSD pC,aSD pC,aSD pC,aSB pC];by_cases hb:s.bh=true
   .rw[aSB hb,aSB hb];exact wQ rfl rfl pC
   .have hn:qE tW [w,(b,t,())] (1:Int)=(b,t,()):=rfl;rw[aSD hb,aSD hb,aSB ⟨pC,by simp⟩,hn,aG3,aSE];exact ED rfl rfl rfl
 |fld w n v b d=>
  show wP _ _ _ (if s.op=false then((3:Int),s) else if (s.fd.any fun y=>decide (y.1=n))=true then(9,s) else if 20<=s.fd.length then(6,s) else(0,{s with fd:=xC s.fd n v,last:=vP,name:=n}))
  have hn:qE tW [w,(b,n,()),(d,v,())] (1:Int)=(b,n,()):=rfl;have hn2:qE tW [w,(b,n,()),(d,v,())] (2:Int)=(d,v,()):=rfl;rw[show decide (vP=([102,105,101,108,100]:p7))=true from rfl];by_cases h0:s.op=false
  .rw[aSB h0,aSB (by rw[h0];rfl)];exact wQ rfl rfl pC
  .have h1:s.op=true:=by simpa using h0
   rw[aSD h0,aSD (by rw[h1];simp),aSD pC,aSD pC,aSD pC,aSD pC,aSD pC,aSB rfl,aSB ⟨pC,by simp⟩,hn,aG5 _ _ (by unfold sC;omega),aSE,aG4];by_cases h2:(s.fd.any fun y=>decide (y.1=n))=true
   .rw[aSB h2,aSB h2];exact wQ rfl rfl pC
   .rw[aSD h2,aSD h2];by_cases h3:20<=s.fd.length
    .rw[aSB h3,aSB pE];exact wQ rfl rfl pC
    .rw[aSD h3,aSD pE,aSB ⟨pC,by simp⟩,aSB ⟨pC,by simp⟩,hn2,aHa _ _ _ (by unfold sC;omega),aSE,aSB ⟨pC,by simp⟩];exact ED rfl rfl rfl
 |flg w r=>
  show wP _ _ _ (if s.op=false\/s.ends=[] then((3:Int),s) else if s.bf=true\/zT (r7 r)=true then(9,s) else if 20<(r7 r).length then(6,s) else(0,{s with fg:=sH (r7 r),bf:=true,last:=[],name:=[]}))
  simp only[aSI] at hl;by_cases h0:s.op=false\/s.ends=[]
  .rw[aSB h0,aSB (by
    rcases h0 with h0|h0
    .rw[h0];rfl
    rw[aS5 h0];cases s.op<;>rfl)]
   exact wQ rfl rfl pC
  rw[aSD h0];rw[not_or] at h0;have h1:s.op=true:=by simpa using h0.1
  rw[aSD (by rw[h1,decide_eq_false h0.2];simp),aSD pC,aSD pC,aSD pC,aSD pC,aSB pC,aSB ⟨pC,by simp only[aSI];omega,aTl _⟩];rw[show qR (w::r) (1:Int) ((w::r).length:Int)=r from(CP (k:=1)).trans rfl,aO3 pB,aSE];by_cases h2:s.bf=true\/zT (r7 r)=true
  .rw[aSB h2,aSB (by
    rcases h2 with h2|h2
    .rw[h2];rfl
    rw[aSB h2];simp)]
   exact wQ rfl rfl pC
  rw[aSD h2];rw[not_or] at h2;rw[aSD h2.2,aSD (by
   have h3:s.bf=false:=by simpa using h2.1
   rw[h3];simp)]
  dsimp only;rw[JK];by_cases h3:20<(r7 r).length
  .rw[aSB h3,aSB pE];exact wQ rfl rfl pC
  rw[aSD h3,aSD pE];exact ED rfl rfl rfl
end
noncomputable section
def SF {l:List tO}{n v:p7}(h:(l.any fun y=>decide (y.1=n))=false):xC l n v=l.take (uH l n)++[(n,v,())]++l.drop (uH l n):=by
 have:xW l n=none:=by
  unfold xW;rw[aTH];intro x hx;have:=aTt.1 h x hx;simpa using this
 unfold xC;rw[this];rfl
def aHZ (l:List tO) (n v:p7):((xC l n v).any fun y=>decide (y.1=n))=true:=by
 unfold xC;cases hk:xW l n with
 |none=>
  show ((l.take (uH l n)++[(n,v,())]++l.drop (uH l n)).any _)=true;rw[List.any_append,List.any_append];simp
 |some k=>
  have hlt:=S1 hk;show ((l.set k (n,v,())).any _)=true;rw[List.any_eq_true];exact⟨(n,v,()),List.mem_set hlt _,by simp⟩
def aPb {l:List tO}{n v:p7}(h:zR l=true) (hn:(l.any fun y=>decide (y.1=n))=true) (hv:sR v=true):zR (xC l n v)=true:=by
 obtain⟨h1,h2,h3⟩:=XP h;unfold xC;cases hk:xW l n with
 |none=>
  unfold xW at hk;rw[aTH] at hk;obtain⟨x,hx,hxn⟩:=List.any_eq_true.1 hn;have:=hk x hx;rw[hxn] at this;cases this
 |some k=>
  have hlt:=S1 hk;have hkn:=aG7 hk hlt;show zR (l.set k (n,v,()))=true;refine aHH (by rw[List.length_set];exact h1) (fun x hx=>?_) ?_
  .rcases List.mem_or_eq_of_mem_set hx with hx|rfl
   .exact⟨(h2 x hx).1,(h2 x hx).2.2⟩
   exact⟨by show w5 n=true;rw[<-hkn];exact(h2 _ (aTL hlt)).1,hv⟩
  rw[aTh] at h3|-;intro i j hi hj hij;rw[List.length_set] at hi hj;have e: ∀m (hm:m<l.length),((l.set k (n,v,()))[m]'(by rw[List.length_set];exact hm)).1=(l[m]).1:=fun m hm=>by
   rw[List.getElem_set];split
   .rename_i hkm;subst hkm;exact hkn.symm
   rfl
  rw[e i hi,e j hj];exact h3 i j hi hj hij
def aPc {l:p8}{t:p7}(h:BP l=true) (hl:l.length<20) (ht:sR t=true):BP (l++[t])=true:=by
 obtain⟨_,h2⟩:=XO h;unfold BP;rw[aS5 (by rw[aSH];simp only[aSI,aSY];omega),Bool.true_and,aTg,List.any_append];have:(l.any fun x=> !sR x)=false:=aTt.2 fun x hx=>by rw[h2 x hx];simp
 rw[this];simp [ht]
def aPd {l:p8}{t:p7}(h:BP l=true) (hl:l≠[]) (ht:sR t=true):BP (l.dropLast++[t])=true:=by
 obtain⟨h1,h2⟩:=XO h;have hpos:=aTJ.2 hl;unfold BP;rw[aS5 (by rw[aSH,List.length_dropLast];simp only[aSI,aSY];omega),Bool.true_and,aTg,List.any_append];have:(l.dropLast.any fun x=> !sR x)=false:=aTt.2 fun x hx=>by rw[h2 x (List.dropLast_subset _ hx)];simp
 rw[this];simp [ht]
def aPe {l:p8}(hl:l.length<=20) (h1: ∀x∈l,w5 x=true) (h2:l.Pairwise (· < ·)):XH l=true:=by
 unfold XH;rw[aS5 pB,Bool.and_true,aTg];rw[aTt];intro i hi;have hi:=aUz.1 hi;unfold aHl;have hd:l.getD i []=l[i]:=by rw[aSZ,aSK hi];rfl
 rw[hd,h1 _ (aTL hi)];by_cases h0:0<i
 .have hd2:l.getD (i-1) []=l[i-1]:=by rw[aSZ,aSK pB];rfl
  rw[hd2,CQ,aS5 (aTh.1 h2 (i-1) i pB hi pB)];simp
 simp [h0]
def aPf {s:St}(h:uQ s) (h1:s.op=true) (h2:s.ends≠[]):XI s.x=true:=by
 obtain⟨i1,i2,i3,_⟩:=h.id h1 h2;unfold XI;dsimp only[St.x];rw[decide_eq_false i1,aS5 (show (s.id.length:Int)<=200 by omega),i3,h.sc,h.tg,h.cm,h.fg,aS5 h.sv.1,aS5 h.sv.2,h.fd];rfl
def v8:uP≠[]/\tQ≠[]/\tR≠[]/\vP≠[]/\tQ≠uP/\tR≠uP/\vP≠uP/\uP≠vP/\tQ≠vP/\tR≠vP:=by decide
def aH0 (s:St) (z:p7):(uA s z).c=s.c/\(uA s z).ends=s.ends/\(uA s z).id=s.id/\(uA s z).fg=s.fg/\(uA s z).sv=s.sv/\(uA s z).op=s.op/\(uA s z).bs=s.bs/\(uA s z).bt=s.bt/\(uA s z).bh=s.bh/\(uA s z).bf=s.bf/\(uA s z).last=s.last/\(uA s z).name=s.name:=by
 unfold uA;split
 .exact⟨rfl,rfl,rfl,rfl,rfl,rfl,rfl,rfl,rfl,rfl,rfl,rfl⟩
 split
 .exact⟨rfl,rfl,rfl,rfl,rfl,rfl,rfl,rfl,rfl,rfl,rfl,rfl⟩
 split<;>exact⟨rfl,rfl,rfl,rfl,rfl,rfl,rfl,rfl,rfl,rfl,rfl,rfl⟩
def aPg {s:St}(h:uQ s) (hl:s.last≠[]) {z:p7}(hz:sR z=true):uQ (uA s z):=by
 unfold uA;split
 .rename_i h1;exact {h with cm:=aPd h.cm (h.lcm h1) hz,lcm:=fun _=>pD}
 split
 .exact {h with sc:=hz}
 split
 .exact {h with tg:=hz}
 rename_i h1 h2 h3;have h4:s.last=vP:=by
  rcases h.lst with h5|h5|h5|h5|h5
  .exact absurd h5 hl
  .exact absurd h5 h1
  .exact absurd h5 h2
  .exact absurd h5 h3
  exact h5
 exact {h with fd:=aPb h.fd (h.lfd h4) hz,lfd:=fun _=>aHZ _ _ _}
def SG:0<=(0:Int)/\(0:Int)<=4:=by decide
def aPh {s:St}(h:uQ s) {n:Nat}{c:vX}(hc:XS n c) (next:Int) (h0:(rT s next c).1=0):uQ (rT s next c).2:=by
 cases c with
 |bad=>cases h0
 |cont t=>
  rw[rT] at h0|-;split at h0
  .cases h0
  .rename_i h1;rw[aSD h1];rw[not_or] at h1;split at h0
   .rename_i h2;rw[aSB h2];exact aPg h h1.2 h2
   .cases h0
 |beg hd t=>
  cases hd with
  |true=>
   rw[rT] at h0|-;split at h0
   .cases h0
   .rename_i h1;rw[aSD h1];simp only[not_or,Decidable.not_not] at h1;split at h0
    .rename_i h2;rw[aSB h2];exact {tag:=fun _=>h2,hcm:=h.hcm,hfd:=h.hfd,es:=h.es,e0:=h.e0,en:=h.en,room:=fun _ he=>absurd h1.2 he,sc:=rfl,tg:=rfl,cm:=rfl,fg:=rfl,sv:=SG,fd:=rfl,id:=fun _ he=>absurd h1.2 he,lcm:=fun he=>(v8.1 he.symm).elim,lfd:=fun he=>(v8.2.2.2.1 he.symm).elim,lst:= .inl rfl,off:=fun he=>(by cases he)}
    .cases h0
  |false=>
   rw[rT] at h0|-;split at h0
   .cases h0
   .rename_i h1;rw[aSD h1];rw[not_or] at h1;split at h0
    .cases h0
    .rename_i h2;rw[aSD h2];rw[not_or] at h2;split at h0
     .cases h0
     .rename_i h3;rw[aSD h3];split at h0
      .cases h0
      .rename_i h4;rw[aSD h4];refine {tag:=fun _=>h.tag (.inl h1.2),hcm:=h.hcm,hfd:=h.hfd,es:=h.es,e0:=h.e0,en:=h.en,room:=fun _ _=>(by show s.c.2.2.2.1.length<1000;omega),sc:=rfl,tg:=rfl,cm:=rfl,fg:=rfl,sv:=SG,fd:=rfl,id:=fun _ _=>⟨h2.1,(by show t.length<=200;omega),hc,fun y hy e=>h3 (List.any_eq_true.2 ⟨y,hy,aS5 (show y.1=t from e)⟩)⟩,lcm:=fun he=>(v8.1 he.symm).elim,lfd:=fun he=>(v8.2.2.2.1 he.symm).elim,lst:= .inl rfl,off:=fun he=>(by cases he)}
 |com t=>
  rw[rT] at h0|-;split at h0
  .cases h0
  .rename_i h1;rw[aSD h1];split at h0
   .cases h0
   .rename_i h2;rw[aSD h2];exact {h with cm:=aPc h.cm pB hc,lcm:=fun _=>pD,lfd:=fun he=>(v8.2.2.2.2.2.2.2.1 he).elim,lst:= .inr (.inl rfl),off:=fun he=>absurd he h1}
 |src t=>
  rw[rT] at h0|-;split at h0
  .cases h0
  .rename_i h1;rw[aSD h1];rw[not_or] at h1;split at h0
   .cases h0
   .rename_i h2;rw[aSD h2];exact {h with sc:=hc,lcm:=fun he=>(v8.2.2.2.2.1 he).elim,lfd:=fun he=>(v8.2.2.2.2.2.2.2.2.1 he).elim,lst:= .inr (.inr (.inl rfl)),off:=fun he=>absurd he h1.1}
 |tgt t=>
  rw[rT] at h0|-;split at h0
  .cases h0
  .rename_i h1;rw[aSD h1];rw[not_or] at h1;split at h0
   .cases h0
   .rename_i h2;rw[aSD h2];exact {h with tg:=hc,lcm:=fun he=>(v8.2.2.2.2.2.1 he).elim,lfd:=fun he=>(v8.2.2.2.2.2.2.2.2.2 he).elim,lst:= .inr (.inr (.inr (.inl rfl))),off:=fun he=>absurd he h1.1}
 |sta v=>
  rw[rT] at h0|-;split at h0
  .cases h0
  .rename_i h1;rw[aSD h1];rw[not_or] at h1;split at h0
   .cases h0
   .rename_i h2;rw[aSD h2];exact {h with sv:=hc,lcm:=fun he=>(v8.1 he.symm).elim,lfd:=fun he=>(v8.2.2.2.1 he.symm).elim,lst:= .inl rfl,off:=fun _=>rfl}
 |fld m v=>
  rw[rT] at h0|-;split at h0
  .cases h0
  .rename_i h1;rw[aSD h1];split at h0
   .cases h0
   .rename_i h2;rw[aSD h2];split at h0
    .cases h0
    .rename_i h3;rw[aSD h3];exact {h with fd:=aOJ h.fd h3 hc.1 hc.2 h2,lcm:=fun he=>(v8.2.2.2.2.2.2.1 he).elim,lfd:=fun _=>aHZ _ _ _,lst:= .inr (.inr (.inr (.inr rfl))),off:=fun he=>absurd he h1}
 |flg l=>
  rw[rT] at h0|-;split at h0
  .cases h0
  .rename_i h1;rw[aSD h1];rw[not_or] at h1;split at h0
   .cases h0
   .rename_i h2;rw[aSD h2];rw[not_or] at h2;split at h0
    .cases h0
    .rename_i h3;rw[aSD h3];have hd:zT l=false:=by simpa using h2.2
     exact {h with fg:=aPe (by rw[JK];omega) (fun x hx=>hc.2.2 x ((MG l).mem_iff.1 hx)) (aHS hd),lcm:=fun he=>(v8.1 he.symm).elim,lfd:=fun he=>(v8.2.2.2.1 he.symm).elim,lst:= .inl rfl,off:=fun _=>rfl}
 |fin=>
  rw[rT] at h0|-;split at h0
  .cases h0
  rename_i h1;have hop:s.op=true:=by simpa using h1
  rw[aSD h1];have htag:=h.tag (.inr hop);by_cases he:s.ends=[]
  .rw[aSB he];exact {tag:=fun _=>htag,hcm:=h.cm,hfd:=h.fd,es:=h.es,e0:=fun hh=>(by simp [JL] at hh),en:=fun _=>(by show (s.ends++[next]).length=s.c.2.2.2.1.length+1;rw[he,h.e0 he];rfl),room:=fun hh=>(by cases hh),sc:=rfl,tg:=rfl,cm:=rfl,fg:=rfl,sv:=SG,fd:=rfl,id:=fun hh=>(by cases hh),lcm:=fun hh=>(v8.1 hh.symm).elim,lfd:=fun hh=>(v8.2.2.2.1 hh.symm).elim,lst:= .inl rfl,off:=fun _=>rfl}
  rw[aSD he];have hr:=h.room hop he;obtain⟨i1,i2,i3,i4⟩:=h.id hop he;refine {tag:=fun _=>htag,hcm:=h.hcm,hfd:=h.hfd,es:=⟨?_,?_,?_⟩,e0:=fun hh=>(by simp [JL] at hh),en:=fun _=>?_,room:=fun hh=>(by cases hh),sc:=rfl,tg:=rfl,cm:=rfl,fg:=rfl,sv:=SG,fd:=rfl,id:=fun hh=>(by cases hh),lcm:=fun hh=>(v8.1 hh.symm).elim,lfd:=fun hh=>(v8.2.2.2.1 hh.symm).elim,lst:= .inl rfl,off:=fun _=>rfl}
  .show (s.c.2.2.2.1++[s.x]).length<=1000;rw[aSH];simp only[aSI,aSY];omega
  .intro x hx;rcases aTR.1 (show x∈s.c.2.2.2.1++[s.x] from hx) with hx|hx
   .exact h.es.ok x hx
   rw[aST.1 hx];exact aPf h hop he
  .show (s.c.2.2.2.1++[s.x]).Pairwise _;rw[aUo];exact⟨h.es.pw,aUv _ _,fun a ha b hb=>by rw[aST.1 hb];exact i4 a ha⟩
  show (s.ends++[next]).length=(s.c.2.2.2.1++[s.x]).length+1
  rw[aSH,aSH,h.en he];rfl
def uF:St:=JL ([],([],([],([],())))) []
def a82:uQ uF:={tag:=fun h=>h.elim (fun h=>absurd rfl h) fun h=>(by cases h),hcm:=rfl,hfd:=rfl,es:=⟨aTv _,fun x hx=>(by cases hx),List.Pairwise.nil⟩,e0:=fun _=>rfl,en:=fun h=>absurd rfl h,room:=fun h=>(by cases h),sc:=rfl,tg:=rfl,cm:=rfl,fg:=rfl,sv:=SG,fd:=rfl,id:=fun h=>(by cases h),lcm:=fun h=>(v8.1 h.symm).elim,lfd:=fun h=>(v8.2.2.2.1 h.symm).elim,lst:= .inl rfl,off:=fun _=>rfl}
def XY {s:St}(h:uQ s) (line:p7) (next:Int) (h0:(wB s line next).1=0):uQ (wB s line next).2:=by
 unfold wB at h0|-;split at h0
 .rename_i h1;rw[aSB h1];exact h
 rename_i h1;rw[aSD h1];cases hw:FG line with
 |none=>rw[hw] at h0;cases h0
 |some l=>
  rw[hw] at h0;exact aPh h (aO5 (n:=line.length) (SD _ _ _ hw) (P0 _ _ _ hw).1 (P0 _ _ _ hw).2) next h0
end
noncomputable section
def XZ {α β:Type}{A:Option α}{err:α→Int}{fl:St→α}{r:Int×St}{g:α→Option β}{err2:β→Int}{fl2:St→β}(hA:wP A err fl r)
    (hg: ∀v,∃w,g v=some w∧err2 w=err v) (hf:r.1=0→g (fl r.2)=some (fl2 r.2)):wP (A.bind g) err2 fl2 r:=by
  obtain⟨v,hv,he,hz⟩:=hA;obtain⟨w,hw,hwe⟩:=hg v;refine⟨w,by rw[hv];exact hw,hwe.trans he,fun h0=>?_⟩;have:=hf h0;rw[←hz h0,hw] at this;exact aSG this
def aPi (s:St) (n:Int) (hd:Bool) (t:p7):(rT s n (.beg hd t)).1=0→(rT s n (.beg hd t)).2.c.2=s.c.2∧(rT s n (.beg hd t)).2.ends=s.ends:=by
  cases hd<;>(rw[rT];repeat' split)<;>intro h<;>first|exact⟨rfl,rfl⟩ |cases h
def aPj (s:St) (n:Int):(rT s n .fin).2.c.1=s.c.1:=by
  rw[rT];repeat' split
  all_goals rfl
def aPk {k:p7}{l:List Wd}{c:vX}(h:HF k l c) (s:St) (n:Int):(rT s n c).2.c=s.c∧(rT s n c).2.ends=s.ends∧(rT s n c).2.id=s.id∧(rT s n c).2.op=s.op:=by
  cases h<;>(rw[rT];repeat' split)<;>exact⟨rfl,rfl,rfl,rfl⟩
def aH1 (s:St) (n:Int) (t:p7):(rT s n (.cont t)).2.c=s.c∧(rT s n (.cont t)).2.ends=s.ends∧(rT s n (.cont t)).2.id=s.id∧(rT s n (.cont t)).2.fg=s.fg∧(rT s n (.cont t)).2.sv=s.sv∧(rT s n (.cont t)).2.op=s.op∧(rT s n (.cont t)).2.bs=s.bs∧(rT s n (.cont t)).2.bt=s.bt∧(rT s n (.cont t)).2.bh=s.bh∧(rT s n (.cont t)).2.bf=s.bf∧(rT s n (.cont t)).2.last=s.last∧(rT s n (.cont t)).2.name=s.name:=by
  rw[rT];split
  .exact⟨rfl,rfl,rfl,rfl,rfl,rfl,rfl,rfl,rfl,rfl,rfl,rfl⟩
  split
  .exact aH0 s _
  exact⟨rfl,rfl,rfl,rfl,rfl,rfl,rfl,rfl,rfl,rfl,rfl,rfl⟩
def aPl (s:St) (n:Int) (t:p7) (h:(rT s n (.cont t)).1=0):(rT s n (.cont t)).2=uA s (tG s++t):=by
  rw[rT] at h|-;split at h
  .cases h
  rename_i h1
  rw[aSD h1];split at h
  .rename_i h2;rw[aSB h2]
  cases h
def sL (p:p7):p7:=if p.getLast? =some 10 then p.dropLast else p
abbrev EE (s:St):BT:=s.flat 0
def MH {r:List Wd}{t:p7}(h:sY r=some t):r=[(true,t,())]:=by
  unfold sY at h;split at h
  · rename_i w
    split at h
    · rename_i hw
      cases h;obtain⟨a,b,c⟩:=w;cases hw;rfl
    cases h
  cases h
def aPm {r:List Wd}{v:Int}(h:BR r=some v): ∃t,r=[(false,t,())]∧v=xB t:=by
  unfold BR at h;split at h
  · rename_i w
    split at h
    · rename_i hw
      cases h;obtain⟨a,b,c⟩:=w;obtain⟨h1,h2⟩:=hw;cases h1;exact⟨b,rfl,rfl⟩
    cases h
  cases h
def aPn {r:List Wd}{q:p7×p7}(h:BS r=some q):r=[(true,q.1,()),(true,q.2,())]:=by
  unfold BS at h;split at h
  · rename_i a b
    split at h
    · rename_i hw
      cases h;obtain⟨a1,a2,a3⟩:=a;obtain⟨b1,b2,b3⟩:=b;obtain⟨⟨h1,h2⟩,_⟩:=hw;cases h1;cases h2;rfl
    cases h
  cases h
def EF (s:St) (next:Int) (l:List Wd):Option BT:=
      (z8 l).bind fun O=>
      if (!O.2)=true then
       some ((s.flat 3))
      else
       if (decide (O.1=([]:p7)))=true then
        (JD s.tup l).bind fun Z=>
        some ((s.c.1,s.c.2.1,s.c.2.2.1,s.c.2.2.2.1,s.ends,s.id,Z.1,Z.2.1,Z.2.2.1,s.fg,s.sv,Z.2.2.2.1,s.op,s.bs,s.bt,s.bh,s.bf,s.last,s.name,Z.2.2.2.2))
       else
        sN (σ:=Bool) (
          if (decide (O.1=([99,97,116,97,108,111,103]:p7)))=true then
           some ((decide (O.1=([99,97,116,97,108,111,103]:p7))))
          else
           some ((decide (O.1=([101,110,116,114,121]:p7))))
         ) fun aA=>
        if aA=true then
         if 0≤(1:Int)∧(1:Int)<(l.length:Int) then
          (J3 s.tup O.1 ((qE qK l (1:Int)).2.1)).bind fun aB=>
          some ((aB.1,s.c.2.1,s.c.2.2.1,s.c.2.2.2.1,s.ends,aB.2.1,aB.2.2.1,aB.2.2.2.1,aB.2.2.2.2.1,aB.2.2.2.2.2.1,aB.2.2.2.2.2.2.1,aB.2.2.2.2.2.2.2.1,aB.2.2.2.2.2.2.2.2.1,aB.2.2.2.2.2.2.2.2.2.1,aB.2.2.2.2.2.2.2.2.2.2.1,aB.2.2.2.2.2.2.2.2.2.2.2.1,aB.2.2.2.2.2.2.2.2.2.2.2.2.1,aB.2.2.2.2.2.2.2.2.2.2.2.2.2.1,aB.2.2.2.2.2.2.2.2.2.2.2.2.2.2.1,aB.2.2.2.2.2.2.2.2.2.2.2.2.2.2.2))
         else none
        else
         if (decide (O.1=([101,110,100]:p7)))=true then
          (IN s.tup next).bind fun aC=>
          some ((s.c.1,aC.1,aC.2.1,aC.2.2.1,aC.2.2.2.1,aC.2.2.2.2.1,aC.2.2.2.2.2.1,aC.2.2.2.2.2.2.1,aC.2.2.2.2.2.2.2.1,aC.2.2.2.2.2.2.2.2.1,aC.2.2.2.2.2.2.2.2.2.1,aC.2.2.2.2.2.2.2.2.2.2.1,aC.2.2.2.2.2.2.2.2.2.2.2.1,aC.2.2.2.2.2.2.2.2.2.2.2.2.1,aC.2.2.2.2.2.2.2.2.2.2.2.2.2.1,aC.2.2.2.2.2.2.2.2.2.2.2.2.2.2.1,aC.2.2.2.2.2.2.2.2.2.2.2.2.2.2.2.1,aC.2.2.2.2.2.2.2.2.2.2.2.2.2.2.2.2.1,aC.2.2.2.2.2.2.2.2.2.2.2.2.2.2.2.2.2.1,aC.2.2.2.2.2.2.2.2.2.2.2.2.2.2.2.2.2.2))
         else
          (J5 s.tup O.1 l).bind fun aD=>
          some ((s.c.1,s.c.2.1,s.c.2.2.1,s.c.2.2.2.1,s.ends,s.id,aD.1,aD.2.1,aD.2.2.1,aD.2.2.2.1,aD.2.2.2.2.1,aD.2.2.2.2.2.1,s.op,aD.2.2.2.2.2.2.1,aD.2.2.2.2.2.2.2.1,aD.2.2.2.2.2.2.2.2.1,aD.2.2.2.2.2.2.2.2.2.1,aD.2.2.2.2.2.2.2.2.2.2.1,aD.2.2.2.2.2.2.2.2.2.2.2.1,aD.2.2.2.2.2.2.2.2.2.2.2.2))
def MI {s:St}{next:Int}{l:List Wd}{k:p7}(h:z8 l=some (k,false)):wP (EF s next l) BT.err EE (3,s):=by
  unfold EF;rw[h,aSE];exact wQ (aSB rfl) rfl pC
def P1 {s:St}(h:uQ s) {next:Int}{l:List Wd}{k:p7}{c:vX}(hs:z8 l=some (k,true)) (hi:HF k l c) (hl:l.length≤1000000000):wP (EF s next l) BT.err EE (rT s next c):=by
  unfold EF;rw[hs,aSE];have hk:k=uP∨k=tQ∨k=tR∨k=vW∨k=vP∨k=vK:=by cases hi<;>simp
  have h1:decide (k=([]:p7))=false:=by rcases hk with e|e|e|e|e|e<;>rw[e]<;>rfl
  have h2:decide (k=([99,97,116,97,108,111,103]:p7))=false:=by rcases hk with e|e|e|e|e|e<;>rw[e]<;>rfl
  have h3:decide (k=([101,110,116,114,121]:p7))=false:=by rcases hk with e|e|e|e|e|e<;>rw[e]<;>rfl
  have h4:decide (k=([101,110,100]:p7))=false:=by rcases hk with e|e|e|e|e|e<;>rw[e]<;>rfl
  dsimp only;rw[aSD pD,h1,aSD pD,h2,h3,aSD pD];unfold sN;rw[aSE,aSD pD,h4,aSD pD];refine XZ (aPa h next hi hl) (fun v=>⟨_,rfl,rfl⟩) fun h0=>?_
  obtain⟨k1,k2,k3,k4⟩:=aPk hi s next
  show some _=some _;unfold EE St.flat;rw[k1,k2,k3,k4]
def aH2 {s:St}(h:uQ s) {next:Int}{w:Wd}{hd:Bool}{t:p7}(hs:z8 [w,(true,t,())]=some (if hd=true then wO else yE,true)) (ht:sR t=true):wP (EF s next [w,(true,t,())]) BT.err EE (rT s next (.beg hd t)):=by
  unfold EF;rw[hs,aSE];have h1:decide ((if hd=true then wO else yE)=([]:p7))=false:=by cases hd<;>rfl
  have hx : ∀X:Bool→Option BT,sN (σ:=Bool) (
          if (decide ((if hd=true then wO else yE)=([99,97,116,97,108,111,103]:p7)))=true then
           some ((decide ((if hd=true then wO else yE)=([99,97,116,97,108,111,103]:p7))))
          else
           some ((decide ((if hd=true then wO else yE)=([101,110,116,114,121]:p7))))
         ) X=X true:=fun X=>by cases hd<;>rfl
  dsimp only;rw[aSD pD,h1,aSD pD,hx,aSB rfl,aSB ⟨pC,by simp⟩];refine XZ (aO8 h next hd ht) (fun v=>⟨_,rfl,rfl⟩) fun h0=>?_
  obtain⟨k1,k2⟩:=aPi s next hd t h0
  show some _=some _;unfold EE St.flat;rw[k1,k2]
def aPo {s:St}(h:uQ s) {next:Int}{l:List Wd}(hs:z8 l=some (FH,true)):wP (EF s next l) BT.err EE (rT s next .fin):=by
  unfold EF;rw[hs,aSE];dsimp only;rw[aSD pD,aSD pC,aSD pC];unfold sN;rw[aSE,aSD pC,aSB pC];refine XZ (aO9 h next) (fun v=>⟨_,rfl,rfl⟩) fun h0=>?_
  show some _=some _;unfold EE St.flat;rw[aPj]
def aPp {s:St}(h:uQ s) {next:Int}{l:List Wd}(hs:z8 l=some ([],true)) (hl:l.length≤1000000000) (ht:(r7 l).flatten.length≤1000000000):wP (EF s next l) BT.err EE (rT s next (.cont (r7 l).flatten)):=by
  unfold EF;rw[hs,aSE];dsimp only;rw[aSD pD,aSB pC];obtain⟨v,hv,he,hz⟩:=aO7 h next hl ht
  obtain⟨k1,k2,k3,k4,k5,k6,k7,k8,k9,k10,k11,k12⟩:=aH1 s next (r7 l).flatten
  refine XZ (err:=fun v=>v.2.2.2.2) (fl:=fun s=>s.cont5 0) ⟨v,hv,he,fun h0=>(hz h0).trans (by rw[aPl s next _ h0])⟩ (fun v=>⟨_,rfl,rfl⟩) fun h0=>?_
  show some _=some _;unfold EE St.flat;rw[k1,k2,k3,k4,k5,k6,k7,k8,k9,k10,k11,k12]
def a83 {k:p7}{r:List Wd}{t:p7}(ho:sY r=some t):
    uI wO r= .beg true t∧uI yE r= .beg false t∧uI uP r= .com t∧uI tQ r= .src t∧uI tR r= .tgt t:=by
  have e1:yE≠wO∧uP≠wO∧tQ≠wO∧tR≠wO∧uP≠yE∧tQ≠yE∧tR≠yE∧tQ≠uP∧tR≠uP∧tR≠tQ:=by decide
  obtain⟨a1,a2,a3,a4,a5,a6,a7,a8,a9,a10⟩:=e1;refine⟨?_,?_,?_,?_,?_⟩<;>unfold uI
  .rw[aSB rfl,ho];rfl
  .rw[aSD a1,aSB rfl,ho];rfl
  .rw[aSD a2,aSD a5,aSB rfl,ho];rfl
  .rw[aSD a3,aSD a6,aSD a8,aSB rfl,ho];rfl
  rw[aSD a4,aSD a7,aSD a9,aSD a10,aSB rfl,ho];rfl
def aPq {k:p7}{r:List Wd}(ho:sY r=none) (hk:k=wO∨k=yE∨k=uP∨k=tQ∨k=tR):uI k r= .bad:=by
  unfold uI;by_cases h1:k=wO
  .rw[aSB h1,ho];rfl
  rw[aSD h1];by_cases h2:k=yE
  .rw[aSB h2,ho];rfl
  rw[aSD h2];by_cases h3:k=uP
  .rw[aSB h3,ho];rfl
  rw[aSD h3];by_cases h4:k=tQ
  .rw[aSB h4,ho];rfl
  rw[aSD h4];by_cases h5:k=tR
  .rw[aSB h5,ho];rfl
  exact absurd hk (by simp [h1,h2,h3,h4,h5])
def aPr {s:St}(h:uQ s) (next:Int) {l:List Wd}(hl:l.length≤1000000000) (hne:l≠[]) {N:Nat}(hN:N≤1000000000) (hok: ∀w∈l,yO N w) (ht:(r7 l).flatten.length≤1000000000):wP (EF s next l) BT.err EE (rT s next (B7 l)):=by
  cases l with
  |nil=>exact absurd rfl hne
  | cons w r=>
    have hr: ∀x∈r,yO N x:=fun x hx=>hok x (aSQ _ hx)
    have hfit: ∀x∈r,sC x.2.1:=fun x hx=>by
      have:=hr x hx;unfold yO at this;split at this
      .exact aHV this
      unfold sC;omega
    unfold B7;dsimp only;by_cases hw:w.1=true
    · rw[aSB hw]
      have hs:=aOX hl hw;cases ha:(r.any fun x=> !x.1) with
      | true=>
        rw[ha] at hs;rw[aSB rfl];exact MI hs
      | false=>
        rw[ha] at hs;rw[aSD pD];exact aPp h hs hl ht
    have hw:w.1=false:=by simpa using hw
    rw[aSD (by rw[hw];simp)];by_cases hk:w.2.1=wO∨w.2.1=yE∨w.2.1=uP∨w.2.1=tQ∨w.2.1=tR
    · have hs:=aOY (r:=r) hw hk
      cases ho:sY r with
      | none=>
        rw[ho] at hs;rw[aPq ho hk];exact MI hs
      | some t=>
        rw[ho] at hs;have htx:=a8Z hr ho;obtain⟨c1,c2,c3,c4,c5⟩:=a83 (k:=[]) ho;have hrt:=MH ho;subst hrt;rcases hk with e|e|e|e|e
        · rw[e] at hs|-
          rw[c1];exact aH2 (hd:=true) h hs htx
        · rw[e] at hs|-
          rw[c2];exact aH2 (hd:=false) h hs htx
        · rw[e] at hs|-
          rw[c3];exact P1 h hs (.com w t true) hl
        · rw[e] at hs|-
          rw[c4];exact P1 h hs (.src w t true) hl
        rw[e] at hs|-
        rw[c5];exact P1 h hs (.tgt w t true) hl
    have hs:=aOZ (r:=r) hw hk (by simp only[aSI] at hl;omega) hfit
    simp only[not_or] at hk;obtain⟨h1,h2,h3,h4,h5⟩:=hk;unfold uI;rw[aSD h1,aSD h2,aSD h3,aSD h4,aSD h5];by_cases h6:w.2.1=vW
    · rw[aSB h6] at hs|-
      cases ho:BR r with
      |none=>rw[ho] at hs;exact MI hs
      | some v=>
        rw[ho] at hs;obtain⟨t,rfl,rfl⟩:=aPm ho;exact P1 h hs (.sta w t false) hl
    rw[aSD h6] at hs|-
    by_cases h7:w.2.1=vP
    · rw[aSB h7] at hs|-
      cases ho:BS r with
      |none=>rw[ho] at hs;exact MI hs
      | some q=>
        rw[ho] at hs;have:=aPn ho;subst this;exact P1 h hs (.fld w q.1 q.2 true true) hl
    rw[aSD h7] at hs|-
    by_cases h8:w.2.1=FH
    · rw[aSB h8] at hs|-
      by_cases he:r=[]
      · rw[aSB he]
        rw[aS5 he] at hs;exact aPo h hs
      rw[aSD he]
      rw[decide_eq_false he] at hs;exact MI hs
    rw[aSD h8] at hs|-
    by_cases h9:w.2.1=vK
    · rw[aSB h9] at hs|-
      by_cases he:r=[]∨(r.any AD)=true
      · rw[aSB he]
        have:(!(decide (r=[])||r.any AD))=false:=by rcases he with he|he<;>simp [he]
        rw[this] at hs;exact MI hs
      rw[aSD he]
      have:(!(decide (r=[])||r.any AD))=true:=by
        rw[not_or] at he;rw[decide_eq_false he.1];simpa using he.2
      rw[this] at hs;exact P1 h hs (.flg w r) hl
    rw[aSD h9] at hs|-
    exact MI hs
def aPs (p:p7):(sL p).length≤p.length:=by
  unfold sL;split
  .rw[List.length_dropLast];omega
  exact aSW _
def aPt {s:St}(h:uQ s) {p:p7}(hp:p.length≤1000000000) (next:Int):wP (JF s.tup p next) BT.err EE (wB s (sL p) next):=by
  have hsl:=aPs p
  have hx: ∀X:p7→Option BT,(sN (σ:=p7) (
     if ((decide ((0:Int)<(p.length:Int)))&&(decide ((rI p ((p.length:Int)- (1:Int)))=(10:Int))))=true then
      if pX ((p.length:Int)- (1:Int)) then
       if 0≤(0:Int)∧(0:Int)≤((p.length:Int)- (1:Int))∧((p.length:Int)- (1:Int))≤(p.length:Int) then
        some ((qR p (0:Int) ((p.length:Int)- (1:Int))))
       else none
      else none
     else
      some (p)
    ) X)=X (sL p):=fun X=>by
    unfold sL;rcases Nat.eq_zero_or_pos p.length with h0|h0
    · have:p=[]:=aTB.1 h0
      subst this;rfl
    have hl:p.getLast? =some p[p.length-1]:=by rw[List.getLast?_eq_getElem?,aSK pB]
    rw[show ((p.length:Int)-1)=((p.length-1:Nat):Int) by omega,x9 pB,aS5 (show (0:Int)<(p.length:Int) by omega),Bool.true_and,v7 (n:=10) 10 rfl,hl];by_cases h10:p[p.length-1]=10
    · rw[aSB (aS5 h10),aSB (by unfold pX;omega),aSB ⟨pB,pB,pB⟩,aSB (by rw[h10]),OU,aHY]
      rfl
    rw[aSD (by simpa using h10),aSD (by simpa using h10)]
    rfl
  unfold JF;rw[aSB (fun hh=>by simp only[aTU,aSL] at hh;unfold pX;omega),aSB (fun hh=>by simp only[aTU,aSL] at hh;omega),hx];have hgs:=aHM (s:=sL p) pB (.inr rfl) (j:=0) pB;rw[aTM,aTa] at hgs;rw[show ((0:Int))=((0:Nat):Int) from rfl,hgs];unfold sN;rw[aSE];have htl:((sL p).takeWhile sO).length≤(sL p).length:=(List.takeWhile_prefix _).length_le;have hdr:(sL p).drop ((sL p).takeWhile sO).length=(sL p).dropWhile sO:=SC.2;rw[aSB (fun hh=>by simp only[aTU,aTo] at hh;omega)]
  have hfree:((decide ((((sL p).takeWhile sO).length:Int)=((sL p).length:Int)))||(decide ((rI (sL p) ((((sL p).takeWhile sO).length:Nat):Int))=(35:Int))))=CR (sL p):=by
    unfold CR;by_cases he:(sL p).dropWhile sO=[]
    · have:((sL p).takeWhile sO).length=(sL p).length:=by
        have:=aS4 List.length (List.takeWhile_append_dropWhile (p:=sO) (l:=sL p));rw[he,List.append_nil] at this;exact this
      rw[aS5 (show (((sL p).takeWhile sO).length:Int)=((sL p).length:Int) by omega),aS5 he];rfl
    have hlt:((sL p).takeWhile sO).length<(sL p).length:=by
      rcases aTD ((sL p).takeWhile sO).length (sL p).length with h1|h1
      .exact h1
      rw[List.drop_eq_nil_of_le h1] at hdr;exact absurd hdr.symm he
    rw[decide_eq_false (show¬(((sL p).takeWhile sO).length:Int)=((sL p).length:Int) by omega),decide_eq_false he,x9 hlt,←hdr,aS3 hlt,v7 (n:=35) 35 rfl];simp [aSK hlt]
  rw[hfree];unfold wB;by_cases hf:CR (sL p)=true
  · rw[aSB hf,aSB hf]
    exact ED rfl rfl rfl
  rw[aSD hf,aSD hf,aOW pB,aSE]
  cases hw:FG (sL p) with
  |none=>exact wQ (aSB rfl) rfl pC
  | some l=>
    have hsum:=P0 _ _ _ hw;have hnel:(sL p).dropWhile sO≠[]:=fun e=>hf (by unfold CR;rw[e];rfl);have:=aPr h next (l:=l) pB (a8Y _ _ _ hw hnel) (N:=(sL p).length) pB (SD _ _ _ hw) pB
    exact this
end
noncomputable section
def tS (s:p7) (i:Nat):Nat:=if 0≤Lib.indexByte (s.drop i) 10 then i+(Lib.indexByte (s.drop i) 10).toNat+1 else s.length
def D7 (s:p7):Nat→Nat→List (Int×p7)
  |0,_=>[]
  |n+1,i=>if i<s.length then((i:Int),(s.drop i).take (tS s i-i))::D7 s n (tS s i) else[]
def Y0 (s:p7):List (Int×p7):=D7 s (s.length) 0
def SH {s:p7}{i:Nat}(h:i<s.length):i<tS s i∧tS s i≤s.length:=by
  have hr:=NK (s.drop i) 10;rw[aS8] at hr;unfold tS;split<;>omega
def aPu {s:p7}{a i:Nat}(hai:a≤i) (hi:i<s.length) (hno: ∀j (h:j<s.length),a≤j→j<i→s[j]≠10) (h10:s[i]=10):((s.drop a).findIdx? fun b=>decide (b=10))=some (i-a):=by
  rw[aTm];refine⟨by rw[aS8];omega,?_,fun j hj=>?_⟩
  · rw[List.getElem_drop]
    simp only[aSL];rw[←h10];congr 1;omega
  rw[List.getElem_drop]
  simp only[aSL];exact hno (a+j) pB pB pB
def aPv {s:p7}{a:Nat}(hno: ∀j (h:j<s.length),a≤j→s[j]≠10):((s.drop a).findIdx? fun b=>decide (b=10))=none:=by
  rw[aTH];intro x hx;obtain⟨j,hj,rfl⟩:=aUC hx;rw[List.getElem_drop];simp only[aTo];rw[aS8] at hj;exact hno (a+j) pB pB
def aPw {s:p7}{a i:Nat}(hai:a≤i) (hi:i<s.length) (hno: ∀j (h:j<s.length),a≤j→j<i→s[j]≠10) (h10:s[i]=10):tS s a=i+1:=by
  unfold tS;rw[a8O,aPu hai hi hno h10];rw[show JJ (some (i-a))=((i-a:Nat):Int) from rfl,aSB pB,aTs];omega
def aPx {s:p7}{a:Nat}(hno: ∀j (h:j<s.length),a≤j→s[j]≠10):tS s a=s.length:=by
  unfold tS;rw[a8O,aPv hno];exact aSD pC
def a84 {s:p7}{n i:Nat}(h:s.length≤i):D7 s n i=[]:=by
  cases n with
  |zero=>rfl
  |succ n=>rw[D7,aSD pB]
def aH3 {s:p7}{a b:Nat}:qR s (a:Int) (b:Int)=(s.drop a).take (b-a):=by
  unfold qR;rw[aTs,aTs]
def aH4 (s:p7) (q:p8×Int):Option p8:=
  if (decide (q.2<(s.length:Int)))=true then
   if 0≤q.2∧q.2≤(s.length:Int)∧(s.length:Int)≤(s.length:Int) then
    if (q.1.length+([(qR s q.2 (s.length:Int))]:p8).length)*16≤140737488355328 then
     some ((q.1++([(qR s q.2 (s.length:Int))]:p8)))
    else none
   else none
  else
   some (q.1)
def a85 {s:p7}(hs:s.length≤4000000000): ∀(m i a n:Nat) (out:p8),i+m=s.length→a≤i→s.length≤n+a→out.length≤a→(∀j (h:j<s.length),a≤j→j<i→s[j]≠10)→
    sN (rF (IK s) (out,(a:Int),(i:Int))) (aH4 s)=some (out++(D7 s n a).map (·.2))
  | 0,i,a,n,out,hm,hai,hn,ho,hno=>by
    have:i=s.length:=by omega
    subst this;rw[BL (r:=(out,(a:Int))) (by unfold IK;dsimp only;rw[aSD (xA _)])];unfold sN aH4;rw[aSE];dsimp only;by_cases ha:a<s.length
    · obtain⟨n,rfl⟩: ∃n',n=n'+1:=⟨n-1,pB⟩
      have hlt:=aPx (s:=s) (a:=a) (fun j h h1=>hno j h h1 h);rw[aSB (by simpa using ha),aSB pB,aSB (by simp only[aSI,aSY];omega),D7,aSB ha,hlt,a84 (aSW _),aH3];rfl
    .rw[aSD pE,a84 pB,List.map_nil,List.append_nil]
  | m+1,i,a,n,out,hm,hai,hn,ho,hno=>by
    have hi:i<s.length:=by omega
    by_cases h10:s[i]=10
    · have hst:IK s (out,(a:Int),(i:Int))=some (.inl (out++[(s.drop a).take (i+1-a)],((i+1:Nat):Int),((i+1:Nat):Int))):=by
        unfold IK;dsimp only;rw[aSB (tV hi),aSB (sT hi),x9 hi,h10,aSB pQ,aSB (u7 pB),aSB pB,aSB (by simp only[aSI,aSY];omega)];rw[show ((i:Int)+1)=((i+1:Nat):Int) by omega,aH3,aSB (show pX ((i+1:Nat):Int) by unfold pX;omega),aSB (show pX ((i+1:Nat):Int) by unfold pX;omega)]
      have hlt:=aPw hai hi hno h10;obtain⟨n,rfl⟩: ∃n',n=n'+1:=⟨n-1,pB⟩;rw[NH hst,a85 hs m (i+1) (i+1) n _ pB (aSW _) pB pE (fun j h h1 h2=>by omega),D7,aSB pB,hlt];simp
    have hst:IK s (out,(a:Int),(i:Int))=some (.inl (out,(a:Int),((i+1:Nat):Int))):=by
      unfold IK;dsimp only;rw[aSB (tV hi),aSB (sT hi),x9 hi,aSD (by simp only[aSL];intro h;exact h10 (S3.1 (show (s[i].toNat:Int)=((10:UInt8).toNat:Int) from h))),aSB (u7 pB)];rfl
    rw[NH hst,a85 hs m (i+1) a n out pB pB hn ho (fun j h h1 h2=>by
      by_cases hj:j=i
      .subst hj;exact h10
      exact hno j h h1 pB)]
def aPy {s:p7}(hs:s.length≤4000000000):IL s=some ((Y0 s).map (·.2)):=by
  have h:=a85 hs s.length 0 0 s.length [] pB (aSW _) pB (aSW _) (fun j h h1 h2=>by omega);unfold IL;exact h
def AE (s:p7) (a:Nat):p7:=(s.drop a).take (tS s a-a)
def zU (s:p7):Nat→St→Nat→(Nat×Int)⊕St
  |0,st,_=> .inr st
  | n +1,st,a=>if a<s.length then
      (if (wB st (sL (AE s a)) (tS s a:Nat)).1=0 then zU s n (wB st (sL (AE s a)) (tS s a:Nat)).2 (tS s a) else .inl (a,(wB st (sL (AE s a)) (tS s a:Nat)).1))
    else .inr st
def BU (s:p7):(Nat×Int)⊕St:=match zU s (s.length+1) uF 0 with
  | .inl q=> .inl q
  | .inr st=>if st.op=true∨st.ends=[] then .inl (s.length,3) else .inr st
abbrev St.flat19 (s:St):p7×p8×(List qG)×(List sA)×pH×p7×p7×p7×p8×p8×Int×(List qG)×Bool×Bool×Bool×Bool×Bool×p7×p7:=
  (s.c.1,s.c.2.1,s.c.2.2.1,s.c.2.2.2.1,s.ends,s.id,s.sc,s.tg,s.cm,s.fg,s.sv,s.fd,s.op,s.bs,s.bt,s.bh,s.bf,s.last,s.name)
def aH5 {s:p7}: ∀(n:Nat) (st:St) (a:Nat) {st':St},uQ st→zU s n st a= .inr st'→uQ st'
  |0,st,a,st',h,e=>by cases e;exact h
  | n+1,st,a,st',h,e=>by
    rw[zU] at e;split at e
    · split at e
      · rename_i h0
        exact aH5 n _ _ (XY h _ _ h0) e
      cases e
    cases e;exact h
def aH6 {s:p7}(hs:s.length≤1000000000) {L:p8}(hLl:L.length≤1000000000): ∀(n a i:Nat) (st:St),uQ st→a≤s.length→s.length≤n+a→i≤L.length→L.drop i=(D7 s n a).map (·.2)→
    rF (M8 L) ((a:Int),(i:Int),st.flat19)=some (match zU s (n+1) st a with| .inr st'=> .inl st'.flat19| .inl q=> .inr ([],[],[],[],[],(q.1:Int),q.2))
  | n,a,i,st,hst,ha,hn,hi,hd=>by
    by_cases hlt:a<s.length
    · obtain⟨n,rfl⟩: ∃n',n=n'+1:=⟨n-1,pB⟩
      have hto:=SH hlt;rw[D7,aSB hlt,aTV] at hd
      have hil:i<L.length:=by
        rcases aTD i L.length with h|h
        .exact h
        rw[List.drop_eq_nil_of_le h] at hd;cases hd
      rw[aS3 hil] at hd;obtain⟨hLi,hd⟩:=List.cons.inj hd;have hLi:L[i]=AE s a:=hLi;have hll:(AE s a).length=tS s a-a:=by unfold AE;rw[aTe,aS8];omega
      obtain⟨v,hv,he,hz⟩:=aPt hst (p:=AE s a) pB (tS s a:Nat);rw[tB];generalize hF:rF (M8 L)=F;unfold M8;dsimp only;rw[aSB (tV hil),aSB (sT hil),zA hil,hLi,hll,aSB (by unfold pX;omega),aSB (sT hil)];rw[show ((a:Int)+((tS s a-a:Nat):Int))=((tS s a:Nat):Int) by omega];have hv':JF ((st.c.1,(st.c.2.1,(st.c.2.2.1,(st.c.2.2.2.1,())))),(st.ends,((st.id,(st.sc,(st.tg,(st.cm,(st.fg,(st.sv,(st.fd,()))))))),(st.op,(st.bs,(st.bt,(st.bh,(st.bf,(st.last,(st.name,())))))))))) (AE s a) ((tS s a:Nat):Int)=some v:=hv;rw[hv',aSE,zU,aSB hlt];have he:v.2.2.2.2.2.2.2.2.2.2.2.2.2.2.2.2.2.2.2=(wB st (sL (AE s a)) (tS s a:Nat)).1:=he;rw[he];by_cases h0:(wB st (sL (AE s a)) (tS s a:Nat)).1=0
      · rw[aSD (by rw[h0];simp),aSB h0,aSB (u7 pB),aSE,hz h0]
        dsimp only;rw[show ((i:Int)+1)=((i+1:Nat):Int) by omega,←hF];exact aH6 hs hLl n (tS s a) (i+1) _ (XY hst _ _ h0) hto.2 pB pB hd
      rw[aSB (by simp [h0]),aSD h0,aSE]
    have hnil:D7 s n a=[]:=a84 pB
    rw[hnil,List.map_nil] at hd
    have hil:i=L.length:=by
      have:=aS4 List.length hd;rw[aS8,aSY] at this;omega
    subst hil;rw[zU,aSD hlt,tB];unfold M8;dsimp only;rw[aSD (xA _),aSE]
def aH7 (s:p7): ∀(n i:Nat),(D7 s n i).length≤n
  |0,_=>aSW _
  | n+1,i=>by
    rw[D7];split
    · have:=aH7 s n (tS s i)
      simp only[aSI];omega
    simp
abbrev R7:=p7×p8×(List qG)×(List sA)×pH×Int×Int
def Y1:(Nat×Int)⊕St→R7
  | .inl q=>([],[],[],[],[],(q.1:Int),q.2)
  | .inr st=>(st.c.1,st.c.2.1,st.c.2.2.1,st.c.2.2.2.1,st.ends,0,0)
def aPz {s:p7}(hs:s.length≤1000000000):M9 s=some (Y1 (BU s)):=by
  have hl:=aH7 s s.length 0;have h:=aH6 hs (L:=(Y0 s).map (·.2)) (by rw[aTw];unfold Y0;omega) s.length 0 0 uF a82 (aTv _) (aSW _) (aTv _) rfl;unfold M9;rw[aPy pB,aSE];have h':rF (M8 ((Y0 s).map (·.2))) ((0:Int),(0:Int),([]:p7),([]:p8),([]:List qG),([]:List sA),([]:pH),([]:p7),([]:p7),([]:p7),([]:p8),([]:p8),(0:Int),([]:List qG),false,false,false,false,false,([]:p7),([]:p7))=_:=h;rw[h'];unfold BU;cases zU s (s.length+1) uF 0 with
  |inl q=>rfl
  | inr st=>
    unfold tI;rw[aSE];dsimp only;rw[SE];by_cases hc:st.op=true∨st.ends=[]
    · rw[aSB hc,aSB (by rcases hc with hc|hc<;>simp [hc])]
      rfl
    rw[aSD hc,aSD (by rw[not_or] at hc;simpa using hc)]
    rfl
end
noncomputable section
def EG (l:List tO):List tO:=l.foldl (fun acc f=>xC acc f.1 f.2.1) []
def P2 (l:List tO) (n v:p7):EG (l++[(n,v,())])=xC (EG l) n v:=by
 unfold EG;rw[List.foldl_append];rfl
def aPA {l:List tO}{n v:p7}(h:(l.any fun y=>decide (y.1=n))=false):(xC l n v).Perm (l++[(n,v,())]):=by
 rw[SF h];have h1:(l.take (uH l n)++l.drop (uH l n))=l:=aTQ _ _;have h2:(l.take (uH l n)++[(n,v,())]++l.drop (uH l n)).Perm (l.take (uH l n)++(l.drop (uH l n)++[(n,v,())])):=by
  rw[aSN];exact List.Perm.append_left _ List.perm_append_comm
 have h3:l.take (uH l n)++(l.drop (uH l n)++[(n,v,())])=l++[(n,v,())]:=by rw[<-aSN,h1]
 rw[h3] at h2;exact h2
def SI {l l':List tO}(h:l.Perm l') (n:p7):(l.any fun y=>decide (y.1=n))=l'.any fun y=>decide (y.1=n):=h.any_eq
def P3 {l:List tO}{n v:p7}:((l++[(n,v,())]).map (·.1)).Nodup↔(l.map (·.1)).Nodup/\(l.any fun y=>decide (y.1=n))=false:=by
 rw[List.map_append,List.nodup_append];constructor
 .rintro⟨h1,_,h3⟩;refine⟨h1,aTt.2 fun x hx=>?_⟩;have:=h3 x.1 (List.mem_map.2 ⟨x,hx,rfl⟩) n pD;simpa using this
 rintro⟨h1,h2⟩;refine⟨h1,by simp,fun a ha b hb=>?_⟩;obtain⟨x,hx,rfl⟩:=List.mem_map.1 ha;have hb:b=n:=by simpa using hb
 have:=aTt.1 h2 x hx;rw[hb];simpa using this
def aH8 {α:Type}{P:List α->Prop}(h0:P []) (h1: ∀l x,P l->P (l++[x])) (l:List α):P l:=by
 have: ∀n (l:List α),l.length=n->P l:=by
  intro n
  induction n with
  |zero=>intro l hl;rw[aTB.1 hl];exact h0
  |succ n ih=>
   intro l hl;have hne:l≠[]:=fun e=>by rw[e] at hl;cases hl
   rw[<-List.dropLast_concat_getLast hne];exact h1 _ _ (ih _ (by rw[List.length_dropLast,hl];rfl))
 exact this _ l rfl
def P4: ∀l:List tO,(l.map (·.1)).Nodup->(EG l).Perm l:=by
 refine aH8 (fun _=>List.Perm.refl _) fun l x ih h=>?_;obtain⟨n,v,u⟩:=x;obtain⟨h1,h2⟩:=P3.1 h;rw[P2];have hp:=ih h1;exact(aPA (by rw[SI hp];exact h2)).trans (hp.append_right _)
def a86: ∀l:List tO,(l.map (·.1)).Nodup->(EG l).Pairwise (fun a b=>a.1<b.1):=by
 refine aH8 (fun _=>List.Pairwise.nil) fun l x ih h=>?_;obtain⟨n,v,u⟩:=x;obtain⟨h1,h2⟩:=P3.1 h;rw[P2];have hp:=P4 l h1;have ha:((EG l).any fun y=>decide (y.1=n))=false:=by rw[SI hp];exact h2
 have hne: ∀y∈EG l,y.1≠n:=fun y hy=>by simpa using aTt.1 ha y hy
 rw[SF ha];unfold uH;refine a8S (fun y:tO=>y.1) (x:=(n,v,())) (ih h1) hne fun y hy=>?_;rw[CQ];have:decide (y.1=n)=false:=by simpa using hne y hy
 rw[this,Bool.or_false]
def aH9 {l:List tO}{n v z:p7}(h:(l.any fun y=>decide (y.1=n))=false) (hl:l.Pairwise (fun a b=>a.1<b.1)):xC (xC l n v) n z=xC l n z/\EC (xC l n v) n=(v,true):=by
 have hk1:uH l n<=l.length:=aG6 l n;have hne: ∀y∈l,y.1≠n:=fun y hy=>by simpa using aTt.1 h y hy
 have hlen:(l.take (uH l n)).length=uH l n:=by rw[aTe];omega
 have hk:xW (l.take (uH l n)++[(n,v,())]++l.drop (uH l n)) n=some (uH l n):=by
  unfold xW;rw[aSN,List.findIdx?_append];have:((l.take (uH l n)).findIdx? fun x=>decide (x.1=n))=none:=by
   rw[aTH];intro x hx;simpa using hne x (List.mem_of_mem_take hx)
  rw[this,hlen,List.singleton_append,aTZ];simp
 constructor
 .rw[SF h,SF h];unfold xC;rw[hk];show (l.take (uH l n)++[(n,v,())]++l.drop (uH l n)).set (uH l n) (n,z,())=_;rw[aSN,List.set_append_right _ _ pB,hlen,aT7];simp
 rw[SF h];unfold EC;rw[hk];show ((((l.take (uH l n)++[(n,v,())]++l.drop (uH l n)).getD (uH l n) ([],[],())).2.1,true):p7×Bool)=(v,true);rw[aSZ,aSN,aSM pB,hlen,aT7];rfl
def aPB {l:List tO}(h:(l.map (·.1)).Nodup) (hl:l.length<=1000):Bs.blocks_sorted l=some (EG l,l.length):=by
 have hcol:Bs.slices_Collect_api_Field_api_Field_F1 l=some l:=by
  have hfold: ∀(m acc:List tO),m.length+acc.length<=1000->Vc.F0 Bs.slices_AppendSeq_api_Field_api_Field_F1_step1 m acc=some (.inl (acc++m)):=by
   intro m
   induction m with
   |nil=>intro acc _;show some (Sum.inl acc)=_;rw[List.append_nil]
   |cons x m ih=>
    intro acc ha;simp only[aSI] at ha;have hst:Bs.slices_AppendSeq_api_Field_api_Field_F1_step1 x acc=some (.inl (acc++[x])):=by
     unfold Bs.slices_AppendSeq_api_Field_api_Field_F1_step1;rw[aSB (by simp only[aSI,aSY];omega)]
    show (Bs.slices_AppendSeq_api_Field_api_Field_F1_step1 x acc).bind _=_;rw[hst,aSE];show Vc.F0 Bs.slices_AppendSeq_api_Field_api_Field_F1_step1 m (acc++[x])=_;rw[ih _ (by rw[aSH];simp only[aSI,aSY];omega),aSN];rfl
  unfold Bs.slices_Collect_api_Field_api_Field_F1 Bs.slices_AppendSeq_api_Field_api_Field_F1;rw[aSB pB];have:=hfold l [] (by simpa using hl);rw[show QP l=l from rfl,this];unfold tI;rfl
 have hs:vG l=EG l:=by
  obtain⟨h1,h2⟩:=aCT l;have hp:(vG l).Perm l:=by
   have:=h1.2.2;have e1:(vG l).toArray.extract 0 l.length=(vG l).toArray:=by
    rw[show l.length=(vG l).toArray.size from(WC l).symm];simp
   have e2:l.toArray.extract 0 l.length=l.toArray:=by
    rw[show l.length=l.toArray.size by simp];simp
   rw[e1,e2] at this;simpa using this
  have hp2:=P4 l h;have hpw:(vG l).Pairwise (fun a b=> ¬b.1<a.1):=by
   rw[aTh];intro i j hi hj hij;have hx:=h2 i j (aTv _) hij (by rw[WC] at hj;exact hj);rw[getElem!_pos (vG l).toArray i (by simpa using hi),getElem!_pos (vG l).toArray j (by simpa using hj)] at hx;simp only[List.getElem_toArray] at hx;intro hlt;unfold ltOf CZ at hx;exact of_decide_eq_false hx ((a1A _ _).2 hlt)
  have hnd:((vG l).map (·.1)).Nodup:=(hp.map _).nodup_iff.2 h;have hpw2:(vG l).Pairwise (fun a b=>a.1<b.1):=by
   rw[aTh] at hpw|-;intro i j hi hj hij;refine XQ (hpw i j hi hj hij) fun e=>?_;have:=aTh.1 (List.nodup_iff_pairwise_ne.1 hnd) i j (by simpa using hi) (by simpa using hj) hij;rw[List.getElem_map,List.getElem_map] at this;exact this e.symm
  exact(hp.trans hp2.symm).eq_of_pairwise (fun a b _ _ h1 h2=>absurd h2 (List.lt_asymm h1)) hpw2 (a86 l h)
 unfold Bs.blocks_sorted Bs.slices_SortedFunc_api_Field_api_Field_F1_blocks_sortedF1;rw[hcol,aSE,aSB pB,aSE,hs]
def a87 {l:List Wd}{p:p7}{i:Nat}(h:i<l.length) (hp:i<p.length) (hl:l.length<=10):O0 l p (i:Int)=if (l[i].1==decide (p[i]=115))=true then some (.inl ((i:Int)+1)) else some (.inr (.inr false)):=by
 unfold O0;rw[aSB (tV h),aSB (sT h),aSB (sT hp),FI h,x9 hp,v7 (n:=115) 115 rfl,aSB (u7 pB)];cases(l[i].1==decide (p[i]=115))<;>rfl
def aIa {l:List Wd}{p:p7}:O0 l p (l.length:Int)=some (.inr (.inl ())):=by
 unfold O0;rw[aSD (xA _)]
def Y2 (l:List Wd) (c:UInt8):yA l [c]=some (match l with|[a]=>a.1==decide (c=115) |_=>false):=by
 match l with
 |[]=>unfold yA;rfl
 |[a]=>
  unfold yA;rw[aSD pD,show ((0:Int))=((0:Nat):Int) from rfl,tB,a87 (l:=[a]) (p:=[c]) (i:=0) pD pD pD];show tI (Option.bind (if (a.1==decide (c=115))=true then _ else _) _) _=some (a.1==decide (c=115));cases(a.1==decide (c=115)) with
  |false=>rfl
  |true=>
   rw[aSB rfl,aSE];dsimp only;rw[show (((0:Nat):Int)+1)=(([a]:List Wd).length:Int) from rfl,tB,aIa];rfl
 |a::b::t=>
  unfold yA;rw[aSB (by simp only[aTg,aTo,aSI,aSY];omega)]
def aPC (l:List Wd):yA l [115,115]=some (match l with|[a,b]=>a.1&&b.1|_=>false):=by
 match l with
 |[]=>unfold yA;rfl
 |[a]=>unfold yA;rfl
 |[a,b]=>
  unfold yA;rw[aSD pD,show ((0:Int))=((0:Nat):Int) from rfl,tB,a87 (l:=[a,b]) (p:=[115,115]) (i:=0) pD pD pD];show tI (Option.bind (if (a.1==true)=true then _ else _) _) _=some (a.1&&b.1);cases a.1 with
  |false=>rfl
  |true=>
   rw[aSB (show (true==true)=true from rfl),aSE];dsimp only;rw[show (((0:Nat):Int)+1)=((1:Nat):Int) from rfl,tB,a87 (l:=[a,b]) (p:=[115,115]) (i:=1) pD pD pD];show tI (Option.bind (if (b.1==true)=true then _ else _) _) _=some (true&&b.1);cases b.1 with
   |false=>rfl
   |true=>
    rw[aSB (show (true==true)=true from rfl),aSE];dsimp only;rw[show (((1:Nat):Int)+1)=(([a,b]:List Wd).length:Int) from rfl,tB,aIa];rfl
 |a::b::c::t=>
  unfold yA;rw[aSB (by simp only[aTg,aTo,aSI,aSY];omega)]
def a88 (l:List Wd):yA l [115]=some (sY l).isSome:=by
 rw[Y2];unfold sY
 match l with
 |[]=>rfl
 |[a]=>cases h:a.1<;>simp [h]
 |a::b::t=>rfl
end
noncomputable section
abbrev Mp:=pF
structure Pg where
 c:C4
 pl:Int
 id:p7
 sc:p7
 tg:p7
 fg:p8
 sv:Int
 ap:Nat
 ends:pH
 cm:Option p8
 n1:Nat
 fl:Option (List tO)
 n2:Nat
 seen:Mp
 ids:Mp
def JM (k:p7):Nat:=if k=tQ then 1 else if k=tR then 2 else if k=uP then 3 else if k=vP then 4 else 0
structure D8 (s:St) (P:Pg):Prop where
 c:P.c=s.c
 ends:P.ends=s.ends
 pl:P.pl=if s.op=true then(if s.ends=[] then 1 else 3) else(if s.ends=[] then 0 else 2)
 x:s.op=true->P.sc=s.sc/\P.tg=s.tg/\P.fg=s.fg/\P.sv=s.sv/\P.cm=some s.cm
 id:s.op=true->s.ends≠[]->P.id=s.id
 fl:s.op=true->∃l,P.fl=some l/\EG l=s.fd/\(l.map (·.1)).Nodup/\(s.last=vP->∃l' v,l=l'++[(s.name,v,())])
 ap:P.ap=JM s.last
 seen:s.op=true->sD .str .bool P.seen tQ=s.bs/\sD .str .bool P.seen tR=s.bt/\sD .str .bool P.seen vW=s.bh/\sD .str .bool P.seen vK=s.bf
 ids: ∀t,sD .str .bool P.ids t=((s.c.2.2.2.1.any fun y=>decide (y.1=t))||((s.op&&decide (s.ends≠[]))&&decide (s.id=t)))
 live:s.op=true\/s.ends≠[]
abbrev JN:=Int×p7×p8×(List qG)×(List sA)×Int×p7×p7×p7×p8×Int×Nat×pH×pF×(Option p8)×Nat×(Option (List qG))×Nat×pF
def a89 (v:JN):Pg:=
 ⟨(v.2.1,(v.2.2.1,(v.2.2.2.1,(v.2.2.2.2.1,())))),v.2.2.2.2.2.1,v.2.2.2.2.2.2.1,v.2.2.2.2.2.2.2.1,v.2.2.2.2.2.2.2.2.1,v.2.2.2.2.2.2.2.2.2.1,v.2.2.2.2.2.2.2.2.2.2.1,v.2.2.2.2.2.2.2.2.2.2.2.1,v.2.2.2.2.2.2.2.2.2.2.2.2.1,v.2.2.2.2.2.2.2.2.2.2.2.2.2.2.1,v.2.2.2.2.2.2.2.2.2.2.2.2.2.2.2.1,v.2.2.2.2.2.2.2.2.2.2.2.2.2.2.2.2.1,v.2.2.2.2.2.2.2.2.2.2.2.2.2.2.2.2.2.1,v.2.2.2.2.2.2.2.2.2.2.2.2.2.2.2.2.2.2,v.2.2.2.2.2.2.2.2.2.2.2.2.2.1⟩
def BV (A:Option JN) (r:Int×St):Prop:= ∃v,A=some v/\v.1=r.1/\(r.1=0->D8 r.2 (a89 v))
def vA {A:Option JN}{e:Int}{s:St}{v:JN}(h:A=some v) (he:v.1=e) (hne:e≠0):BV A (e,s):=⟨v,h,he,fun h0=>absurd h0 hne⟩
def FK {A:Option JN}{s:St}{v:JN}(h:A=some v) (he:v.1=0) (hr:D8 s (a89 v)):BV A (0,s):=⟨v,h,he,fun _=>hr⟩
def SJ:JM uP=3:=by decide
def SK:JM tQ=1:=by decide
def SL:JM tR=2:=by decide
def SM:JM vP=4:=by decide
def MJ:JM []=0:=by decide
def aIb {s:St}(h:uQ s):JM s.last=0↔s.last=[]:=by
 constructor
 .intro h0;rcases h.lst with e|e|e|e|e
  .exact e
  .rw[e,SJ] at h0;cases h0
  .rw[e,SK] at h0;cases h0
  .rw[e,SL] at h0;cases h0
  rw[e,SM] at h0;cases h0
 intro h0;rw[h0];exact MJ
def aIc {l:List Wd}(hl:l.length<=1000000000) {sc tg:p7}{o1:Option p8}{n1:Nat}{o2:Option (List tO)}{n2:Nat}: ∀(n i:Nat) (a:p7),i+n=l.length->a.length+(r7 (l.drop i)).flatten.length<=9000000000000000000->
  rF (OE sc tg l o1 n1 o2 n2) (a,(i:Int))=some (if ((l.drop i).any fun x=> !x.1)=true then .inr (3,sc,tg,o1,n1,o2,n2) else .inl (a++(r7 (l.drop i)).flatten))
 |0,i,a,hi,_=>by
  have:i=l.length:=by omega
  subst this;rw[aTu,tB];unfold OE;dsimp only;rw[aSD (xA _),aSD pD];show some (Sum.inl a)=some (Sum.inl (a++[]));rw[List.append_nil]
 |n+1,i,a,hi,hb=>by
  have hlt:i<l.length:=by omega
  have h2:(r7 (l.drop i)).flatten=l[i].2.1++(r7 (l.drop (i+1))).flatten:=by
   unfold r7;rw[aS3 hlt,aTV,aUx]
  rw[h2,aSH] at hb;rw[tB];generalize hF:rF (OE sc tg l o1 n1 o2 n2)=F;unfold OE;dsimp only;rw[aSB (tV hlt),aSB (sT hlt),FI hlt,h2,aS3 hlt,List.any_cons];cases hq:l[i].1 with
  |false=>rfl
  |true=>
   rw[aSD pD,aSB (by rw[aSH];omega),aSB (u7 pB),aSE];dsimp only;rw[<-hF,show ((i:Int)+1)=((i+1:Nat):Int) by omega,aIc hl n (i+1) _ pB (by rw[aSH];omega),aSN];rfl
def a9a (P:Pg) (l:List Wd):Option JN:=
  (LZ P.c P.pl P.id P.sc P.tg P.fg P.sv P.ap (P.ends,()) l P.cm P.n1 P.fl P.n2 P.seen P.ids).bind fun O=>
  some ((O.1,P.c.1,P.c.2.1,P.c.2.2.1,P.c.2.2.2.1,P.pl,P.id,O.2.1,O.2.2.1,P.fg,P.sv,P.ap,P.ends,P.ids,O.2.2.2.1,O.2.2.2.2.1,O.2.2.2.2.2.1,O.2.2.2.2.2.2,P.seen))
def aPD {α:Type}{l:List α}{z:α}(h:l≠[]):l.set (l.length-1) z=l.dropLast++[z]:=by
 have hpos:=aTJ.2 h
 conv=>lhs;rw[<-List.dropLast_concat_getLast h]
 rw[List.set_append_right _ _ (by rw[List.length_dropLast];simp [List.length_dropLast])];simp [List.length_dropLast]
def aPE {s:St}(h:uQ s) {P:Pg}(hr:D8 s P) {l:List Wd}(hl:l.length<=1000000000) (ht:(r7 l).flatten.length<=1000000000) (next:Int):
  BV (a9a P l) (if (l.any fun x=> !x.1)=true then(3,s) else rT s next (.cont (r7 l).flatten)):=by
 have hct:=a8T (aHW h);have hlp:=aIc (sc:=P.sc) (tg:=P.tg) (o1:=P.cm) (n1:=P.n1) (o2:=P.fl) (n2:=P.n2) hl l.length 0 [] pB (by rw[aTM,aSY];omega);rw[aTM] at hlp;unfold a9a LZ;rw[show ((0:Int))=((0:Nat):Int) from rfl,hlp];by_cases ha:(l.any fun x=> !x.1)=true
 .rw[aSB ha,aSB ha];exact vA rfl rfl pC
 rw[aSD ha,aSD ha];unfold tI;rw[aSE];dsimp only;rw[List.nil_append];have h64:((3:Int))=3:=rfl;rw[rT];by_cases hla:s.last=[]
 .have hap:P.ap=0:=by rw[hr.ap];exact(aIb h).2 hla
  rw[aSD (by rw[hap];simp),aSB rfl,aSB (.inr hla)];exact vA rfl rfl pC
 have hap:P.ap≠0:=fun e=>hla ((aIb h).1 (by rw[<-hr.ap];exact e));have hop:s.op=true:=by
  cases ho:s.op with
  |true=>rfl
  |false=>exact absurd (h.off ho) hla
 obtain⟨x1,x2,x3,x4,x5⟩:=hr.x hop;obtain⟨fl,f1,f2,f3,f4⟩:=hr.fl hop;rw[aSB (by rw[decide_eq_false hap];rfl),x5,f1,aSE,aSE,aSD (by rw[hop];simp [hla])];have hcur:K6 P.ap P.sc P.tg (EO s.cm) (HQ fl)=tG s:=by
  rw[hr.ap,x1,x2];unfold K6 tG;rcases h.lst with e|e|e|e|e
  .exact absurd e hla
  .rw[e,SJ,aSD pC,aSD pC,aSB rfl,aSB rfl];unfold EO;have hpos:=aTJ.2 (h.lcm e);rw[aSZ,List.getLastD_eq_getLast?,List.getLast?_eq_getElem?]
  .rw[e,SK,aSB rfl,aSD pC,aSB rfl]
  .rw[e,SL,aSD pC,aSB rfl,aSD pC,aSD pC,aSB rfl]
  obtain⟨l',v,e2⟩:=f4 e;rw[e,SM,aSD pC,aSD pC,aSD pC,aSD pC,aSD pC,aSD pC,<-f2,e2,P2];rw[e2] at f3;obtain⟨g1,g2⟩:=P3.1 f3;rw[(aH9 (v:=v) (z:=v) (by rw[SI (P4 l' g1)];exact g2) (a86 l' g1)).2];unfold HQ;simp
 unfold AP;rw[hcur];dsimp only;have hfit:sC (tG s++(r7 l).flatten):=by unfold sC;rw[aSH];omega
 rw[aSB (fun _=>hap),aSB (fun _=>by rw[aSH];omega),aSB (fun _=>by rw[aHk _ hfit];rfl),decide_eq_false hap,Bool.false_or];have hto:((decide (((tG s++(r7 l).flatten).length:Int)<=(4000:Int)))&&(Lib.validD (tG s++(r7 l).flatten)))=sR (tG s++(r7 l).flatten):=rfl;rw[hto];cases htx:sR (tG s++(r7 l).flatten) with
 |false=>exact vA rfl rfl pC
 |true=>
  rw[aSD pD,aSB rfl];refine FK rfl rfl ?_;obtain⟨k1,k2,k3,k4,k5,k6,k7,k8,k9,k10,k11,k12⟩:=aH0 s (tG s++(r7 l).flatten);generalize hz:tG s++(r7 l).flatten=z at*;have hap':=hr.ap;refine {c:=hr.c.trans k1.symm,ends:=hr.ends.trans k2.symm,pl:= ?_,x:=fun _=>?_,id:=fun _ he=>?_,fl:=fun _=>?_,ap:=hr.ap.trans (by rw[k11]),seen:=fun _=>?_,ids:=fun t=>?_,live:= ?_}
  .rw[k6,k2];exact hr.pl
  .show K7 (true&&decide (P.ap=1)) z P.sc=_/\K7 (true&&decide (P.ap=2)) z P.tg=_/\P.fg=_/\P.sv=_/\some (EP (true&&decide (P.ap=3)) z s.cm)=some _;rw[k4,k5,hap',x1,x2];unfold uA;rcases h.lst with e|e|e|e|e
   .exact absurd e hla
   .rw[aSB e,e,SJ];refine⟨rfl,rfl,x3,x4,?_⟩;have:=aPD (z:=z) (h.lcm e);unfold EP;rw[aSB pQ,this]
   .rw[aSD (by rw[e];decide),aSB e,e,SK];exact⟨rfl,rfl,x3,x4,rfl⟩
   .rw[aSD (by rw[e];decide),aSD (by rw[e];decide),aSB e,e,SL];exact⟨rfl,rfl,x3,x4,rfl⟩
   rw[aSD (by rw[e];decide),aSD (by rw[e];decide),aSD (by rw[e];decide),e,SM];exact⟨rfl,rfl,x3,x4,rfl⟩
  .rw[k3];rw[k2] at he;exact hr.id hop he
  .show∃l,some (EQ (true&&decide (4<=P.ap)) z fl)=some l/\_;rw[k11,k12,hap'];refine⟨_,rfl,?_⟩;unfold uA;rcases h.lst with e|e|e|e|e
   .exact absurd e hla
   .rw[aSB e,e,SJ];exact⟨f2,f3,fun h0=>absurd h0 v8.2.2.2.2.2.2.2.1⟩
   .rw[aSD (by rw[e];decide),aSB e,e,SK];exact⟨f2,f3,fun h0=>absurd h0 v8.2.2.2.2.2.2.2.2.1⟩
   .rw[aSD (by rw[e];decide),aSD (by rw[e];decide),aSB e,e,SL];exact⟨f2,f3,fun h0=>absurd h0 v8.2.2.2.2.2.2.2.2.2⟩
   obtain⟨l',v,e2⟩:=f4 e;rw[aSD (by rw[e];decide),aSD (by rw[e];decide),aSD (by rw[e];decide),e,SM];have hset:EQ (true&&decide (4<=4)) z fl=l'++[(s.name,z,())]:=by
    unfold EQ;rw[aSB pQ,e2];have hg:(l'++[(s.name,v,())]).getD ((l'++[(s.name,v,())]).length-1) ([],[],())=(s.name,v,()):=by simp
    rw[hg];simp
   rw[hset];rw[e2] at f3;obtain⟨g1,g2⟩:=P3.1 f3;refine⟨?_,P3.2 ⟨g1,g2⟩,fun _=>⟨l',z,rfl⟩⟩;rw[P2,<-f2,e2,P2];exact(aH9 (by rw[SI (P4 l' g1)];exact g2) (a86 l' g1)).1.symm
  .rw[k7,k8,k9,k10];exact hr.seen hop
  .rw[k1,k2,k3,k6];exact hr.ids t
  rw[k2,k6];exact hr.live
end
noncomputable section
def aId (v:p7):DW H9 v=some (xB v):=by
 rw[aNP H9 v (by unfold sC;decide)];unfold xB;simp only[eq_comm]
def aPF (v:p7):GX H9 v=some (decide (0<=xB v)):=by
 unfold GX;rw[aId];rfl
def xE {α:Type}{w:α}{r:List α}:0<=(0:Int)/\(0:Int)<((w::r).length:Int):=⟨aTl _,by simp only[aSI];omega⟩
section
variable (c:sK) (pl:Int) (id sc tg:p7) (fg:p8) (sv:Int) (en:pH×Unit) (r:List Wd) (cm:p8) (fl:List qG) (seen ids:Mp)
def aPG (h:cm.length<=20):IV c pl id sc tg fg sv en r cm fl seen ids=some (match sY r with|none=>(3,0,cm) |some t=>if cm.length=20 then(6,0,cm) else(0,3,cm++[t])):=by
 unfold IV;rw[a88,aSE];cases ho:sY r with
 |none=>rfl
 |some t=>
  rw[MH ho,aSD pD];dsimp only;by_cases h2:cm.length=20
  .rw[aSB pE,aSB h2]
  have hn:qE qK [(true,t,())] (0:Int)=(true,t,()):=rfl;rw[aSD pE,aSD h2,aSB xE,aSB (by simp only[aSI,aSY];omega),hn,aSB (by rw[aSH];simp only[aSI,aSY];unfold pX;omega),aSB (by rw[aSH];simp only[aSI,aSY];omega)]
def aPH (h:fl.length<=20):sC fl:=by unfold sC;omega
def aPI (h:fl.length<=20):JC c pl id sc tg fg sv en r cm fl seen ids=some (match BS r with|none=>(3,0,fl) |some q=>if (fl.any fun y=>decide (y.1=q.1))=true then(9,0,fl) else if fl.length=20 then(6,0,fl) else(0,4,fl++[(q.1,q.2,())])):=by
 unfold JC;rw[aPC,aSE]
 match r with
 |[]=>rfl
 |[a]=>rfl
 |[a,b]=>
  have hn0:qE qK [a,b] (0:Int)=a:=rfl;have hn1:qE qK [a,b] (1:Int)=b:=rfl;have hp1:0<=(1:Int)/\(1:Int)<(List.length [a,b]:Int):=by simp
  rw[hn0,hn1,aG2];dsimp only;rw[aSB (fun _=>xE),aSB (fun _=>Option.isSome_some)];show (if ((!(a.1&&b.1))||(!w5 a.2.1))=true then _ else _)=_
  have hf:BS [a,b]=if (a.1=true/\b.1=true)/\w5 a.2.1=true then some (a.2.1,b.2.1) else none:=rfl;by_cases hc:(a.1=true/\b.1=true)/\w5 a.2.1=true
  .rw[hf,aSB hc];obtain⟨⟨h1,h2⟩,h3⟩:=hc;rw[aSD (by rw[h1,h2,h3];simp),aSB xE,aNS _ _ (aPH fl h),aSE,aG4];dsimp only;by_cases h4:(fl.any fun y=>decide (y.1=a.2.1))=true
   .rw[aSB h4,aSB h4]
   rw[aSD h4,aSD h4];by_cases h5:fl.length=20
   .rw[aSB pE,aSB h5]
   rw[aSD pE,aSD h5,aSB xE,aSB hp1,aSB (by simp only[aSI,aSY];omega),aSB (by rw[aSH];simp only[aSI,aSY];unfold pX;omega),aSB (by rw[aSH];simp only[aSI,aSY];omega)]
  .rw[hf,aSD hc,aSB (by
    cases h1:a.1<;>cases h2:b.1<;>cases h3:w5 a.2.1<;>first|rfl|exact absurd ⟨⟨h1,h2⟩,h3⟩ hc)]
 |a::b::d::t=>rfl
def aIe:J6 c pl id sc tg fg sv en r cm fl seen ids=some (match sY r with|none=>(3,sc,0,seen) |some t=>if sD .str .bool seen tQ=true then(9,sc,0,sS .str .bool tQ true seen) else(0,t,1,sS .str .bool tQ true seen)):=by
 unfold J6 O6;rw[a88,aSE];cases ho:sY r with
 |none=>rfl
 |some t=>
  have hn:qE qK [(true,t,())] (0:Int)=(true,t,()):=rfl;rw[MH ho,aSD pD];dsimp only;show Option.bind (if sD .str .bool seen tQ=true then _ else _) _=_;by_cases h2:sD .str .bool seen tQ=true
  .rw[aSB h2,aSB h2];rfl
  rw[aSD h2,aSD h2,aSB xE,hn];rfl
def aIf:J7 c pl id sc tg fg sv en r cm fl seen ids=some (match sY r with|none=>(3,tg,0,seen) |some t=>if sD .str .bool seen tR=true then(9,tg,0,sS .str .bool tR true seen) else(0,t,2,sS .str .bool tR true seen)):=by
 unfold J7 O7;rw[a88,aSE];cases ho:sY r with
 |none=>rfl
 |some t=>
  have hn:qE qK [(true,t,())] (0:Int)=(true,t,()):=rfl;rw[MH ho,aSD pD];dsimp only;show Option.bind (if sD .str .bool seen tR=true then _ else _) _=_;by_cases h2:sD .str .bool seen tR=true
  .rw[aSB h2,aSB h2];rfl
  rw[aSD h2,aSD h2,aSB xE,hn];rfl
def aIg:J8 c pl id sc tg fg sv en r cm fl seen ids=some (match BR r with|none=>(3,sv,seen) |some v=>if sD .str .bool seen vW=true then(9,sv,sS .str .bool vW true seen) else(0,v,sS .str .bool vW true seen)):=by
 unfold J8
 match r with
 |[]=>rw[Y2];rfl
 |[a]=>
  have hst:yA [a] [112]=some (!a.1):=by rw[Y2];cases h:a.1<;>simp [h]
  rw[hst,aSE];have hn:qE qK [a] (0:Int)=a:=rfl;rw[hn,show GX ([([110,101,119]:p7),([102,117,122,122,121]:p7),([116,114,97,110,115,108,97,116,101,100]:p7),([114,101,118,105,101,119,101,100]:p7),([111,98,115,111,108,101,116,101]:p7)]:p8) a.2.1=some (decide (0<=xB a.2.1)) from aPF a.2.1];rw[show DW ([([110,101,119]:p7),([102,117,122,122,121]:p7),([116,114,97,110,115,108,97,116,101,100]:p7),([114,101,118,105,101,119,101,100]:p7),([111,98,115,111,108,101,116,101]:p7)]:p8) a.2.1=some (xB a.2.1) from aId a.2.1];have hf:BR [a]=if a.1=false/\0<=xB a.2.1 then some (xB a.2.1) else none:=rfl;rw[hf];cases ha:a.1 with
  |true=>rfl
  |false=>
   rw[aSB (show ((!(!false))==false)=true from rfl),aSB (fun _=>xE),aSB (fun _=>Option.isSome_some)];by_cases hs:0<=xB a.2.1
   .rw[aSD (show¬((!(!false))||(!(val (some (decide (0<=xB a.2.1))))))=true by rw[aS5 hs];decide),aSB (show false=false/\0<=xB a.2.1 from⟨rfl,hs⟩)]
    show (if sD .str .bool seen vW=true then _ else _)=_;dsimp only;by_cases h2:sD .str .bool seen vW=true
    .rw[aSB h2,aSB h2];rfl
    rw[aSD h2,aSD h2,aSB xE];rfl
   .rw[aSB (show ((!(!false))||(!(val (some (decide (0<=xB a.2.1))))))=true by rw[decide_eq_false hs];decide),aSD (show¬(false=false/\0<=xB a.2.1) from fun h=>hs h.2)]
 |a::b::t=>rw[Y2];rfl
def aIh {r:List Wd}(hl:r.length<=1000000000): ∀(n i:Nat),i+n=r.length->rF (LJ r) ((i:Int),r7 (r.take i))=some (r7 r)
 |0,i,hi=>by
  have:i=r.length:=by omega
  subst this;rw[List.take_length,tB];unfold LJ;dsimp only;rw[aSD (xA _)];rfl
 |n+1,i,hi=>by
  have hlt:i<r.length:=by omega
  have hlen:(r7 (r.take i)).length=i:=by unfold r7;rw[aTw,aTe];omega
  have htk:r7 (r.take i)++[r[i].2.1]=r7 (r.take (i+1)):=by
   unfold r7;rw[List.take_succ_eq_append_getElem hlt,List.map_append];rfl
  rw[tB];generalize hF:rF (LJ r)=F;unfold LJ;dsimp only;rw[aSB (tV hlt),aSB (sT hlt),FI hlt,hlen,aSB (by simp only[aSI,aSY];omega),aSB (u7 pB),aSE];dsimp only;rw[htk,<-hF,show ((i:Int)+1)=((i+1:Nat):Int) by omega];exact aIh hl n (i+1) pB
def aPJ {r:List Wd}(hl:r.length<=1000000000):IU r=some (r.any AD):=by
 unfold IU O5;rw[FE (l:=r) AD (fun k=>(k:Int)) (fun i h=>by
  unfold WX RE;rw[aSB (tV h),aSB (sT h),FI h,aG2,aSB (fun _=>Option.isSome_some),aSE,aSB (u7 pB)];rfl) (by
  unfold WX;rw[aSD (xA _)]),H8,aSE,aNQ]
def aPK (hl:r.length<=1000000000):IY c pl id sc tg fg sv en r cm fl seen ids=some (if r=[]\/(r.any AD)=true then(3,fg,seen) else if sD .str .bool seen vK=true\/zT (r7 r)=true then(9,fg,sS .str .bool vK true seen) else if 20<(r7 r).length then(6,fg,sS .str .bool vK true seen) else(0,sH (r7 r),sS .str .bool vK true seen)):=by
 have hlp:=aIh hl r.length 0 pB;have hwl:(r7 r).length=r.length:=by unfold r7;rw[aTw]
 unfold IY;rw[aPJ hl,aSB (fun _=>Option.isSome_some),SE];show (if (decide (r=[])||r.any AD)=true then _ else _)=_
 by_cases h1:r=[]\/(r.any AD)=true
 .rw[aSB h1,aSB (by rcases h1 with h1|h1<;>simp [h1])]
 rw[aSD h1,aSD (by rw[not_or] at h1;simpa using h1)];have hlp':rF (LJ r) ((0:Int),([]:p8))=some (r7 r):=hlp;rw[hlp'];unfold sN;rw[aSE,aSB pB];have hcl:GQ (sH (r7 r))=some (sH (r7 r)):=by
  unfold GQ;rw[aSB (by rw[JK];omega),List.nil_append]
 show (if ((sD .str .bool seen vK)==false)=true then _ else _)=_;cases hf:sD .str .bool seen vK with
 |true=>
  rw[aSD pD,aSB rfl,aSB (.inl rfl)];rfl
 |false=>
  rw[aSB pQ,hcl,aSB (fun _=>Option.isSome_some)];rw[aSB (show (sD .str .bool seen ([102,108,97,103,115]:p7)==false)=true->(val (some (sH (r7 r)))).length<=9223372036854775807 from fun _=>by show (sH (r7 r)).length<=_;rw[JK];omega)];show (if (sD .str .bool seen vK||(decide (((((Lib.compact (sH (r7 r))).length):Nat):Int)<((sH (r7 r)).length:Int))))=true then _ else _)=_
  have hd:decide (((((Lib.compact (sH (r7 r))).length):Nat):Int)<((sH (r7 r)).length:Int))=zT (r7 r):=by
   unfold zT;exact decide_eq_decide.2 pB
  rw[hd,hf,Bool.false_or];by_cases h2:zT (r7 r)=true
  .rw[aSB h2,aSB (.inr h2)];rfl
  rw[aSD h2,aSD (show¬(false=true\/zT (r7 r)=true) by simp [h2])];by_cases h3:20<(r7 r).length
  .rw[aSB h3,aSB (by rw[JK];simp only[aSL];omega)];rfl
  rw[aSD h3,aSD (by rw[JK];simp only[aSL];omega)];rfl
end
def aPL (k:p7):F8 k=if k=uP then(some 117,true) else if k=vP then(some 118,true) else(if k=vK then some 122 else if k=vW then some 121 else if k=tR then some 120 else if k=tQ then some 119 else none,false):=by
 unfold F8;by_cases h1:k=uP
 .rw[aSB h1,show decide (k=([99,111,109,109,101,110,116]:p7))=true from aS5 h1,aSB rfl]
 rw[aSD h1,show decide (k=([99,111,109,109,101,110,116]:p7))=false from decide_eq_false h1,aSD pD];by_cases h2:k=vP
 .rw[aSB h2,show decide (k=([102,105,101,108,100]:p7))=true from aS5 h2,aSB rfl]
 rw[aSD h2,show decide (k=([102,105,101,108,100]:p7))=false from decide_eq_false h2,aSD pD,xD,xD,xD,xD];rfl
end
noncomputable section
def MK (P:Pg) (l:List Wd) (nx:Int):Option JN:=
    if ((decide (P.pl=(0:Int)))||(decide (P.pl=(2:Int))))=true then
     (LO P.c P.pl P.id P.sc P.tg P.fg P.sv (P.ends,()) l P.cm P.n1 P.fl P.n2 P.seen P.ids).bind fun v82=>
     some ((v82.1,v82.2.1,P.c.2.1,P.c.2.2.1,P.c.2.2.2.1,v82.2.2.1,v82.2.2.2.1,v82.2.2.2.2.1,v82.2.2.2.2.2.1,v82.2.2.2.2.2.2.1,v82.2.2.2.2.2.2.2.1,0,P.ends,v82.2.2.2.2.2.2.2.2.1,v82.2.2.2.2.2.2.2.2.2.1,v82.2.2.2.2.2.2.2.2.2.2.1,v82.2.2.2.2.2.2.2.2.2.2.2.1,v82.2.2.2.2.2.2.2.2.2.2.2.2.1,v82.2.2.2.2.2.2.2.2.2.2.2.2.2))
    else
     if 0≤(0:Int)∧(0:Int)<(l.length:Int) then
      if (decide ((qE qK l (0:Int)).2.1=([101,110,100]:p7)))=true then
       P.cm.bind fun O=>
       P.fl.bind fun Z=>
       if 0≤(1:Int)∧(1:Int)≤(l.length:Int)∧(l.length:Int)≤(l.length:Int) then
        (LL P.c P.pl P.id P.sc P.tg P.fg P.sv (P.ends,()) (qR l (1:Int) (l.length:Int)) nx O Z P.seen P.ids).bind fun v88=>
        some ((v88.1,P.c.1,v88.2.1,v88.2.2.1,v88.2.2.2.1,v88.2.2.2.2.1,P.id,P.sc,P.tg,P.fg,P.sv,0,v88.2.2.2.2.2.1,P.ids,v88.2.2.2.2.2.2.1,(O.length),v88.2.2.2.2.2.2.2.1,v88.2.2.2.2.2.2.2.2,P.seen))
       else none
      else
       if 0≤(0:Int)∧(0:Int)<(l.length:Int) then
        AP (F8 ((qE qK l (0:Int)).2.1)) fun v89=>
        if ((yP v89.1)||((decide (P.pl=(1:Int)))&&(!v89.2)))=true then
         some (((3:Int),P.c.1,P.c.2.1,P.c.2.2.1,P.c.2.2.2.1,P.pl,P.id,P.sc,P.tg,P.fg,P.sv,0,P.ends,P.ids,P.cm,P.n1,P.fl,P.n2,P.seen))
        else
         AP v89.1 fun aA=>
         if aA=some 117 then
          P.cm.bind fun aB=>
          P.fl.bind fun aC=>
          if 0≤(1:Int)∧(1:Int)≤(l.length:Int)∧(l.length:Int)≤(l.length:Int) then
           (IV P.c P.pl P.id P.sc P.tg P.fg P.sv (P.ends,()) (qR l (1:Int) (l.length:Int)) aB aC P.seen P.ids).bind fun v93=>
           some ((v93.1,P.c.1,P.c.2.1,P.c.2.2.1,P.c.2.2.2.1,P.pl,P.id,P.sc,P.tg,P.fg,P.sv,v93.2.1,P.ends,P.ids,(some v93.2.2),(v93.2.2.length),(some aC),(aC.length),P.seen))
          else none
         else
         if aA=some 118 then
          P.cm.bind fun aD=>
          P.fl.bind fun aE=>
          if 0≤(1:Int)∧(1:Int)≤(l.length:Int)∧(l.length:Int)≤(l.length:Int) then
           (JC P.c P.pl P.id P.sc P.tg P.fg P.sv (P.ends,()) (qR l (1:Int) (l.length:Int)) aD aE P.seen P.ids).bind fun v96=>
           some ((v96.1,P.c.1,P.c.2.1,P.c.2.2.1,P.c.2.2.2.1,P.pl,P.id,P.sc,P.tg,P.fg,P.sv,v96.2.1,P.ends,P.ids,(some aD),(aD.length),(some v96.2.2),(v96.2.2.length),P.seen))
          else none
         else
         if aA=some 119 then
          P.cm.bind fun aF=>
          P.fl.bind fun aG=>
          if 0≤(1:Int)∧(1:Int)≤(l.length:Int)∧(l.length:Int)≤(l.length:Int) then
           (J6 P.c P.pl P.id P.sc P.tg P.fg P.sv (P.ends,()) (qR l (1:Int) (l.length:Int)) aF aG P.seen P.ids).bind fun v99=>
           some ((v99.1,P.c.1,P.c.2.1,P.c.2.2.1,P.c.2.2.2.1,P.pl,P.id,v99.2.1,P.tg,P.fg,P.sv,v99.2.2.1,P.ends,P.ids,(some aF),(aF.length),(some aG),(aG.length),v99.2.2.2))
          else none
         else
         if aA=some 120 then
          P.cm.bind fun aH=>
          P.fl.bind fun aI=>
          if 0≤(1:Int)∧(1:Int)≤(l.length:Int)∧(l.length:Int)≤(l.length:Int) then
           (J7 P.c P.pl P.id P.sc P.tg P.fg P.sv (P.ends,()) (qR l (1:Int) (l.length:Int)) aH aI P.seen P.ids).bind fun v102=>
           some ((v102.1,P.c.1,P.c.2.1,P.c.2.2.1,P.c.2.2.2.1,P.pl,P.id,P.sc,v102.2.1,P.fg,P.sv,v102.2.2.1,P.ends,P.ids,(some aH),(aH.length),(some aI),(aI.length),v102.2.2.2))
          else none
         else
         if aA=some 121 then
          P.cm.bind fun aJ=>
          P.fl.bind fun aK=>
          if 0≤(1:Int)∧(1:Int)≤(l.length:Int)∧(l.length:Int)≤(l.length:Int) then
           (J8 P.c P.pl P.id P.sc P.tg P.fg P.sv (P.ends,()) (qR l (1:Int) (l.length:Int)) aJ aK P.seen P.ids).bind fun v105=>
           some ((v105.1,P.c.1,P.c.2.1,P.c.2.2.1,P.c.2.2.2.1,P.pl,P.id,P.sc,P.tg,P.fg,v105.2.1,0,P.ends,P.ids,(some aJ),(aJ.length),(some aK),(aK.length),v105.2.2))
          else none
         else
         if aA=some 122 then
          P.cm.bind fun aL=>
          P.fl.bind fun aM=>
          if 0≤(1:Int)∧(1:Int)≤(l.length:Int)∧(l.length:Int)≤(l.length:Int) then
           (IY P.c P.pl P.id P.sc P.tg P.fg P.sv (P.ends,()) (qR l (1:Int) (l.length:Int)) aL aM P.seen P.ids).bind fun v108=>
           some ((v108.1,P.c.1,P.c.2.1,P.c.2.2.1,P.c.2.2.2.1,P.pl,P.id,P.sc,P.tg,v108.2.1,P.sv,0,P.ends,P.ids,(some aL),(aL.length),(some aM),(aM.length),v108.2.2))
          else none
         else
          none
       else none
     else none
theorem aIi {s:St}(ho:s.op=false) (he:s.ends≠[]) (n:Int) {c:vX}(hc: ∀t,c≠.beg false t):(rT s n c).1=3:=by
  cases c with
  |bad=>rfl
  |cont t=>rw[rT,aSB (.inl ho)]
  | beg hd t=>
    cases hd with
    |true=>rw[rT,aSB (.inr he)]
    |false=>exact absurd rfl (hc t)
  |com t=>rw[rT,aSB ho]
  |src t=>rw[rT,aSB (.inl ho)]
  |tgt t=>rw[rT,aSB (.inl ho)]
  |sta v=>rw[rT,aSB (.inl ho)]
  |fld m v=>rw[rT,aSB ho]
  |flg l=>rw[rT,aSB (.inl ho)]
  |fin=>rw[rT,aSB ho]
theorem aIj {k:p7}{r:List Wd}{t:p7}(h:uI k r= .beg false t):k=yE∧sY r=some t:=by
  unfold uI at h
  have one: ∀(f:p7→vX),(∀x,f x≠.beg false t)→((sY r).map f).getD .bad≠.beg false t:=fun f hf=>by
    cases sY r with
    |none=>intro h;cases h
    |some x=>exact hf x
  split at h
  .exact absurd h (one _ fun x hx=>by cases hx)
  split at h
  · rename_i hk
    refine⟨hk,?_⟩;cases ho:sY r with
    |none=>rw[ho] at h;cases h
    |some x=>rw[ho] at h;cases h;rfl
  split at h
  .exact absurd h (one _ fun x hx=>by cases hx)
  split at h
  .exact absurd h (one _ fun x hx=>by cases hx)
  split at h
  .exact absurd h (one _ fun x hx=>by cases hx)
  split at h
  · cases hs:BR r with
    |none=>rw[hs] at h;cases h
    |some v=>rw[hs] at h;cases h
  split at h
  · cases hs:BS r with
    |none=>rw[hs] at h;cases h
    |some v=>rw[hs] at h;cases h
  split at h
  .split at h<;>cases h
  split at h
  .split at h<;>cases h
  cases h
theorem aIk (w:Wd) (r:List Wd) (hw:w.1=false):(((!decide (((w::r).length:Int)=(2:Int)))||(qE qK (w::r) (0:Int)).1)||(!((qE qK (w::r) (1:Int)).1)))= !(sY r).isSome:=by
  have h:=aHR w r;have h0:(qE qK (w::r) (0:Int)).1=false:=hw;rw[h0,←h];cases decide (((w::r).length:Int)=(2:Int))<;>cases(qE tW (w::r) (1:Int)).1<;>rfl
theorem aPM {s:St}(h:uQ s) {P:Pg}(hr:D8 s P) (ho:s.op=false) {w:Wd}{r:List Wd}(hw:w.1=false) {N:Nat}(hok: ∀x∈r,yO N x) (nx:Int):BV (MK P (w::r) nx) (rT s nx (uI w.2.1 r)):=by
  have he:s.ends≠[]:=by
    rcases hr.live with h1|h1
    .rw[ho] at h1;cases h1
    exact h1
  have hpl:P.pl=2:=by rw[hr.pl,ho,aSD pD,aSD he]
  have hes:=h.es.len;unfold MK;rw[aSB (by rw[hpl];rfl)];unfold LO;rw[aIk w r hw,hpl];have hne1: ¬((2:Int)=0):=by decide
  have hg1:(((!decide (((w::r).length:Int)=(2:Int)))==false)=true→0≤(0:Int)∧(0:Int)<((w::r).length:Int)):=fun _=>xE
  have hg2:((((!decide (((w::r).length:Int)=(2:Int)))||(qE qK (w::r) (0:Int)).1)==false)=true→0≤(1:Int)∧(1:Int)<((w::r).length:Int)):=fun hh=>by
    cases hd:decide (((w::r).length:Int)=(2:Int)) with
    |false=>rw[hd] at hh;cases hh
    |true=>have:=aTn hd;omega
  rw[aSB hg1,aSB hg2];cases hone:sY r with
  | none=>
    rw[aSB pQ,aSE]
    have h3:(rT s nx (uI w.2.1 r)).1=3:=aIi ho he nx fun t hc=>by
      have:=(aIj hc).2;rw[hone] at this;cases this
    refine⟨_,rfl,h3.symm,fun h0=>?_⟩;rw[h3] at h0;cases h0
  | some t=>
    have htx:=a8Z hok hone;have hrt:=MH hone;subst hrt;have hn0:qE qK [w,(true,t,())] (0:Int)=w:=rfl;have hn1:qE qK [w,(true,t,())] (1:Int)=(true,t,()):=rfl;rw[aSD pD,aSB pD,hn0,hn1];rw[aSB (fun _=>xE),aSB (fun hh=>by simp at hh),aSD pD,aSB (fun _=>xE)];dsimp only;by_cases hk:w.2.1=yE
    · have hcmd:uI w.2.1 [(true,t,())]= .beg false t:=by rw[hk];exact(a83 (k:=[]) hone).2.1
      rw[hcmd,rT,aSD (show¬(s.op=true∨s.ends=[]) by simp [ho,he])];by_cases h2:t=[]∨200<t.length
      · rw[aSB h2,aSD (by
          rcases h2 with h2|h2
          .subst h2;simp
          rw[decide_eq_false (show¬(t.length:Int)≤200 by omega)];simp),aSE]
        exact vA rfl rfl pC
      rw[aSD h2]
      have hids:sD .str .bool P.ids t=(s.c.2.2.2.1.any fun y=>decide (y.1=t)):=by rw[hr.ids t,ho];simp
      rw[not_or] at h2;rw[aSB (by rw[show decide (w.2.1=([101,110,116,114,121]:p7))=true from aS5 hk,decide_eq_false h2.1,aS5 (show (t.length:Int)≤200 by omega)];rfl),hids];by_cases h3:(s.c.2.2.2.1.any fun y=>decide (y.1=t))=true
      · rw[aSB h3,aSB h3,aSE]
        exact vA rfl rfl pC
      rw[aSD h3,aSD h3,hr.c]
      by_cases h4:1000≤s.c.2.2.2.1.length
      · rw[aSB h4,aSB pE,aSE]
        exact vA rfl rfl pC
      rw[aSD h4,aSD pE,aSE]
      refine FK rfl rfl {c:=rfl,ends:=hr.ends,pl:= ?_,x:=fun _=>⟨rfl,rfl,rfl,rfl,rfl⟩,id:=fun _ _=>rfl,fl:=fun _=>⟨[],rfl,rfl,List.nodup_nil,fun h0=>absurd h0.symm v8.2.2.2.1⟩,ap:=MJ.symm,seen:=fun _=>⟨rfl,rfl,rfl,rfl⟩,ids:=fun x=>?_,live:= .inl rfl}
      · show (3:Int)=if true=true then(if s.ends=[] then 1 else 3) else _
        rw[aSB rfl,aSD he]
      show sD .str .bool (sS .str .bool t true P.ids) x=((s.c.2.2.2.1.any fun y=>decide (y.1=x))||((true&&decide (s.ends≠[]))&&decide (t=x)))
      rw[xD,hr.ids x,ho,aS5 he];by_cases hx:x=t
      .subst hx;simp
      rw[aSD hx,show decide (t=x)=false from decide_eq_false (fun e=>hx e.symm)];simp
    rw[aSD (by rw[show decide (w.2.1=([101,110,116,114,121]:p7))=false from decide_eq_false hk];simp),aSE]
    have h3:(rT s nx (uI w.2.1 [(true,t,())])).1=3:=aIi ho he nx fun t hc=>hk (aIj hc).1;refine⟨_,rfl,h3.symm,fun h0=>?_⟩;rw[h3] at h0;cases h0
theorem aPN {s:St}(ho:s.op=true) (n:Int) {k:p7}{r:List Wd}(h1:k≠uP) (h2:k≠tQ) (h3:k≠tR) (h4:k≠vW) (h5:k≠vP) (h6:k≠FH) (h7:k≠vK):(rT s n (uI k r)).1=3:=by
  unfold uI;split
  · cases sY r with
    |none=>rfl
    |some t=>show (rT s n (.beg true t)).1=3;rw[rT,aSB (.inl ho)]
  split
  · cases sY r with
    |none=>rfl
    |some t=>show (rT s n (.beg false t)).1=3;rw[rT,aSB (.inl ho)]
  first|rfl|(rw[aSD h1,aSD h2,aSD h3,aSD h4,aSD h5,aSD h6,aSD h7];rfl)
theorem aIl (r:List Wd):uI uP r=((sY r).map vX.com).getD .bad∧uI tQ r=((sY r).map vX.src).getD .bad∧uI tR r=((sY r).map vX.tgt).getD .bad∧uI vW r=((BR r).map vX.sta).getD .bad∧
    uI vP r=((BS r).map fun q=>vX.fld q.1 q.2).getD .bad∧uI FH r=(if r=[] then .fin else .bad)∧uI vK r=(if r=[]∨(r.any AD)=true then .bad else .flg (r7 r)):=by
  refine⟨?_,?_,?_,?_,?_,?_,?_⟩<;>unfold uI
  .rw[aSD pC,aSD pC,aSB rfl]
  .rw[aSD pC,aSD pC,aSD pC,aSB rfl]
  .rw[aSD pC,aSD pC,aSD pC,aSD pC,aSB rfl]
  .rw[aSD pC,aSD pC,aSD pC,aSD pC,aSD pC,aSB rfl]
  .rw[aSD pC,aSD pC,aSD pC,aSD pC,aSD pC,aSD pC,aSB rfl]
  .rw[aSD pC,aSD pC,aSD pC,aSD pC,aSD pC,aSD pC,aSD pC,aSB rfl]
  rw[aSD pC,aSD pC,aSD pC,aSD pC,aSD pC,aSD pC,aSD pC,aSD pC,aSB rfl]
theorem FL (w:Wd) (r:List Wd):qR (w::r) (1:Int) ((w::r).length:Int)=r:=(CP (k:=1)).trans rfl
theorem FM {w:Wd}{r:List Wd}:0≤(1:Int)∧(1:Int)≤((w::r).length:Int)∧((w::r).length:Int)≤((w::r).length:Int):=⟨pC,by simp only[aSI];omega,aTl _⟩
section
variable {s:St}(h:uQ s) {P:Pg}(hr:D8 s P) (ho:s.op=true) {w:Wd}{r:List Wd}(hw:w.1=false) (hl:r.length≤1000000000) (nx:Int)
include h hr ho
theorem a9b:P.pl=if s.ends=[] then 1 else 3:=by rw[hr.pl,aSB ho]
theorem aIm:decide (P.pl=(1:Int))=decide (s.ends=[]):=by
  rw[a9b h hr ho];by_cases he:s.ends=[]<;>simp [he]
theorem aPO (hk:w.2.1=FH):BV (MK P (w::r) nx) (rT s nx (uI w.2.1 r)):=by
  obtain⟨x1,x2,x3,x4,x5⟩:=hr.x ho;obtain⟨fl,f1,f2,f3,f4⟩:=hr.fl ho;have hes:=h.es.len;have hel:=a81 h
  have hfl:fl.length≤20:=by
    have:=(P4 fl f3).length_eq;rw[f2] at this;have:=XT h.fd;omega
  unfold MK;rw[aSD (by rw[a9b h hr ho];split<;>decide),aSB xE,show qE qK (w::r) (0:Int)=w from rfl,aSB (by rw[hk];rfl),x5,f1,aSE,aSE,aSB FM,FL,hk,(aIl r).2.2.2.2.2.1]
  unfold LL;cases hrr:r with
  | cons a t=>
    rw[aSB (by simp only[aSL,aSI];omega),aSD pD];exact vA rfl rfl pC
  | nil=>
    rw[aSD pD,aSB rfl,aPB f3 pB,aSE,aIm h hr ho,f2,rT,aSD (show¬s.op=false by rw[ho];simp)];rw[hr.ends,hr.c,x1,x2,x3,x4];by_cases he:s.ends=[]
    · rw[aSB (aS5 he),aSB he]
      unfold sN;rw[aSE];dsimp only;rw[aSB (by simp only[aSI,aSY];omega),aSE];refine FK rfl rfl {c:=rfl,ends:=rfl,pl:= ?_,x:=fun h0=>(by cases h0),id:=fun h0=>(by cases h0),fl:=fun h0=>(by cases h0),ap:=MJ.symm,seen:=fun h0=>(by cases h0),ids:=fun x=>?_,live:= .inr (by simp [JL])}
      · show (2:Int)=if false=true then _ else(if s.ends++[nx]=[] then 0 else 2)
        rw[aSD pD,aSD pD]
      show sD .str .bool P.ids x=((s.c.2.2.2.1.any fun y=>decide (y.1=x))||((false&&decide (s.ends++[nx]≠[]))&&decide (([]:p7)=x)))
      rw[hr.ids x,decide_eq_false (show¬s.ends≠[] by simpa using he)];simp
    rw[aSD (by simpa using he),aSD he,hr.id ho he,aSB (by simp only[aSI,aSY];omega)]
    unfold sN;rw[aSE];dsimp only;rw[aSB (by simp only[aSI,aSY];omega),aSE];refine FK rfl rfl {c:=rfl,ends:=rfl,pl:= ?_,x:=fun h0=>(by cases h0),id:=fun h0=>(by cases h0),fl:=fun h0=>(by cases h0),ap:=MJ.symm,seen:=fun h0=>(by cases h0),ids:=fun x=>?_,live:= .inr (by simp [JL])}
    · show (2:Int)=if false=true then _ else(if s.ends++[nx]=[] then 0 else 2)
      rw[aSD pD,aSD pD]
    show sD .str .bool P.ids x=(((s.c.2.2.2.1++[s.x]).any fun y=>decide (y.1=x))||((false&&decide (s.ends++[nx]≠[]))&&decide (([]:p7)=x)))
    rw[hr.ids x,List.any_append,ho,aS5 he];simp
end
end
noncomputable section
section
variable {s:St}(h:uQ s) {P:Pg}(hr:D8 s P) (ho:s.op=true) {w:Wd}{r:List Wd}(hw:w.1=false) (hl:r.length<=1000000000) (nx:Int)
include h hr ho
theorem P5 {s':St}{P':Pg}(k1:s'.c=s.c) (k2:s'.ends=s.ends) (k3:s'.id=s.id) (k4:s'.op=s.op) (p1:P'.c=P.c) (p2:P'.ends=P.ends) (p3:P'.id=P.id) (p4:P'.pl=P.pl) (p5:P'.ids=P.ids)
  (hx:P'.sc=s'.sc/\P'.tg=s'.tg/\P'.fg=s'.fg/\P'.sv=s'.sv/\P'.cm=some s'.cm) (hf: ∃l,P'.fl=some l/\EG l=s'.fd/\(l.map (·.1)).Nodup/\(s'.last=vP->∃l' v,l=l'++[(s'.name,v,())]))
  (ha:P'.ap=JM s'.last) (hs:sD .str .bool P'.seen tQ=s'.bs/\sD .str .bool P'.seen tR=s'.bt/\sD .str .bool P'.seen vW=s'.bh/\sD .str .bool P'.seen vK=s'.bf):D8 s' P':=
 {c:=by rw[p1,k1];exact hr.c,ends:=by rw[p2,k2];exact hr.ends,pl:=by rw[p4,k4,k2];exact hr.pl,x:=fun _=>hx,id:=fun _ he=>by rw[p3,k3];exact hr.id ho (by rw[<-k2];exact he),fl:=fun _=>hf,ap:=ha,seen:=fun _=>hs,ids:=fun t=>by rw[p5,k1,k2,k3,k4];exact hr.ids t,live:= .inl (k4.trans ho)}
include hl in
theorem aPP:BV (MK P (w::r) nx) (rT s nx (uI w.2.1 r)):=by
 by_cases hkE:w.2.1=FH
 .exact aPO h hr ho nx hkE
 obtain⟨x1,x2,x3,x4,x5⟩:=hr.x ho;obtain⟨fl,f1,f2,f3,f4⟩:=hr.fl ho;obtain⟨s1,s2,s3,s4⟩:=hr.seen ho;have hcm:=a80 h.cm;have hperm:=P4 fl f3;rw[f2] at hperm;have hfl:fl.length<=20:=by
  have:=hperm.length_eq;have:=XT h.fd;omega
 obtain⟨c1,c2,c3,c4,c5,c6,c7⟩:=aIl r;unfold MK;rw[aSD (by rw[a9b h hr ho];split<;>decide),aSB xE,show qE qK (w::r) (0:Int)=w from rfl,show decide (w.2.1=([101,110,100]:p7))=false from decide_eq_false hkE,aSD pD,aSB xE,aPL]
 unfold AP;by_cases h1:w.2.1=uP
 .rw[aSB h1];dsimp only;rw[aSD (by simp [yP]),aSB rfl,x5,f1,aSE,aSE,aSB FM,FL,aPG _ _ _ _ _ _ _ _ _ _ _ _ _ hcm,aSE,h1,c1];cases hone:sY r with
  |none=>exact vA rfl rfl pC
  |some t=>
   show BV _ (rT s nx (.com t));rw[rT,aSD (show¬s.op=false by rw[ho];simp)];dsimp only;by_cases h20:s.cm.length=20
   .rw[aSB h20,aSB (show 20<=s.cm.length by omega)];exact vA rfl rfl pC
   rw[aSD h20,aSD (show¬20<=s.cm.length by omega)];exact FK rfl rfl (P5 h hr ho rfl rfl rfl rfl rfl rfl rfl rfl rfl ⟨x1,x2,x3,x4,rfl⟩ ⟨fl,rfl,f2,f3,fun h0=>absurd h0 v8.2.2.2.2.2.2.2.1⟩ SJ.symm ⟨s1,s2,s3,s4⟩)
 rw[aSD h1];by_cases h2:w.2.1=vP
 .rw[aSB h2];dsimp only;rw[aSD (by simp [yP]),aSD pD,aSB rfl,x5,f1,aSE,aSE,aSB FM,FL,aPI _ _ _ _ _ _ _ _ _ _ _ _ _ hfl,aSE,h2,c5];cases hq:BS r with
  |none=>exact vA rfl rfl pC
  |some q=>
   show BV _ (rT s nx (.fld q.1 q.2));rw[rT,aSD (show¬s.op=false by rw[ho];simp),<-SI hperm.symm q.1];dsimp only;by_cases h3:(fl.any fun y=>decide (y.1=q.1))=true
   .rw[aSB h3,aSB h3];exact vA rfl rfl pC
   rw[aSD h3,aSD h3];have hle:=hperm.length_eq;by_cases h20:fl.length=20
   .rw[aSB h20,aSB (show 20<=s.fd.length by omega)];exact vA rfl rfl pC
   rw[aSD h20,aSD (show¬20<=s.fd.length by omega)];refine FK rfl rfl (P5 h hr ho rfl rfl rfl rfl rfl rfl rfl rfl rfl ⟨x1,x2,x3,x4,rfl⟩ ⟨fl++[(q.1,q.2,())],rfl,?_,P3.2 ⟨f3,by cases hb:(fl.any fun y=>decide (y.1=q.1)) with|false=>rfl|true=>exact absurd hb h3⟩,fun _=>⟨fl,q.2,rfl⟩⟩ SM.symm ⟨s1,s2,s3,s4⟩)
   rw[P2,f2]
 rw[aSD h2];have hhead: ∀(o:pK),((yP o)||((decide (P.pl=(1:Int)))&&(!false)))=((yP o)||decide (s.ends=[])):=fun o=>by rw[aIm h hr ho];simp
 by_cases h3:w.2.1=vK
 .rw[aSB h3];dsimp only;rw[hhead,h3,c7];by_cases he:s.ends=[]
  .rw[aSB (by simp [he])];split
   .exact vA rfl rfl pC
   rw[rT,aSB (.inr he)];exact vA rfl rfl pC
  rw[aSD (by simp [yP,he]),aSD pD,aSD pD,aSD pD,aSD pD,aSD pD,aSB rfl,x5,f1,aSE,aSE,aSB FM,FL,aPK _ _ _ _ _ _ _ _ _ _ _ _ _ hl,aSE];by_cases h5:r=[]\/(r.any AD)=true
  .rw[aSB h5,aSB h5];exact vA rfl rfl pC
  rw[aSD h5,aSD h5,rT,aSD (show¬(s.op=false\/s.ends=[]) by simp [ho,he]),s4];by_cases h6:s.bf=true\/zT (r7 r)=true
  .rw[aSB h6,aSB h6];exact vA rfl rfl pC
  rw[aSD h6,aSD h6];by_cases h7:20<(r7 r).length
  .rw[aSB h7,aSB h7];exact vA rfl rfl pC
  rw[aSD h7,aSD h7];refine FK rfl rfl (P5 h hr ho rfl rfl rfl rfl rfl rfl rfl rfl rfl ⟨x1,x2,rfl,x4,rfl⟩ ⟨fl,rfl,f2,f3,fun h0=>absurd h0.symm v8.2.2.2.1⟩ MJ.symm ⟨?_,?_,?_,?_⟩)
  .show sD .str .bool (sS .str .bool vK true P.seen) tQ=s.bs;rw[xD,aSD pC];exact s1
  .show sD .str .bool (sS .str .bool vK true P.seen) tR=s.bt;rw[xD,aSD pC];exact s2
  .show sD .str .bool (sS .str .bool vK true P.seen) vW=s.bh;rw[xD,aSD pC];exact s3
  show sD .str .bool (sS .str .bool vK true P.seen) vK=true;rw[xD,aSB rfl]
 rw[aSD h3];by_cases h4:w.2.1=vW
 .rw[aSB h4];dsimp only;rw[hhead,h4,c4];cases hv:BR r with
  |none=>
   by_cases he:s.ends=[]
   .rw[aSB (by simp [he])];exact vA rfl rfl pC
   .rw[aSD (by simp [yP,he]),aSD pD,aSD pD,aSD pD,aSD pD,aSB rfl,x5,f1,aSE,aSE,aSB FM,FL,aIg,aSE,hv];exact vA rfl rfl pC
  |some v=>
   show BV _ (rT s nx (.sta v));by_cases he:s.ends=[]
   .rw[aSB (by simp [he]),rT,aSB (.inr he)];exact vA rfl rfl pC
   rw[aSD (by simp [yP,he]),aSD pD,aSD pD,aSD pD,aSD pD,aSB rfl,x5,f1,aSE,aSE,aSB FM,FL,aIg,aSE,hv,rT,aSD (show¬(s.op=false\/s.ends=[]) by simp [ho,he])];dsimp only;rw[s3];by_cases h6:s.bh=true
   .rw[aSB h6,aSB h6];exact vA rfl rfl pC
   rw[aSD h6,aSD h6];refine FK rfl rfl (P5 h hr ho rfl rfl rfl rfl rfl rfl rfl rfl rfl ⟨x1,x2,x3,rfl,rfl⟩ ⟨fl,rfl,f2,f3,fun h0=>absurd h0.symm v8.2.2.2.1⟩ MJ.symm ⟨?_,?_,?_,?_⟩)
   .show sD .str .bool (sS .str .bool vW true P.seen) tQ=s.bs;rw[xD,aSD pC];exact s1
   .show sD .str .bool (sS .str .bool vW true P.seen) tR=s.bt;rw[xD,aSD pC];exact s2
   .show sD .str .bool (sS .str .bool vW true P.seen) vW=true;rw[xD,aSB rfl]
   show sD .str .bool (sS .str .bool vW true P.seen) vK=s.bf;rw[xD,aSD pC];exact s4
 rw[aSD h4];by_cases h5:w.2.1=tR
 .rw[aSB h5];dsimp only;rw[hhead,h5,c3];cases hv:sY r with
  |none=>
   by_cases he:s.ends=[]
   .rw[aSB (by simp [he])];exact vA rfl rfl pC
   .rw[aSD (by simp [yP,he]),aSD pD,aSD pD,aSD pD,aSB rfl,x5,f1,aSE,aSE,aSB FM,FL,aIf,aSE,hv];exact vA rfl rfl pC
  |some t=>
   show BV _ (rT s nx (.tgt t));by_cases he:s.ends=[]
   .rw[aSB (by simp [he]),rT,aSB (.inr he)];exact vA rfl rfl pC
   rw[aSD (by simp [yP,he]),aSD pD,aSD pD,aSD pD,aSB rfl,x5,f1,aSE,aSE,aSB FM,FL,aIf,aSE,hv,rT,aSD (show¬(s.op=false\/s.ends=[]) by simp [ho,he])];dsimp only;rw[s2];by_cases h6:s.bt=true
   .rw[aSB h6,aSB h6];exact vA rfl rfl pC
   rw[aSD h6,aSD h6];refine FK rfl rfl (P5 h hr ho rfl rfl rfl rfl rfl rfl rfl rfl rfl ⟨x1,rfl,x3,x4,rfl⟩ ⟨fl,rfl,f2,f3,fun h0=>absurd h0 v8.2.2.2.2.2.2.2.2.2⟩ SL.symm ⟨?_,?_,?_,?_⟩)
   .show sD .str .bool (sS .str .bool tR true P.seen) tQ=s.bs;rw[xD,aSD pC];exact s1
   .show sD .str .bool (sS .str .bool tR true P.seen) tR=true;rw[xD,aSB rfl]
   .show sD .str .bool (sS .str .bool tR true P.seen) vW=s.bh;rw[xD,aSD pC];exact s3
   show sD .str .bool (sS .str .bool tR true P.seen) vK=s.bf;rw[xD,aSD pC];exact s4
 rw[aSD h5];by_cases h6:w.2.1=tQ
 .rw[aSB h6];dsimp only;rw[hhead,h6,c2];cases hv:sY r with
  |none=>
   by_cases he:s.ends=[]
   .rw[aSB (by simp [he])];exact vA rfl rfl pC
   .rw[aSD (by simp [yP,he]),aSD pD,aSD pD,aSB rfl,x5,f1,aSE,aSE,aSB FM,FL,aIe,aSE,hv];exact vA rfl rfl pC
  |some t=>
   show BV _ (rT s nx (.src t));by_cases he:s.ends=[]
   .rw[aSB (by simp [he]),rT,aSB (.inr he)];exact vA rfl rfl pC
   rw[aSD (by simp [yP,he]),aSD pD,aSD pD,aSB rfl,x5,f1,aSE,aSE,aSB FM,FL,aIe,aSE,hv,rT,aSD (show¬(s.op=false\/s.ends=[]) by simp [ho,he])];dsimp only;rw[s1];by_cases h6:s.bs=true
   .rw[aSB h6,aSB h6];exact vA rfl rfl pC
   rw[aSD h6,aSD h6];refine FK rfl rfl (P5 h hr ho rfl rfl rfl rfl rfl rfl rfl rfl rfl ⟨rfl,x2,x3,x4,rfl⟩ ⟨fl,rfl,f2,f3,fun h0=>absurd h0 v8.2.2.2.2.2.2.2.2.1⟩ SK.symm ⟨?_,?_,?_,?_⟩)
   .show sD .str .bool (sS .str .bool tQ true P.seen) tQ=true;rw[xD,aSB rfl]
   .show sD .str .bool (sS .str .bool tQ true P.seen) tR=s.bt;rw[xD,aSD pC];exact s2
   .show sD .str .bool (sS .str .bool tQ true P.seen) vW=s.bh;rw[xD,aSD pC];exact s3
   show sD .str .bool (sS .str .bool tQ true P.seen) vK=s.bf;rw[xD,aSD pC];exact s4
 rw[aSD h6];have h3:(rT s nx (uI w.2.1 r)).1=3:=aPN ho nx h1 h6 h5 h4 h2 hkE h3;dsimp only;rw[aSB (by simp [yP])];refine⟨_,rfl,h3.symm,fun h0=>?_⟩;rw[h3] at h0;cases h0
end
theorem aPQ {s:St}(h:uQ s) {P:Pg}(hr:D8 s P) {line:p7}(hl:line.length<=1000000000) (hf:CR line=false) (nx:Int):
  BV (H4 P.c P.pl P.id P.sc P.tg P.fg P.sv P.ap (P.ends,()) line nx P.cm P.n1 P.fl P.n2 P.seen P.ids) (wB s line nx):=by
 obtain⟨v,hv,hm⟩:=aHQ hl;unfold wB;rw[hf,aSD pD];unfold H4;rw[hv,aSE];cases hw:FG line with
 |none=>
  rw[hw] at hm;have hm:v.2=false:=hm;rw[aSB (by rw[hm];rfl)];exact vA rfl rfl pC
 |some l=>
  rw[hw] at hm;have hm:v=(l,true):=hm;subst hm;have hnel:line.dropWhile sO≠[]:=fun e=>by
   unfold CR at hf;rw[e] at hf;cases hf
  have hne:=a8Y _ _ _ hw hnel;have hok:=SD _ _ _ hw;obtain⟨hs1,hs2⟩:=P0 _ _ _ hw;cases l with
  |nil=>exact absurd rfl hne
  |cons w r=>
   have hr': ∀x∈r,yO line.length x:=fun x hx=>hok x (aSQ _ hx);rw[aSD pD,aSB xE];dsimp only;rw[show qE qK (w::r) (0:Int)=w from rfl];by_cases hq:w.1=true
   .rw[aSB hq];have hany:((w::r).any fun x=> !x.1)=r.any fun x=> !x.1:=by rw[List.any_cons,hq];rfl
    have:=aPE h hr (l:=w::r) pB pB nx;rw[hany] at this;show BV (a9a P (w::r)) (rT s nx (B7 (w::r)));unfold B7;dsimp only;rw[aSB hq];by_cases ha:(r.any fun x=> !x.1)=true
    .rw[aSB ha] at this|-;exact this
    rw[aSD ha] at this|-;exact this
   rw[aSD hq];have hq:w.1=false:=by simpa using hq
   show BV (MK P (w::r) nx) (rT s nx (B7 (w::r)));have hcmd:B7 (w::r)=uI w.2.1 r:=by unfold B7;dsimp only;rw[aSD (by rw[hq];simp)]
   rw[hcmd];cases ho:s.op with
   |false=>exact aPM h hr ho hq hr' nx
   |true=>exact aPP h hr ho (r:=r) (w:=w) (by simp only[aSI] at hs2;omega) nx
end
noncomputable section
def aPR {α β:Type}(o:Option α):(o.bind fun _=>(none:Option β))=none:=by cases o<;>rfl
def aIn (s:p7):EZ s [10]=Lib.indexByte s 10:=Lib.index_one s 10
def aIo: ∀(l:p7),Lib.indexByte l 10<0->∀b∈l,b≠10
 |[],_,b,hb=>by cases hb
 |c::l,h,b,hb=>by
  rw[Lib.indexByte] at h;split at h
  .omega
  rename_i hc;have hc:c≠10:=by simpa using hc
  rcases aSP.1 hb with rfl|hb
  .exact hc
  refine aIo l ?_ b hb;have:=NK l 10;split at h
  .rename_i h1;simp only[aTU] at h1;omega
  omega
def aIp: ∀(l:p7),0<=Lib.indexByte l 10->(l.take ((Lib.indexByte l 10).toNat+1)).getLast? =some 10/\(l.take ((Lib.indexByte l 10).toNat+1)).dropLast=l.take (Lib.indexByte l 10).toNat
 |[],h=>by simp [Lib.indexByte] at h
 |c::l,h=>by
  by_cases hc:c=10
  .subst hc;have e:Lib.indexByte ((10:UInt8)::l) 10=0:=by rw[Lib.indexByte];rfl
   rw[e];exact⟨rfl,rfl⟩
  have hlt:=NK l 10;have e:Lib.indexByte (c::l) 10=Lib.indexByte l 10+1/\0<=Lib.indexByte l 10:=by
   rw[Lib.indexByte,aSD (by simpa using hc)] at h|-;split at h
   .omega
   rename_i h1;simp only[aTU] at h1;rw[aSD (by simpa using h1)];exact⟨rfl,pB⟩
  obtain⟨h1,h2⟩:=aIp l e.2;have e2:(Lib.indexByte (c::l) 10).toNat=(Lib.indexByte l 10).toNat+1:=by rw[e.1];omega
  rw[e2,List.take_succ_cons,List.take_succ_cons];have hne:l.take ((Lib.indexByte l 10).toNat+1)≠[]:=fun h0=>by rw[h0] at h1;cases h1
  refine⟨?_,?_⟩
  .rw[List.getLast?_cons,h1];rfl
  rw[List.dropLast_cons_of_ne_nil hne,h2]
def aPS {s:p7}(hs:s.length<=1000000000): ∃t,DY s [10]=some t/\t.1=if 0<=Lib.indexByte s 10 then s.take (Lib.indexByte s 10).toNat else s:=by
 have hi:=aIn s;have hr:=NK s 10;unfold DY NW;rw[hi,aSB pB];by_cases h:0<=Lib.indexByte s 10
 .rw[aSB (aS5 h),aSB ⟨pB,h,pB⟩,aSB (by simp;unfold pX;omega),aSB ⟨by simp;omega,by simp;omega,aTl _⟩,aSB h];refine⟨_,rfl,?_⟩;show qR s 0 (Lib.indexByte s 10)=_;unfold qR;simp
 rw[aSD (by simpa using h),aSD h];exact⟨_,rfl,rfl⟩
def aIq {s:p7}(hs:s.length<=1000000000) {a:Nat}(ha:a<s.length): ∃t,DY (qR s (a:Int) (s.length:Int)) [10]=some t/\t.1=sL (AE s a)/\min (s.length:Int) (((a:Int)+(t.1.length:Int))+1)=(tS s a:Nat)/\t.1.length<=s.length-a:=by
 rw[CP];obtain⟨t,h1,h2⟩:=aPS (s:=s.drop a) (by rw[aS8];omega);refine⟨t,h1,?_⟩;have hr:=NK (s.drop a) 10;rw[aS8] at hr;have hto:=SH ha;by_cases h:0<=Lib.indexByte (s.drop a) 10
 .rw[aSB h] at h2;have hlt:tS s a=a+(Lib.indexByte (s.drop a) 10).toNat+1:=aSB h;have hla:AE s a=(s.drop a).take ((Lib.indexByte (s.drop a) 10).toNat+1):=by unfold AE;rw[hlt];congr 1;omega
  obtain⟨g1,g2⟩:=aIp _ h;have hlen:t.1.length=(Lib.indexByte (s.drop a) 10).toNat:=by rw[h2,aTe,aS8];omega
  refine⟨?_,?_,?_⟩
  .unfold sL;rw[hla,aSB g1,g2,h2]
  .rw[hlen,hlt,Int.min_eq_right pB];omega
  omega
 rw[aSD h] at h2;have hlt:tS s a=s.length:=aSD h;have hla:AE s a=s.drop a:=by unfold AE;rw[hlt];exact List.take_of_length_le (by rw[aS8];omega)
 have hlen:t.1.length=s.length-a:=by rw[h2,aS8]
 refine⟨?_,?_,pB⟩
 .unfold sL;rw[hla,aSD (fun hg=>aIo (s.drop a) pB 10 (List.mem_of_getLast? hg) rfl),h2]
 rw[hlen,hlt,Int.min_eq_left pB]
def aIr (s:p7):GH s=some ()/\(!((decide ((Lib.trimLeftS s ([32,9]:p7))=([]:p7)))||(decide ((rI (Lib.trimLeftS s ([32,9]:p7)) (0:Int))=(35:Int)))))= !CR s:=by
 unfold GH CR;rw[aOL];cases h:s.dropWhile sO with
 |nil=>exact⟨aSB (fun hh=>by simp at hh),rfl⟩
 |cons b t=>
  refine⟨aSB (fun _=>xE),?_⟩;rw[show rI (b::t) 0=(b.toNat:Int) from rfl,v7 (n:=35) 35 rfl];simp
def aIs (w:Wd) (r:List Wd) (hw:w.1=false):(((!decide (((w::r).length:Int)=(2:Int)))||(qE qK (w::r) (0:Int)).1)||(!((qE qK (w::r) (1:Int)).1)))= !(sY r).isSome:=aIk w r hw
def aIt (w:Wd) (r:List Wd):((((!decide (((w::r).length:Int)=(2:Int)))||(qE qK (w::r) (0:Int)).1)==false)=true->0<=(1:Int)/\(1:Int)<((w::r).length:Int)):=fun hh=>by
 cases hd:decide (((w::r).length:Int)=(2:Int)) with
 |false=>rw[hd] at hh;cases hh
 |true=>have:=aTn hd;omega
abbrev c0:sK:=(([]:p7),(([]:p8),(([]:List qG),(([]:List sA),()))))
abbrev SN (line:p7) (nx:Int):=B3 c0 (0:Int) ([]:p7) ([]:p7) ([]:p7) ([]:p8) (0:Int) (([]:pH),()) line nx (some ([]:p8)) 0 (some ([]:List qG)) 0 ([]:pF)
abbrev L0b (line:p7) (nx:Int):=FD c0 (0:Int) ([]:p7) ([]:p7) ([]:p7) ([]:p8) (0:Int) (([]:pH),()) line nx (some ([]:p8)) 0 (some ([]:List qG)) 0 ([]:pF)
def a9d (nx:Int) {c:vX}(hc: ∀t,c≠.beg true t):(rT uF nx c).1=3:=by
 cases c with
 |bad=>rfl
 |beg hd t=>
  cases hd with
  |true=>exact absurd rfl (hc t)
  |false=>rfl
 |cont t=>rfl
 |com t=>rfl
 |src t=>rfl
 |tgt t=>rfl
 |sta v=>rfl
 |fld m v=>rfl
 |flg l=>rfl
 |fin=>rfl
def aIu {k:p7}{r:List Wd}{t:p7}(h:uI k r= .beg true t):k=wO/\sY r=some t:=by
 unfold uI at h;have one: ∀(f:p7->vX),(∀x,f x≠.beg true t)->((sY r).map f).getD .bad≠.beg true t:=fun f hf=>by
  cases sY r with
  |none=>intro h;cases h
  |some x=>exact hf x
 split at h
 .rename_i hk;refine⟨hk,?_⟩;cases ho:sY r with
  |none=>rw[ho] at h;cases h
  |some x=>rw[ho] at h;cases h;rfl
 split at h
 .exact absurd h (one _ fun x hx=>by cases hx)
 split at h
 .exact absurd h (one _ fun x hx=>by cases hx)
 split at h
 .exact absurd h (one _ fun x hx=>by cases hx)
 split at h
 .exact absurd h (one _ fun x hx=>by cases hx)
 split at h
 .cases hs:BR r with
  |none=>rw[hs] at h;cases h
  |some v=>rw[hs] at h;cases h
 split at h
 .cases hs:BS r with
  |none=>rw[hs] at h;cases h
  |some v=>rw[hs] at h;cases h
 split at h
 .split at h<;>cases h
 split at h
 .split at h<;>cases h
 cases h
def aIv {l:List Wd}(hl:l.length<=1000000000): ∀(n i:Nat) (a:p7),i+n=l.length->a.length+(r7 (l.drop i)).flatten.length<=9000000000000000000->
  ∃q,rF (LR l) (a,(i:Int))=some q/\(q= .inr 3\/∃z,q= .inl z)
 |0,i,a,hi,_=>by
  have:i=l.length:=by omega
  subst this;rw[tB];unfold LR;dsimp only;rw[aSD (xA _)];exact⟨_,rfl,.inr ⟨_,rfl⟩⟩
 |n+1,i,a,hi,hb=>by
  have hlt:i<l.length:=by omega
  have h2:(r7 (l.drop i)).flatten=l[i].2.1++(r7 (l.drop (i+1))).flatten:=by
   unfold r7;rw[aS3 hlt,aTV,aUx]
  rw[h2,aSH] at hb;rw[tB];generalize hF:rF (LR l)=F;unfold LR;dsimp only;rw[aSB (tV hlt),aSB (sT hlt),FI hlt];cases hq:l[i].1 with
  |false=>exact⟨_,rfl,.inl rfl⟩
  |true=>
   rw[aSD pD,aSB (by rw[aSH];omega),aSB (u7 pB),aSE];dsimp only;rw[<-hF,show ((i:Int)+1)=((i+1:Nat):Int) by omega];exact aIv hl n (i+1) _ pB (by rw[aSH];omega)
def JO (w:Wd) (r:List Wd):Option p7:=match sY r with
 |some t=>if w.2.1=wO/\yM t=true then some t else none
 |none=>none
def aIw {w:Wd}{r:List Wd}(hq:w.1=false):D5 c0 (0:Int) ([]:p7) ([]:p7) ([]:p7) ([]:p8) (0:Int) (([]:pH),()) (w::r) (some ([]:p8)) 0 (some ([]:List qG)) 0 ([]:pF)=(JO w r).map fun t=>(t,1,[],[]):=by
 unfold D5 JO;rw[aIs w r hq,aSB (fun _=>xE),aSB (aIt w r)];cases hone:sY r with
 |none=>rfl
 |some t=>
  have hrt:=MH hone;subst hrt;have hn0:qE qK [w,(true,t,())] (0:Int)=w:=rfl;have hn1:qE qK [w,(true,t,())] (1:Int)=(true,t,()):=rfl;have hp1:0<=(1:Int)/\(1:Int)<(List.length [w,(true,t,())]:Int):=by simp
  rw[hn0,hn1,aGZ];dsimp only;rw[aSD (show¬(!(some t).isSome)=true by simp),aSB hp1,aSB (fun _=>xE),aSB (fun _=>Option.isSome_some),show decide ((0:Int)=0)=true from rfl,Bool.true_and,show val (some (yM t))=yM t from rfl];by_cases hc:w.2.1=wO/\yM t=true
  .rw[aSB hc,show decide (w.2.1=([99,97,116,97,108,111,103]:p7))=true from aS5 hc.1,hc.2];rfl
  rw[aSD hc,aSD (by
   simp only[aSV,aSL];exact hc)]
  rfl
def aIx {w:Wd}{r:List Wd}(hq:w.1=false):J2 c0 (0:Int) ([]:p7) ([]:p7) ([]:p7) ([]:p8) (0:Int) (([]:pH),()) (w::r) (some ([]:p8)) 0 (some ([]:List qG)) 0 ([]:pF)=match JO w r with|some _=>none|none=>some 3:=by
 unfold J2 JO;rw[aIs w r hq,aSB (fun _=>xE),aSB (aIt w r)];cases hone:sY r with
 |none=>rfl
 |some t=>
  have hrt:=MH hone;subst hrt;have hn0:qE qK [w,(true,t,())] (0:Int)=w:=rfl;have hn1:qE qK [w,(true,t,())] (1:Int)=(true,t,()):=rfl;have hp1:0<=(1:Int)/\(1:Int)<(List.length [w,(true,t,())]:Int):=by simp
  rw[hn0,hn1,aGZ];dsimp only;rw[aSD (show¬(!(some t).isSome)=true by simp),aSB hp1,aSB (fun _=>xE),aSB (fun _=>Option.isSome_some),show decide ((0:Int)=0)=true from rfl,Bool.true_and,show val (some (yM t))=yM t from rfl];by_cases hc:w.2.1=wO/\yM t=true
  .rw[aSB hc,show decide (w.2.1=([99,97,116,97,108,111,103]:p7))=true from aS5 hc.1,hc.2];rfl
  rw[aSD hc,aSD (by
   simp only[aSV,aSL];exact hc)]
  rfl
def P6 (l:List Wd):Option p7:=match l with
 |[]=>none
 |w::r=>if w.1=true then none else JO w r
def aPT {l:List Wd}(hne:l≠[]) {N:Nat}(hok: ∀w∈l,yO N w) (nx:Int):(rT uF nx (B7 l)=match P6 l with|some t=>(0,FJ uF (t,uF.c.2) t) |none=>rT uF nx (B7 l))/\(P6 l=none->(rT uF nx (B7 l)).1=3):=by
 cases l with
 |nil=>exact absurd rfl hne
 |cons w r=>
  have hr': ∀x∈r,yO N x:=fun x hx=>hok x (aSQ _ hx);unfold B7 P6;dsimp only;by_cases hq:w.1=true
  .rw[aSB hq,aSB hq];refine⟨rfl,fun _=>a9d nx fun t=>?_⟩;split<;>intro hc<;>cases hc
  rw[aSD hq,aSD hq];unfold JO;cases hone:sY r with
  |none=>
   refine⟨rfl,fun _=>a9d nx fun t hc=>?_⟩;have:=(aIu hc).2;rw[hone] at this;cases this
  |some t=>
   dsimp only;by_cases hk:w.2.1=wO
   .have hc1:uI w.2.1 r= .beg true t:=by rw[hk];exact(a83 (k:=[]) hone).1
    have hdo:rT uF nx (.beg true t)=if yM t=true then(0,FJ uF (t,uF.c.2) t) else(3,uF):=by rw[rT,aSD (by simp [uF,JL])]
    rw[hc1,hdo];by_cases htg:yM t=true
    .rw[aSB htg,aSB ⟨hk,htg⟩];exact⟨rfl,fun h=>by cases h⟩
    rw[aSD htg,aSD (fun h=>htg h.2)];exact⟨rfl,fun _=>rfl⟩
   rw[aSD (fun h=>hk h.1)];exact⟨rfl,fun _=>a9d nx fun t' hc=>hk (aIu hc).1⟩
def aPU {line:p7}(hl:line.length<=1000000000) (hf:CR line=false) (nx:Int):
  (∃t,wB uF line nx=(0,FJ uF (t,uF.c.2) t)/\SN line nx=some (t,1,[],[]))\/((wB uF line nx).1=3/\SN line nx=none/\L0b line nx=some 3):=by
 obtain⟨v,hv,hm⟩:=aHQ hl;have hstep:wB uF line nx=match FG line with|none=>(3,uF) |some l=>rT uF nx (B7 l):=by
  unfold wB;exact(aSD (by rw[hf];simp)).trans rfl
 cases hw:FG line with
 |none=>
  rw[hw] at hm hstep;have hm:v.2=false:=hm;refine .inr ⟨by rw[hstep],?_,?_⟩
  .unfold SN B3;rw[hv,aSE,aSB (by rw[hm];rfl)]
  .unfold L0b FD;rw[hv,aSE,aSB (by rw[hm];rfl)]
 |some l=>
  rw[hw] at hm hstep;have hm:v=(l,true):=hm;subst hm;have hnel:line.dropWhile sO≠[]:=fun e=>by
   unfold CR at hf;rw[e] at hf;cases hf
  have hne:=a8Y _ _ _ hw hnel;have hok:=SD _ _ _ hw;obtain⟨hs1,hs2⟩:=P0 _ _ _ hw;obtain⟨hd1,hd2⟩:=aPT hne hok nx;have hA:SN line nx=(P6 l).map fun t=>(t,1,[],[]):=by
   unfold SN B3 P6;rw[hv,aSE];cases l with
   |nil=>exact absurd rfl hne
   |cons w r=>
    dsimp only;rw[aSD pD,aSB xE,show qE qK (w::r) (0:Int)=w from rfl];by_cases hq:w.1=true
    .rw[aSB hq,aSB hq];exact aPR _
    rw[aSD hq,aSD hq,aSB pC];have hq:w.1=false:=by simpa using hq
    have ha:=aIw (r:=r) hq;have hb:=aIx (r:=r) hq;unfold c0 at ha hb;rw[ha,hb];cases JO w r<;>rfl
  cases hF:P6 l with
  |some t=>
   rw[hF] at hd1 hA;exact .inl ⟨t,hstep.trans hd1,hA⟩
  |none=>
   rw[hF] at hA;refine .inr ⟨by rw[hstep];exact hd2 hF,hA,?_⟩;unfold L0b FD;rw[hv,aSE];cases l with
   |nil=>exact absurd rfl hne
   |cons w r=>
    dsimp only;rw[aSD pD,aSB xE,show qE qK (w::r) (0:Int)=w from rfl];by_cases hq:w.1=true
    .rw[aSB hq];unfold LS;obtain⟨q,h1,h2⟩:=aIv (l:=w::r) pB (w::r).length 0 [] pB (by rw[aTM,aSY];omega);have h1':rF (LR (w::r)) (([]:p7),(0:Int))=some q:=h1;rw[h1'];rcases h2 with rfl|⟨z,rfl⟩<;>rfl
    have hF:(if w.1=true then none else JO w r)=none:=hF;rw[aSD hq] at hF;rw[aSD hq,aSB pC];have hq:w.1=false:=by simpa using hq
    have ha:=aIw (r:=r) hq;have hb:=aIx (r:=r) hq;unfold c0 at ha hb;rw[ha,hb,hF];rfl
end
noncomputable section
abbrev aPV:=Int×p7×p8×(List qG)×(List sA)×Int×p7×p7×p7×p8×Int×Nat×pH×(Option p8)×Nat×(Option (List qG))×Nat×pF×pF
abbrev Y3:=p7×p8×(List qG)×(List sA)×Int×p7×p7×p7×p8×Int×Nat×pH×(Option p8)×Nat×(Option (List qG))×Nat×pF×pF
abbrev Pg.out (P:Pg):Y3:=(P.c.1,P.c.2.1,P.c.2.2.1,P.c.2.2.2.1,P.pl,P.id,P.sc,P.tg,P.fg,P.sv,P.ap,P.ends,P.cm,P.n1,P.fl,P.n2,P.seen,P.ids)
abbrev Pg.inn (P:Pg) (a:Int):aPV:=(a,P.out)
def SO (s:p7) (ok:Option Y3) (er:Option (Int×Int)) (r:(Nat×Int)⊕St):Prop:=match r with
  | .inl q=>ok=none∧er=some ((q.1:Int),q.2)∧q.2≠0
  | .inr st=>if st.op=true∨st.ends=[] then ok=none∧er=some ((s.length:Int),3) else∃P,D8 st P∧ok=some P.out
def a9e {s:p7}(hs:s.length≤1000000000): ∀(n a:Nat) (st:St) (P:Pg),uQ st→D8 st P→a≤s.length→s.length<n+a→
    SO s (rF (A9 s) (.inr (P.inn a))) (rF (AA s) (.inr (P.inn a))) (zU s n st a)
  |0,a,st,P,hst,hr,ha,hn=>by omega
  | n+1,a,st,P,hst,hr,ha,hn=>by
    rw[zU];by_cases hlt:a<s.length
    · rw[aSB hlt]
      obtain⟨t,ht1,ht2,ht3,ht4⟩:=aIq hs hlt;have hto:=SH hlt;obtain⟨hf1,hf2⟩:=aIr t.1;have hsub:t.1.length≤1000000000:=by omega
      have hab:0≤(a:Int)∧(a:Int)≤(s.length:Int)∧(s.length:Int)≤(s.length:Int):=⟨pB,pB,aTl _⟩;have hi1:pX ((a:Int)+(t.1.length:Int)):=by unfold pX;omega
      have hi2:pX (((a:Int)+(t.1.length:Int))+(1:Int)):=by unfold pX;omega
      rw[←ht2];rw[tB (A9 s),tB (AA s)];generalize hF:rF (A9 s)=F;generalize hG:rF (AA s)=G;unfold A9 AA;dsimp only;rw[aSB (tV hlt),aSB (tV hlt),aSB hab,aSB hab,ht1,aSE,aSE,aSB hi1,aSB hi1,aSB hi2,aSB hi2,hf1,aSE,aSE,hf2,ht3];cases hfr:CR t.1 with
      | true=>
        have hst':wB st t.1 (tS s a:Nat)=(0,st):=by unfold wB;rw[hfr,aSB rfl]
        rw[aSD (show¬(!true)=true by simp),aSD (show¬(!true)=true by simp),hst',aSB rfl,aSE,aSE];dsimp only;rw[←hF,←hG];exact a9e hs n (tS s a) st P hst hr hto.2 pB
      | false=>
        rw[aSB (show (!false)=true from rfl),aSB (show (!false)=true from rfl)];obtain⟨v,hv,he,hz⟩:=aPQ hst hr hsub hfr (tS s a:Nat);have hv':H4 (P.c.1,(P.c.2.1,(P.c.2.2.1,(P.c.2.2.2.1,())))) P.pl P.id P.sc P.tg P.fg P.sv P.ap (P.ends,()) t.1 ((tS s a:Nat):Int) P.cm P.n1 P.fl P.n2 P.seen P.ids=some v:=hv;rw[hv',aSE,aSE,he];by_cases h0:(wB st t.1 (tS s a:Nat)).1=0
        · rw[h0,aSD pD,aSD pD,aSB rfl,aSE,aSE]
          dsimp only;rw[←hF,←hG];exact a9e hs n (tS s a) _ (a89 v) (XY hst _ _ h0) (hz h0) hto.2 pB
        rw[aSB (by simp [h0]),aSB (by simp [h0]),aSD h0]
        exact⟨rfl,rfl,h0⟩
    rw[aSD hlt]
    have hF:decide ((a:Int)<(s.length:Int))=false:=decide_eq_false pB;rw[tB (A9 s),tB (AA s)];unfold A9 AA;dsimp only;rw[hF,aSD (show¬false=true by simp),aSD (show¬false=true by simp)];unfold SO;dsimp only;by_cases hc:st.op=true∨st.ends=[]
    · rw[aSB hc]
      have hpl:P.pl≠2:=by
        rw[hr.pl];rcases hc with h1|h1
        .rw[aSB h1];split<;>decide
        rcases hr.live with h2|h2
        .rw[aSB h2];split<;>decide
        exact absurd h1 h2
      rw[aSB (show (!decide (P.pl=(2:Int)))=true by simp [hpl]),aSB (show (!decide (P.pl=(2:Int)))=true by simp [hpl])];exact⟨rfl,rfl⟩
    rw[aSD hc]
    rw[not_or] at hc;have hpl:P.pl=2:=by rw[hr.pl,aSD hc.1,aSD hc.2]
    rw[aSD (show¬(!decide (P.pl=(2:Int)))=true by simp [hpl])];exact⟨P,hr,rfl⟩
def aPW (t:p7):D8 (FJ uF (t,uF.c.2) t) ⟨(t,([],([],([],())))),1,[],[],[],[],0,0,[],some [],0,some [],0,[],[]⟩ where
  c:=rfl
  ends:=rfl
  pl:=rfl
  x:=fun _=>⟨rfl,rfl,rfl,rfl,rfl⟩
  id:=fun _ h=>absurd rfl h
  fl:=fun _=>⟨[],rfl,rfl,List.nodup_nil,fun h=>absurd h.symm v8.2.2.2.1⟩
  ap:=MJ.symm
  seen:=fun _=>⟨rfl,rfl,rfl,rfl⟩
  ids:=fun _=>rfl
  live:= .inl rfl
def aPX {t:p7}{line:p7}{nx:Int}(h:wB uF line nx=(0,FJ uF (t,uF.c.2) t)):uQ (FJ uF (t,uF.c.2) t):=by
  have:=XY a82 line nx (by rw[h]);rw[h] at this;exact this
def aIy {s:p7}(hs:s.length≤1000000000): ∀(n a:Nat),a≤s.length→s.length<n+a→
    SO s (rF (A9 s) (.inl (a:Int))) (rF (AA s) (.inl (a:Int))) (zU s n uF a)
  |0,a,ha,hn=>by omega
  | n+1,a,ha,hn=>by
    rw[zU];by_cases hlt:a<s.length
    · rw[aSB hlt]
      obtain⟨t,ht1,ht2,ht3,ht4⟩:=aIq hs hlt;have hto:=SH hlt;obtain⟨hf1,hf2⟩:=aIr t.1;have hsub:t.1.length≤1000000000:=by omega
      have hab:0≤(a:Int)∧(a:Int)≤(s.length:Int)∧(s.length:Int)≤(s.length:Int):=⟨pB,pB,aTl _⟩;have hi1:pX ((a:Int)+(t.1.length:Int)):=by unfold pX;omega
      have hi2:pX (((a:Int)+(t.1.length:Int))+(1:Int)):=by unfold pX;omega
      rw[←ht2];rw[tB (A9 s),tB (AA s)];generalize hF:rF (A9 s)=F;generalize hG:rF (AA s)=G;unfold A9 AA;dsimp only;rw[aSB (tV hlt),aSB (tV hlt),aSB hab,aSB hab,ht1,aSE,aSE,aSB hi1,aSB hi1,aSB hi2,aSB hi2,hf1,aSE,aSE,hf2,ht3];cases hfr:CR t.1 with
      | true=>
        have hst':wB uF t.1 (tS s a:Nat)=(0,uF):=by unfold wB;rw[hfr,aSB rfl]
        rw[aSD (show¬(!true)=true by simp),aSD (show¬(!true)=true by simp),hst',aSB rfl,aSE,aSE];dsimp only;rw[←hF,←hG];exact aIy hs n (tS s a) hto.2 pB
      | false=>
        rw[aSB (show (!false)=true from rfl),aSB (show (!false)=true from rfl)];rcases aPU hsub hfr (tS s a:Nat) with⟨x,h1,h2⟩ |⟨h1,h2,h3⟩
        · have h2':B3 (([]:p7),(([]:p8),(([]:List qG),(([]:List sA),())))) (0:Int) ([]:p7) ([]:p7) ([]:p7) ([]:p8) (0:Int) (([]:pH),()) t.1 ((tS s a:Nat):Int) (some ([]:p8)) 0 (some ([]:List qG)) 0 ([]:pF)=some (x,1,[],[]):=h2
          rw[h2',h1];simp only[Option.isSome_some,↓reduceIte,aSE,decide_true,Bool.not_true,aTS];rw[←hF,←hG];exact a9e hs n (tS s a) _ _ (aPX h1) (aPW x) hto.2 pB
        have h2':B3 (([]:p7),(([]:p8),(([]:List qG),(([]:List sA),())))) (0:Int) ([]:p7) ([]:p7) ([]:p7) ([]:p8) (0:Int) (([]:pH),()) t.1 ((tS s a:Nat):Int) (some ([]:p8)) 0 (some ([]:List qG)) 0 ([]:pF)=none:=h2
        have h3':FD (([]:p7),(([]:p8),(([]:List qG),(([]:List sA),())))) (0:Int) ([]:p7) ([]:p7) ([]:p7) ([]:p8) (0:Int) (([]:pH),()) t.1 ((tS s a:Nat):Int) (some ([]:p8)) 0 (some ([]:List qG)) 0 ([]:pF)=some 3:=h3;rw[h2',h3',h1];simp only[Option.isSome_none,aTS,↓reduceIte,aSE];rw[aSB (show (!decide ((3:Int)=(0:Int)))=true from rfl),aSB (show (!decide ((3:Int)=(0:Int)))=true from rfl),aSD (show¬(3:Int)=0 by decide)];exact⟨rfl,rfl,show (3:Int)≠0 by decide⟩
    rw[aSD hlt]
    have hF:decide ((a:Int)<(s.length:Int))=false:=decide_eq_false pB;rw[tB (A9 s),tB (AA s)];unfold A9 AA;dsimp only;rw[hF,aSD (show¬false=true by simp),aSD (show¬false=true by simp),aSB (show (!decide ((0:Int)=(2:Int)))=true from rfl),aSB (show (!decide ((0:Int)=(2:Int)))=true from rfl)];exact⟨rfl,rfl⟩
def aPY {s:p7}(hs:s.length≤1000000000):match BU s with
    | .inl q=>BO s=none∧H5 s=some ((q.1:Int),q.2)∧q.2≠0
    | .inr st=> ∃P,D8 st P∧BO s=some P.out∧st.op=false∧st.ends≠[]:=by
  have h:=aIy hs (s.length+1) 0 (aTv _) pB;unfold BU;unfold BO H5;have h':SO s (rF (A9 s) (.inl (0:Int))) (rF (AA s) (.inl (0:Int))) (zU s (s.length+1) uF 0):=h;cases hr:zU s (s.length+1) uF 0 with
  |inl q=>rw[hr] at h';exact h'
  | inr st=>
    rw[hr] at h';unfold SO at h';dsimp only at h'|-;by_cases hc:st.op=true∨st.ends=[]
    · rw[aSB hc] at h'|-
      exact⟨h'.1,h'.2,show (3:Int)≠0 by decide⟩
    rw[aSD hc] at h'|-
    obtain⟨P,h1,h2⟩:=h';rw[not_or] at hc;exact⟨P,h1,h2,by simpa using hc.1,hc.2⟩
end
noncomputable section
def SP (a:Nat) (ends:pH):Prop:= ∃l:pL,ends=l.map (fun n:Nat=>(n:Int))∧l.Pairwise (·≤·)∧∀x∈l,x≤a
theorem a9f {a b:Nat}(h:a≤b) {e:pH}(he:SP a e):SP b e:=by
  obtain⟨l,h1,h2,h3⟩:=he;exact⟨l,h1,h2,fun x hx=>aTA (h3 x hx) h⟩
theorem aPZ (s:St) (n:Int) (c:vX):(rT s n c).2.ends=s.ends∨(rT s n c).2.ends=s.ends++[n]:=by
  cases c with
  |cont t=>exact .inl (aH1 s n t).2.1
  |beg hd t=>cases hd<;>(rw[rT];repeat' split)<;>exact .inl rfl
  | fin=>
    rw[rT];split
    .exact .inl rfl
    .exact .inr rfl
  |bad=>exact .inl rfl
  | com t => rw[rT];repeat' split
             all_goals exact .inl rfl
  | src t => rw[rT];repeat' split
             all_goals exact .inl rfl
  | tgt t => rw[rT];repeat' split
             all_goals exact .inl rfl
  | sta v => rw[rT];repeat' split
             all_goals exact .inl rfl
  | fld m v => rw[rT];repeat' split
               all_goals exact .inl rfl
  | flg l => rw[rT];repeat' split
             all_goals exact .inl rfl
theorem aP0 (s:St) (line:p7) (n:Int):(wB s line n).2.ends=s.ends∨(wB s line n).2.ends=s.ends++[n]:=by
  unfold wB;split
  .exact .inl rfl
  split
  .exact .inl rfl
  exact aPZ _ _ _
theorem aIz {s:p7}: ∀(n a:Nat) (st st':St),a≤s.length→SP a st.ends→zU s n st a= .inr st'→SP s.length st'.ends
  |0,a,st,st',ha,h,e=>by cases e;exact a9f ha h
  | n+1,a,st,st',ha,h,e=>by
    rw[zU] at e;split at e
    · rename_i hlt
      have hto:=SH hlt;split at e
      · refine aIz n (tS s a) _ st' hto.2 ?_ e
        rcases aP0 st (sL (AE s a)) (tS s a:Nat) with h1|h1
        .rw[h1];exact a9f pB h
        rw[h1]
        obtain⟨l,g1,g2,g3⟩:=h;refine⟨l++[tS s a],by rw[g1,List.map_append];rfl,aUo.2 ⟨g2,aUv _ _,fun x hx y hy=>?_⟩,fun x hx=>?_⟩
        .rw[aST.1 hy];have:=g3 x hx;omega
        rcases aTR.1 hx with hx|hx
        .have:=g3 x hx;omega
        rw[aST.1 hx];exact aSW _
      cases e
    cases e;exact a9f ha h
theorem aP1 {s:p7}{st:St}(h:BU s= .inr st):uQ st∧st.op=false∧st.ends≠[]∧SP s.length st.ends∧a8R st.c=true:=by
  unfold BU at h;cases hr:zU s (s.length+1) uF 0 with
  |inl q=>rw[hr] at h;cases h
  | inr st'=>
    rw[hr] at h;dsimp only at h;split at h
    .cases h
    rename_i hc
    cases h;rw[not_or] at hc;have hok:=aH5 _ _ _ a82 hr;exact⟨hok,by simpa using hc.1,hc.2,aIz _ _ _ _ (aTv _) ⟨[],rfl,List.Pairwise.nil,fun x hx=>(by cases hx)⟩ hr,aOK (hok.tag (.inl hc.2)) hok.hcm hok.hfd hok.es⟩
section
variable {s:p7}(hsm:s.length≤4000000000) {l:pL}(hne:l≠[]) (hs:l.Pairwise (·≤·)) (hle: ∀x∈l,x≤s.length) (hl:l.length≤5000)
include hsm hne hs hle hl in
theorem aP2 {r:Y3}(hr:r.2.2.2.2.2.2.2.2.2.2.2.1=l.map (fun n:Nat=>(n:Int))):
    rF (OQ s r) (1,[])=some ((zS s l).drop 1):=by
  have hpos:0<l.length:=aTJ.2 hne
  have hloop:=XN (f:=OQ s r) (n:=l.length-1) (fun i=>(((i+1:Nat):Int),((List.range (i+1)).map (pc s l)).drop 1)) (r:=(zS s l).drop 1)
    (fun i hi=>by
      have h1:=S9 hle (show i+1<l.length by omega);have h2:=aHE hs (show i<i+1 by omega) (show i+1<l.length by omega);unfold OQ;dsimp only;rw[hr,aTw,aSB (tV pB),aSB (by unfold pX;omega),show (((i+1:Nat):Int)-1)=(i:Int) by omega,aSB (sT pB),aSB (sT pB),S8 (show i<l.length by omega),S8 (show i+1<l.length by omega),aSB ⟨Int.natCast_nonneg _,Int.ofNat_le.2 h2,Int.ofNat_le.2 h1⟩,aSB pE,aSB (u7 pB)];rw[List.range_succ (n:=i+1),List.map_append,List.drop_append_of_le_length pD];rfl)
    (by
      unfold OQ;dsimp only;rw[hr,aTw,show l.length-1+1=l.length by omega,aSD (xA _)]) (l.length-1) 0 pB
  exact hloop
include hsm hne hs hle hl in
theorem aP3 {r:Y3}(h:BO s=some r) (hr:r.2.2.2.2.2.2.2.2.2.2.2.1=l.map (fun n:Nat=>(n:Int))):
    H6 s=some (pc s l 0,(zS s l).drop 1,qR s (yN l:Nat) (s.length:Int),0):=by
  have hpos:0<l.length:=aTJ.2 hne;have h0:=S9 hle hpos;have hlast:yN l≤s.length:=S9 hle (show l.length-1<l.length by omega);unfold H6;rw[h,aSB (show (some r).isSome=true from rfl),aSE,aSD (show¬(!decide ((0:Int)=(0:Int)))=true by decide),aP2 hsm hne hs hle hl hr,hr,aTw,aSB ⟨aTl _,pB⟩];have n0:qE (.int .i64) (l.map (fun n:Nat=>(n:Int))) (0:Int)=(l.getD 0 0:Nat):=S8 hpos
  have n1:qE (.int .i64) (l.map (fun n:Nat=>(n:Int))) ((l.length:Int)-1)=(yN l:Nat):=by
    rw[show ((l.length:Int)-1)=((l.length-1:Nat):Int) by omega];exact S8 pB
  rw[n0,n1,aSB ⟨aTl _,Int.natCast_nonneg _,Int.ofNat_le.2 h0⟩,aSB (by unfold pX;omega),aSB ⟨pB,pB⟩,aSB ⟨Int.natCast_nonneg _,Int.ofNat_le.2 hlast,aTl _⟩];rfl
end
def SQ (s:p7):(Nat×Int)⊕St→p7×p8×p7×Int
  | .inl q=>([],[],[],q.2)
  | .inr st=>(pc s (st.ends.map Int.toNat) 0,(zS s (st.ends.map Int.toNat)).drop 1,qR s (yN (st.ends.map Int.toNat):Nat) (s.length:Int),0)
theorem aP4 (l:pL):(l.map (fun n:Nat=>(n:Int))).map Int.toNat=l:=by
  rw[List.map_map]
  conv=>rhs;rw[←List.map_id l]
  congr 1
theorem aP5 {s:p7}(hs:s.length≤1000000000):H6 s=some (SQ s (BU s))∧JG s=some (SQ s (BU s))∧(SQ s (BU s)).2.1.length≤5000:=by
  have h:=aPY hs
  have hR:JG s=Option.bind (some (Y1 (BU s))) fun O=>
     if (!decide (O.2.2.2.2.2.2=(0:Int)))=true then
      some ((([]:p7),([]:p8),([]:p7),O.2.2.2.2.2.2))
     else
      (GU s O.2.2.2.2.1).bind fun Z=>
      some ((Z.1,Z.2.1,Z.2.2,(0:Int))):=by
    unfold JG;rw[aPz hs]
  rw[hR];cases hr:BU s with
  | inl q=>
    rw[hr] at h;obtain⟨h1,h2,h3⟩:=h;refine⟨?_,?_,aTv _⟩
    · unfold H6
      rw[h1,h2,aSD pD,aSE,aSB (by simpa using h3)];rfl
    · rw[aSE,aSB (show (!decide ((Y1 (.inl q)).2.2.2.2.2.2=(0:Int)))=true from by show (!decide (q.2=(0:Int)))=true;simp [h3])]
      rfl
  | inr st=>
    rw[hr] at h;obtain⟨P,h1,h2,h3,h4⟩:=h;obtain⟨k1,k2,k3,⟨l,g1,g2,g3⟩,k5⟩:=aP1 hr;have hne:l≠[]:=fun e=>k3 (by rw[g1,e];rfl)
    have hlen:l.length≤5000:=by
      have:=a81 k1;rw[g1,aTw] at this;omega
    have hS:=aP3 pB hne g2 g3 hlen h2 (show P.ends=_ from h1.ends.trans g1);have hC:=aOA (s:=s) pB hne g2 g3 hlen
    have hsp:SQ s (.inr st)=(pc s l 0,(zS s l).drop 1,qR s (yN l:Nat) (s.length:Int),0):=by
      show (pc s (st.ends.map Int.toNat) 0,(zS s (st.ends.map Int.toNat)).drop 1,qR s (yN (st.ends.map Int.toNat):Nat) (s.length:Int),(0:Int))=_;rw[g1,aP4]
    refine⟨by rw[hS,hsp],?_,?_⟩
    · rw[aSE,aSD (by simp [Y1])]
      show (GU s st.ends).bind _=_;rw[g1,hC,hsp];rfl
    rw[hsp]
    simp;omega
theorem aP6:OR=some true:=by kernel_rfl
theorem aP7 (s:p7):MD s=some true:=by
  unfold MD;rw[aP6,aSE,aSD pC];by_cases h:decide ((4000:Int)<(s.length:Int))=true
  .rw[aSB h]
  rw[aSD h]
  have hs:s.length≤1000000000:=by simp at h;omega
  obtain⟨h1,h2,h3⟩:=aP5 hs;rw[h1,h2,aSE,aSE];generalize SQ s (BU s)=q at h3;have hd:=aOC (q.1,(q.2.1,(q.2.2.1,()))) h3;rw[hd,aSB (fun _=>Option.isSome_some)];simp [val]
end
end Go.Proofs.YtcpbaddnmpeipaaGreatDoor
namespace Go.Proofs.YtcpbaddnmpeipaaGreatDoor
open Go.ChangeShapes Go.WideShapes Go.ChangeAt Go.RowKit
section
variable {H:Type}{enc:TypeId×pN->H}{P:Program}
theorem aP8 (hl:laidOutB P=true) {W W':pM}(hb:Below W.heap.size W W'):
  ∀{ts:List TypeId}{vs:pI}{ds:List (DataW H)}{ps:List MemPlace},(∀t∈ts,P.readableRec t=true/\t<P.types.size)->
  DataW.TrodAll enc P W 0 (fun _=>true) true ts vs ds ps->(∀x∈ps,x.block<W.heap.size)->
  DataW.TrodAll enc P W' 0 (fun b=>decide (b<W.heap.size)) true ts vs ds ps:=by
 intro ts
 induction ts with
 |nil=>
  intro vs ds ps _ h _;obtain⟨rfl,rfl,rfl⟩:=trodAll_nil h;exact trodAll_mk0
 |cons t ts ih=>
  intro vs ds ps hr h hlt;obtain⟨v,vs',d,ds',p,q,rfl,rfl,rfl,h0,r0⟩:=trodAll_cons h;exact trodAll_cons_mk (Below.trod hl (hr t pD).1 (hr t pD).2 h0 hb (fun x hx=>hlt x (by simp [hx]))) (ih (fun t' ht'=>hr t' (by simp [ht'])) r0 (fun x hx=>hlt x (by simp [hx])))
theorem aP9 {f:Func}{s:ChangeSpec}{W W':pM}{args:Array pN}{ds gs:List (DataW H)}{before:List MemPlace}{tb:TypeId}
  (hl:laidOutB P=true) (hr: ∀t∈f.params.toList,P.readableRec t=true/\t<P.types.size)
  (hW:DataW.Whole enc P f.params.toList s.vars false W args.toList ds gs before) (hv:s.vars=[])
  (hfn:s.fn H ds={results:=[.lit (.bool true)],args:=ds}) (hrt:f.resultTypes= #[tb]) (htb:P.underlying tb=some .bool)
  (hb:Below W.heap.size W W'):s.post enc P f false true false false W args (.bool true) W':=by
 have hW':=hW;obtain⟨p,q,hA,hV,rfl,hfz,hnd⟩:=hW;rw[hv] at hV;obtain⟨rfl,rfl⟩:=trodVars_none hV;have hlt: ∀x∈p,x.block<W.heap.size:=fun x hx=>by simpa using hW'.lt x (by simp [hx])
 refine⟨ds,[],p++[],[],p,[],hW',?_,?_,?_,hb.frame _,fun h=>by cases h⟩
 .rw[List.append_nil,hfn,hrt];exact trodAll_mk1 (shut_bool htb true)
 .rw[List.append_nil,hfn];exact aP8 hl hb hr hA hlt
 rw[hv,List.append_nil,hfn];rfl
end
section
variable {H:Type}{enc:TypeId×pN->H}
theorem aQa {C:Checked}{f:FuncId}{fn:Func}{s:ChangeSpec}{tb:TypeId}{FN:List (String×DataW Unit)}(own:ownKnob C.prog.godebug=none) {os:Os}(started:os.Started) (F:Stop.Interp)
  (noInit:C.prog.inits.idxOf? f=none) (hfn:C.prog.funcs[f]? =some fn)
  (hl:laidOutB C.prog=true) (hr: ∀t∈fn.params.toList,C.prog.readableRec t=true/\t<C.prog.types.size) (hv:s.vars=[])
  (hrt:fn.resultTypes= #[tb]) (htb:C.prog.underlying tb=some .bool)
  (hspec: ∀(ds:List (DataW H)) (W:pM) (args:Array pN) ps,DataW.TrodAll enc C.prog W 0 (fun _=>true) true fn.params.toList args.toList ds ps->s.fn H ds={results:=[.lit (.bool true)],args:=ds})
  (witness: ∃(w:pM) (tape:Tape) (i:Input),w.os=os/\(w.forCall tape i).Shaped C.prog/\i.vars=[]/\Input.okWide C.prog (w.forCall tape i) .any w.heap.size f i/\
   (OpenSpec.ofChange s).preRow enc C.prog fn [] false FN (w.forCall tape i).memory i.args/\Assume.holds {} C.prog (lone (Frame.enter C.prog f i.args .normal) [] (w.forCall tape i)))
  (contract: ∀(W:pM) (base:Nat) (args:Array pN) (ds:List (DataW H)) (ps:List MemPlace),
   (∀(j:Nat) t v,fn.params[j]? =some t->args[j]? =some v->Value.okWide C.prog W .any base t v)->
   DataW.TrodAll enc C.prog W 0 (fun _=>true) true fn.params.toList args.toList ds ps->
   (∀x∈ps,x.block<W.heap.size)->laidMetH C.prog FN W->W.ShapedOpen C.prog->
   Calls C.prog f args W fun e W'=>e= .returned (.bool true)/\Below W.heap.size W W'):
  ReturnsInHanded {} C os f .any ((OpenSpec.ofChange s).preRow enc C.prog fn [] false FN) (s.post enc C.prog fn false true false false):=by
 refine returnsInHanded_of_row (C:=C) (s:=OpenSpec.ofChange s) (F:=F) own started noInit hfn witness ?_;intro W base args ds gs before hval hW _ _ hsz hL hsh _;have hW':=hW;obtain⟨p,q,hA,hV,rfl,hfz,hnd⟩:=hW;have hV':DataW.TrodVars enc C.prog W (fun _=>true) s.vars gs q:=hV;rw[hv] at hV';obtain⟨rfl,rfl⟩:=trodVars_none hV';have hlt: ∀x∈p,x.block<W.heap.size:=fun x hx=>by simpa using hW'.lt x (by simp [hx])
 refine(contract W base args ds p hval hA hlt hL hsh).mono fun e W' ⟨he,hb⟩=>?_;subst he;exact⟨_,rfl,aP9 hl hr hW' hv (hspec ds W args p hA) hrt htb hb⟩
end
end Go.Proofs.YtcpbaddnmpeipaaGreatDoor
namespace Go.Proofs.YtcpbaddnmpeipaaGreatDoor
open Go.Shelf Go.Lib
open Vc
theorem aQb:(Rows.laid_unicode_utf8_first:DataW Unit)=Lib.firstData:=by kernel_rfl
theorem aQc:(Rows.laid_unicode_utf8_acceptRanges:DataW Unit)=Lib.acceptData:=by kernel_rfl
theorem aQd {P:Program}{w:pM}{g:Nat}{t:TypeId}{k:IntKind}{zero:Array pN}(h:w.ShapedOpen P) (hg:g<P.globals.size)
  (h0:((begin P (fun _ _=>0) default).world.heap[g]?).bind Obj.row? =some (zero,t)) (hz:zero.size=1)
  (hb:P.buildable t=true) (hc:P.cellTypes P.depth t=some [t]) (hu:P.underlying t=some (.int k)): ∃m,w.cell? ⟨g,0,none⟩=some (.int k m):=by
 obtain⟨cs,hh,hs,hr⟩:=h.1 g zero t hg h0;obtain⟨ts,hts,_,hall⟩:=hr hb;rw[hc] at hts;cases hts;have h1:0<cs.size:=by omega
 obtain⟨u,hu',hok⟩:=hall 0 cs[0] (by simp [h1]);have:u=t:=by simpa using hu'.symm
 subst this;have hcell:w.cell? ⟨g,0,none⟩=some cs[0]:=by simp [World.cell?,hh,h1]
 rw[hcell];unfold Cell.ok at hok;rw[hu] at hok;cases hv:cs[0]<;>rw[hv] at hok<;>simp at hok
 rename_i k' m;exact⟨m,by rw[hok.1]⟩
theorem aQe {W:pM}(hsh:W.ShapedOpen Tryz.prog): ∃m,W.cell? ⟨0,0,none⟩=some (.int .i64 m):=
 aQd (t:=3) (zero:= #[.int .i64 0]) hsh (aTn pP) pP rfl pP pP Tryz.underlying3
def aQf:Ren:=⟨fun x=>x,fun x=>if x=5 then 5 else if x=119 then 218 else if x=138 then 220 else 221,fun x=>if x=3 then 1 else 2⟩
theorem a9g {w:pM}{a:Addr}{v:pN}(h:w.cell? a=some v):a.block<w.heap.size:=by
 unfold World.cell? at h;split at h
 .rename_i hb;exact(aS6.1 hb).1
 cases h
theorem aQg {W:pM}(hL:laidMet Tryz.prog Rows.blocksParseRow.laid W) (hsh:W.ShapedOpen Tryz.prog):EH W:=by
 obtain⟨m,hm⟩:=aQe hsh;have h1:=laidMet.reads hL (.head _);have h2:=laidMet.reads hL (.tail _ (.head _));rw[aQb] at h2;rw[aQc] at h1;have hU:Lib.Utf8Tabs 1 2 W:=utf8Tabs_of_readsT (ρ:=aQf) ⟨pP,pP,pP,pP⟩ ⟨pP,pP,pP,pP,pP,pP,pP⟩ h2 h1;refine⟨?_,hU,⟨m,hm⟩,fun _ h=>by cases h⟩;have b0:0<W.heap.size:=a9g hm;have b1:1<W.heap.size:=a9g (hU.1 0 pC);have b2:2<W.heap.size:=a9g (hU.2 0 pC).1;show 3<=W.heap.size;omega
end Go.Proofs.YtcpbaddnmpeipaaGreatDoor
namespace Go.Proofs.YtcpbaddnmpeipaaGreatDoor
open Vc
open Go.ChangeShapes Go.WideShapes Go.ChangeAt Go.RowKit
def gh1 (w:pM):Gh:=⟨fun b _=>b<w.heap.size,fun _=>none,fun _ _=>none⟩
theorem aQi {W:pM}(hT:EH W) (s:ByteArray):
  Calls Tryz.prog 4 #[.string s] W fun e W'=>e= .returned (.bool true)/\Below W.heap.size W W':=by
 have hC:a8B (S0 s.data.toList) XA=some (OS s.data.toList):=aNH _;have ht:=aP7 s.data.toList;refine(aNJ.1.2 (gh1 W) W (S0 s.data.toList) [.string s] [] _ ⟨(fun i b h=>by cases h),(fun i j bi bj b o _ h=>by cases h),fun b o h=>h,hT,(fun i blk b o h=>by cases h)⟩ ⟨.string s,[],rfl,?_,rfl⟩ hC ?_).mono fun e W' ⟨v,g',he,r⟩=>?_
 .refine⟨?_,trivial⟩;refine .inr ⟨rfl,?_⟩;show [Value.string s]=[Value.string ⟨s.data.toList.toArray⟩];rw[aUb]
 .intro p hp;have:p=((MD s.data.toList).isSome=true):=by simpa[OS] using hp
  rw[this,ht];rfl
 have hv:v= .bool true:=by
  have h1:=r.ret;unfold OS at h1;rw[ht] at h1;exact vB h1.1
 subst hv;exact⟨he,⟨r.fr.os,r.fr.tape,r.fr.output,r.fr.size,fun k hk=>r.fr.blk k hk (fun o ⟨i,blk,hi,_⟩=>by cases hi)⟩⟩
end Go.Proofs.YtcpbaddnmpeipaaGreatDoor
namespace Go.Proofs.YtcpbaddnmpeipaaGreatDoor
open Go.ChangeShapes Go.WideShapes Go.ChangeAt Go.RowKit Go.Lib
open Go.ChangeMaps (open_string shut_string)
namespace blocksSplitLaw
theorem own:ownKnob Tryz.prog.godebug=none:=by kernel_rfl
theorem FN:laidOutB Tryz.prog=true:=by kernel_rfl
theorem BU:Tryz.prog.readableRec 9=true:=by kernel_rfl
theorem ltS:9<Tryz.prog.types.size:=aTn pP
noncomputable def Y4 (os:Os):pM:=
 let w0:=World.holding Tryz.prog os ⟨#[],#[],[]⟩
 let uJ (h:Array Obj) (g:Nat) (cs:Array pN):Array Obj:=h.modify g fun
  | .cells _ t frozen=> .cells cs t frozen
  |o=>o
 let h1:=uJ w0.heap 1 (Lib.firstTab.map fun z=>Value.int .u8 z).toArray
 let h2:=uJ h1 2 ((List.range 16).flatMap fun i=>[Value.int .u8 (Lib.accLo i),Value.int .u8 (Lib.accHi i)]).toArray
 {w0 with heap:=h2}
theorem aQk (os:Os) (args:Array pN):laidMet Tryz.prog Rows.blocksSplitRow.laid ((Y4 os).forCall (fun _ _=>0) ⟨#[],args,[]⟩).memory:=
 (LaidIn.of_run [2,1] 8 pP pP pP pP:LaidIn Tryz.prog _ Rows.blocksSplitRow.laid _).met
theorem aQl (os:Os) {H:Type}(enc:TypeId×pN->H):
  (OpenSpec.ofChange Rows.blocksSplitSpec).preRow enc Tryz.prog Tryz.f4 [] false Rows.blocksSplitRow.laid ((Y4 os).forCall (fun _ _=>0) ⟨#[],#[.string ⟨#[]⟩],[]⟩).memory #[.string ⟨#[]⟩]:=by
 have hw:(DataW.whole enc Tryz.prog ((Y4 os).forCall (fun _ _=>0) ⟨#[],#[.string ⟨#[]⟩],[]⟩).memory Tryz.f4.params.toList (OpenSpec.ofChange Rows.blocksSplitSpec).vars false #[Value.string ⟨#[]⟩].toList 8).map (fun x=>(x.1,x.2.1))=
   some ([.lit (.string [])],[]):=by kernel_rfl
 obtain⟨⟨x1,x2,x3⟩,hx,hx1⟩:=aSS.1 hw;simp only[aS7] at hx1;obtain⟨rfl,rfl⟩:=hx1;exact OpenSpec.preRow_of_cond 8 hx pP (fun k hk=>by cases hk) pP (aQk os _)
theorem lifted (os:Os) (started:os.Started) (H:Type) (enc:TypeId×pN->H) (F:Stop.Interp):
  ReturnsInHanded {} Tryz.checked os 4 .any ((OpenSpec.ofChange Rows.blocksSplitSpec).preRow enc Tryz.prog Tryz.f4 [] false Rows.blocksSplitRow.laid) (Rows.blocksSplitSpec.post enc Tryz.prog Tryz.f4 false true false false):=by
 refine aQa (C:=Tryz.checked) (tb:=4) own started F pP Tryz.func4 FN ?_ rfl rfl Tryz.underlying4 ?_
  (witness_row_atRef (enc:=enc) (C:=Tryz.checked) false (Y4 os) #[.string ⟨#[]⟩] rfl pP pP pP (aQl os enc)) ?_
 .intro t ht;rw[Tryz.params4] at ht;simp only[aSP,aT2,or_false] at ht;rcases ht with rfl
  exact⟨BU,ltS⟩
 .intro ds W args ps h;have h':DataW.TrodAll enc Tryz.prog W 0 (fun _=>true) true Tryz.f4.params.toList args.toList ds ps:=h;rw[Tryz.params4] at h';obtain⟨v0,d0,rfl,rfl,h0⟩:=trodAll_one h';rfl
 intro W base args ds ps hval0 hA0 hlt hL hsh;have hval: ∀(j:Nat) t v,Tryz.f4.params[j]? =some t->args[j]? =some v->Value.okWide Tryz.prog W .any base t v:=hval0;have hA:DataW.TrodAll enc Tryz.prog W 0 (fun _=>true) true Tryz.f4.params.toList args.toList ds ps:=hA0;rw[Tryz.params4] at hA hval;obtain⟨v0,d0,rfl,rfl,h0⟩:=trodAll_one hA;obtain⟨s,rfl,rfl,rfl,ws⟩:=open_string Tryz.underlying9 (hval 0 9 v0 rfl rfl) h0;exact aQi (aQg hL hsh) s
end blocksSplitLaw
theorem aIA:Rows.BlocksSplitSaid:=
 OpenClaim.holds_of_wide 4 Tryz.f4 rfl rfl rfl rfl rfl rfl rfl ⟨rfl,rfl,rfl,rfl,rfl⟩ rfl rfl rfl rfl rfl pP Tryz.func4 pP
  (aTn pP) (by unfold Func.isWrapper;first|(rw[aSB (by decide+kernel)];kernel_rfl) |(rw[aSD (by decide+kernel)];exact⟨rfl,rfl⟩))
  (fun os started H enc _=>by rw[OpenClaim.pre_eq_preRow];exact blocksSplitLaw.lifted os started H enc (fun _ _ _=>0))
#print axioms aIA
end Go.Proofs.YtcpbaddnmpeipaaGreatDoor
namespace Go.Proofs.YtcpbaddnmpeipaaGreatDoor
open Go
theorem blocksSplitCard_holds:Rows.BlocksSplitCardSaid:=
 Claim7.holds_tied_plain_at .later [] [.data,.pinned] true (true, "5d87d424bdcb739eb2e592d3312f44549b2e7d9aae6f0497c2ce86444ec20ce9") false
  aIA (fun _ h=>by cases h) pP (fun _ h=>by cases h) blocksSplit_row_tie rfl ⟨rfl,rfl⟩ pP rfl
  (fun f fn hf hfn=>by
   obtain rfl:f=4:=aSG ((show Tryz.prog.funcNamed "calque/calquelaw39.BlocksSplit" =some 4 by kernel_rfl).symm.trans hf) |>.symm
   obtain rfl:fn=Tryz.f4:=(aSG (Tryz.func4.symm.trans hfn)).symm;exact⟨pP,fun j t ht=>by
    rw[Tryz.params4] at ht;have hm:t∈[9]:=by simpa using Array.mem_of_getElem? ht
    have hall:([9].all fun u=> !Tryz.prog.wantsStandIn u)=true:=by kernel_rfl
    exact(show Tryz.prog.wantsStandIn t=false by simpa using aUi.1 hall t hm)⟩)
  pP
#print axioms blocksSplitCard_holds
end Go.Proofs.YtcpbaddnmpeipaaGreatDoor
