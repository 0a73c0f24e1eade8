/- BlocksParse returns true for every body: the tied card of the statement, over the row's statement. No condition. -/
/- Packed by a program of mine (wip/tools/pack.py): the same texts with short names and few blanks. -/
import Derived.Deep.CondSized
import Derived.Deep.DeepHandedRow
import Derived.Deep.DeepWitnessRowRef
import Derived.Lib.LaidIn
import Derived.Lib.LaidU8T
import Derived.OpenShut
import Derived.ProofKit
import Derived.SevenTiedAt
import Derived.SizedLaws
import Derived.Test.YtcpbaddnmpeipaaGreatDoorCards
import Derived.Test.YtcpbaddnmpeipaaGreatDoorRows
import Derived.Test.YtcpbaddnmpeipaaGreatDoorTie
import Derived.WalkKit
import Derived.Test.YtcpbaddnmpeipaaGreatDoorJ04
set_option linter.defProp false
set_option linter.unusedVariables false
set_option linter.unusedSimpArgs false
set_option linter.unusedSectionVars false
set_option maxRecDepth 100000
set_option maxHeartbeats 4000000
namespace Go.Proofs.YtcpbaddnmpeipaaGreatDoor
open Vc
noncomputable section
def a8S {l:p9}(h:B7 l=true):l.length<=20:=(OZ h).1
def XJ {l:List tM}(h:zF l=true):l.length<=20:=(P0 h).1
def aHE {x:p8}(h:sS x=true):rZ x:=by have:=FJ h;unfold rZ;omega
def aOP {l:List tM}{n:p8}(h:zF l=true):sS (ED l n).1=true:=by
 unfold ED;cases hk:xZ l n with
 |none=>rfl
 |some k=>
  have hlt:=RX hk;show sS (l.getD k ([],[],())).2.1=true;rw[aSM,aSu hlt];exact((P0 h).2.1 _ (aTq hlt)).2.2
def aHF {s:St}(h:uV s):sS (tH s)=true:=by
 unfold tH;split
 .have hc:=OZ h.cm;cases hl:s.cm.getLast? with
  |none=>rw[List.getLastD_eq_getLast?,hl];rfl
  |some x=>rw[List.getLastD_eq_getLast?,hl];exact hc.2 x (List.mem_of_getLast? hl)
 split
 .exact h.sc
 split
 .exact h.tg
 exact aOP h.fd
def aHG {l:List Wd}(hl:l.length<=1000000000): ∀(n i:Nat) (s:p8),i+n=l.length->s.length+((r6 l).flatten.length- (r6 (l.take i)).flatten.length)<=9000000000000000000->
  rG (OJ l) (s,(i:Int))=some (s++(r6 (l.drop i)).flatten)
 |0,i,s,hi,_=>by
  have:i=l.length:=by omega
  subst this;rw[aTc,tI];unfold OJ;dsimp only;rw[aSl (xC _)];show some s=some (s++[]);rw[List.append_nil]
 |n+1,i,s,hi,hb=>by
  have hlt:i<l.length:=by omega
  have h1:(r6 (l.take (i+1))).flatten=(r6 (l.take i)).flatten++l[i].2.1:=by
   unfold r6;rw[List.take_succ_eq_append_getElem hlt,List.map_append,List.flatten_append];simp
  have h2:(r6 (l.drop i)).flatten=l[i].2.1++(r6 (l.drop (i+1))).flatten:=by
   unfold r6;rw[aSK hlt,aTC,aUi]
  have h3:(r6 (l.take (i+1))).flatten.length<=(r6 l).flatten.length:=by
   have:r6 l=r6 (l.take (i+1))++r6 (l.drop (i+1)):=by unfold r6;rw[<-List.map_append,aTv]
   rw[this,List.flatten_append,aSp];omega
  rw[h1,aSp] at h3;rw[tI];generalize hF:rG (OJ l)=F;unfold OJ;dsimp only;rw[aSj (tX hlt),aSj (sU hlt),FM hlt,aSj (by rw[aSp];omega),aSj (uB pC),aSm];dsimp only;rw[<-hF,show ((i:Int)+1)=((i+1:Nat):Int) by omega,aHG hl n (i+1) _ pC (by rw[h1,aSp,aSp];omega),h2,aSv]
def XK {l:List Wd}{s:p8}(hl:l.length<=1000000000) (hs:s.length<=4000) (ht:(r6 l).flatten.length<=1000000000):
  E8 s l=some (s++(r6 l).flatten,sS (s++(r6 l).flatten)):=by
 have hf:rZ (s++(r6 l).flatten):=by unfold rZ;rw[aSp];omega
 unfold E8;rw[show ((0:Int))=((0:Nat):Int) from rfl,aHG hl l.length 0 s pC pC];unfold sR;rw[aSm,aTr,(XB _ hf).1,aSm,(XB _ hf).2]
abbrev St.cont5 (s:St) (e:Int):p8×p8×p9×(List qG)×Int:=(s.sc,s.tg,s.cm,s.fd,e)
def aHH {α:Type}{l:List α}:l.take (l.length-1)=l.dropLast:=(List.dropLast_eq_take).symm
def aOQ {s:St}(h:uV s) (nx:Int) {l:List Wd}(hl:l.length<=1000000000) (ht:(r6 l).flatten.length<=1000000000): ∃v,JE s.tup l=some v/\
  v.2.2.2.2=(rU s nx (.cont (r6 l).flatten)).1/\((rU s nx (.cont (r6 l).flatten)).1=0->v=(uC s (tH s++(r6 l).flatten)).cont5 0):=by
 have hcl:=a8S h.cm;have hct:=FJ (aHF h);unfold JE;dsimp only[St.tup,St.x];show∃v,_/\_=(if s.op=false\/s.last=[] then((3:Int),s) else if sS (tH s++(r6 l).flatten)=true then(0,uC s (tH s++(r6 l).flatten)) else(3,s)).1/\_;by_cases h0:s.op=false\/s.last=[]
 .rw[aSj (by rcases h0 with h0|h0<;>simp [h0]),aSj h0]
  refine⟨_,rfl,rfl,fun h1=>?_⟩;have:rU s nx (.cont (r6 l).flatten)=(3,s):=aSj h0;rw[this] at h1;cases h1
 have hd:rU s nx (.cont (r6 l).flatten)=if sS (tH s++(r6 l).flatten)=true then(0,uC s (tH s++(r6 l).flatten)) else(3,s):=aSl h0;rw[hd,aSl h0];rw[not_or] at h0;rw[aSl (by
  have h1:s.op=true:=by simpa using h0.1
  rw[h1];simpa using h0.2)]
 have fin: ∀(A:Option (Bool×p8×p8×p9×(List qG))),A=some (sS (tH s++(r6 l).flatten),(uC s (tH s++(r6 l).flatten)).sc,(uC s (tH s++(r6 l).flatten)).tg,(uC s (tH s++(r6 l).flatten)).cm,(uC s (tH s++(r6 l).flatten)).fd)->
   ∃v,(sR A fun(O,Z,aA,aB,aC)=>if (!O)=true then some ((Z,aA,aB,aC,(3:Int))) else some ((Z,aA,aB,aC,(0:Int))))=some v/\
    v.2.2.2.2=(if sS (tH s++(r6 l).flatten)=true then((0:Int),uC s (tH s++(r6 l).flatten)) else(3,s)).1/\((if sS (tH s++(r6 l).flatten)=true then((0:Int),uC s (tH s++(r6 l).flatten)) else(3,s)).1=0->v=(uC s (tH s++(r6 l).flatten)).cont5 0):=by
  intro A hA;rw[hA];unfold sR;rw[aSm];dsimp only;cases sS (tH s++(r6 l).flatten) with
  |true=>exact⟨_,rfl,rfl,fun _=>rfl⟩
  |false=>exact⟨_,rfl,rfl,fun h1=>by cases h1⟩
 refine fin _ ?_;rcases h.lst with h1|h1|h1|h1|h1
 .exact absurd h1 h0.2
 .have hne:=h.lcm h1;have hpos:=aTO.2 hne;have hcur:tH s=s.cm.getLastD []:=aSj h1;have hput:uC s (tH s++(r6 l).flatten)={s with cm:=s.cm.dropLast++[tH s++(r6 l).flatten]}:=aSj h1
  have hcur2:qH .str s.cm (((s.cm.length-1:Nat):Int))=tH s:=by
   rw[AD pC,hcur,List.getLastD_eq_getLast?,List.getLast?_eq_getElem?,aSu pC];rfl
  rw[show decide (s.last=([99,111,109,109,101,110,116]:p8))=true from aSN h1,aSj rfl,aSj (by unfold pY;omega),aSj pC];rw[show ((s.cm.length:Int)-1)=((s.cm.length-1:Nat):Int) by omega,hcur2,XK hl hct ht,aSm,OT,aHH];have hdl:s.cm.dropLast.length=s.cm.length-1:=List.length_dropLast;rw[aSj pC,List.nil_append,aSj (by rw[hdl];simp only[aSG];omega),aSj (by rw[hdl];simp only[aSq,aSG];omega),hput]
 .have hcur:tH s=s.sc:=by unfold tH;rw[aSl (by rw[h1];decide),aSj h1]
  have hput:uC s (tH s++(r6 l).flatten)={s with sc:=tH s++(r6 l).flatten}:=by unfold uC;rw[aSl (by rw[h1];decide),aSj h1]
  rw[show decide (s.last=([99,111,109,109,101,110,116]:p8))=false from decide_eq_false (by rw[h1];decide),aSl pE,show decide (s.last=([115,111,117,114,99,101]:p8))=true from aSN h1,aSj rfl,<-hcur,XK hl hct ht,aSm,hput]
 .have hcur:tH s=s.tg:=by unfold tH;rw[aSl (by rw[h1];decide),aSl (by rw[h1];decide),aSj h1]
  have hput:uC s (tH s++(r6 l).flatten)={s with tg:=tH s++(r6 l).flatten}:=by unfold uC;rw[aSl (by rw[h1];decide),aSl (by rw[h1];decide),aSj h1]
  rw[show decide (s.last=([99,111,109,109,101,110,116]:p8))=false from decide_eq_false (by rw[h1];decide),aSl pE,show decide (s.last=([115,111,117,114,99,101]:p8))=false from decide_eq_false (by rw[h1];decide),aSl pE,show decide (s.last=([116,97,114,103,101,116]:p8))=true from aSN h1,aSj rfl,<-hcur,XK hl hct ht,aSm,hput]
 have hcur:tH s=(ED s.fd s.name).1:=by unfold tH;rw[aSl (by rw[h1];decide),aSl (by rw[h1];decide),aSl (by rw[h1];decide)]
 have hput:uC s (tH s++(r6 l).flatten)={s with fd:=xE s.fd s.name (tH s++(r6 l).flatten)}:=by unfold uC;rw[aSl (by rw[h1];decide),aSl (by rw[h1];decide),aSl (by rw[h1];decide)]
 have hfd:=XJ h.fd;rw[show decide (s.last=([99,111,109,109,101,110,116]:p8))=false from decide_eq_false (by rw[h1];decide),aSl pE,show decide (s.last=([115,111,117,114,99,101]:p8))=false from decide_eq_false (by rw[h1];decide),aSl pE,show decide (s.last=([116,97,114,103,101,116]:p8))=false from decide_eq_false (by rw[h1];decide),aSl pE,show decide (s.last=([102,105,101,108,100]:p8))=true from aSN h1,aSj rfl,aGR _ _ (by unfold rZ;omega),aSm,<-hcur,XK hl hct ht,aSm,aGW _ _ _ (by unfold rZ;omega),aSm,hput]
end
noncomputable section
def wR {α:Type}(A:Option α) (err:α->Int) (fl:St->α) (r:Int×St):Prop:= ∃v,A=some v/\err v=r.1/\(r.1=0->v=fl r.2)
def wS {α:Type}{A:Option α}{err:α->Int}{fl:St->α}{e:Int}{s:St}{v:α}(h:A=some v) (he:err v=e) (hne:e≠0):wR A err fl (e,s):=⟨v,h,he,fun h0=>absurd h0 hne⟩
def EF {α:Type}{A:Option α}{err:α->Int}{fl:St->α}{s:St}{v:α}(h:A=some v) (he:err v=0) (hv:v=fl s):wR A err fl (0,s):=⟨v,h,he,fun _=>hv⟩
abbrev XL:=p8×p8×p8×p8×p9×p9×Int×(List qG)×Bool×Bool×Bool×Bool×Bool×p8×p8×Int
abbrev XL.err (r:XL):Int:=r.2.2.2.2.2.2.2.2.2.2.2.2.2.2.2
abbrev St.beg16 (s:St):XL:=(s.c.1,s.id,s.sc,s.tg,s.cm,s.fg,s.sv,s.fd,s.op,s.bs,s.bt,s.bh,s.bf,s.last,s.name,0)
def S9 {α:Type}{l:List α}:decide ((l.length:Int)=0)=decide (l=[]):=by cases l<;>simp<;>omega
def aOR {s:St}(h:uV s) (nx:Int) (hd:Bool) {t:p8}(ht:sS t=true):wR (J5 s.tup (if hd=true then wQ else yH) t) XL.err St.beg16 (rU s nx (.beg hd t)):=by
 have hes:=h.es.len;unfold J5;dsimp only[St.tup,St.x];have hk:decide ((if hd=true then wQ else yH)=([99,97,116,97,108,111,103]:p8))=hd:=by cases hd<;>rfl
 rw[S9,hk];cases hd with
 |true=>
  show wR _ _ _ (if s.op=true\/s.ends≠[] then((3:Int),s) else if yE t=true then(0,FN s (t,s.c.2) t) else(3,s));by_cases h0:s.op=true\/s.ends≠[]
  .rw[aSj h0,aSj (by rcases h0 with h0|h0<;>simp [h0])]
   exact wS rfl rfl pD
  .rw[aSl h0];simp only[not_or,Decidable.not_not] at h0;have h1:s.op=false:=by simpa using h0.1
   rw[aSl (by rw[h1,h0.2];simp),aSj (by rw[h0.2];rfl),aNt _ (aHE ht),aSm];cases htg:yE t with
   |true=>exact EF rfl rfl rfl
   |false=>exact wS rfl rfl pD
 |false=>
  show wR _ _ _ (if s.op=true\/s.ends=[] then((3:Int),s) else if t=[]\/200<t.length then(3,s) else if (s.c.2.2.2.1.any fun y=>decide (y.1=t))=true then(9,s) else if 1000<=s.c.2.2.2.1.length then(6,s) else(0,FN s s.c t));by_cases h0:s.op=true\/s.ends=[]
  .rw[aSj h0,aSj (by rcases h0 with h0|h0<;>simp [h0])]
   exact wS rfl rfl pD
  rw[aSl h0];rw[not_or] at h0;have h1:s.op=false:=by simpa using h0.1
  rw[aSl (by rw[h1,decide_eq_false h0.2];simp),aSl (by rw[decide_eq_false h0.2];simp)];by_cases h2:t=[]\/200<t.length
  .rw[aSj h2,aSj (by rcases h2 with h2|h2<;>simp [h2]<;>omega)]
   exact wS rfl rfl pD
  rw[aSl h2];rw[not_or] at h2;rw[aSl (by rw[decide_eq_false h2.1,decide_eq_false pC];simp),aOd s.c t pC,aSm];have hf:(a8G s.c.2.2.2.1 t).2=(s.c.2.2.2.1.any fun y=>decide (y.1=t)):=by
   unfold a8G;rw[<-a8q];cases s.c.2.2.2.1.findIdx? fun y=>decide (y.1=t)<;>rfl
  rw[hf];by_cases h3:(s.c.2.2.2.1.any fun y=>decide (y.1=t))=true
  .rw[aSj h3,aSj h3];exact wS rfl rfl pD
  rw[aSl h3,aSl h3];by_cases h4:1000<=s.c.2.2.2.1.length
  .rw[aSj h4,aSj pF];exact wS rfl rfl pD
  rw[aSl h4,aSl pF];exact EF rfl rfl rfl
abbrev XM:=p9×(List qG)×(List rW)×pI×p8×p8×p8×p9×p9×Int×(List qG)×Bool×Bool×Bool×Bool×Bool×p8×p8×Int
abbrev XM.err (r:XM):Int:=r.2.2.2.2.2.2.2.2.2.2.2.2.2.2.2.2.2.2
abbrev St.end19 (s:St):XM:=(s.c.2.1,s.c.2.2.1,s.c.2.2.2.1,s.ends,s.id,s.sc,s.tg,s.cm,s.fg,s.sv,s.fd,s.op,s.bs,s.bt,s.bh,s.bf,s.last,s.name,0)
def aHI {s:St}(h:uV s):s.ends.length<=1001:=by
 have:=h.es.len;by_cases he:s.ends=[]
 .rw[he];exact aTg _
 rw[h.en he];omega
def aOS {s:St}(h:uV s) (next:Int):wR (IQ s.tup next) XM.err St.end19 (rU s next .fin):=by
 have hes:=h.es.len;have hel:=aHI h;unfold IQ;dsimp only[St.tup,St.x];show wR _ _ _ (if s.op=false then((3:Int),s) else(0,JQ (if s.ends=[] then(s.c.1,(s.cm,(s.fd,s.c.2.2.2))) else(s.c.1,(s.c.2.1,(s.c.2.2.1,(s.c.2.2.2.1++[s.x],()))))) (s.ends++[next])))
 by_cases h0:s.op=false
 .rw[aSj h0,aSj (by rw[h0];rfl)];exact wS rfl rfl pD
 have h1:s.op=true:=by simpa using h0
 rw[aSl h0,aSl (by rw[h1];simp),S9];simp only[List.nil_append];by_cases he:s.ends=[]
 .rw[aSj (aSN he),aSj he,aSj (by simp only[aSG];omega),aSj (by simp only[aSq,aSG];omega)];exact EF rfl rfl rfl
 rw[aSl (by simpa using he),aSl he,aSj (by simp only[aSG];omega),aSj (by simp only[aSq,aSG];omega),aSj (by simp only[aSG];omega),aSj (by simp only[aSq,aSG];omega)];exact EF rfl rfl rfl
abbrev XN:=p8×p8×p9×p9×Int×(List qG)×Bool×Bool×Bool×Bool×p8×p8×Int
abbrev XN.err (r:XN):Int:=r.2.2.2.2.2.2.2.2.2.2.2.2
abbrev St.in13 (s:St):XN:=(s.sc,s.tg,s.cm,s.fg,s.sv,s.fd,s.bs,s.bt,s.bh,s.bf,s.last,s.name,0)
inductive HK:p8->List Wd->vZ->Prop where
 |com (w:Wd) (t:p8) (b:Bool):HK uU [w,(b,t,())] (.com t)
 |src (w:Wd) (t:p8) (b:Bool):HK tR [w,(b,t,())] (.src t)
 |tgt (w:Wd) (t:p8) (b:Bool):HK tS [w,(b,t,())] (.tgt t)
 |sta (w:Wd) (t:p8) (b:Bool):HK vY [w,(b,t,())] (.sta (xD t))
 |fld (w:Wd) (n v:p8) (b d:Bool):HK vQ [w,(b,n,()),(d,v,())] (.fld n v)
 |flg (w:Wd) (r:List Wd):HK vJ (w::r) (.flg (r6 r))
def aOT {s:St}(h:uV s) (nx:Int) {k:p8}{l:List Wd}{c:vZ}(hi:HK k l c) (hl:l.length<=1000000000):wR (J7 s.tup k l) XN.err St.in13 (rU s nx c):=by
 have hcl:=a8S h.cm;have hfl:=XJ h.fd;unfold J7;dsimp only[St.tup,St.x];rw[S9];have gate: ∀(q:Bool),(((!s.op)||((decide (s.ends=[])&&q)))=true)=(s.op=false\/(s.ends=[]/\q=true)):=fun q=>by
  cases s.op<;>cases q<;>simp
 cases hi with
 |com w t b=>
  show wR _ _ _ (if s.op=false then((3:Int),s) else if 20<=s.cm.length then(6,s) else(0,{s with cm:=s.cm++[t],last:=uU,name:=[]}))
  rw[show decide (uU=([99,111,109,109,101,110,116]:p8))=true from rfl];by_cases h0:s.op=false
  .rw[aSj h0,aSj (by rw[h0];rfl)];exact wS rfl rfl pD
  .have h1:s.op=true:=by simpa using h0
   rw[aSl h0,aSl (by rw[h1];simp),aSj rfl];by_cases h2:20<=s.cm.length
   .rw[aSj h2,aSj pF];exact wS rfl rfl pD
   .rw[aSl h2,aSl pF,aSj (by simp only[aSG];omega),aSj ⟨pD,by simp⟩,List.nil_append,aSj (by simp only[aSq,aSG];omega)];exact EF rfl rfl rfl
 |src w t b=>
  show wR _ _ _ (if s.op=false\/s.ends=[] then((3:Int),s) else if s.bs=true then(9,s) else(0,{s with sc:=t,bs:=true,last:=tR,name:=[]}))
  by_cases h0:s.op=false\/s.ends=[]
  .rw[aSj h0,aSj (by
    rcases h0 with h0|h0
    .rw[h0];rfl
    rw[aSN h0];cases s.op<;>rfl)]
   exact wS rfl rfl pD
  .rw[aSl h0];rw[not_or] at h0;have h1:s.op=true:=by simpa using h0.1
   rw[aSl (by rw[h1,decide_eq_false h0.2];simp),aSl pD,aSj pD];by_cases hb:s.bs=true
   .rw[aSj hb,aSj hb];exact wS rfl rfl pD
   .rw[aSl hb,aSl hb,aSj ⟨pD,by simp⟩];exact EF rfl rfl rfl
 |tgt w t b=>
  show wR _ _ _ (if s.op=false\/s.ends=[] then((3:Int),s) else if s.bt=true then(9,s) else(0,{s with tg:=t,bt:=true,last:=tS,name:=[]}))
  by_cases h0:s.op=false\/s.ends=[]
  .rw[aSj h0,aSj (by
    rcases h0 with h0|h0
    .rw[h0];rfl
    rw[aSN h0];cases s.op<;>rfl)]
   exact wS rfl rfl pD
  .rw[aSl h0];rw[not_or] at h0;have h1:s.op=true:=by simpa using h0.1
   rw[aSl (by rw[h1,decide_eq_false h0.2];simp),aSl pD,aSl pD,aSj pD];by_cases hb:s.bt=true
   .rw[aSj hb,aSj hb];exact wS rfl rfl pD
   .rw[aSl hb,aSl hb,aSj ⟨pD,by simp⟩];exact EF rfl rfl rfl
 |sta w t b=>
  show wR _ _ _ (if s.op=false\/s.ends=[] then((3:Int),s) else if s.bh=true then(9,s) else(0,{s with sv:=xD t,bh:=true,last:=[],name:=[]}))
  by_cases h0:s.op=false\/s.ends=[]
  .rw[aSj h0,aSj (by
    rcases h0 with h0|h0
    .rw[h0];rfl
    rw[aSN h0];cases s.op<;>rfl)]
   exact wS rfl rfl pD
  .rw[aSl h0];rw[not_or] at h0;have h1:s.op=true:=by simpa using h0.1
   rw[aSl (by rw[h1,decide_eq_false h0.2];simp),aSl pD,aSl pD,aSl pD,aSj pD];by_cases hb:s.bh=true
   .rw[aSj hb,aSj hb];exact wS rfl rfl pD
   .have hn:qH tW [w,(b,t,())] (1:Int)=(b,t,()):=rfl;rw[aSl hb,aSl hb,aSj ⟨pD,by simp⟩,hn,aGP,aSm];exact EF rfl rfl rfl
 |fld w n v b d=>
  show wR _ _ _ (if s.op=false then((3:Int),s) else if (s.fd.any fun y=>decide (y.1=n))=true then(9,s) else if 20<=s.fd.length then(6,s) else(0,{s with fd:=xE s.fd n v,last:=vQ,name:=n}))
  have hn:qH tW [w,(b,n,()),(d,v,())] (1:Int)=(b,n,()):=rfl;have hn2:qH tW [w,(b,n,()),(d,v,())] (2:Int)=(d,v,()):=rfl;rw[show decide (vQ=([102,105,101,108,100]:p8))=true from rfl];by_cases h0:s.op=false
  .rw[aSj h0,aSj (by rw[h0];rfl)];exact wS rfl rfl pD
  .have h1:s.op=true:=by simpa using h0
   rw[aSl h0,aSl (by rw[h1];simp),aSl pD,aSl pD,aSl pD,aSl pD,aSl pD,aSj rfl,aSj ⟨pD,by simp⟩,hn,aGR _ _ (by unfold rZ;omega),aSm,aGQ];by_cases h2:(s.fd.any fun y=>decide (y.1=n))=true
   .rw[aSj h2,aSj h2];exact wS rfl rfl pD
   .rw[aSl h2,aSl h2];by_cases h3:20<=s.fd.length
    .rw[aSj h3,aSj pF];exact wS rfl rfl pD
    .rw[aSl h3,aSl pF,aSj ⟨pD,by simp⟩,aSj ⟨pD,by simp⟩,hn2,aGW _ _ _ (by unfold rZ;omega),aSm,aSj ⟨pD,by simp⟩];exact EF rfl rfl rfl
 |flg w r=>
  show wR _ _ _ (if s.op=false\/s.ends=[] then((3:Int),s) else if s.bf=true\/zT (r6 r)=true then(9,s) else if 20<(r6 r).length then(6,s) else(0,{s with fg:=sJ (r6 r),bf:=true,last:=[],name:=[]}))
  simp only[aSq] at hl;by_cases h0:s.op=false\/s.ends=[]
  .rw[aSj h0,aSj (by
    rcases h0 with h0|h0
    .rw[h0];rfl
    rw[aSN h0];cases s.op<;>rfl)]
   exact wS rfl rfl pD
  rw[aSl h0];rw[not_or] at h0;have h1:s.op=true:=by simpa using h0.1
  rw[aSl (by rw[h1,decide_eq_false h0.2];simp),aSl pD,aSl pD,aSl pD,aSl pD,aSj pD,aSj ⟨pD,by simp only[aSq];omega,aTa _⟩];rw[show qU (w::r) (1:Int) ((w::r).length:Int)=r from(CS (k:=1)).trans rfl,aOM pC,aSm];by_cases h2:s.bf=true\/zT (r6 r)=true
  .rw[aSj h2,aSj (by
    rcases h2 with h2|h2
    .rw[h2];rfl
    rw[aSj h2];simp)]
   exact wS rfl rfl pD
  rw[aSl h2];rw[not_or] at h2;rw[aSl h2.2,aSl (by
   have h3:s.bf=false:=by simpa using h2.1
   rw[h3];simp)]
  dsimp only;rw[JO];by_cases h3:20<(r6 r).length
  .rw[aSj h3,aSj pF];exact wS rfl rfl pD
  rw[aSl h3,aSl pF];exact EF rfl rfl rfl
end
noncomputable section
def SA {l:List tM}{n v:p8}(h:(l.any fun y=>decide (y.1=n))=false):xE l n v=l.take (uJ l n)++[(n,v,())]++l.drop (uJ l n):=by
 have:xZ l n=none:=by
  unfold xZ;rw[aTk];intro x hx;have:=aS6.1 h x hx;simpa using this
 unfold xE;rw[this];rfl
def aHJ (l:List tM) (n v:p8):((xE l n v).any fun y=>decide (y.1=n))=true:=by
 unfold xE;cases hk:xZ l n with
 |none=>
  show ((l.take (uJ l n)++[(n,v,())]++l.drop (uJ l n)).any _)=true;rw[List.any_append,List.any_append];simp
 |some k=>
  have hlt:=RX hk;show ((l.set k (n,v,())).any _)=true;rw[List.any_eq_true];exact⟨(n,v,()),List.mem_set hlt _,by simp⟩
def aOU {l:List tM}{n v:p8}(h:zF l=true) (hn:(l.any fun y=>decide (y.1=n))=true) (hv:sS v=true):zF (xE l n v)=true:=by
 obtain⟨h1,h2,h3⟩:=P0 h;unfold xE;cases hk:xZ l n with
 |none=>
  unfold xZ at hk;rw[aTk] at hk;obtain⟨x,hx,hxn⟩:=List.any_eq_true.1 hn;have:=hk x hx;rw[hxn] at this;cases this
 |some k=>
  have hlt:=RX hk;have hkn:=aGT hk hlt;show zF (l.set k (n,v,()))=true;refine aHq (by rw[List.length_set];exact h1) (fun x hx=>?_) ?_
  .rcases List.mem_or_eq_of_mem_set hx with hx|rfl
   .exact⟨(h2 x hx).1,(h2 x hx).2.2⟩
   exact⟨by show vX n=true;rw[<-hkn];exact(h2 _ (aTq hlt)).1,hv⟩
  rw[aSZ] at h3|-;intro i j hi hj hij;rw[List.length_set] at hi hj;have e: ∀m (hm:m<l.length),((l.set k (n,v,()))[m]'(by rw[List.length_set];exact hm)).1=(l[m]).1:=fun m hm=>by
   rw[List.getElem_set];split
   .rename_i hkm;subst hkm;exact hkn.symm
   rfl
  rw[e i hi,e j hj];exact h3 i j hi hj hij
def aOV {l:p9}{t:p8}(h:B7 l=true) (hl:l.length<20) (ht:sS t=true):B7 (l++[t])=true:=by
 obtain⟨_,h2⟩:=OZ h;unfold B7;rw[aSN (by rw[aSp];simp only[aSq,aSG];omega),Bool.true_and,aSV,List.any_append];have:(l.any fun x=> !sS x)=false:=aS6.2 fun x hx=>by rw[h2 x hx];simp
 rw[this];simp [ht]
def aOW {l:p9}{t:p8}(h:B7 l=true) (hl:l≠[]) (ht:sS t=true):B7 (l.dropLast++[t])=true:=by
 obtain⟨h1,h2⟩:=OZ h;have hpos:=aTO.2 hl;unfold B7;rw[aSN (by rw[aSp,List.length_dropLast];simp only[aSq,aSG];omega),Bool.true_and,aSV,List.any_append];have:(l.dropLast.any fun x=> !sS x)=false:=aS6.2 fun x hx=>by rw[h2 x (List.dropLast_subset _ hx)];simp
 rw[this];simp [ht]
def aOX {l:p9}(hl:l.length<=20) (h1: ∀x∈l,vX x=true) (h2:l.Pairwise (· < ·)):OW l=true:=by
 unfold OW;rw[aSN pC,Bool.and_true,aSV];rw[aS6];intro i hi;have hi:=aTU.1 hi;unfold a8z;have hd:l.getD i []=l[i]:=by rw[aSM,aSu hi];rfl
 rw[hd,h1 _ (aTq hi)];by_cases h0:0<i
 .have hd2:l.getD (i-1) []=l[i-1]:=by rw[aSM,aSu pC];rfl
  rw[hd2,BU,aSN (aSZ.1 h2 (i-1) i pC hi pC)];simp
 simp [h0]
def aOY {s:St}(h:uV s) (h1:s.op=true) (h2:s.ends≠[]):JM s.x=true:=by
 obtain⟨i1,i2,i3,_⟩:=h.id h1 h2;unfold JM;dsimp only[St.x];rw[decide_eq_false i1,aSN (show (s.id.length:Int)<=200 by omega),i3,h.sc,h.tg,h.cm,h.fg,aSN h.sv.1,aSN h.sv.2,h.fd];rfl
def vC:uU≠[]/\tR≠[]/\tS≠[]/\vQ≠[]/\tR≠uU/\tS≠uU/\vQ≠uU/\uU≠vQ/\tR≠vQ/\tS≠vQ:=by decide
def aHK (s:St) (z:p8):(uC s z).c=s.c/\(uC s z).ends=s.ends/\(uC s z).id=s.id/\(uC s z).fg=s.fg/\(uC s z).sv=s.sv/\(uC s z).op=s.op/\(uC s z).bs=s.bs/\(uC s z).bt=s.bt/\(uC s z).bh=s.bh/\(uC s z).bf=s.bf/\(uC s z).last=s.last/\(uC s z).name=s.name:=by
 unfold uC;split
 .exact⟨rfl,rfl,rfl,rfl,rfl,rfl,rfl,rfl,rfl,rfl,rfl,rfl⟩
 split
 .exact⟨rfl,rfl,rfl,rfl,rfl,rfl,rfl,rfl,rfl,rfl,rfl,rfl⟩
 split<;>exact⟨rfl,rfl,rfl,rfl,rfl,rfl,rfl,rfl,rfl,rfl,rfl,rfl⟩
def aOZ {s:St}(h:uV s) (hl:s.last≠[]) {z:p8}(hz:sS z=true):uV (uC s z):=by
 unfold uC;split
 .rename_i h1;exact {h with cm:=aOW h.cm (h.lcm h1) hz,lcm:=fun _=>pE}
 split
 .exact {h with sc:=hz}
 split
 .exact {h with tg:=hz}
 rename_i h1 h2 h3;have h4:s.last=vQ:=by
  rcases h.lst with h5|h5|h5|h5|h5
  .exact absurd h5 hl
  .exact absurd h5 h1
  .exact absurd h5 h2
  .exact absurd h5 h3
  exact h5
 exact {h with fd:=aOU h.fd (h.lfd h4) hz,lfd:=fun _=>aHJ _ _ _}
def SB:0<=(0:Int)/\(0:Int)<=4:=by decide
def aO0 {s:St}(h:uV s) {n:Nat}{c:vZ}(hc:XI n c) (next:Int) (h0:(rU s next c).1=0):uV (rU s next c).2:=by
 cases c with
 |bad=>cases h0
 |cont t=>
  rw[rU] at h0|-;split at h0
  .cases h0
  .rename_i h1;rw[aSl h1];rw[not_or] at h1;split at h0
   .rename_i h2;rw[aSj h2];exact aOZ h h1.2 h2
   .cases h0
 |beg hd t=>
  cases hd with
  |true=>
   rw[rU] at h0|-;split at h0
   .cases h0
   .rename_i h1;rw[aSl h1];simp only[not_or,Decidable.not_not] at h1;split at h0
    .rename_i h2;rw[aSj h2];exact {tag:=fun _=>h2,hcm:=h.hcm,hfd:=h.hfd,es:=h.es,e0:=h.e0,en:=h.en,room:=fun _ he=>absurd h1.2 he,sc:=rfl,tg:=rfl,cm:=rfl,fg:=rfl,sv:=SB,fd:=rfl,id:=fun _ he=>absurd h1.2 he,lcm:=fun he=>(vC.1 he.symm).elim,lfd:=fun he=>(vC.2.2.2.1 he.symm).elim,lst:= .inl rfl,off:=fun he=>(by cases he)}
    .cases h0
  |false=>
   rw[rU] at h0|-;split at h0
   .cases h0
   .rename_i h1;rw[aSl h1];rw[not_or] at h1;split at h0
    .cases h0
    .rename_i h2;rw[aSl h2];rw[not_or] at h2;split at h0
     .cases h0
     .rename_i h3;rw[aSl h3];split at h0
      .cases h0
      .rename_i h4;rw[aSl h4];refine {tag:=fun _=>h.tag (.inl h1.2),hcm:=h.hcm,hfd:=h.hfd,es:=h.es,e0:=h.e0,en:=h.en,room:=fun _ _=>(by show s.c.2.2.2.1.length<1000;omega),sc:=rfl,tg:=rfl,cm:=rfl,fg:=rfl,sv:=SB,fd:=rfl,id:=fun _ _=>⟨h2.1,(by show t.length<=200;omega),hc,fun y hy e=>h3 (List.any_eq_true.2 ⟨y,hy,aSN (show y.1=t from e)⟩)⟩,lcm:=fun he=>(vC.1 he.symm).elim,lfd:=fun he=>(vC.2.2.2.1 he.symm).elim,lst:= .inl rfl,off:=fun he=>(by cases he)}
 |com t=>
  rw[rU] at h0|-;split at h0
  .cases h0
  .rename_i h1;rw[aSl h1];split at h0
   .cases h0
   .rename_i h2;rw[aSl h2];exact {h with cm:=aOV h.cm pC hc,lcm:=fun _=>pE,lfd:=fun he=>(vC.2.2.2.2.2.2.2.1 he).elim,lst:= .inr (.inl rfl),off:=fun he=>absurd he h1}
 |src t=>
  rw[rU] at h0|-;split at h0
  .cases h0
  .rename_i h1;rw[aSl h1];rw[not_or] at h1;split at h0
   .cases h0
   .rename_i h2;rw[aSl h2];exact {h with sc:=hc,lcm:=fun he=>(vC.2.2.2.2.1 he).elim,lfd:=fun he=>(vC.2.2.2.2.2.2.2.2.1 he).elim,lst:= .inr (.inr (.inl rfl)),off:=fun he=>absurd he h1.1}
 |tgt t=>
  rw[rU] at h0|-;split at h0
  .cases h0
  .rename_i h1;rw[aSl h1];rw[not_or] at h1;split at h0
   .cases h0
   .rename_i h2;rw[aSl h2];exact {h with tg:=hc,lcm:=fun he=>(vC.2.2.2.2.2.1 he).elim,lfd:=fun he=>(vC.2.2.2.2.2.2.2.2.2 he).elim,lst:= .inr (.inr (.inr (.inl rfl))),off:=fun he=>absurd he h1.1}
 |sta v=>
  rw[rU] at h0|-;split at h0
  .cases h0
  .rename_i h1;rw[aSl h1];rw[not_or] at h1;split at h0
   .cases h0
   .rename_i h2;rw[aSl h2];exact {h with sv:=hc,lcm:=fun he=>(vC.1 he.symm).elim,lfd:=fun he=>(vC.2.2.2.1 he.symm).elim,lst:= .inl rfl,off:=fun _=>rfl}
 |fld m v=>
  rw[rU] at h0|-;split at h0
  .cases h0
  .rename_i h1;rw[aSl h1];split at h0
   .cases h0
   .rename_i h2;rw[aSl h2];split at h0
    .cases h0
    .rename_i h3;rw[aSl h3];exact {h with fd:=aOo h.fd h3 hc.1 hc.2 h2,lcm:=fun he=>(vC.2.2.2.2.2.2.1 he).elim,lfd:=fun _=>aHJ _ _ _,lst:= .inr (.inr (.inr (.inr rfl))),off:=fun he=>absurd he h1}
 |flg l=>
  rw[rU] at h0|-;split at h0
  .cases h0
  .rename_i h1;rw[aSl h1];rw[not_or] at h1;split at h0
   .cases h0
   .rename_i h2;rw[aSl h2];rw[not_or] at h2;split at h0
    .cases h0
    .rename_i h3;rw[aSl h3];have hd:zT l=false:=by simpa using h2.2
     exact {h with fg:=aOX (by rw[JO];omega) (fun x hx=>hc.2.2 x ((MH l).mem_iff.1 hx)) (aHB hd),lcm:=fun he=>(vC.1 he.symm).elim,lfd:=fun he=>(vC.2.2.2.1 he.symm).elim,lst:= .inl rfl,off:=fun _=>rfl}
 |fin=>
  rw[rU] at h0|-;split at h0
  .cases h0
  rename_i h1;have hop:s.op=true:=by simpa using h1
  rw[aSl h1];have htag:=h.tag (.inr hop);by_cases he:s.ends=[]
  .rw[aSj he];exact {tag:=fun _=>htag,hcm:=h.cm,hfd:=h.fd,es:=h.es,e0:=fun hh=>(by simp [JQ] at hh),en:=fun _=>(by show (s.ends++[next]).length=s.c.2.2.2.1.length+1;rw[he,h.e0 he];rfl),room:=fun hh=>(by cases hh),sc:=rfl,tg:=rfl,cm:=rfl,fg:=rfl,sv:=SB,fd:=rfl,id:=fun hh=>(by cases hh),lcm:=fun hh=>(vC.1 hh.symm).elim,lfd:=fun hh=>(vC.2.2.2.1 hh.symm).elim,lst:= .inl rfl,off:=fun _=>rfl}
  rw[aSl he];have hr:=h.room hop he;obtain⟨i1,i2,i3,i4⟩:=h.id hop he;refine {tag:=fun _=>htag,hcm:=h.hcm,hfd:=h.hfd,es:=⟨?_,?_,?_⟩,e0:=fun hh=>(by simp [JQ] at hh),en:=fun _=>?_,room:=fun hh=>(by cases hh),sc:=rfl,tg:=rfl,cm:=rfl,fg:=rfl,sv:=SB,fd:=rfl,id:=fun hh=>(by cases hh),lcm:=fun hh=>(vC.1 hh.symm).elim,lfd:=fun hh=>(vC.2.2.2.1 hh.symm).elim,lst:= .inl rfl,off:=fun _=>rfl}
  .show (s.c.2.2.2.1++[s.x]).length<=1000;rw[aSp];simp only[aSq,aSG];omega
  .intro x hx;rcases aTx.1 (show x∈s.c.2.2.2.1++[s.x] from hx) with hx|hx
   .exact h.es.ok x hx
   rw[aSC.1 hx];exact aOY h hop he
  .show (s.c.2.2.2.1++[s.x]).Pairwise _;rw[aT9];exact⟨h.es.pw,aUf _ _,fun a ha b hb=>by rw[aSC.1 hb];exact i4 a ha⟩
  show (s.ends++[next]).length=(s.c.2.2.2.1++[s.x]).length+1
  rw[aSp,aSp,h.en he];rfl
def uG:St:=JQ ([],([],([],([],())))) []
def a8T:uV uG:={tag:=fun h=>h.elim (fun h=>absurd rfl h) fun h=>(by cases h),hcm:=rfl,hfd:=rfl,es:=⟨aTg _,fun x hx=>(by cases hx),List.Pairwise.nil⟩,e0:=fun _=>rfl,en:=fun h=>absurd rfl h,room:=fun h=>(by cases h),sc:=rfl,tg:=rfl,cm:=rfl,fg:=rfl,sv:=SB,fd:=rfl,id:=fun h=>(by cases h),lcm:=fun h=>(vC.1 h.symm).elim,lfd:=fun h=>(vC.2.2.2.1 h.symm).elim,lst:= .inl rfl,off:=fun _=>rfl}
def XO {s:St}(h:uV s) (line:p8) (next:Int) (h0:(wE s line next).1=0):uV (wE s line next).2:=by
 unfold wE at h0|-;split at h0
 .rename_i h1;rw[aSj h1];exact h
 rename_i h1;rw[aSl h1];cases hw:FK line with
 |none=>rw[hw] at h0;cases h0
 |some l=>
  rw[hw] at h0;exact aO0 h (aOO (n:=line.length) (S8 _ _ _ hw) (P1 _ _ _ hw).1 (P1 _ _ _ hw).2) next h0
end
noncomputable section
def XP {α β:Type}{A:Option α}{err:α→Int}{fl:St→α}{r:Int×St}{g:α→Option β}{err2:β→Int}{fl2:St→β}(hA:wR A err fl r)
    (hg: ∀v,∃w,g v=some w∧err2 w=err v) (hf:r.1=0→g (fl r.2)=some (fl2 r.2)):wR (A.bind g) err2 fl2 r:=by
  obtain⟨v,hv,he,hz⟩:=hA;obtain⟨w,hw,hwe⟩:=hg v;refine⟨w,by rw[hv];exact hw,hwe.trans he,fun h0=>?_⟩;have:=hf h0;rw[←hz h0,hw] at this;exact aSo this
def aO1 (s:St) (n:Int) (hd:Bool) (t:p8):(rU s n (.beg hd t)).1=0→(rU s n (.beg hd t)).2.c.2=s.c.2∧(rU s n (.beg hd t)).2.ends=s.ends:=by
  cases hd<;>(rw[rU];repeat' split)<;>intro h<;>first|exact⟨rfl,rfl⟩ |cases h
def aO2 (s:St) (n:Int):(rU s n .fin).2.c.1=s.c.1:=by
  rw[rU];repeat' split
  all_goals rfl
def aO3 {k:p8}{l:List Wd}{c:vZ}(h:HK k l c) (s:St) (n:Int):(rU s n c).2.c=s.c∧(rU s n c).2.ends=s.ends∧(rU s n c).2.id=s.id∧(rU s n c).2.op=s.op:=by
  cases h<;>(rw[rU];repeat' split)<;>exact⟨rfl,rfl,rfl,rfl⟩
def aHL (s:St) (n:Int) (t:p8):(rU s n (.cont t)).2.c=s.c∧(rU s n (.cont t)).2.ends=s.ends∧(rU s n (.cont t)).2.id=s.id∧(rU s n (.cont t)).2.fg=s.fg∧(rU s n (.cont t)).2.sv=s.sv∧(rU s n (.cont t)).2.op=s.op∧(rU s n (.cont t)).2.bs=s.bs∧(rU s n (.cont t)).2.bt=s.bt∧(rU s n (.cont t)).2.bh=s.bh∧(rU s n (.cont t)).2.bf=s.bf∧(rU s n (.cont t)).2.last=s.last∧(rU s n (.cont t)).2.name=s.name:=by
  rw[rU];split
  .exact⟨rfl,rfl,rfl,rfl,rfl,rfl,rfl,rfl,rfl,rfl,rfl,rfl⟩
  split
  .exact aHK s _
  exact⟨rfl,rfl,rfl,rfl,rfl,rfl,rfl,rfl,rfl,rfl,rfl,rfl⟩
def aO4 (s:St) (n:Int) (t:p8) (h:(rU s n (.cont t)).1=0):(rU s n (.cont t)).2=uC s (tH s++t):=by
  rw[rU] at h|-;split at h
  .cases h
  rename_i h1
  rw[aSl h1];split at h
  .rename_i h2;rw[aSj h2]
  cases h
def sM (p:p8):p8:=if p.getLast? =some 10 then p.dropLast else p
abbrev EG (s:St):BX:=s.flat 0
def MJ {r:List Wd}{t:p8}(h:sZ r=some t):r=[(true,t,())]:=by
  unfold sZ at h;split at h
  · rename_i w
    split at h
    · rename_i hw
      cases h;obtain⟨a,b,c⟩:=w;cases hw;rfl
    cases h
  cases h
def aO5 {r:List Wd}{v:Int}(h:BV r=some v): ∃t,r=[(false,t,())]∧v=xD t:=by
  unfold BV at h;split at h
  · rename_i w
    split at h
    · rename_i hw
      cases h;obtain⟨a,b,c⟩:=w;obtain⟨h1,h2⟩:=hw;cases h1;exact⟨b,rfl,rfl⟩
    cases h
  cases h
def aO6 {r:List Wd}{q:p8×p8}(h:BW r=some q):r=[(true,q.1,()),(true,q.2,())]:=by
  unfold BW at h;split at h
  · rename_i a b
    split at h
    · rename_i hw
      cases h;obtain⟨a1,a2,a3⟩:=a;obtain⟨b1,b2,b3⟩:=b;obtain⟨⟨h1,h2⟩,_⟩:=hw;cases h1;cases h2;rfl
    cases h
  cases h
def EH (s:St) (next:Int) (l:List Wd):Option BX:=
      (zC l).bind fun O=>
      if (!O.2)=true then
       some ((s.flat 3))
      else
       if (decide (O.1=([]:p8)))=true then
        (JE s.tup l).bind fun Z=>
        some ((s.c.1,s.c.2.1,s.c.2.2.1,s.c.2.2.2.1,s.ends,s.id,Z.1,Z.2.1,Z.2.2.1,s.fg,s.sv,Z.2.2.2.1,s.op,s.bs,s.bt,s.bh,s.bf,s.last,s.name,Z.2.2.2.2))
       else
        sR (σ:=Bool) (
          if (decide (O.1=([99,97,116,97,108,111,103]:p8)))=true then
           some ((decide (O.1=([99,97,116,97,108,111,103]:p8))))
          else
           some ((decide (O.1=([101,110,116,114,121]:p8))))
         ) fun aA=>
        if aA=true then
         if 0≤(1:Int)∧(1:Int)<(l.length:Int) then
          (J5 s.tup O.1 ((qH qO l (1:Int)).2.1)).bind fun aB=>
          some ((aB.1,s.c.2.1,s.c.2.2.1,s.c.2.2.2.1,s.ends,aB.2.1,aB.2.2.1,aB.2.2.2.1,aB.2.2.2.2.1,aB.2.2.2.2.2.1,aB.2.2.2.2.2.2.1,aB.2.2.2.2.2.2.2.1,aB.2.2.2.2.2.2.2.2.1,aB.2.2.2.2.2.2.2.2.2.1,aB.2.2.2.2.2.2.2.2.2.2.1,aB.2.2.2.2.2.2.2.2.2.2.2.1,aB.2.2.2.2.2.2.2.2.2.2.2.2.1,aB.2.2.2.2.2.2.2.2.2.2.2.2.2.1,aB.2.2.2.2.2.2.2.2.2.2.2.2.2.2.1,aB.2.2.2.2.2.2.2.2.2.2.2.2.2.2.2))
         else none
        else
         if (decide (O.1=([101,110,100]:p8)))=true then
          (IQ s.tup next).bind fun aC=>
          some ((s.c.1,aC.1,aC.2.1,aC.2.2.1,aC.2.2.2.1,aC.2.2.2.2.1,aC.2.2.2.2.2.1,aC.2.2.2.2.2.2.1,aC.2.2.2.2.2.2.2.1,aC.2.2.2.2.2.2.2.2.1,aC.2.2.2.2.2.2.2.2.2.1,aC.2.2.2.2.2.2.2.2.2.2.1,aC.2.2.2.2.2.2.2.2.2.2.2.1,aC.2.2.2.2.2.2.2.2.2.2.2.2.1,aC.2.2.2.2.2.2.2.2.2.2.2.2.2.1,aC.2.2.2.2.2.2.2.2.2.2.2.2.2.2.1,aC.2.2.2.2.2.2.2.2.2.2.2.2.2.2.2.1,aC.2.2.2.2.2.2.2.2.2.2.2.2.2.2.2.2.1,aC.2.2.2.2.2.2.2.2.2.2.2.2.2.2.2.2.2.1,aC.2.2.2.2.2.2.2.2.2.2.2.2.2.2.2.2.2.2))
         else
          (J7 s.tup O.1 l).bind fun aD=>
          some ((s.c.1,s.c.2.1,s.c.2.2.1,s.c.2.2.2.1,s.ends,s.id,aD.1,aD.2.1,aD.2.2.1,aD.2.2.2.1,aD.2.2.2.2.1,aD.2.2.2.2.2.1,s.op,aD.2.2.2.2.2.2.1,aD.2.2.2.2.2.2.2.1,aD.2.2.2.2.2.2.2.2.1,aD.2.2.2.2.2.2.2.2.2.1,aD.2.2.2.2.2.2.2.2.2.2.1,aD.2.2.2.2.2.2.2.2.2.2.2.1,aD.2.2.2.2.2.2.2.2.2.2.2.2))
def MK {s:St}{next:Int}{l:List Wd}{k:p8}(h:zC l=some (k,false)):wR (EH s next l) BX.err EG (3,s):=by
  unfold EH;rw[h,aSm];exact wS (aSj rfl) rfl pD
def P2 {s:St}(h:uV s) {next:Int}{l:List Wd}{k:p8}{c:vZ}(hs:zC l=some (k,true)) (hi:HK k l c) (hl:l.length≤1000000000):wR (EH s next l) BX.err EG (rU s next c):=by
  unfold EH;rw[hs,aSm];have hk:k=uU∨k=tR∨k=tS∨k=vY∨k=vQ∨k=vJ:=by cases hi<;>simp
  have h1:decide (k=([]:p8))=false:=by rcases hk with e|e|e|e|e|e<;>rw[e]<;>rfl
  have h2:decide (k=([99,97,116,97,108,111,103]:p8))=false:=by rcases hk with e|e|e|e|e|e<;>rw[e]<;>rfl
  have h3:decide (k=([101,110,116,114,121]:p8))=false:=by rcases hk with e|e|e|e|e|e<;>rw[e]<;>rfl
  have h4:decide (k=([101,110,100]:p8))=false:=by rcases hk with e|e|e|e|e|e<;>rw[e]<;>rfl
  dsimp only;rw[aSl pE,h1,aSl pE,h2,h3,aSl pE];unfold sR;rw[aSm,aSl pE,h4,aSl pE];refine XP (aOT h next hi hl) (fun v=>⟨_,rfl,rfl⟩) fun h0=>?_
  obtain⟨k1,k2,k3,k4⟩:=aO3 hi s next
  show some _=some _;unfold EG St.flat;rw[k1,k2,k3,k4]
def aHM {s:St}(h:uV s) {next:Int}{w:Wd}{hd:Bool}{t:p8}(hs:zC [w,(true,t,())]=some (if hd=true then wQ else yH,true)) (ht:sS t=true):wR (EH s next [w,(true,t,())]) BX.err EG (rU s next (.beg hd t)):=by
  unfold EH;rw[hs,aSm];have h1:decide ((if hd=true then wQ else yH)=([]:p8))=false:=by cases hd<;>rfl
  have hx : ∀X:Bool→Option BX,sR (σ:=Bool) (
          if (decide ((if hd=true then wQ else yH)=([99,97,116,97,108,111,103]:p8)))=true then
           some ((decide ((if hd=true then wQ else yH)=([99,97,116,97,108,111,103]:p8))))
          else
           some ((decide ((if hd=true then wQ else yH)=([101,110,116,114,121]:p8))))
         ) X=X true:=fun X=>by cases hd<;>rfl
  dsimp only;rw[aSl pE,h1,aSl pE,hx,aSj rfl,aSj ⟨pD,by simp⟩];refine XP (aOR h next hd ht) (fun v=>⟨_,rfl,rfl⟩) fun h0=>?_
  obtain⟨k1,k2⟩:=aO1 s next hd t h0
  show some _=some _;unfold EG St.flat;rw[k1,k2]
def aO7 {s:St}(h:uV s) {next:Int}{l:List Wd}(hs:zC l=some (FL,true)):wR (EH s next l) BX.err EG (rU s next .fin):=by
  unfold EH;rw[hs,aSm];dsimp only;rw[aSl pE,aSl pD,aSl pD];unfold sR;rw[aSm,aSl pD,aSj pD];refine XP (aOS h next) (fun v=>⟨_,rfl,rfl⟩) fun h0=>?_
  show some _=some _;unfold EG St.flat;rw[aO2]
def aO8 {s:St}(h:uV s) {next:Int}{l:List Wd}(hs:zC l=some ([],true)) (hl:l.length≤1000000000) (ht:(r6 l).flatten.length≤1000000000):wR (EH s next l) BX.err EG (rU s next (.cont (r6 l).flatten)):=by
  unfold EH;rw[hs,aSm];dsimp only;rw[aSl pE,aSj pD];obtain⟨v,hv,he,hz⟩:=aOQ h next hl ht
  obtain⟨k1,k2,k3,k4,k5,k6,k7,k8,k9,k10,k11,k12⟩:=aHL s next (r6 l).flatten
  refine XP (err:=fun v=>v.2.2.2.2) (fl:=fun s=>s.cont5 0) ⟨v,hv,he,fun h0=>(hz h0).trans (by rw[aO4 s next _ h0])⟩ (fun v=>⟨_,rfl,rfl⟩) fun h0=>?_
  show some _=some _;unfold EG St.flat;rw[k1,k2,k3,k4,k5,k6,k7,k8,k9,k10,k11,k12]
def a8U {k:p8}{r:List Wd}{t:p8}(ho:sZ r=some t):
    uK wQ r= .beg true t∧uK yH r= .beg false t∧uK uU r= .com t∧uK tR r= .src t∧uK tS r= .tgt t:=by
  have e1:yH≠wQ∧uU≠wQ∧tR≠wQ∧tS≠wQ∧uU≠yH∧tR≠yH∧tS≠yH∧tR≠uU∧tS≠uU∧tS≠tR:=by decide
  obtain⟨a1,a2,a3,a4,a5,a6,a7,a8,a9,a10⟩:=e1;refine⟨?_,?_,?_,?_,?_⟩<;>unfold uK
  .rw[aSj rfl,ho];rfl
  .rw[aSl a1,aSj rfl,ho];rfl
  .rw[aSl a2,aSl a5,aSj rfl,ho];rfl
  .rw[aSl a3,aSl a6,aSl a8,aSj rfl,ho];rfl
  rw[aSl a4,aSl a7,aSl a9,aSl a10,aSj rfl,ho];rfl
def aO9 {k:p8}{r:List Wd}(ho:sZ r=none) (hk:k=wQ∨k=yH∨k=uU∨k=tR∨k=tS):uK k r= .bad:=by
  unfold uK;by_cases h1:k=wQ
  .rw[aSj h1,ho];rfl
  rw[aSl h1];by_cases h2:k=yH
  .rw[aSj h2,ho];rfl
  rw[aSl h2];by_cases h3:k=uU
  .rw[aSj h3,ho];rfl
  rw[aSl h3];by_cases h4:k=tR
  .rw[aSj h4,ho];rfl
  rw[aSl h4];by_cases h5:k=tS
  .rw[aSj h5,ho];rfl
  exact absurd hk (by simp [h1,h2,h3,h4,h5])
def aPa {s:St}(h:uV s) (next:Int) {l:List Wd}(hl:l.length≤1000000000) (hne:l≠[]) {N:Nat}(hN:N≤1000000000) (hok: ∀w∈l,yP N w) (ht:(r6 l).flatten.length≤1000000000):wR (EH s next l) BX.err EG (rU s next (BB l)):=by
  cases l with
  |nil=>exact absurd rfl hne
  | cons w r=>
    have hr: ∀x∈r,yP N x:=fun x hx=>hok x (aSy _ hx)
    have hfit: ∀x∈r,rZ x.2.1:=fun x hx=>by
      have:=hr x hx;unfold yP at this;split at this
      .exact aHE this
      unfold rZ;omega
    unfold BB;dsimp only;by_cases hw:w.1=true
    · rw[aSj hw]
      have hs:=aOG hl hw;cases ha:(r.any fun x=> !x.1) with
      | true=>
        rw[ha] at hs;rw[aSj rfl];exact MK hs
      | false=>
        rw[ha] at hs;rw[aSl pE];exact aO8 h hs hl ht
    have hw:w.1=false:=by simpa using hw
    rw[aSl (by rw[hw];simp)];by_cases hk:w.2.1=wQ∨w.2.1=yH∨w.2.1=uU∨w.2.1=tR∨w.2.1=tS
    · have hs:=aOH (r:=r) hw hk
      cases ho:sZ r with
      | none=>
        rw[ho] at hs;rw[aO9 ho hk];exact MK hs
      | some t=>
        rw[ho] at hs;have htx:=a8R hr ho;obtain⟨c1,c2,c3,c4,c5⟩:=a8U (k:=[]) ho;have hrt:=MJ ho;subst hrt;rcases hk with e|e|e|e|e
        · rw[e] at hs|-
          rw[c1];exact aHM (hd:=true) h hs htx
        · rw[e] at hs|-
          rw[c2];exact aHM (hd:=false) h hs htx
        · rw[e] at hs|-
          rw[c3];exact P2 h hs (.com w t true) hl
        · rw[e] at hs|-
          rw[c4];exact P2 h hs (.src w t true) hl
        rw[e] at hs|-
        rw[c5];exact P2 h hs (.tgt w t true) hl
    have hs:=aOI (r:=r) hw hk (by simp only[aSq] at hl;omega) hfit
    simp only[not_or] at hk;obtain⟨h1,h2,h3,h4,h5⟩:=hk;unfold uK;rw[aSl h1,aSl h2,aSl h3,aSl h4,aSl h5];by_cases h6:w.2.1=vY
    · rw[aSj h6] at hs|-
      cases ho:BV r with
      |none=>rw[ho] at hs;exact MK hs
      | some v=>
        rw[ho] at hs;obtain⟨t,rfl,rfl⟩:=aO5 ho;exact P2 h hs (.sta w t false) hl
    rw[aSl h6] at hs|-
    by_cases h7:w.2.1=vQ
    · rw[aSj h7] at hs|-
      cases ho:BW r with
      |none=>rw[ho] at hs;exact MK hs
      | some q=>
        rw[ho] at hs;have:=aO6 ho;subst this;exact P2 h hs (.fld w q.1 q.2 true true) hl
    rw[aSl h7] at hs|-
    by_cases h8:w.2.1=FL
    · rw[aSj h8] at hs|-
      by_cases he:r=[]
      · rw[aSj he]
        rw[aSN he] at hs;exact aO7 h hs
      rw[aSl he]
      rw[decide_eq_false he] at hs;exact MK hs
    rw[aSl h8] at hs|-
    by_cases h9:w.2.1=vJ
    · rw[aSj h9] at hs|-
      by_cases he:r=[]∨(r.any AG)=true
      · rw[aSj he]
        have:(!(decide (r=[])||r.any AG))=false:=by rcases he with he|he<;>simp [he]
        rw[this] at hs;exact MK hs
      rw[aSl he]
      have:(!(decide (r=[])||r.any AG))=true:=by
        rw[not_or] at he;rw[decide_eq_false he.1];simpa using he.2
      rw[this] at hs;exact P2 h hs (.flg w r) hl
    rw[aSl h9] at hs|-
    exact MK hs
def aPb (p:p8):(sM p).length≤p.length:=by
  unfold sM;split
  .rw[List.length_dropLast];omega
  exact aSE _
def aPc {s:St}(h:uV s) {p:p8}(hp:p.length≤1000000000) (next:Int):wR (JG s.tup p next) BX.err EG (wE s (sM p) next):=by
  have hsl:=aPb p
  have hx: ∀X:p8→Option BX,(sR (σ:=p8) (
     if ((decide ((0:Int)<(p.length:Int)))&&(decide ((rJ p ((p.length:Int)- (1:Int)))=(10:Int))))=true then
      if pY ((p.length:Int)- (1:Int)) then
       if 0≤(0:Int)∧(0:Int)≤((p.length:Int)- (1:Int))∧((p.length:Int)- (1:Int))≤(p.length:Int) then
        some ((qU p (0:Int) ((p.length:Int)- (1:Int))))
       else none
      else none
     else
      some (p)
    ) X)=X (sM p):=fun X=>by
    unfold sM;rcases Nat.eq_zero_or_pos p.length with h0|h0
    · have:p=[]:=aTi.1 h0
      subst this;rfl
    have hl:p.getLast? =some p[p.length-1]:=by rw[List.getLast?_eq_getElem?,aSu pC]
    rw[show ((p.length:Int)-1)=((p.length-1:Nat):Int) by omega,xB pC,aSN (show (0:Int)<(p.length:Int) by omega),Bool.true_and,vB (n:=10) 10 rfl,hl];by_cases h10:p[p.length-1]=10
    · rw[aSj (aSN h10),aSj (by unfold pY;omega),aSj ⟨pC,pC,pC⟩,aSj (by rw[h10]),OT,aHH]
      rfl
    rw[aSl (by simpa using h10),aSl (by simpa using h10)]
    rfl
  unfold JG;rw[aSj (fun hh=>by simp only[aTB,aSs] at hh;unfold pY;omega),aSj (fun hh=>by simp only[aTB,aSs] at hh;omega),hx];have hgs:=aHv (s:=sM p) pC (.inr rfl) (j:=0) pC;rw[aTr,aSS] at hgs;rw[show ((0:Int))=((0:Nat):Int) from rfl,hgs];unfold sR;rw[aSm];have htl:((sM p).takeWhile sO).length≤(sM p).length:=(List.takeWhile_prefix _).length_le;have hdr:(sM p).drop ((sM p).takeWhile sO).length=(sM p).dropWhile sO:=S7.2;rw[aSj (fun hh=>by simp only[aTB,aS2] at hh;omega)]
  have hfree:((decide ((((sM p).takeWhile sO).length:Int)=((sM p).length:Int)))||(decide ((rJ (sM p) ((((sM p).takeWhile sO).length:Nat):Int))=(35:Int))))=CT (sM p):=by
    unfold CT;by_cases he:(sM p).dropWhile sO=[]
    · have:((sM p).takeWhile sO).length=(sM p).length:=by
        have:=aSL List.length (List.takeWhile_append_dropWhile (p:=sO) (l:=sM p));rw[he,List.append_nil] at this;exact this
      rw[aSN (show (((sM p).takeWhile sO).length:Int)=((sM p).length:Int) by omega),aSN he];rfl
    have hlt:((sM p).takeWhile sO).length<(sM p).length:=by
      rcases aTl ((sM p).takeWhile sO).length (sM p).length with h1|h1
      .exact h1
      rw[List.drop_eq_nil_of_le h1] at hdr;exact absurd hdr.symm he
    rw[decide_eq_false (show¬(((sM p).takeWhile sO).length:Int)=((sM p).length:Int) by omega),decide_eq_false he,xB hlt,←hdr,aSK hlt,vB (n:=35) 35 rfl];simp [aSu hlt]
  rw[hfree];unfold wE;by_cases hf:CT (sM p)=true
  · rw[aSj hf,aSj hf]
    exact EF rfl rfl rfl
  rw[aSl hf,aSl hf,aOF pC,aSm]
  cases hw:FK (sM p) with
  |none=>exact wS (aSj rfl) rfl pD
  | some l=>
    have hsum:=P1 _ _ _ hw;have hnel:(sM p).dropWhile sO≠[]:=fun e=>hf (by unfold CT;rw[e];rfl);have:=aPa h next (l:=l) pC (a8Q _ _ _ hw hnel) (N:=(sM p).length) pC (S8 _ _ _ hw) pC
    exact this
end
noncomputable section
def tT (s:p8) (i:Nat):Nat:=if 0≤Lib.indexByte (s.drop i) 10 then i+(Lib.indexByte (s.drop i) 10).toNat+1 else s.length
def D8 (s:p8):Nat→Nat→List (Int×p8)
  |0,_=>[]
  |n+1,i=>if i<s.length then((i:Int),(s.drop i).take (tT s i-i))::D8 s n (tT s i) else[]
def XQ (s:p8):List (Int×p8):=D8 s (s.length) 0
def SC {s:p8}{i:Nat}(h:i<s.length):i<tT s i∧tT s i≤s.length:=by
  have hr:=NM (s.drop i) 10;rw[aSR] at hr;unfold tT;split<;>omega
def aPd {s:p8}{a i:Nat}(hai:a≤i) (hi:i<s.length) (hno: ∀j (h:j<s.length),a≤j→j<i→s[j]≠10) (h10:s[i]=10):((s.drop a).findIdx? fun b=>decide (b=10))=some (i-a):=by
  rw[aS5];refine⟨by rw[aSR];omega,?_,fun j hj=>?_⟩
  · rw[List.getElem_drop]
    simp only[aSs];rw[←h10];congr 1;omega
  rw[List.getElem_drop]
  simp only[aSs];exact hno (a+j) pC pC pC
def aPe {s:p8}{a:Nat}(hno: ∀j (h:j<s.length),a≤j→s[j]≠10):((s.drop a).findIdx? fun b=>decide (b=10))=none:=by
  rw[aTk];intro x hx;obtain⟨j,hj,rfl⟩:=aT1 hx;rw[List.getElem_drop];simp only[aS2];rw[aSR] at hj;exact hno (a+j) pC pC
def aPf {s:p8}{a i:Nat}(hai:a≤i) (hi:i<s.length) (hno: ∀j (h:j<s.length),a≤j→j<i→s[j]≠10) (h10:s[i]=10):tT s a=i+1:=by
  unfold tT;rw[a8D,aPd hai hi hno h10];rw[show JN (some (i-a))=((i-a:Nat):Int) from rfl,aSj pC,aTb];omega
def aPg {s:p8}{a:Nat}(hno: ∀j (h:j<s.length),a≤j→s[j]≠10):tT s a=s.length:=by
  unfold tT;rw[a8D,aPe hno];exact aSl pD
def a8V {s:p8}{n i:Nat}(h:s.length≤i):D8 s n i=[]:=by
  cases n with
  |zero=>rfl
  |succ n=>rw[D8,aSl pC]
def aHN {s:p8}{a b:Nat}:qU s (a:Int) (b:Int)=(s.drop a).take (b-a):=by
  unfold qU;rw[aTb,aTb]
def aHO (s:p8) (q:p9×Int):Option p9:=
  if (decide (q.2<(s.length:Int)))=true then
   if 0≤q.2∧q.2≤(s.length:Int)∧(s.length:Int)≤(s.length:Int) then
    if (q.1.length+([(qU s q.2 (s.length:Int))]:p9).length)*16≤140737488355328 then
     some ((q.1++([(qU s q.2 (s.length:Int))]:p9)))
    else none
   else none
  else
   some (q.1)
def a8W {s:p8}(hs:s.length≤4000000000): ∀(m i a n:Nat) (out:p9),i+m=s.length→a≤i→s.length≤n+a→out.length≤a→(∀j (h:j<s.length),a≤j→j<i→s[j]≠10)→
    sR (rG (IM s) (out,(a:Int),(i:Int))) (aHO s)=some (out++(D8 s n a).map (·.2))
  | 0,i,a,n,out,hm,hai,hn,ho,hno=>by
    have:i=s.length:=by omega
    subst this;rw[BP (r:=(out,(a:Int))) (by unfold IM;dsimp only;rw[aSl (xC _)])];unfold sR aHO;rw[aSm];dsimp only;by_cases ha:a<s.length
    · obtain⟨n,rfl⟩: ∃n',n=n'+1:=⟨n-1,pC⟩
      have hlt:=aPg (s:=s) (a:=a) (fun j h h1=>hno j h h1 h);rw[aSj (by simpa using ha),aSj pC,aSj (by simp only[aSq,aSG];omega),D8,aSj ha,hlt,a8V (aSE _),aHN];rfl
    .rw[aSl pF,a8V pC,List.map_nil,List.append_nil]
  | m+1,i,a,n,out,hm,hai,hn,ho,hno=>by
    have hi:i<s.length:=by omega
    by_cases h10:s[i]=10
    · have hst:IM s (out,(a:Int),(i:Int))=some (.inl (out++[(s.drop a).take (i+1-a)],((i+1:Nat):Int),((i+1:Nat):Int))):=by
        unfold IM;dsimp only;rw[aSj (tX hi),aSj (sU hi),xB hi,h10,aSj pR,aSj (uB pC),aSj pC,aSj (by simp only[aSq,aSG];omega)];rw[show ((i:Int)+1)=((i+1:Nat):Int) by omega,aHN,aSj (show pY ((i+1:Nat):Int) by unfold pY;omega),aSj (show pY ((i+1:Nat):Int) by unfold pY;omega)]
      have hlt:=aPf hai hi hno h10;obtain⟨n,rfl⟩: ∃n',n=n'+1:=⟨n-1,pC⟩;rw[NJ hst,a8W hs m (i+1) (i+1) n _ pC (aSE _) pC pF (fun j h h1 h2=>by omega),D8,aSj pC,hlt];simp
    have hst:IM s (out,(a:Int),(i:Int))=some (.inl (out,(a:Int),((i+1:Nat):Int))):=by
      unfold IM;dsimp only;rw[aSj (tX hi),aSj (sU hi),xB hi,aSl (by simp only[aSs];intro h;exact h10 (RY.1 (show (s[i].toNat:Int)=((10:UInt8).toNat:Int) from h))),aSj (uB pC)];rfl
    rw[NJ hst,a8W hs m (i+1) a n out pC pC hn ho (fun j h h1 h2=>by
      by_cases hj:j=i
      .subst hj;exact h10
      exact hno j h h1 pC)]
def aPh {s:p8}(hs:s.length≤4000000000):IN s=some ((XQ s).map (·.2)):=by
  have h:=a8W hs s.length 0 0 s.length [] pC (aSE _) pC (aSE _) (fun j h h1 h2=>by omega);unfold IN;exact h
def AH (s:p8) (a:Nat):p8:=(s.drop a).take (tT s a-a)
def zU (s:p8):Nat→St→Nat→(Nat×Int)⊕St
  |0,st,_=> .inr st
  | n +1,st,a=>if a<s.length then
      (if (wE st (sM (AH s a)) (tT s a:Nat)).1=0 then zU s n (wE st (sM (AH s a)) (tT s a:Nat)).2 (tT s a) else .inl (a,(wE st (sM (AH s a)) (tT s a:Nat)).1))
    else .inr st
def BY (s:p8):(Nat×Int)⊕St:=match zU s (s.length+1) uG 0 with
  | .inl q=> .inl q
  | .inr st=>if st.op=true∨st.ends=[] then .inl (s.length,3) else .inr st
abbrev St.flat19 (s:St):p8×p9×(List qG)×(List rW)×pI×p8×p8×p8×p9×p9×Int×(List qG)×Bool×Bool×Bool×Bool×Bool×p8×p8:=
  (s.c.1,s.c.2.1,s.c.2.2.1,s.c.2.2.2.1,s.ends,s.id,s.sc,s.tg,s.cm,s.fg,s.sv,s.fd,s.op,s.bs,s.bt,s.bh,s.bf,s.last,s.name)
def aHP {s:p8}: ∀(n:Nat) (st:St) (a:Nat) {st':St},uV st→zU s n st a= .inr st'→uV st'
  |0,st,a,st',h,e=>by cases e;exact h
  | n+1,st,a,st',h,e=>by
    rw[zU] at e;split at e
    · split at e
      · rename_i h0
        exact aHP n _ _ (XO h _ _ h0) e
      cases e
    cases e;exact h
def aHQ {s:p8}(hs:s.length≤1000000000) {L:p9}(hLl:L.length≤1000000000): ∀(n a i:Nat) (st:St),uV st→a≤s.length→s.length≤n+a→i≤L.length→L.drop i=(D8 s n a).map (·.2)→
    rG (MA L) ((a:Int),(i:Int),st.flat19)=some (match zU s (n+1) st a with| .inr st'=> .inl st'.flat19| .inl q=> .inr ([],[],[],[],[],(q.1:Int),q.2))
  | n,a,i,st,hst,ha,hn,hi,hd=>by
    by_cases hlt:a<s.length
    · obtain⟨n,rfl⟩: ∃n',n=n'+1:=⟨n-1,pC⟩
      have hto:=SC hlt;rw[D8,aSj hlt,aTC] at hd
      have hil:i<L.length:=by
        rcases aTl i L.length with h|h
        .exact h
        rw[List.drop_eq_nil_of_le h] at hd;cases hd
      rw[aSK hil] at hd;obtain⟨hLi,hd⟩:=List.cons.inj hd;have hLi:L[i]=AH s a:=hLi;have hll:(AH s a).length=tT s a-a:=by unfold AH;rw[aSX,aSR];omega
      obtain⟨v,hv,he,hz⟩:=aPc hst (p:=AH s a) pC (tT s a:Nat);rw[tI];generalize hF:rG (MA L)=F;unfold MA;dsimp only;rw[aSj (tX hil),aSj (sU hil),AD hil,hLi,hll,aSj (by unfold pY;omega),aSj (sU hil)];rw[show ((a:Int)+((tT s a-a:Nat):Int))=((tT s a:Nat):Int) by omega];have hv':JG ((st.c.1,(st.c.2.1,(st.c.2.2.1,(st.c.2.2.2.1,())))),(st.ends,((st.id,(st.sc,(st.tg,(st.cm,(st.fg,(st.sv,(st.fd,()))))))),(st.op,(st.bs,(st.bt,(st.bh,(st.bf,(st.last,(st.name,())))))))))) (AH s a) ((tT s a:Nat):Int)=some v:=hv;rw[hv',aSm,zU,aSj hlt];have he:v.2.2.2.2.2.2.2.2.2.2.2.2.2.2.2.2.2.2.2=(wE st (sM (AH s a)) (tT s a:Nat)).1:=he;rw[he];by_cases h0:(wE st (sM (AH s a)) (tT s a:Nat)).1=0
      · rw[aSl (by rw[h0];simp),aSj h0,aSj (uB pC),aSm,hz h0]
        dsimp only;rw[show ((i:Int)+1)=((i+1:Nat):Int) by omega,←hF];exact aHQ hs hLl n (tT s a) (i+1) _ (XO hst _ _ h0) hto.2 pC pC hd
      rw[aSj (by simp [h0]),aSl h0,aSm]
    have hnil:D8 s n a=[]:=a8V pC
    rw[hnil,List.map_nil] at hd
    have hil:i=L.length:=by
      have:=aSL List.length hd;rw[aSR,aSG] at this;omega
    subst hil;rw[zU,aSl hlt,tI];unfold MA;dsimp only;rw[aSl (xC _),aSm]
def aHR (s:p8): ∀(n i:Nat),(D8 s n i).length≤n
  |0,_=>aSE _
  | n+1,i=>by
    rw[D8];split
    · have:=aHR s n (tT s i)
      simp only[aSq];omega
    simp
abbrev R7:=p8×p9×(List qG)×(List rW)×pI×Int×Int
def aPi:(Nat×Int)⊕St→R7
  | .inl q=>([],[],[],[],[],(q.1:Int),q.2)
  | .inr st=>(st.c.1,st.c.2.1,st.c.2.2.1,st.c.2.2.2.1,st.ends,0,0)
def aPj {s:p8}(hs:s.length≤1000000000):MB s=some (aPi (BY s)):=by
  have hl:=aHR s s.length 0;have h:=aHQ hs (L:=(XQ s).map (·.2)) (by rw[aTE];unfold XQ;omega) s.length 0 0 uG a8T (aTg _) (aSE _) (aTg _) rfl;unfold MB;rw[aPh pC,aSm];have h':rG (MA ((XQ s).map (·.2))) ((0:Int),(0:Int),([]:p8),([]:p9),([]:List qG),([]:List rW),([]:pI),([]:p8),([]:p8),([]:p8),([]:p9),([]:p9),(0:Int),([]:List qG),false,false,false,false,false,([]:p8),([]:p8))=_:=h;rw[h'];unfold BY;cases zU s (s.length+1) uG 0 with
  |inl q=>rfl
  | inr st=>
    unfold tC;rw[aSm];dsimp only;rw[S9];by_cases hc:st.op=true∨st.ends=[]
    · rw[aSj hc,aSj (by rcases hc with hc|hc<;>simp [hc])]
      rfl
    rw[aSl hc,aSl (by rw[not_or] at hc;simpa using hc)]
    rfl
end
noncomputable section
def EI (l:List tM):List tM:=l.foldl (fun acc f=>xE acc f.1 f.2.1) []
def P3 (l:List tM) (n v:p8):EI (l++[(n,v,())])=xE (EI l) n v:=by
 unfold EI;rw[List.foldl_append];rfl
def aPk {l:List tM}{n v:p8}(h:(l.any fun y=>decide (y.1=n))=false):(xE l n v).Perm (l++[(n,v,())]):=by
 rw[SA h];have h1:(l.take (uJ l n)++l.drop (uJ l n))=l:=aTv _ _;have h2:(l.take (uJ l n)++[(n,v,())]++l.drop (uJ l n)).Perm (l.take (uJ l n)++(l.drop (uJ l n)++[(n,v,())])):=by
  rw[aSv];exact List.Perm.append_left _ List.perm_append_comm
 have h3:l.take (uJ l n)++(l.drop (uJ l n)++[(n,v,())])=l++[(n,v,())]:=by rw[<-aSv,h1]
 rw[h3] at h2;exact h2
def SD {l l':List tM}(h:l.Perm l') (n:p8):(l.any fun y=>decide (y.1=n))=l'.any fun y=>decide (y.1=n):=h.any_eq
def P4 {l:List tM}{n v:p8}:((l++[(n,v,())]).map (·.1)).Nodup↔(l.map (·.1)).Nodup/\(l.any fun y=>decide (y.1=n))=false:=by
 rw[List.map_append,List.nodup_append];constructor
 .rintro⟨h1,_,h3⟩;refine⟨h1,aS6.2 fun x hx=>?_⟩;have:=h3 x.1 (List.mem_map.2 ⟨x,hx,rfl⟩) n pE;simpa using this
 rintro⟨h1,h2⟩;refine⟨h1,by simp,fun a ha b hb=>?_⟩;obtain⟨x,hx,rfl⟩:=List.mem_map.1 ha;have hb:b=n:=by simpa using hb
 have:=aS6.1 h2 x hx;rw[hb];simpa using this
def aHS {α:Type}{P:List α->Prop}(h0:P []) (h1: ∀l x,P l->P (l++[x])) (l:List α):P l:=by
 have: ∀n (l:List α),l.length=n->P l:=by
  intro n
  induction n with
  |zero=>intro l hl;rw[aTi.1 hl];exact h0
  |succ n ih=>
   intro l hl;have hne:l≠[]:=fun e=>by rw[e] at hl;cases hl
   rw[<-List.dropLast_concat_getLast hne];exact h1 _ _ (ih _ (by rw[List.length_dropLast,hl];rfl))
 exact this _ l rfl
def P5: ∀l:List tM,(l.map (·.1)).Nodup->(EI l).Perm l:=by
 refine aHS (fun _=>List.Perm.refl _) fun l x ih h=>?_;obtain⟨n,v,u⟩:=x;obtain⟨h1,h2⟩:=P4.1 h;rw[P3];have hp:=ih h1;exact(aPk (by rw[SD hp];exact h2)).trans (hp.append_right _)
def a8X: ∀l:List tM,(l.map (·.1)).Nodup->(EI l).Pairwise (fun a b=>a.1<b.1):=by
 refine aHS (fun _=>List.Pairwise.nil) fun l x ih h=>?_;obtain⟨n,v,u⟩:=x;obtain⟨h1,h2⟩:=P4.1 h;rw[P3];have hp:=P5 l h1;have ha:((EI l).any fun y=>decide (y.1=n))=false:=by rw[SD hp];exact h2
 have hne: ∀y∈EI l,y.1≠n:=fun y hy=>by simpa using aS6.1 ha y hy
 rw[SA ha];unfold uJ;refine a8L (fun y:tM=>y.1) (x:=(n,v,())) (ih h1) hne fun y hy=>?_;rw[BU];have:decide (y.1=n)=false:=by simpa using hne y hy
 rw[this,Bool.or_false]
def aHT {l:List tM}{n v z:p8}(h:(l.any fun y=>decide (y.1=n))=false) (hl:l.Pairwise (fun a b=>a.1<b.1)):xE (xE l n v) n z=xE l n z/\ED (xE l n v) n=(v,true):=by
 have hk1:uJ l n<=l.length:=aGS l n;have hne: ∀y∈l,y.1≠n:=fun y hy=>by simpa using aS6.1 h y hy
 have hlen:(l.take (uJ l n)).length=uJ l n:=by rw[aSX];omega
 have hk:xZ (l.take (uJ l n)++[(n,v,())]++l.drop (uJ l n)) n=some (uJ l n):=by
  unfold xZ;rw[aSv,List.findIdx?_append];have:((l.take (uJ l n)).findIdx? fun x=>decide (x.1=n))=none:=by
   rw[aTk];intro x hx;simpa using hne x (List.mem_of_mem_take hx)
  rw[this,hlen,List.singleton_append,aTH];simp
 constructor
 .rw[SA h,SA h];unfold xE;rw[hk];show (l.take (uJ l n)++[(n,v,())]++l.drop (uJ l n)).set (uJ l n) (n,z,())=_;rw[aSv,List.set_append_right _ _ pC,hlen,aTR];simp
 rw[SA h];unfold ED;rw[hk];show ((((l.take (uJ l n)++[(n,v,())]++l.drop (uJ l n)).getD (uJ l n) ([],[],())).2.1,true):p8×Bool)=(v,true);rw[aSM,aSv,aSt pC,hlen,aTR];rfl
def aPl {l:List tM}(h:(l.map (·.1)).Nodup) (hl:l.length<=1000):Bs.blocks_sorted l=some (EI l,l.length):=by
 have hcol:Bs.slices_Collect_api_Field_api_Field_F1 l=some l:=by
  have hfold: ∀(m acc:List tM),m.length+acc.length<=1000->Vc.F1 Bs.slices_AppendSeq_api_Field_api_Field_F1_step1 m acc=some (.inl (acc++m)):=by
   intro m
   induction m with
   |nil=>intro acc _;show some (Sum.inl acc)=_;rw[List.append_nil]
   |cons x m ih=>
    intro acc ha;simp only[aSq] at ha;have hst:Bs.slices_AppendSeq_api_Field_api_Field_F1_step1 x acc=some (.inl (acc++[x])):=by
     unfold Bs.slices_AppendSeq_api_Field_api_Field_F1_step1;rw[aSj (by simp only[aSq,aSG];omega)]
    show (Bs.slices_AppendSeq_api_Field_api_Field_F1_step1 x acc).bind _=_;rw[hst,aSm];show Vc.F1 Bs.slices_AppendSeq_api_Field_api_Field_F1_step1 m (acc++[x])=_;rw[ih _ (by rw[aSp];simp only[aSq,aSG];omega),aSv];rfl
  unfold Bs.slices_Collect_api_Field_api_Field_F1 Bs.slices_AppendSeq_api_Field_api_Field_F1;rw[aSj pC];have:=hfold l [] (by simpa using hl);rw[show QQ l=l from rfl,this];unfold tC;rfl
 have hs:vH l=EI l:=by
  obtain⟨h1,h2⟩:=aCK l;have hp:(vH l).Perm l:=by
   have:=h1.2.2;have e1:(vH l).toArray.extract 0 l.length=(vH l).toArray:=by
    rw[show l.length=(vH l).toArray.size from(W6 l).symm];simp
   have e2:l.toArray.extract 0 l.length=l.toArray:=by
    rw[show l.length=l.toArray.size by simp];simp
   rw[e1,e2] at this;simpa using this
  have hp2:=P5 l h;have hpw:(vH l).Pairwise (fun a b=> ¬b.1<a.1):=by
   rw[aSZ];intro i j hi hj hij;have hx:=h2 i j (aTg _) hij (by rw[W6] at hj;exact hj);rw[getElem!_pos (vH l).toArray i (by simpa using hi),getElem!_pos (vH l).toArray j (by simpa using hj)] at hx;simp only[List.getElem_toArray] at hx;intro hlt;unfold ltOf D1 at hx;exact of_decide_eq_false hx ((a1o _ _).2 hlt)
  have hnd:((vH l).map (·.1)).Nodup:=(hp.map _).nodup_iff.2 h;have hpw2:(vH l).Pairwise (fun a b=>a.1<b.1):=by
   rw[aSZ] at hpw|-;intro i j hi hj hij;refine XG (hpw i j hi hj hij) fun e=>?_;have:=aSZ.1 (List.nodup_iff_pairwise_ne.1 hnd) i j (by simpa using hi) (by simpa using hj) hij;rw[List.getElem_map,List.getElem_map] at this;exact this e.symm
  exact(hp.trans hp2.symm).eq_of_pairwise (fun a b _ _ h1 h2=>absurd h2 (List.lt_asymm h1)) hpw2 (a8X l h)
 unfold Bs.blocks_sorted Bs.slices_SortedFunc_api_Field_api_Field_F1_blocks_sortedF1;rw[hcol,aSm,aSj pC,aSm,hs]
def a8Y {l:List Wd}{p:p8}{i:Nat}(h:i<l.length) (hp:i<p.length) (hl:l.length<=10):O0 l p (i:Int)=if (l[i].1==decide (p[i]=115))=true then some (.inl ((i:Int)+1)) else some (.inr (.inr false)):=by
 unfold O0;rw[aSj (tX h),aSj (sU h),aSj (sU hp),FM h,xB hp,vB (n:=115) 115 rfl,aSj (uB pC)];cases(l[i].1==decide (p[i]=115))<;>rfl
def aHU {l:List Wd}{p:p8}:O0 l p (l.length:Int)=some (.inr (.inl ())):=by
 unfold O0;rw[aSl (xC _)]
def XR (l:List Wd) (c:UInt8):yC l [c]=some (match l with|[a]=>a.1==decide (c=115) |_=>false):=by
 match l with
 |[]=>unfold yC;rfl
 |[a]=>
  unfold yC;rw[aSl pE,show ((0:Int))=((0:Nat):Int) from rfl,tI,a8Y (l:=[a]) (p:=[c]) (i:=0) pE pE pE];show tC (Option.bind (if (a.1==decide (c=115))=true then _ else _) _) _=some (a.1==decide (c=115));cases(a.1==decide (c=115)) with
  |false=>rfl
  |true=>
   rw[aSj rfl,aSm];dsimp only;rw[show (((0:Nat):Int)+1)=(([a]:List Wd).length:Int) from rfl,tI,aHU];rfl
 |a::b::t=>
  unfold yC;rw[aSj (by simp only[aSV,aS2,aSq,aSG];omega)]
def aPm (l:List Wd):yC l [115,115]=some (match l with|[a,b]=>a.1&&b.1|_=>false):=by
 match l with
 |[]=>unfold yC;rfl
 |[a]=>unfold yC;rfl
 |[a,b]=>
  unfold yC;rw[aSl pE,show ((0:Int))=((0:Nat):Int) from rfl,tI,a8Y (l:=[a,b]) (p:=[115,115]) (i:=0) pE pE pE];show tC (Option.bind (if (a.1==true)=true then _ else _) _) _=some (a.1&&b.1);cases a.1 with
  |false=>rfl
  |true=>
   rw[aSj (show (true==true)=true from rfl),aSm];dsimp only;rw[show (((0:Nat):Int)+1)=((1:Nat):Int) from rfl,tI,a8Y (l:=[a,b]) (p:=[115,115]) (i:=1) pE pE pE];show tC (Option.bind (if (b.1==true)=true then _ else _) _) _=some (true&&b.1);cases b.1 with
   |false=>rfl
   |true=>
    rw[aSj (show (true==true)=true from rfl),aSm];dsimp only;rw[show (((1:Nat):Int)+1)=(([a,b]:List Wd).length:Int) from rfl,tI,aHU];rfl
 |a::b::c::t=>
  unfold yC;rw[aSj (by simp only[aSV,aS2,aSq,aSG];omega)]
def a8Z (l:List Wd):yC l [115]=some (sZ l).isSome:=by
 rw[XR];unfold sZ
 match l with
 |[]=>rfl
 |[a]=>cases h:a.1<;>simp [h]
 |a::b::t=>rfl
end
noncomputable section
abbrev Mp:=pG
structure Pg where
 c:C4
 pl:Int
 id:p8
 sc:p8
 tg:p8
 fg:p9
 sv:Int
 ap:Nat
 ends:pI
 cm:Option p9
 n1:Nat
 fl:Option (List tM)
 n2:Nat
 seen:Mp
 ids:Mp
def JR (k:p8):Nat:=if k=tR then 1 else if k=tS then 2 else if k=uU then 3 else if k=vQ then 4 else 0
structure D9 (s:St) (P:Pg):Prop where
 c:P.c=s.c
 ends:P.ends=s.ends
 pl:P.pl=if s.op=true then(if s.ends=[] then 1 else 3) else(if s.ends=[] then 0 else 2)
 x:s.op=true->P.sc=s.sc/\P.tg=s.tg/\P.fg=s.fg/\P.sv=s.sv/\P.cm=some s.cm
 id:s.op=true->s.ends≠[]->P.id=s.id
 fl:s.op=true->∃l,P.fl=some l/\EI l=s.fd/\(l.map (·.1)).Nodup/\(s.last=vQ->∃l' v,l=l'++[(s.name,v,())])
 ap:P.ap=JR s.last
 seen:s.op=true->sF .str .bool P.seen tR=s.bs/\sF .str .bool P.seen tS=s.bt/\sF .str .bool P.seen vY=s.bh/\sF .str .bool P.seen vJ=s.bf
 ids: ∀t,sF .str .bool P.ids t=((s.c.2.2.2.1.any fun y=>decide (y.1=t))||((s.op&&decide (s.ends≠[]))&&decide (s.id=t)))
 live:s.op=true\/s.ends≠[]
abbrev JS:=Int×p8×p9×(List qG)×(List rW)×Int×p8×p8×p8×p9×Int×Nat×pI×pG×(Option p9)×Nat×(Option (List qG))×Nat×pG
def a80 (v:JS):Pg:=
 ⟨(v.2.1,(v.2.2.1,(v.2.2.2.1,(v.2.2.2.2.1,())))),v.2.2.2.2.2.1,v.2.2.2.2.2.2.1,v.2.2.2.2.2.2.2.1,v.2.2.2.2.2.2.2.2.1,v.2.2.2.2.2.2.2.2.2.1,v.2.2.2.2.2.2.2.2.2.2.1,v.2.2.2.2.2.2.2.2.2.2.2.1,v.2.2.2.2.2.2.2.2.2.2.2.2.1,v.2.2.2.2.2.2.2.2.2.2.2.2.2.2.1,v.2.2.2.2.2.2.2.2.2.2.2.2.2.2.2.1,v.2.2.2.2.2.2.2.2.2.2.2.2.2.2.2.2.1,v.2.2.2.2.2.2.2.2.2.2.2.2.2.2.2.2.2.1,v.2.2.2.2.2.2.2.2.2.2.2.2.2.2.2.2.2.2,v.2.2.2.2.2.2.2.2.2.2.2.2.2.1⟩
def BZ (A:Option JS) (r:Int×St):Prop:= ∃v,A=some v/\v.1=r.1/\(r.1=0->D9 r.2 (a80 v))
def vD {A:Option JS}{e:Int}{s:St}{v:JS}(h:A=some v) (he:v.1=e) (hne:e≠0):BZ A (e,s):=⟨v,h,he,fun h0=>absurd h0 hne⟩
def FO {A:Option JS}{s:St}{v:JS}(h:A=some v) (he:v.1=0) (hr:D9 s (a80 v)):BZ A (0,s):=⟨v,h,he,fun _=>hr⟩
def SE:JR uU=3:=by decide
def SF:JR tR=1:=by decide
def SG:JR tS=2:=by decide
def SH:JR vQ=4:=by decide
def ML:JR []=0:=by decide
def aHV {s:St}(h:uV s):JR s.last=0↔s.last=[]:=by
 constructor
 .intro h0;rcases h.lst with e|e|e|e|e
  .exact e
  .rw[e,SE] at h0;cases h0
  .rw[e,SF] at h0;cases h0
  .rw[e,SG] at h0;cases h0
  rw[e,SH] at h0;cases h0
 intro h0;rw[h0];exact ML
def aHW {l:List Wd}(hl:l.length<=1000000000) {sc tg:p8}{o1:Option p9}{n1:Nat}{o2:Option (List tM)}{n2:Nat}: ∀(n i:Nat) (a:p8),i+n=l.length->a.length+(r6 (l.drop i)).flatten.length<=9000000000000000000->
  rG (OF sc tg l o1 n1 o2 n2) (a,(i:Int))=some (if ((l.drop i).any fun x=> !x.1)=true then .inr (3,sc,tg,o1,n1,o2,n2) else .inl (a++(r6 (l.drop i)).flatten))
 |0,i,a,hi,_=>by
  have:i=l.length:=by omega
  subst this;rw[aTc,tI];unfold OF;dsimp only;rw[aSl (xC _),aSl pE];show some (Sum.inl a)=some (Sum.inl (a++[]));rw[List.append_nil]
 |n+1,i,a,hi,hb=>by
  have hlt:i<l.length:=by omega
  have h2:(r6 (l.drop i)).flatten=l[i].2.1++(r6 (l.drop (i+1))).flatten:=by
   unfold r6;rw[aSK hlt,aTC,aUi]
  rw[h2,aSp] at hb;rw[tI];generalize hF:rG (OF sc tg l o1 n1 o2 n2)=F;unfold OF;dsimp only;rw[aSj (tX hlt),aSj (sU hlt),FM hlt,h2,aSK hlt,List.any_cons];cases hq:l[i].1 with
  |false=>rfl
  |true=>
   rw[aSl pE,aSj (by rw[aSp];omega),aSj (uB pC),aSm];dsimp only;rw[<-hF,show ((i:Int)+1)=((i+1:Nat):Int) by omega,aHW hl n (i+1) _ pC (by rw[aSp];omega),aSv];rfl
def a81 (P:Pg) (l:List Wd):Option JS:=
  (M1 P.c P.pl P.id P.sc P.tg P.fg P.sv P.ap (P.ends,()) l P.cm P.n1 P.fl P.n2 P.seen P.ids).bind fun O=>
  some ((O.1,P.c.1,P.c.2.1,P.c.2.2.1,P.c.2.2.2.1,P.pl,P.id,O.2.1,O.2.2.1,P.fg,P.sv,P.ap,P.ends,P.ids,O.2.2.2.1,O.2.2.2.2.1,O.2.2.2.2.2.1,O.2.2.2.2.2.2,P.seen))
def aPn {α:Type}{l:List α}{z:α}(h:l≠[]):l.set (l.length-1) z=l.dropLast++[z]:=by
 have hpos:=aTO.2 h
 conv=>lhs;rw[<-List.dropLast_concat_getLast h]
 rw[List.set_append_right _ _ (by rw[List.length_dropLast];simp [List.length_dropLast])];simp [List.length_dropLast]
def aPo {s:St}(h:uV s) {P:Pg}(hr:D9 s P) {l:List Wd}(hl:l.length<=1000000000) (ht:(r6 l).flatten.length<=1000000000) (next:Int):
  BZ (a81 P l) (if (l.any fun x=> !x.1)=true then(3,s) else rU s next (.cont (r6 l).flatten)):=by
 have hct:=FJ (aHF h);have hlp:=aHW (sc:=P.sc) (tg:=P.tg) (o1:=P.cm) (n1:=P.n1) (o2:=P.fl) (n2:=P.n2) hl l.length 0 [] pC (by rw[aTr,aSG];omega);rw[aTr] at hlp;unfold a81 M1;rw[show ((0:Int))=((0:Nat):Int) from rfl,hlp];by_cases ha:(l.any fun x=> !x.1)=true
 .rw[aSj ha,aSj ha];exact vD rfl rfl pD
 rw[aSl ha,aSl ha];unfold tC;rw[aSm];dsimp only;rw[List.nil_append];have h64:((3:Int))=3:=rfl;rw[rU];by_cases hla:s.last=[]
 .have hap:P.ap=0:=by rw[hr.ap];exact(aHV h).2 hla
  rw[aSl (by rw[hap];simp),aSj rfl,aSj (.inr hla)];exact vD rfl rfl pD
 have hap:P.ap≠0:=fun e=>hla ((aHV h).1 (by rw[<-hr.ap];exact e));have hop:s.op=true:=by
  cases ho:s.op with
  |true=>rfl
  |false=>exact absurd (h.off ho) hla
 obtain⟨x1,x2,x3,x4,x5⟩:=hr.x hop;obtain⟨fl,f1,f2,f3,f4⟩:=hr.fl hop;rw[aSj (by rw[decide_eq_false hap];rfl),x5,f1,aSm,aSm,aSl (by rw[hop];simp [hla])];have hcur:KB P.ap P.sc P.tg (EQ s.cm) (HV fl)=tH s:=by
  rw[hr.ap,x1,x2];unfold KB tH;rcases h.lst with e|e|e|e|e
  .exact absurd e hla
  .rw[e,SE,aSl pD,aSl pD,aSj rfl,aSj rfl];unfold EQ;have hpos:=aTO.2 (h.lcm e);rw[aSM,List.getLastD_eq_getLast?,List.getLast?_eq_getElem?]
  .rw[e,SF,aSj rfl,aSl pD,aSj rfl]
  .rw[e,SG,aSl pD,aSj rfl,aSl pD,aSl pD,aSj rfl]
  obtain⟨l',v,e2⟩:=f4 e;rw[e,SH,aSl pD,aSl pD,aSl pD,aSl pD,aSl pD,aSl pD,<-f2,e2,P3];rw[e2] at f3;obtain⟨g1,g2⟩:=P4.1 f3;rw[(aHT (v:=v) (z:=v) (by rw[SD (P5 l' g1)];exact g2) (a8X l' g1)).2];unfold HV;simp
 unfold AS;rw[hcur];dsimp only;have hfit:rZ (tH s++(r6 l).flatten):=by unfold rZ;rw[aSp];omega
 rw[aSj (fun _=>hap),aSj (fun _=>by rw[aSp];omega),aSj (fun _=>by rw[aG6 _ hfit];rfl),decide_eq_false hap,Bool.false_or];have hto:((decide (((tH s++(r6 l).flatten).length:Int)<=(4000:Int)))&&(Lib.validD (tH s++(r6 l).flatten)))=sS (tH s++(r6 l).flatten):=rfl;rw[hto];cases htx:sS (tH s++(r6 l).flatten) with
 |false=>exact vD rfl rfl pD
 |true=>
  rw[aSl pE,aSj rfl];refine FO rfl rfl ?_;obtain⟨k1,k2,k3,k4,k5,k6,k7,k8,k9,k10,k11,k12⟩:=aHK s (tH s++(r6 l).flatten);generalize hz:tH s++(r6 l).flatten=z at*;have hap':=hr.ap;refine {c:=hr.c.trans k1.symm,ends:=hr.ends.trans k2.symm,pl:= ?_,x:=fun _=>?_,id:=fun _ he=>?_,fl:=fun _=>?_,ap:=hr.ap.trans (by rw[k11]),seen:=fun _=>?_,ids:=fun t=>?_,live:= ?_}
  .rw[k6,k2];exact hr.pl
  .show KC (true&&decide (P.ap=1)) z P.sc=_/\KC (true&&decide (P.ap=2)) z P.tg=_/\P.fg=_/\P.sv=_/\some (ER (true&&decide (P.ap=3)) z s.cm)=some _;rw[k4,k5,hap',x1,x2];unfold uC;rcases h.lst with e|e|e|e|e
   .exact absurd e hla
   .rw[aSj e,e,SE];refine⟨rfl,rfl,x3,x4,?_⟩;have:=aPn (z:=z) (h.lcm e);unfold ER;rw[aSj pR,this]
   .rw[aSl (by rw[e];decide),aSj e,e,SF];exact⟨rfl,rfl,x3,x4,rfl⟩
   .rw[aSl (by rw[e];decide),aSl (by rw[e];decide),aSj e,e,SG];exact⟨rfl,rfl,x3,x4,rfl⟩
   rw[aSl (by rw[e];decide),aSl (by rw[e];decide),aSl (by rw[e];decide),e,SH];exact⟨rfl,rfl,x3,x4,rfl⟩
  .rw[k3];rw[k2] at he;exact hr.id hop he
  .show∃l,some (ES (true&&decide (4<=P.ap)) z fl)=some l/\_;rw[k11,k12,hap'];refine⟨_,rfl,?_⟩;unfold uC;rcases h.lst with e|e|e|e|e
   .exact absurd e hla
   .rw[aSj e,e,SE];exact⟨f2,f3,fun h0=>absurd h0 vC.2.2.2.2.2.2.2.1⟩
   .rw[aSl (by rw[e];decide),aSj e,e,SF];exact⟨f2,f3,fun h0=>absurd h0 vC.2.2.2.2.2.2.2.2.1⟩
   .rw[aSl (by rw[e];decide),aSl (by rw[e];decide),aSj e,e,SG];exact⟨f2,f3,fun h0=>absurd h0 vC.2.2.2.2.2.2.2.2.2⟩
   obtain⟨l',v,e2⟩:=f4 e;rw[aSl (by rw[e];decide),aSl (by rw[e];decide),aSl (by rw[e];decide),e,SH];have hset:ES (true&&decide (4<=4)) z fl=l'++[(s.name,z,())]:=by
    unfold ES;rw[aSj pR,e2];have hg:(l'++[(s.name,v,())]).getD ((l'++[(s.name,v,())]).length-1) ([],[],())=(s.name,v,()):=by simp
    rw[hg];simp
   rw[hset];rw[e2] at f3;obtain⟨g1,g2⟩:=P4.1 f3;refine⟨?_,P4.2 ⟨g1,g2⟩,fun _=>⟨l',z,rfl⟩⟩;rw[P3,<-f2,e2,P3];exact(aHT (by rw[SD (P5 l' g1)];exact g2) (a8X l' g1)).1.symm
  .rw[k7,k8,k9,k10];exact hr.seen hop
  .rw[k1,k2,k3,k6];exact hr.ids t
  rw[k2,k6];exact hr.live
end
noncomputable section
def aHX (v:p8):DU HF v=some (xD v):=by
 rw[aNw HF v (by unfold rZ;decide)];unfold xD;simp only[eq_comm]
def aPp (v:p8):H5 HF v=some (decide (0<=xD v)):=by
 unfold H5;rw[aHX];rfl
def xG {α:Type}{w:α}{r:List α}:0<=(0:Int)/\(0:Int)<((w::r).length:Int):=⟨aTa _,by simp only[aSq];omega⟩
section
variable (c:sE) (pl:Int) (id sc tg:p8) (fg:p9) (sv:Int) (en:pI×Unit) (r:List Wd) (cm:p9) (fl:List qG) (seen ids:Mp)
def aPq (h:cm.length<=20):IX c pl id sc tg fg sv en r cm fl seen ids=some (match sZ r with|none=>(3,0,cm) |some t=>if cm.length=20 then(6,0,cm) else(0,3,cm++[t])):=by
 unfold IX;rw[a8Z,aSm];cases ho:sZ r with
 |none=>rfl
 |some t=>
  rw[MJ ho,aSl pE];dsimp only;by_cases h2:cm.length=20
  .rw[aSj pF,aSj h2]
  have hn:qH qO [(true,t,())] (0:Int)=(true,t,()):=rfl;rw[aSl pF,aSl h2,aSj xG,aSj (by simp only[aSq,aSG];omega),hn,aSj (by rw[aSp];simp only[aSq,aSG];unfold pY;omega),aSj (by rw[aSp];simp only[aSq,aSG];omega)]
def aPr (h:fl.length<=20):rZ fl:=by unfold rZ;omega
def aPs (h:fl.length<=20):JD c pl id sc tg fg sv en r cm fl seen ids=some (match BW r with|none=>(3,0,fl) |some q=>if (fl.any fun y=>decide (y.1=q.1))=true then(9,0,fl) else if fl.length=20 then(6,0,fl) else(0,4,fl++[(q.1,q.2,())])):=by
 unfold JD;rw[aPm,aSm]
 match r with
 |[]=>rfl
 |[a]=>rfl
 |[a,b]=>
  have hn0:qH qO [a,b] (0:Int)=a:=rfl;have hn1:qH qO [a,b] (1:Int)=b:=rfl;have hp1:0<=(1:Int)/\(1:Int)<(List.length [a,b]:Int):=by simp
  rw[hn0,hn1,aGO];dsimp only;rw[aSj (fun _=>xG),aSj (fun _=>Option.isSome_some)];show (if ((!(a.1&&b.1))||(!vX a.2.1))=true then _ else _)=_
  have hf:BW [a,b]=if (a.1=true/\b.1=true)/\vX a.2.1=true then some (a.2.1,b.2.1) else none:=rfl;by_cases hc:(a.1=true/\b.1=true)/\vX a.2.1=true
  .rw[hf,aSj hc];obtain⟨⟨h1,h2⟩,h3⟩:=hc;rw[aSl (by rw[h1,h2,h3];simp),aSj xG,aNz _ _ (aPr fl h),aSm,aGQ];dsimp only;by_cases h4:(fl.any fun y=>decide (y.1=a.2.1))=true
   .rw[aSj h4,aSj h4]
   rw[aSl h4,aSl h4];by_cases h5:fl.length=20
   .rw[aSj pF,aSj h5]
   rw[aSl pF,aSl h5,aSj xG,aSj hp1,aSj (by simp only[aSq,aSG];omega),aSj (by rw[aSp];simp only[aSq,aSG];unfold pY;omega),aSj (by rw[aSp];simp only[aSq,aSG];omega)]
  .rw[hf,aSl hc,aSj (by
    cases h1:a.1<;>cases h2:b.1<;>cases h3:vX a.2.1<;>first|rfl|exact absurd ⟨⟨h1,h2⟩,h3⟩ hc)]
 |a::b::d::t=>rfl
def aHY:J8 c pl id sc tg fg sv en r cm fl seen ids=some (match sZ r with|none=>(3,sc,0,seen) |some t=>if sF .str .bool seen tR=true then(9,sc,0,sT .str .bool tR true seen) else(0,t,1,sT .str .bool tR true seen)):=by
 unfold J8 O6;rw[a8Z,aSm];cases ho:sZ r with
 |none=>rfl
 |some t=>
  have hn:qH qO [(true,t,())] (0:Int)=(true,t,()):=rfl;rw[MJ ho,aSl pE];dsimp only;show Option.bind (if sF .str .bool seen tR=true then _ else _) _=_;by_cases h2:sF .str .bool seen tR=true
  .rw[aSj h2,aSj h2];rfl
  rw[aSl h2,aSl h2,aSj xG,hn];rfl
def aHZ:J9 c pl id sc tg fg sv en r cm fl seen ids=some (match sZ r with|none=>(3,tg,0,seen) |some t=>if sF .str .bool seen tS=true then(9,tg,0,sT .str .bool tS true seen) else(0,t,2,sT .str .bool tS true seen)):=by
 unfold J9 O8;rw[a8Z,aSm];cases ho:sZ r with
 |none=>rfl
 |some t=>
  have hn:qH qO [(true,t,())] (0:Int)=(true,t,()):=rfl;rw[MJ ho,aSl pE];dsimp only;show Option.bind (if sF .str .bool seen tS=true then _ else _) _=_;by_cases h2:sF .str .bool seen tS=true
  .rw[aSj h2,aSj h2];rfl
  rw[aSl h2,aSl h2,aSj xG,hn];rfl
def aH0:JA c pl id sc tg fg sv en r cm fl seen ids=some (match BV r with|none=>(3,sv,seen) |some v=>if sF .str .bool seen vY=true then(9,sv,sT .str .bool vY true seen) else(0,v,sT .str .bool vY true seen)):=by
 unfold JA
 match r with
 |[]=>rw[XR];rfl
 |[a]=>
  have hst:yC [a] [112]=some (!a.1):=by rw[XR];cases h:a.1<;>simp [h]
  rw[hst,aSm];have hn:qH qO [a] (0:Int)=a:=rfl;rw[hn,show H5 ([([110,101,119]:p8),([102,117,122,122,121]:p8),([116,114,97,110,115,108,97,116,101,100]:p8),([114,101,118,105,101,119,101,100]:p8),([111,98,115,111,108,101,116,101]:p8)]:p9) a.2.1=some (decide (0<=xD a.2.1)) from aPp a.2.1];rw[show DU ([([110,101,119]:p8),([102,117,122,122,121]:p8),([116,114,97,110,115,108,97,116,101,100]:p8),([114,101,118,105,101,119,101,100]:p8),([111,98,115,111,108,101,116,101]:p8)]:p9) a.2.1=some (xD a.2.1) from aHX a.2.1];have hf:BV [a]=if a.1=false/\0<=xD a.2.1 then some (xD a.2.1) else none:=rfl;rw[hf];cases ha:a.1 with
  |true=>rfl
  |false=>
   rw[aSj (show ((!(!false))==false)=true from rfl),aSj (fun _=>xG),aSj (fun _=>Option.isSome_some)];by_cases hs:0<=xD a.2.1
   .rw[aSl (show¬((!(!false))||(!(val (some (decide (0<=xD a.2.1))))))=true by rw[aSN hs];decide),aSj (show false=false/\0<=xD a.2.1 from⟨rfl,hs⟩)]
    show (if sF .str .bool seen vY=true then _ else _)=_;dsimp only;by_cases h2:sF .str .bool seen vY=true
    .rw[aSj h2,aSj h2];rfl
    rw[aSl h2,aSl h2,aSj xG];rfl
   .rw[aSj (show ((!(!false))||(!(val (some (decide (0<=xD a.2.1))))))=true by rw[decide_eq_false hs];decide),aSl (show¬(false=false/\0<=xD a.2.1) from fun h=>hs h.2)]
 |a::b::t=>rw[XR];rfl
def aH1 {r:List Wd}(hl:r.length<=1000000000): ∀(n i:Nat),i+n=r.length->rG (LM r) ((i:Int),r6 (r.take i))=some (r6 r)
 |0,i,hi=>by
  have:i=r.length:=by omega
  subst this;rw[List.take_length,tI];unfold LM;dsimp only;rw[aSl (xC _)];rfl
 |n+1,i,hi=>by
  have hlt:i<r.length:=by omega
  have hlen:(r6 (r.take i)).length=i:=by unfold r6;rw[aTE,aSX];omega
  have htk:r6 (r.take i)++[r[i].2.1]=r6 (r.take (i+1)):=by
   unfold r6;rw[List.take_succ_eq_append_getElem hlt,List.map_append];rfl
  rw[tI];generalize hF:rG (LM r)=F;unfold LM;dsimp only;rw[aSj (tX hlt),aSj (sU hlt),FM hlt,hlen,aSj (by simp only[aSq,aSG];omega),aSj (uB pC),aSm];dsimp only;rw[htk,<-hF,show ((i:Int)+1)=((i+1:Nat):Int) by omega];exact aH1 hl n (i+1) pC
def aPt {r:List Wd}(hl:r.length<=1000000000):IW r=some (r.any AG):=by
 unfold IW O5;rw[EC (l:=r) AG (fun k=>(k:Int)) (fun i h=>by
  unfold WR RE;rw[aSj (tX h),aSj (sU h),FM h,aGO,aSj (fun _=>Option.isSome_some),aSm,aSj (uB pC)];rfl) (by
  unfold WR;rw[aSl (xC _)]),HE,aSm,aNx]
def aPu (hl:r.length<=1000000000):J0 c pl id sc tg fg sv en r cm fl seen ids=some (if r=[]\/(r.any AG)=true then(3,fg,seen) else if sF .str .bool seen vJ=true\/zT (r6 r)=true then(9,fg,sT .str .bool vJ true seen) else if 20<(r6 r).length then(6,fg,sT .str .bool vJ true seen) else(0,sJ (r6 r),sT .str .bool vJ true seen)):=by
 have hlp:=aH1 hl r.length 0 pC;have hwl:(r6 r).length=r.length:=by unfold r6;rw[aTE]
 unfold J0;rw[aPt hl,aSj (fun _=>Option.isSome_some),S9];show (if (decide (r=[])||r.any AG)=true then _ else _)=_
 by_cases h1:r=[]\/(r.any AG)=true
 .rw[aSj h1,aSj (by rcases h1 with h1|h1<;>simp [h1])]
 rw[aSl h1,aSl (by rw[not_or] at h1;simpa using h1)];have hlp':rG (LM r) ((0:Int),([]:p9))=some (r6 r):=hlp;rw[hlp'];unfold sR;rw[aSm,aSj pC];have hcl:GX (sJ (r6 r))=some (sJ (r6 r)):=by
  unfold GX;rw[aSj (by rw[JO];omega),List.nil_append]
 show (if ((sF .str .bool seen vJ)==false)=true then _ else _)=_;cases hf:sF .str .bool seen vJ with
 |true=>
  rw[aSl pE,aSj rfl,aSj (.inl rfl)];rfl
 |false=>
  rw[aSj pR,hcl,aSj (fun _=>Option.isSome_some)];rw[aSj (show (sF .str .bool seen ([102,108,97,103,115]:p8)==false)=true->(val (some (sJ (r6 r)))).length<=9223372036854775807 from fun _=>by show (sJ (r6 r)).length<=_;rw[JO];omega)];show (if (sF .str .bool seen vJ||(decide (((((Lib.compact (sJ (r6 r))).length):Nat):Int)<((sJ (r6 r)).length:Int))))=true then _ else _)=_
  have hd:decide (((((Lib.compact (sJ (r6 r))).length):Nat):Int)<((sJ (r6 r)).length:Int))=zT (r6 r):=by
   unfold zT;exact decide_eq_decide.2 pC
  rw[hd,hf,Bool.false_or];by_cases h2:zT (r6 r)=true
  .rw[aSj h2,aSj (.inr h2)];rfl
  rw[aSl h2,aSl (show¬(false=true\/zT (r6 r)=true) by simp [h2])];by_cases h3:20<(r6 r).length
  .rw[aSj h3,aSj (by rw[JO];simp only[aSs];omega)];rfl
  rw[aSl h3,aSl (by rw[JO];simp only[aSs];omega)];rfl
end
def aPv (k:p8):FB k=if k=uU then(some 117,true) else if k=vQ then(some 118,true) else(if k=vJ then some 122 else if k=vY then some 121 else if k=tS then some 120 else if k=tR then some 119 else none,false):=by
 unfold FB;by_cases h1:k=uU
 .rw[aSj h1,show decide (k=([99,111,109,109,101,110,116]:p8))=true from aSN h1,aSj rfl]
 rw[aSl h1,show decide (k=([99,111,109,109,101,110,116]:p8))=false from decide_eq_false h1,aSl pE];by_cases h2:k=vQ
 .rw[aSj h2,show decide (k=([102,105,101,108,100]:p8))=true from aSN h2,aSj rfl]
 rw[aSl h2,show decide (k=([102,105,101,108,100]:p8))=false from decide_eq_false h2,aSl pE,xF,xF,xF,xF];rfl
end
noncomputable section
def MM (P:Pg) (l:List Wd) (nx:Int):Option JS:=
    if ((decide (P.pl=(0:Int)))||(decide (P.pl=(2:Int))))=true then
     (LR P.c P.pl P.id P.sc P.tg P.fg P.sv (P.ends,()) l P.cm P.n1 P.fl P.n2 P.seen P.ids).bind fun v82=>
     some ((v82.1,v82.2.1,P.c.2.1,P.c.2.2.1,P.c.2.2.2.1,v82.2.2.1,v82.2.2.2.1,v82.2.2.2.2.1,v82.2.2.2.2.2.1,v82.2.2.2.2.2.2.1,v82.2.2.2.2.2.2.2.1,0,P.ends,v82.2.2.2.2.2.2.2.2.1,v82.2.2.2.2.2.2.2.2.2.1,v82.2.2.2.2.2.2.2.2.2.2.1,v82.2.2.2.2.2.2.2.2.2.2.2.1,v82.2.2.2.2.2.2.2.2.2.2.2.2.1,v82.2.2.2.2.2.2.2.2.2.2.2.2.2))
    else
     if 0≤(0:Int)∧(0:Int)<(l.length:Int) then
      if (decide ((qH qO l (0:Int)).2.1=([101,110,100]:p8)))=true then
       P.cm.bind fun O=>
       P.fl.bind fun Z=>
       if 0≤(1:Int)∧(1:Int)≤(l.length:Int)∧(l.length:Int)≤(l.length:Int) then
        (LO P.c P.pl P.id P.sc P.tg P.fg P.sv (P.ends,()) (qU l (1:Int) (l.length:Int)) nx O Z P.seen P.ids).bind fun v88=>
        some ((v88.1,P.c.1,v88.2.1,v88.2.2.1,v88.2.2.2.1,v88.2.2.2.2.1,P.id,P.sc,P.tg,P.fg,P.sv,0,v88.2.2.2.2.2.1,P.ids,v88.2.2.2.2.2.2.1,(O.length),v88.2.2.2.2.2.2.2.1,v88.2.2.2.2.2.2.2.2,P.seen))
       else none
      else
       if 0≤(0:Int)∧(0:Int)<(l.length:Int) then
        AS (FB ((qH qO l (0:Int)).2.1)) fun v89=>
        if ((yQ v89.1)||((decide (P.pl=(1:Int)))&&(!v89.2)))=true then
         some (((3:Int),P.c.1,P.c.2.1,P.c.2.2.1,P.c.2.2.2.1,P.pl,P.id,P.sc,P.tg,P.fg,P.sv,0,P.ends,P.ids,P.cm,P.n1,P.fl,P.n2,P.seen))
        else
         AS v89.1 fun aA=>
         if aA=some 117 then
          P.cm.bind fun aB=>
          P.fl.bind fun aC=>
          if 0≤(1:Int)∧(1:Int)≤(l.length:Int)∧(l.length:Int)≤(l.length:Int) then
           (IX P.c P.pl P.id P.sc P.tg P.fg P.sv (P.ends,()) (qU l (1:Int) (l.length:Int)) aB aC P.seen P.ids).bind fun v93=>
           some ((v93.1,P.c.1,P.c.2.1,P.c.2.2.1,P.c.2.2.2.1,P.pl,P.id,P.sc,P.tg,P.fg,P.sv,v93.2.1,P.ends,P.ids,(some v93.2.2),(v93.2.2.length),(some aC),(aC.length),P.seen))
          else none
         else
         if aA=some 118 then
          P.cm.bind fun aD=>
          P.fl.bind fun aE=>
          if 0≤(1:Int)∧(1:Int)≤(l.length:Int)∧(l.length:Int)≤(l.length:Int) then
           (JD P.c P.pl P.id P.sc P.tg P.fg P.sv (P.ends,()) (qU l (1:Int) (l.length:Int)) aD aE P.seen P.ids).bind fun v96=>
           some ((v96.1,P.c.1,P.c.2.1,P.c.2.2.1,P.c.2.2.2.1,P.pl,P.id,P.sc,P.tg,P.fg,P.sv,v96.2.1,P.ends,P.ids,(some aD),(aD.length),(some v96.2.2),(v96.2.2.length),P.seen))
          else none
         else
         if aA=some 119 then
          P.cm.bind fun aF=>
          P.fl.bind fun aG=>
          if 0≤(1:Int)∧(1:Int)≤(l.length:Int)∧(l.length:Int)≤(l.length:Int) then
           (J8 P.c P.pl P.id P.sc P.tg P.fg P.sv (P.ends,()) (qU l (1:Int) (l.length:Int)) aF aG P.seen P.ids).bind fun v99=>
           some ((v99.1,P.c.1,P.c.2.1,P.c.2.2.1,P.c.2.2.2.1,P.pl,P.id,v99.2.1,P.tg,P.fg,P.sv,v99.2.2.1,P.ends,P.ids,(some aF),(aF.length),(some aG),(aG.length),v99.2.2.2))
          else none
         else
         if aA=some 120 then
          P.cm.bind fun aH=>
          P.fl.bind fun aI=>
          if 0≤(1:Int)∧(1:Int)≤(l.length:Int)∧(l.length:Int)≤(l.length:Int) then
           (J9 P.c P.pl P.id P.sc P.tg P.fg P.sv (P.ends,()) (qU l (1:Int) (l.length:Int)) aH aI P.seen P.ids).bind fun v102=>
           some ((v102.1,P.c.1,P.c.2.1,P.c.2.2.1,P.c.2.2.2.1,P.pl,P.id,P.sc,v102.2.1,P.fg,P.sv,v102.2.2.1,P.ends,P.ids,(some aH),(aH.length),(some aI),(aI.length),v102.2.2.2))
          else none
         else
         if aA=some 121 then
          P.cm.bind fun aJ=>
          P.fl.bind fun aK=>
          if 0≤(1:Int)∧(1:Int)≤(l.length:Int)∧(l.length:Int)≤(l.length:Int) then
           (JA P.c P.pl P.id P.sc P.tg P.fg P.sv (P.ends,()) (qU l (1:Int) (l.length:Int)) aJ aK P.seen P.ids).bind fun v105=>
           some ((v105.1,P.c.1,P.c.2.1,P.c.2.2.1,P.c.2.2.2.1,P.pl,P.id,P.sc,P.tg,P.fg,v105.2.1,0,P.ends,P.ids,(some aJ),(aJ.length),(some aK),(aK.length),v105.2.2))
          else none
         else
         if aA=some 122 then
          P.cm.bind fun aL=>
          P.fl.bind fun aM=>
          if 0≤(1:Int)∧(1:Int)≤(l.length:Int)∧(l.length:Int)≤(l.length:Int) then
           (J0 P.c P.pl P.id P.sc P.tg P.fg P.sv (P.ends,()) (qU l (1:Int) (l.length:Int)) aL aM P.seen P.ids).bind fun v108=>
           some ((v108.1,P.c.1,P.c.2.1,P.c.2.2.1,P.c.2.2.2.1,P.pl,P.id,P.sc,P.tg,v108.2.1,P.sv,0,P.ends,P.ids,(some aL),(aL.length),(some aM),(aM.length),v108.2.2))
          else none
         else
          none
       else none
     else none
theorem aH2 {s:St}(ho:s.op=false) (he:s.ends≠[]) (n:Int) {c:vZ}(hc: ∀t,c≠.beg false t):(rU s n c).1=3:=by
  cases c with
  |bad=>rfl
  |cont t=>rw[rU,aSj (.inl ho)]
  | beg hd t=>
    cases hd with
    |true=>rw[rU,aSj (.inr he)]
    |false=>exact absurd rfl (hc t)
  |com t=>rw[rU,aSj ho]
  |src t=>rw[rU,aSj (.inl ho)]
  |tgt t=>rw[rU,aSj (.inl ho)]
  |sta v=>rw[rU,aSj (.inl ho)]
  |fld m v=>rw[rU,aSj ho]
  |flg l=>rw[rU,aSj (.inl ho)]
  |fin=>rw[rU,aSj ho]
theorem aH3 {k:p8}{r:List Wd}{t:p8}(h:uK k r= .beg false t):k=yH∧sZ r=some t:=by
  unfold uK at h
  have one: ∀(f:p8→vZ),(∀x,f x≠.beg false t)→((sZ r).map f).getD .bad≠.beg false t:=fun f hf=>by
    cases sZ r with
    |none=>intro h;cases h
    |some x=>exact hf x
  split at h
  .exact absurd h (one _ fun x hx=>by cases hx)
  split at h
  · rename_i hk
    refine⟨hk,?_⟩;cases ho:sZ r with
    |none=>rw[ho] at h;cases h
    |some x=>rw[ho] at h;cases h;rfl
  split at h
  .exact absurd h (one _ fun x hx=>by cases hx)
  split at h
  .exact absurd h (one _ fun x hx=>by cases hx)
  split at h
  .exact absurd h (one _ fun x hx=>by cases hx)
  split at h
  · cases hs:BV r with
    |none=>rw[hs] at h;cases h
    |some v=>rw[hs] at h;cases h
  split at h
  · cases hs:BW r with
    |none=>rw[hs] at h;cases h
    |some v=>rw[hs] at h;cases h
  split at h
  .split at h<;>cases h
  split at h
  .split at h<;>cases h
  cases h
theorem aH4 (w:Wd) (r:List Wd) (hw:w.1=false):(((!decide (((w::r).length:Int)=(2:Int)))||(qH qO (w::r) (0:Int)).1)||(!((qH qO (w::r) (1:Int)).1)))= !(sZ r).isSome:=by
  have h:=aHA w r;have h0:(qH qO (w::r) (0:Int)).1=false:=hw;rw[h0,←h];cases decide (((w::r).length:Int)=(2:Int))<;>cases(qH tW (w::r) (1:Int)).1<;>rfl
theorem aPw {s:St}(h:uV s) {P:Pg}(hr:D9 s P) (ho:s.op=false) {w:Wd}{r:List Wd}(hw:w.1=false) {N:Nat}(hok: ∀x∈r,yP N x) (nx:Int):BZ (MM P (w::r) nx) (rU s nx (uK w.2.1 r)):=by
  have he:s.ends≠[]:=by
    rcases hr.live with h1|h1
    .rw[ho] at h1;cases h1
    exact h1
  have hpl:P.pl=2:=by rw[hr.pl,ho,aSl pE,aSl he]
  have hes:=h.es.len;unfold MM;rw[aSj (by rw[hpl];rfl)];unfold LR;rw[aH4 w r hw,hpl];have hne1: ¬((2:Int)=0):=by decide
  have hg1:(((!decide (((w::r).length:Int)=(2:Int)))==false)=true→0≤(0:Int)∧(0:Int)<((w::r).length:Int)):=fun _=>xG
  have hg2:((((!decide (((w::r).length:Int)=(2:Int)))||(qH qO (w::r) (0:Int)).1)==false)=true→0≤(1:Int)∧(1:Int)<((w::r).length:Int)):=fun hh=>by
    cases hd:decide (((w::r).length:Int)=(2:Int)) with
    |false=>rw[hd] at hh;cases hh
    |true=>have:=aS1 hd;omega
  rw[aSj hg1,aSj hg2];cases hone:sZ r with
  | none=>
    rw[aSj pR,aSm]
    have h3:(rU s nx (uK w.2.1 r)).1=3:=aH2 ho he nx fun t hc=>by
      have:=(aH3 hc).2;rw[hone] at this;cases this
    refine⟨_,rfl,h3.symm,fun h0=>?_⟩;rw[h3] at h0;cases h0
  | some t=>
    have htx:=a8R hok hone;have hrt:=MJ hone;subst hrt;have hn0:qH qO [w,(true,t,())] (0:Int)=w:=rfl;have hn1:qH qO [w,(true,t,())] (1:Int)=(true,t,()):=rfl;rw[aSl pE,aSj pE,hn0,hn1];rw[aSj (fun _=>xG),aSj (fun hh=>by simp at hh),aSl pE,aSj (fun _=>xG)];dsimp only;by_cases hk:w.2.1=yH
    · have hcmd:uK w.2.1 [(true,t,())]= .beg false t:=by rw[hk];exact(a8U (k:=[]) hone).2.1
      rw[hcmd,rU,aSl (show¬(s.op=true∨s.ends=[]) by simp [ho,he])];by_cases h2:t=[]∨200<t.length
      · rw[aSj h2,aSl (by
          rcases h2 with h2|h2
          .subst h2;simp
          rw[decide_eq_false (show¬(t.length:Int)≤200 by omega)];simp),aSm]
        exact vD rfl rfl pD
      rw[aSl h2]
      have hids:sF .str .bool P.ids t=(s.c.2.2.2.1.any fun y=>decide (y.1=t)):=by rw[hr.ids t,ho];simp
      rw[not_or] at h2;rw[aSj (by rw[show decide (w.2.1=([101,110,116,114,121]:p8))=true from aSN hk,decide_eq_false h2.1,aSN (show (t.length:Int)≤200 by omega)];rfl),hids];by_cases h3:(s.c.2.2.2.1.any fun y=>decide (y.1=t))=true
      · rw[aSj h3,aSj h3,aSm]
        exact vD rfl rfl pD
      rw[aSl h3,aSl h3,hr.c]
      by_cases h4:1000≤s.c.2.2.2.1.length
      · rw[aSj h4,aSj pF,aSm]
        exact vD rfl rfl pD
      rw[aSl h4,aSl pF,aSm]
      refine FO rfl rfl {c:=rfl,ends:=hr.ends,pl:= ?_,x:=fun _=>⟨rfl,rfl,rfl,rfl,rfl⟩,id:=fun _ _=>rfl,fl:=fun _=>⟨[],rfl,rfl,List.nodup_nil,fun h0=>absurd h0.symm vC.2.2.2.1⟩,ap:=ML.symm,seen:=fun _=>⟨rfl,rfl,rfl,rfl⟩,ids:=fun x=>?_,live:= .inl rfl}
      · show (3:Int)=if true=true then(if s.ends=[] then 1 else 3) else _
        rw[aSj rfl,aSl he]
      show sF .str .bool (sT .str .bool t true P.ids) x=((s.c.2.2.2.1.any fun y=>decide (y.1=x))||((true&&decide (s.ends≠[]))&&decide (t=x)))
      rw[xF,hr.ids x,ho,aSN he];by_cases hx:x=t
      .subst hx;simp
      rw[aSl hx,show decide (t=x)=false from decide_eq_false (fun e=>hx e.symm)];simp
    rw[aSl (by rw[show decide (w.2.1=([101,110,116,114,121]:p8))=false from decide_eq_false hk];simp),aSm]
    have h3:(rU s nx (uK w.2.1 [(true,t,())])).1=3:=aH2 ho he nx fun t hc=>hk (aH3 hc).1;refine⟨_,rfl,h3.symm,fun h0=>?_⟩;rw[h3] at h0;cases h0
theorem aPx {s:St}(ho:s.op=true) (n:Int) {k:p8}{r:List Wd}(h1:k≠uU) (h2:k≠tR) (h3:k≠tS) (h4:k≠vY) (h5:k≠vQ) (h6:k≠FL) (h7:k≠vJ):(rU s n (uK k r)).1=3:=by
  unfold uK;split
  · cases sZ r with
    |none=>rfl
    |some t=>show (rU s n (.beg true t)).1=3;rw[rU,aSj (.inl ho)]
  split
  · cases sZ r with
    |none=>rfl
    |some t=>show (rU s n (.beg false t)).1=3;rw[rU,aSj (.inl ho)]
  first|rfl|(rw[aSl h1,aSl h2,aSl h3,aSl h4,aSl h5,aSl h6,aSl h7];rfl)
theorem aH5 (r:List Wd):uK uU r=((sZ r).map vZ.com).getD .bad∧uK tR r=((sZ r).map vZ.src).getD .bad∧uK tS r=((sZ r).map vZ.tgt).getD .bad∧uK vY r=((BV r).map vZ.sta).getD .bad∧
    uK vQ r=((BW r).map fun q=>vZ.fld q.1 q.2).getD .bad∧uK FL r=(if r=[] then .fin else .bad)∧uK vJ r=(if r=[]∨(r.any AG)=true then .bad else .flg (r6 r)):=by
  refine⟨?_,?_,?_,?_,?_,?_,?_⟩<;>unfold uK
  .rw[aSl pD,aSl pD,aSj rfl]
  .rw[aSl pD,aSl pD,aSl pD,aSj rfl]
  .rw[aSl pD,aSl pD,aSl pD,aSl pD,aSj rfl]
  .rw[aSl pD,aSl pD,aSl pD,aSl pD,aSl pD,aSj rfl]
  .rw[aSl pD,aSl pD,aSl pD,aSl pD,aSl pD,aSl pD,aSj rfl]
  .rw[aSl pD,aSl pD,aSl pD,aSl pD,aSl pD,aSl pD,aSl pD,aSj rfl]
  rw[aSl pD,aSl pD,aSl pD,aSl pD,aSl pD,aSl pD,aSl pD,aSl pD,aSj rfl]
theorem FP (w:Wd) (r:List Wd):qU (w::r) (1:Int) ((w::r).length:Int)=r:=(CS (k:=1)).trans rfl
theorem FQ {w:Wd}{r:List Wd}:0≤(1:Int)∧(1:Int)≤((w::r).length:Int)∧((w::r).length:Int)≤((w::r).length:Int):=⟨pD,by simp only[aSq];omega,aTa _⟩
section
variable {s:St}(h:uV s) {P:Pg}(hr:D9 s P) (ho:s.op=true) {w:Wd}{r:List Wd}(hw:w.1=false) (hl:r.length≤1000000000) (nx:Int)
include h hr ho
theorem a82:P.pl=if s.ends=[] then 1 else 3:=by rw[hr.pl,aSj ho]
theorem aH6:decide (P.pl=(1:Int))=decide (s.ends=[]):=by
  rw[a82 h hr ho];by_cases he:s.ends=[]<;>simp [he]
theorem aPy (hk:w.2.1=FL):BZ (MM P (w::r) nx) (rU s nx (uK w.2.1 r)):=by
  obtain⟨x1,x2,x3,x4,x5⟩:=hr.x ho;obtain⟨fl,f1,f2,f3,f4⟩:=hr.fl ho;have hes:=h.es.len;have hel:=aHI h
  have hfl:fl.length≤20:=by
    have:=(P5 fl f3).length_eq;rw[f2] at this;have:=XJ h.fd;omega
  unfold MM;rw[aSl (by rw[a82 h hr ho];split<;>decide),aSj xG,show qH qO (w::r) (0:Int)=w from rfl,aSj (by rw[hk];rfl),x5,f1,aSm,aSm,aSj FQ,FP,hk,(aH5 r).2.2.2.2.2.1]
  unfold LO;cases hrr:r with
  | cons a t=>
    rw[aSj (by simp only[aSs,aSq];omega),aSl pE];exact vD rfl rfl pD
  | nil=>
    rw[aSl pE,aSj rfl,aPl f3 pC,aSm,aH6 h hr ho,f2,rU,aSl (show¬s.op=false by rw[ho];simp)];rw[hr.ends,hr.c,x1,x2,x3,x4];by_cases he:s.ends=[]
    · rw[aSj (aSN he),aSj he]
      unfold sR;rw[aSm];dsimp only;rw[aSj (by simp only[aSq,aSG];omega),aSm];refine FO rfl rfl {c:=rfl,ends:=rfl,pl:= ?_,x:=fun h0=>(by cases h0),id:=fun h0=>(by cases h0),fl:=fun h0=>(by cases h0),ap:=ML.symm,seen:=fun h0=>(by cases h0),ids:=fun x=>?_,live:= .inr (by simp [JQ])}
      · show (2:Int)=if false=true then _ else(if s.ends++[nx]=[] then 0 else 2)
        rw[aSl pE,aSl pE]
      show sF .str .bool P.ids x=((s.c.2.2.2.1.any fun y=>decide (y.1=x))||((false&&decide (s.ends++[nx]≠[]))&&decide (([]:p8)=x)))
      rw[hr.ids x,decide_eq_false (show¬s.ends≠[] by simpa using he)];simp
    rw[aSl (by simpa using he),aSl he,hr.id ho he,aSj (by simp only[aSq,aSG];omega)]
    unfold sR;rw[aSm];dsimp only;rw[aSj (by simp only[aSq,aSG];omega),aSm];refine FO rfl rfl {c:=rfl,ends:=rfl,pl:= ?_,x:=fun h0=>(by cases h0),id:=fun h0=>(by cases h0),fl:=fun h0=>(by cases h0),ap:=ML.symm,seen:=fun h0=>(by cases h0),ids:=fun x=>?_,live:= .inr (by simp [JQ])}
    · show (2:Int)=if false=true then _ else(if s.ends++[nx]=[] then 0 else 2)
      rw[aSl pE,aSl pE]
    show sF .str .bool P.ids x=(((s.c.2.2.2.1++[s.x]).any fun y=>decide (y.1=x))||((false&&decide (s.ends++[nx]≠[]))&&decide (([]:p8)=x)))
    rw[hr.ids x,List.any_append,ho,aSN he];simp
end
end
noncomputable section
section
variable {s:St}(h:uV s) {P:Pg}(hr:D9 s P) (ho:s.op=true) {w:Wd}{r:List Wd}(hw:w.1=false) (hl:r.length<=1000000000) (nx:Int)
include h hr ho
theorem P6 {s':St}{P':Pg}(k1:s'.c=s.c) (k2:s'.ends=s.ends) (k3:s'.id=s.id) (k4:s'.op=s.op) (p1:P'.c=P.c) (p2:P'.ends=P.ends) (p3:P'.id=P.id) (p4:P'.pl=P.pl) (p5:P'.ids=P.ids)
  (hx:P'.sc=s'.sc/\P'.tg=s'.tg/\P'.fg=s'.fg/\P'.sv=s'.sv/\P'.cm=some s'.cm) (hf: ∃l,P'.fl=some l/\EI l=s'.fd/\(l.map (·.1)).Nodup/\(s'.last=vQ->∃l' v,l=l'++[(s'.name,v,())]))
  (ha:P'.ap=JR s'.last) (hs:sF .str .bool P'.seen tR=s'.bs/\sF .str .bool P'.seen tS=s'.bt/\sF .str .bool P'.seen vY=s'.bh/\sF .str .bool P'.seen vJ=s'.bf):D9 s' P':=
 {c:=by rw[p1,k1];exact hr.c,ends:=by rw[p2,k2];exact hr.ends,pl:=by rw[p4,k4,k2];exact hr.pl,x:=fun _=>hx,id:=fun _ he=>by rw[p3,k3];exact hr.id ho (by rw[<-k2];exact he),fl:=fun _=>hf,ap:=ha,seen:=fun _=>hs,ids:=fun t=>by rw[p5,k1,k2,k3,k4];exact hr.ids t,live:= .inl (k4.trans ho)}
include hl in
theorem aPz:BZ (MM P (w::r) nx) (rU s nx (uK w.2.1 r)):=by
 by_cases hkE:w.2.1=FL
 .exact aPy h hr ho nx hkE
 obtain⟨x1,x2,x3,x4,x5⟩:=hr.x ho;obtain⟨fl,f1,f2,f3,f4⟩:=hr.fl ho;obtain⟨s1,s2,s3,s4⟩:=hr.seen ho;have hcm:=a8S h.cm;have hperm:=P5 fl f3;rw[f2] at hperm;have hfl:fl.length<=20:=by
  have:=hperm.length_eq;have:=XJ h.fd;omega
 obtain⟨c1,c2,c3,c4,c5,c6,c7⟩:=aH5 r;unfold MM;rw[aSl (by rw[a82 h hr ho];split<;>decide),aSj xG,show qH qO (w::r) (0:Int)=w from rfl,show decide (w.2.1=([101,110,100]:p8))=false from decide_eq_false hkE,aSl pE,aSj xG,aPv]
 unfold AS;by_cases h1:w.2.1=uU
 .rw[aSj h1];dsimp only;rw[aSl (by simp [yQ]),aSj rfl,x5,f1,aSm,aSm,aSj FQ,FP,aPq _ _ _ _ _ _ _ _ _ _ _ _ _ hcm,aSm,h1,c1];cases hone:sZ r with
  |none=>exact vD rfl rfl pD
  |some t=>
   show BZ _ (rU s nx (.com t));rw[rU,aSl (show¬s.op=false by rw[ho];simp)];dsimp only;by_cases h20:s.cm.length=20
   .rw[aSj h20,aSj (show 20<=s.cm.length by omega)];exact vD rfl rfl pD
   rw[aSl h20,aSl (show¬20<=s.cm.length by omega)];exact FO rfl rfl (P6 h hr ho rfl rfl rfl rfl rfl rfl rfl rfl rfl ⟨x1,x2,x3,x4,rfl⟩ ⟨fl,rfl,f2,f3,fun h0=>absurd h0 vC.2.2.2.2.2.2.2.1⟩ SE.symm ⟨s1,s2,s3,s4⟩)
 rw[aSl h1];by_cases h2:w.2.1=vQ
 .rw[aSj h2];dsimp only;rw[aSl (by simp [yQ]),aSl pE,aSj rfl,x5,f1,aSm,aSm,aSj FQ,FP,aPs _ _ _ _ _ _ _ _ _ _ _ _ _ hfl,aSm,h2,c5];cases hq:BW r with
  |none=>exact vD rfl rfl pD
  |some q=>
   show BZ _ (rU s nx (.fld q.1 q.2));rw[rU,aSl (show¬s.op=false by rw[ho];simp),<-SD hperm.symm q.1];dsimp only;by_cases h3:(fl.any fun y=>decide (y.1=q.1))=true
   .rw[aSj h3,aSj h3];exact vD rfl rfl pD
   rw[aSl h3,aSl h3];have hle:=hperm.length_eq;by_cases h20:fl.length=20
   .rw[aSj h20,aSj (show 20<=s.fd.length by omega)];exact vD rfl rfl pD
   rw[aSl h20,aSl (show¬20<=s.fd.length by omega)];refine FO rfl rfl (P6 h hr ho rfl rfl rfl rfl rfl rfl rfl rfl rfl ⟨x1,x2,x3,x4,rfl⟩ ⟨fl++[(q.1,q.2,())],rfl,?_,P4.2 ⟨f3,by cases hb:(fl.any fun y=>decide (y.1=q.1)) with|false=>rfl|true=>exact absurd hb h3⟩,fun _=>⟨fl,q.2,rfl⟩⟩ SH.symm ⟨s1,s2,s3,s4⟩)
   rw[P3,f2]
 rw[aSl h2];have hhead: ∀(o:pL),((yQ o)||((decide (P.pl=(1:Int)))&&(!false)))=((yQ o)||decide (s.ends=[])):=fun o=>by rw[aH6 h hr ho];simp
 by_cases h3:w.2.1=vJ
 .rw[aSj h3];dsimp only;rw[hhead,h3,c7];by_cases he:s.ends=[]
  .rw[aSj (by simp [he])];split
   .exact vD rfl rfl pD
   rw[rU,aSj (.inr he)];exact vD rfl rfl pD
  rw[aSl (by simp [yQ,he]),aSl pE,aSl pE,aSl pE,aSl pE,aSl pE,aSj rfl,x5,f1,aSm,aSm,aSj FQ,FP,aPu _ _ _ _ _ _ _ _ _ _ _ _ _ hl,aSm];by_cases h5:r=[]\/(r.any AG)=true
  .rw[aSj h5,aSj h5];exact vD rfl rfl pD
  rw[aSl h5,aSl h5,rU,aSl (show¬(s.op=false\/s.ends=[]) by simp [ho,he]),s4];by_cases h6:s.bf=true\/zT (r6 r)=true
  .rw[aSj h6,aSj h6];exact vD rfl rfl pD
  rw[aSl h6,aSl h6];by_cases h7:20<(r6 r).length
  .rw[aSj h7,aSj h7];exact vD rfl rfl pD
  rw[aSl h7,aSl h7];refine FO rfl rfl (P6 h hr ho rfl rfl rfl rfl rfl rfl rfl rfl rfl ⟨x1,x2,rfl,x4,rfl⟩ ⟨fl,rfl,f2,f3,fun h0=>absurd h0.symm vC.2.2.2.1⟩ ML.symm ⟨?_,?_,?_,?_⟩)
  .show sF .str .bool (sT .str .bool vJ true P.seen) tR=s.bs;rw[xF,aSl pD];exact s1
  .show sF .str .bool (sT .str .bool vJ true P.seen) tS=s.bt;rw[xF,aSl pD];exact s2
  .show sF .str .bool (sT .str .bool vJ true P.seen) vY=s.bh;rw[xF,aSl pD];exact s3
  show sF .str .bool (sT .str .bool vJ true P.seen) vJ=true;rw[xF,aSj rfl]
 rw[aSl h3];by_cases h4:w.2.1=vY
 .rw[aSj h4];dsimp only;rw[hhead,h4,c4];cases hv:BV r with
  |none=>
   by_cases he:s.ends=[]
   .rw[aSj (by simp [he])];exact vD rfl rfl pD
   .rw[aSl (by simp [yQ,he]),aSl pE,aSl pE,aSl pE,aSl pE,aSj rfl,x5,f1,aSm,aSm,aSj FQ,FP,aH0,aSm,hv];exact vD rfl rfl pD
  |some v=>
   show BZ _ (rU s nx (.sta v));by_cases he:s.ends=[]
   .rw[aSj (by simp [he]),rU,aSj (.inr he)];exact vD rfl rfl pD
   rw[aSl (by simp [yQ,he]),aSl pE,aSl pE,aSl pE,aSl pE,aSj rfl,x5,f1,aSm,aSm,aSj FQ,FP,aH0,aSm,hv,rU,aSl (show¬(s.op=false\/s.ends=[]) by simp [ho,he])];dsimp only;rw[s3];by_cases h6:s.bh=true
   .rw[aSj h6,aSj h6];exact vD rfl rfl pD
   rw[aSl h6,aSl h6];refine FO rfl rfl (P6 h hr ho rfl rfl rfl rfl rfl rfl rfl rfl rfl ⟨x1,x2,x3,rfl,rfl⟩ ⟨fl,rfl,f2,f3,fun h0=>absurd h0.symm vC.2.2.2.1⟩ ML.symm ⟨?_,?_,?_,?_⟩)
   .show sF .str .bool (sT .str .bool vY true P.seen) tR=s.bs;rw[xF,aSl pD];exact s1
   .show sF .str .bool (sT .str .bool vY true P.seen) tS=s.bt;rw[xF,aSl pD];exact s2
   .show sF .str .bool (sT .str .bool vY true P.seen) vY=true;rw[xF,aSj rfl]
   show sF .str .bool (sT .str .bool vY true P.seen) vJ=s.bf;rw[xF,aSl pD];exact s4
 rw[aSl h4];by_cases h5:w.2.1=tS
 .rw[aSj h5];dsimp only;rw[hhead,h5,c3];cases hv:sZ r with
  |none=>
   by_cases he:s.ends=[]
   .rw[aSj (by simp [he])];exact vD rfl rfl pD
   .rw[aSl (by simp [yQ,he]),aSl pE,aSl pE,aSl pE,aSj rfl,x5,f1,aSm,aSm,aSj FQ,FP,aHZ,aSm,hv];exact vD rfl rfl pD
  |some t=>
   show BZ _ (rU s nx (.tgt t));by_cases he:s.ends=[]
   .rw[aSj (by simp [he]),rU,aSj (.inr he)];exact vD rfl rfl pD
   rw[aSl (by simp [yQ,he]),aSl pE,aSl pE,aSl pE,aSj rfl,x5,f1,aSm,aSm,aSj FQ,FP,aHZ,aSm,hv,rU,aSl (show¬(s.op=false\/s.ends=[]) by simp [ho,he])];dsimp only;rw[s2];by_cases h6:s.bt=true
   .rw[aSj h6,aSj h6];exact vD rfl rfl pD
   rw[aSl h6,aSl h6];refine FO rfl rfl (P6 h hr ho rfl rfl rfl rfl rfl rfl rfl rfl rfl ⟨x1,rfl,x3,x4,rfl⟩ ⟨fl,rfl,f2,f3,fun h0=>absurd h0 vC.2.2.2.2.2.2.2.2.2⟩ SG.symm ⟨?_,?_,?_,?_⟩)
   .show sF .str .bool (sT .str .bool tS true P.seen) tR=s.bs;rw[xF,aSl pD];exact s1
   .show sF .str .bool (sT .str .bool tS true P.seen) tS=true;rw[xF,aSj rfl]
   .show sF .str .bool (sT .str .bool tS true P.seen) vY=s.bh;rw[xF,aSl pD];exact s3
   show sF .str .bool (sT .str .bool tS true P.seen) vJ=s.bf;rw[xF,aSl pD];exact s4
 rw[aSl h5];by_cases h6:w.2.1=tR
 .rw[aSj h6];dsimp only;rw[hhead,h6,c2];cases hv:sZ r with
  |none=>
   by_cases he:s.ends=[]
   .rw[aSj (by simp [he])];exact vD rfl rfl pD
   .rw[aSl (by simp [yQ,he]),aSl pE,aSl pE,aSj rfl,x5,f1,aSm,aSm,aSj FQ,FP,aHY,aSm,hv];exact vD rfl rfl pD
  |some t=>
   show BZ _ (rU s nx (.src t));by_cases he:s.ends=[]
   .rw[aSj (by simp [he]),rU,aSj (.inr he)];exact vD rfl rfl pD
   rw[aSl (by simp [yQ,he]),aSl pE,aSl pE,aSj rfl,x5,f1,aSm,aSm,aSj FQ,FP,aHY,aSm,hv,rU,aSl (show¬(s.op=false\/s.ends=[]) by simp [ho,he])];dsimp only;rw[s1];by_cases h6:s.bs=true
   .rw[aSj h6,aSj h6];exact vD rfl rfl pD
   rw[aSl h6,aSl h6];refine FO rfl rfl (P6 h hr ho rfl rfl rfl rfl rfl rfl rfl rfl rfl ⟨rfl,x2,x3,x4,rfl⟩ ⟨fl,rfl,f2,f3,fun h0=>absurd h0 vC.2.2.2.2.2.2.2.2.1⟩ SF.symm ⟨?_,?_,?_,?_⟩)
   .show sF .str .bool (sT .str .bool tR true P.seen) tR=true;rw[xF,aSj rfl]
   .show sF .str .bool (sT .str .bool tR true P.seen) tS=s.bt;rw[xF,aSl pD];exact s2
   .show sF .str .bool (sT .str .bool tR true P.seen) vY=s.bh;rw[xF,aSl pD];exact s3
   show sF .str .bool (sT .str .bool tR true P.seen) vJ=s.bf;rw[xF,aSl pD];exact s4
 rw[aSl h6];have h3:(rU s nx (uK w.2.1 r)).1=3:=aPx ho nx h1 h6 h5 h4 h2 hkE h3;dsimp only;rw[aSj (by simp [yQ])];refine⟨_,rfl,h3.symm,fun h0=>?_⟩;rw[h3] at h0;cases h0
end
theorem aPA {s:St}(h:uV s) {P:Pg}(hr:D9 s P) {line:p8}(hl:line.length<=1000000000) (hf:CT line=false) (nx:Int):
  BZ (HC P.c P.pl P.id P.sc P.tg P.fg P.sv P.ap (P.ends,()) line nx P.cm P.n1 P.fl P.n2 P.seen P.ids) (wE s line nx):=by
 obtain⟨v,hv,hm⟩:=aHz hl;unfold wE;rw[hf,aSl pE];unfold HC;rw[hv,aSm];cases hw:FK line with
 |none=>
  rw[hw] at hm;have hm:v.2=false:=hm;rw[aSj (by rw[hm];rfl)];exact vD rfl rfl pD
 |some l=>
  rw[hw] at hm;have hm:v=(l,true):=hm;subst hm;have hnel:line.dropWhile sO≠[]:=fun e=>by
   unfold CT at hf;rw[e] at hf;cases hf
  have hne:=a8Q _ _ _ hw hnel;have hok:=S8 _ _ _ hw;obtain⟨hs1,hs2⟩:=P1 _ _ _ hw;cases l with
  |nil=>exact absurd rfl hne
  |cons w r=>
   have hr': ∀x∈r,yP line.length x:=fun x hx=>hok x (aSy _ hx);rw[aSl pE,aSj xG];dsimp only;rw[show qH qO (w::r) (0:Int)=w from rfl];by_cases hq:w.1=true
   .rw[aSj hq];have hany:((w::r).any fun x=> !x.1)=r.any fun x=> !x.1:=by rw[List.any_cons,hq];rfl
    have:=aPo h hr (l:=w::r) pC pC nx;rw[hany] at this;show BZ (a81 P (w::r)) (rU s nx (BB (w::r)));unfold BB;dsimp only;rw[aSj hq];by_cases ha:(r.any fun x=> !x.1)=true
    .rw[aSj ha] at this|-;exact this
    rw[aSl ha] at this|-;exact this
   rw[aSl hq];have hq:w.1=false:=by simpa using hq
   show BZ (MM P (w::r) nx) (rU s nx (BB (w::r)));have hcmd:BB (w::r)=uK w.2.1 r:=by unfold BB;dsimp only;rw[aSl (by rw[hq];simp)]
   rw[hcmd];cases ho:s.op with
   |false=>exact aPw h hr ho hq hr' nx
   |true=>exact aPz h hr ho (r:=r) (w:=w) (by simp only[aSq] at hs2;omega) nx
end
noncomputable section
def aPB {α β:Type}(o:Option α):(o.bind fun _=>(none:Option β))=none:=by cases o<;>rfl
def aH7 (s:p8):F0 s [10]=Lib.indexByte s 10:=Lib.index_one s 10
def aH8: ∀(l:p8),Lib.indexByte l 10<0->∀b∈l,b≠10
 |[],_,b,hb=>by cases hb
 |c::l,h,b,hb=>by
  rw[Lib.indexByte] at h;split at h
  .omega
  rename_i hc;have hc:c≠10:=by simpa using hc
  rcases aSx.1 hb with rfl|hb
  .exact hc
  refine aH8 l ?_ b hb;have:=NM l 10;split at h
  .rename_i h1;simp only[aTB] at h1;omega
  omega
def aH9: ∀(l:p8),0<=Lib.indexByte l 10->(l.take ((Lib.indexByte l 10).toNat+1)).getLast? =some 10/\(l.take ((Lib.indexByte l 10).toNat+1)).dropLast=l.take (Lib.indexByte l 10).toNat
 |[],h=>by simp [Lib.indexByte] at h
 |c::l,h=>by
  by_cases hc:c=10
  .subst hc;have e:Lib.indexByte ((10:UInt8)::l) 10=0:=by rw[Lib.indexByte];rfl
   rw[e];exact⟨rfl,rfl⟩
  have hlt:=NM l 10;have e:Lib.indexByte (c::l) 10=Lib.indexByte l 10+1/\0<=Lib.indexByte l 10:=by
   rw[Lib.indexByte,aSl (by simpa using hc)] at h|-;split at h
   .omega
   rename_i h1;simp only[aTB] at h1;rw[aSl (by simpa using h1)];exact⟨rfl,pC⟩
  obtain⟨h1,h2⟩:=aH9 l e.2;have e2:(Lib.indexByte (c::l) 10).toNat=(Lib.indexByte l 10).toNat+1:=by rw[e.1];omega
  rw[e2,List.take_succ_cons,List.take_succ_cons];have hne:l.take ((Lib.indexByte l 10).toNat+1)≠[]:=fun h0=>by rw[h0] at h1;cases h1
  refine⟨?_,?_⟩
  .rw[List.getLast?_cons,h1];rfl
  rw[List.dropLast_cons_of_ne_nil hne,h2]
def aPC {s:p8}(hs:s.length<=1000000000): ∃t,DX s [10]=some t/\t.1=if 0<=Lib.indexByte s 10 then s.take (Lib.indexByte s 10).toNat else s:=by
 have hi:=aH7 s;have hr:=NM s 10;unfold DX NW;rw[hi,aSj pC];by_cases h:0<=Lib.indexByte s 10
 .rw[aSj (aSN h),aSj ⟨pC,h,pC⟩,aSj (by simp;unfold pY;omega),aSj ⟨by simp;omega,by simp;omega,aTa _⟩,aSj h];refine⟨_,rfl,?_⟩;show qU s 0 (Lib.indexByte s 10)=_;unfold qU;simp
 rw[aSl (by simpa using h),aSl h];exact⟨_,rfl,rfl⟩
def aIa {s:p8}(hs:s.length<=1000000000) {a:Nat}(ha:a<s.length): ∃t,DX (qU s (a:Int) (s.length:Int)) [10]=some t/\t.1=sM (AH s a)/\min (s.length:Int) (((a:Int)+(t.1.length:Int))+1)=(tT s a:Nat)/\t.1.length<=s.length-a:=by
 rw[CS];obtain⟨t,h1,h2⟩:=aPC (s:=s.drop a) (by rw[aSR];omega);refine⟨t,h1,?_⟩;have hr:=NM (s.drop a) 10;rw[aSR] at hr;have hto:=SC ha;by_cases h:0<=Lib.indexByte (s.drop a) 10
 .rw[aSj h] at h2;have hlt:tT s a=a+(Lib.indexByte (s.drop a) 10).toNat+1:=aSj h;have hla:AH s a=(s.drop a).take ((Lib.indexByte (s.drop a) 10).toNat+1):=by unfold AH;rw[hlt];congr 1;omega
  obtain⟨g1,g2⟩:=aH9 _ h;have hlen:t.1.length=(Lib.indexByte (s.drop a) 10).toNat:=by rw[h2,aSX,aSR];omega
  refine⟨?_,?_,?_⟩
  .unfold sM;rw[hla,aSj g1,g2,h2]
  .rw[hlen,hlt,Int.min_eq_right pC];omega
  omega
 rw[aSl h] at h2;have hlt:tT s a=s.length:=aSl h;have hla:AH s a=s.drop a:=by unfold AH;rw[hlt];exact List.take_of_length_le (by rw[aSR];omega)
 have hlen:t.1.length=s.length-a:=by rw[h2,aSR]
 refine⟨?_,?_,pC⟩
 .unfold sM;rw[hla,aSl (fun hg=>aH8 (s.drop a) pC 10 (List.mem_of_getLast? hg) rfl),h2]
 rw[hlen,hlt,Int.min_eq_left pC]
def aIb (s:p8):GO s=some ()/\(!((decide ((Lib.trimLeftS s ([32,9]:p8))=([]:p8)))||(decide ((rJ (Lib.trimLeftS s ([32,9]:p8)) (0:Int))=(35:Int)))))= !CT s:=by
 unfold GO CT;rw[aOu];cases h:s.dropWhile sO with
 |nil=>exact⟨aSj (fun hh=>by simp at hh),rfl⟩
 |cons b t=>
  refine⟨aSj (fun _=>xG),?_⟩;rw[show rJ (b::t) 0=(b.toNat:Int) from rfl,vB (n:=35) 35 rfl];simp
def aIc (w:Wd) (r:List Wd) (hw:w.1=false):(((!decide (((w::r).length:Int)=(2:Int)))||(qH qO (w::r) (0:Int)).1)||(!((qH qO (w::r) (1:Int)).1)))= !(sZ r).isSome:=aH4 w r hw
def aId (w:Wd) (r:List Wd):((((!decide (((w::r).length:Int)=(2:Int)))||(qH qO (w::r) (0:Int)).1)==false)=true->0<=(1:Int)/\(1:Int)<((w::r).length:Int)):=fun hh=>by
 cases hd:decide (((w::r).length:Int)=(2:Int)) with
 |false=>rw[hd] at hh;cases hh
 |true=>have:=aS1 hd;omega
abbrev c0:sE:=(([]:p8),(([]:p9),(([]:List qG),(([]:List rW),()))))
abbrev SI (line:p8) (nx:Int):=B6 c0 (0:Int) ([]:p8) ([]:p8) ([]:p8) ([]:p9) (0:Int) (([]:pI),()) line nx (some ([]:p9)) 0 (some ([]:List qG)) 0 ([]:pG)
abbrev L0b (line:p8) (nx:Int):=FG c0 (0:Int) ([]:p8) ([]:p8) ([]:p8) ([]:p9) (0:Int) (([]:pI),()) line nx (some ([]:p9)) 0 (some ([]:List qG)) 0 ([]:pG)
def a84 (nx:Int) {c:vZ}(hc: ∀t,c≠.beg true t):(rU uG nx c).1=3:=by
 cases c with
 |bad=>rfl
 |beg hd t=>
  cases hd with
  |true=>exact absurd rfl (hc t)
  |false=>rfl
 |cont t=>rfl
 |com t=>rfl
 |src t=>rfl
 |tgt t=>rfl
 |sta v=>rfl
 |fld m v=>rfl
 |flg l=>rfl
 |fin=>rfl
def aIe {k:p8}{r:List Wd}{t:p8}(h:uK k r= .beg true t):k=wQ/\sZ r=some t:=by
 unfold uK at h;have one: ∀(f:p8->vZ),(∀x,f x≠.beg true t)->((sZ r).map f).getD .bad≠.beg true t:=fun f hf=>by
  cases sZ r with
  |none=>intro h;cases h
  |some x=>exact hf x
 split at h
 .rename_i hk;refine⟨hk,?_⟩;cases ho:sZ r with
  |none=>rw[ho] at h;cases h
  |some x=>rw[ho] at h;cases h;rfl
 split at h
 .exact absurd h (one _ fun x hx=>by cases hx)
 split at h
 .exact absurd h (one _ fun x hx=>by cases hx)
 split at h
 .exact absurd h (one _ fun x hx=>by cases hx)
 split at h
 .exact absurd h (one _ fun x hx=>by cases hx)
 split at h
 .cases hs:BV r with
  |none=>rw[hs] at h;cases h
  |some v=>rw[hs] at h;cases h
 split at h
 .cases hs:BW r with
  |none=>rw[hs] at h;cases h
  |some v=>rw[hs] at h;cases h
 split at h
 .split at h<;>cases h
 split at h
 .split at h<;>cases h
 cases h
def aIf {l:List Wd}(hl:l.length<=1000000000): ∀(n i:Nat) (a:p8),i+n=l.length->a.length+(r6 (l.drop i)).flatten.length<=9000000000000000000->
  ∃q,rG (LT l) (a,(i:Int))=some q/\(q= .inr 3\/∃z,q= .inl z)
 |0,i,a,hi,_=>by
  have:i=l.length:=by omega
  subst this;rw[tI];unfold LT;dsimp only;rw[aSl (xC _)];exact⟨_,rfl,.inr ⟨_,rfl⟩⟩
 |n+1,i,a,hi,hb=>by
  have hlt:i<l.length:=by omega
  have h2:(r6 (l.drop i)).flatten=l[i].2.1++(r6 (l.drop (i+1))).flatten:=by
   unfold r6;rw[aSK hlt,aTC,aUi]
  rw[h2,aSp] at hb;rw[tI];generalize hF:rG (LT l)=F;unfold LT;dsimp only;rw[aSj (tX hlt),aSj (sU hlt),FM hlt];cases hq:l[i].1 with
  |false=>exact⟨_,rfl,.inl rfl⟩
  |true=>
   rw[aSl pE,aSj (by rw[aSp];omega),aSj (uB pC),aSm];dsimp only;rw[<-hF,show ((i:Int)+1)=((i+1:Nat):Int) by omega];exact aIf hl n (i+1) _ pC (by rw[aSp];omega)
def JT (w:Wd) (r:List Wd):Option p8:=match sZ r with
 |some t=>if w.2.1=wQ/\yE t=true then some t else none
 |none=>none
def aIg {w:Wd}{r:List Wd}(hq:w.1=false):D6 c0 (0:Int) ([]:p8) ([]:p8) ([]:p8) ([]:p9) (0:Int) (([]:pI),()) (w::r) (some ([]:p9)) 0 (some ([]:List qG)) 0 ([]:pG)=(JT w r).map fun t=>(t,1,[],[]):=by
 unfold D6 JT;rw[aIc w r hq,aSj (fun _=>xG),aSj (aId w r)];cases hone:sZ r with
 |none=>rfl
 |some t=>
  have hrt:=MJ hone;subst hrt;have hn0:qH qO [w,(true,t,())] (0:Int)=w:=rfl;have hn1:qH qO [w,(true,t,())] (1:Int)=(true,t,()):=rfl;have hp1:0<=(1:Int)/\(1:Int)<(List.length [w,(true,t,())]:Int):=by simp
  rw[hn0,hn1,aGL];dsimp only;rw[aSl (show¬(!(some t).isSome)=true by simp),aSj hp1,aSj (fun _=>xG),aSj (fun _=>Option.isSome_some),show decide ((0:Int)=0)=true from rfl,Bool.true_and,show val (some (yE t))=yE t from rfl];by_cases hc:w.2.1=wQ/\yE t=true
  .rw[aSj hc,show decide (w.2.1=([99,97,116,97,108,111,103]:p8))=true from aSN hc.1,hc.2];rfl
  rw[aSl hc,aSl (by
   simp only[aSB,aSs];exact hc)]
  rfl
def aIh {w:Wd}{r:List Wd}(hq:w.1=false):J4 c0 (0:Int) ([]:p8) ([]:p8) ([]:p8) ([]:p9) (0:Int) (([]:pI),()) (w::r) (some ([]:p9)) 0 (some ([]:List qG)) 0 ([]:pG)=match JT w r with|some _=>none|none=>some 3:=by
 unfold J4 JT;rw[aIc w r hq,aSj (fun _=>xG),aSj (aId w r)];cases hone:sZ r with
 |none=>rfl
 |some t=>
  have hrt:=MJ hone;subst hrt;have hn0:qH qO [w,(true,t,())] (0:Int)=w:=rfl;have hn1:qH qO [w,(true,t,())] (1:Int)=(true,t,()):=rfl;have hp1:0<=(1:Int)/\(1:Int)<(List.length [w,(true,t,())]:Int):=by simp
  rw[hn0,hn1,aGL];dsimp only;rw[aSl (show¬(!(some t).isSome)=true by simp),aSj hp1,aSj (fun _=>xG),aSj (fun _=>Option.isSome_some),show decide ((0:Int)=0)=true from rfl,Bool.true_and,show val (some (yE t))=yE t from rfl];by_cases hc:w.2.1=wQ/\yE t=true
  .rw[aSj hc,show decide (w.2.1=([99,97,116,97,108,111,103]:p8))=true from aSN hc.1,hc.2];rfl
  rw[aSl hc,aSl (by
   simp only[aSB,aSs];exact hc)]
  rfl
def P7 (l:List Wd):Option p8:=match l with
 |[]=>none
 |w::r=>if w.1=true then none else JT w r
def aPD {l:List Wd}(hne:l≠[]) {N:Nat}(hok: ∀w∈l,yP N w) (nx:Int):(rU uG nx (BB l)=match P7 l with|some t=>(0,FN uG (t,uG.c.2) t) |none=>rU uG nx (BB l))/\(P7 l=none->(rU uG nx (BB l)).1=3):=by
 cases l with
 |nil=>exact absurd rfl hne
 |cons w r=>
  have hr': ∀x∈r,yP N x:=fun x hx=>hok x (aSy _ hx);unfold BB P7;dsimp only;by_cases hq:w.1=true
  .rw[aSj hq,aSj hq];refine⟨rfl,fun _=>a84 nx fun t=>?_⟩;split<;>intro hc<;>cases hc
  rw[aSl hq,aSl hq];unfold JT;cases hone:sZ r with
  |none=>
   refine⟨rfl,fun _=>a84 nx fun t hc=>?_⟩;have:=(aIe hc).2;rw[hone] at this;cases this
  |some t=>
   dsimp only;by_cases hk:w.2.1=wQ
   .have hc1:uK w.2.1 r= .beg true t:=by rw[hk];exact(a8U (k:=[]) hone).1
    have hdo:rU uG nx (.beg true t)=if yE t=true then(0,FN uG (t,uG.c.2) t) else(3,uG):=by rw[rU,aSl (by simp [uG,JQ])]
    rw[hc1,hdo];by_cases htg:yE t=true
    .rw[aSj htg,aSj ⟨hk,htg⟩];exact⟨rfl,fun h=>by cases h⟩
    rw[aSl htg,aSl (fun h=>htg h.2)];exact⟨rfl,fun _=>rfl⟩
   rw[aSl (fun h=>hk h.1)];exact⟨rfl,fun _=>a84 nx fun t' hc=>hk (aIe hc).1⟩
def aPE {line:p8}(hl:line.length<=1000000000) (hf:CT line=false) (nx:Int):
  (∃t,wE uG line nx=(0,FN uG (t,uG.c.2) t)/\SI line nx=some (t,1,[],[]))\/((wE uG line nx).1=3/\SI line nx=none/\L0b line nx=some 3):=by
 obtain⟨v,hv,hm⟩:=aHz hl;have hstep:wE uG line nx=match FK line with|none=>(3,uG) |some l=>rU uG nx (BB l):=by
  unfold wE;exact(aSl (by rw[hf];simp)).trans rfl
 cases hw:FK line with
 |none=>
  rw[hw] at hm hstep;have hm:v.2=false:=hm;refine .inr ⟨by rw[hstep],?_,?_⟩
  .unfold SI B6;rw[hv,aSm,aSj (by rw[hm];rfl)]
  .unfold L0b FG;rw[hv,aSm,aSj (by rw[hm];rfl)]
 |some l=>
  rw[hw] at hm hstep;have hm:v=(l,true):=hm;subst hm;have hnel:line.dropWhile sO≠[]:=fun e=>by
   unfold CT at hf;rw[e] at hf;cases hf
  have hne:=a8Q _ _ _ hw hnel;have hok:=S8 _ _ _ hw;obtain⟨hs1,hs2⟩:=P1 _ _ _ hw;obtain⟨hd1,hd2⟩:=aPD hne hok nx;have hA:SI line nx=(P7 l).map fun t=>(t,1,[],[]):=by
   unfold SI B6 P7;rw[hv,aSm];cases l with
   |nil=>exact absurd rfl hne
   |cons w r=>
    dsimp only;rw[aSl pE,aSj xG,show qH qO (w::r) (0:Int)=w from rfl];by_cases hq:w.1=true
    .rw[aSj hq,aSj hq];exact aPB _
    rw[aSl hq,aSl hq,aSj pD];have hq:w.1=false:=by simpa using hq
    have ha:=aIg (r:=r) hq;have hb:=aIh (r:=r) hq;unfold c0 at ha hb;rw[ha,hb];cases JT w r<;>rfl
  cases hF:P7 l with
  |some t=>
   rw[hF] at hd1 hA;exact .inl ⟨t,hstep.trans hd1,hA⟩
  |none=>
   rw[hF] at hA;refine .inr ⟨by rw[hstep];exact hd2 hF,hA,?_⟩;unfold L0b FG;rw[hv,aSm];cases l with
   |nil=>exact absurd rfl hne
   |cons w r=>
    dsimp only;rw[aSl pE,aSj xG,show qH qO (w::r) (0:Int)=w from rfl];by_cases hq:w.1=true
    .rw[aSj hq];unfold LU;obtain⟨q,h1,h2⟩:=aIf (l:=w::r) pC (w::r).length 0 [] pC (by rw[aTr,aSG];omega);have h1':rG (LT (w::r)) (([]:p8),(0:Int))=some q:=h1;rw[h1'];rcases h2 with rfl|⟨z,rfl⟩<;>rfl
    have hF:(if w.1=true then none else JT w r)=none:=hF;rw[aSl hq] at hF;rw[aSl hq,aSj pD];have hq:w.1=false:=by simpa using hq
    have ha:=aIg (r:=r) hq;have hb:=aIh (r:=r) hq;unfold c0 at ha hb;rw[ha,hb,hF];rfl
end
noncomputable section
abbrev aPF:=Int×p8×p9×(List qG)×(List rW)×Int×p8×p8×p8×p9×Int×Nat×pI×(Option p9)×Nat×(Option (List qG))×Nat×pG×pG
abbrev aIi:=p8×p9×(List qG)×(List rW)×Int×p8×p8×p8×p9×Int×Nat×pI×(Option p9)×Nat×(Option (List qG))×Nat×pG×pG
abbrev Pg.out (P:Pg):aIi:=(P.c.1,P.c.2.1,P.c.2.2.1,P.c.2.2.2.1,P.pl,P.id,P.sc,P.tg,P.fg,P.sv,P.ap,P.ends,P.cm,P.n1,P.fl,P.n2,P.seen,P.ids)
abbrev Pg.inn (P:Pg) (a:Int):aPF:=(a,P.out)
def SJ (s:p8) (ok:Option aIi) (er:Option (Int×Int)) (r:(Nat×Int)⊕St):Prop:=match r with
  | .inl q=>ok=none∧er=some ((q.1:Int),q.2)∧q.2≠0
  | .inr st=>if st.op=true∨st.ends=[] then ok=none∧er=some ((s.length:Int),3) else∃P,D9 st P∧ok=some P.out
def a85 {s:p8}(hs:s.length≤1000000000): ∀(n a:Nat) (st:St) (P:Pg),uV st→D9 st P→a≤s.length→s.length<n+a→
    SJ s (rG (AB s) (.inr (P.inn a))) (rG (AC s) (.inr (P.inn a))) (zU s n st a)
  |0,a,st,P,hst,hr,ha,hn=>by omega
  | n+1,a,st,P,hst,hr,ha,hn=>by
    rw[zU];by_cases hlt:a<s.length
    · rw[aSj hlt]
      obtain⟨t,ht1,ht2,ht3,ht4⟩:=aIa hs hlt;have hto:=SC hlt;obtain⟨hf1,hf2⟩:=aIb t.1;have hsub:t.1.length≤1000000000:=by omega
      have hab:0≤(a:Int)∧(a:Int)≤(s.length:Int)∧(s.length:Int)≤(s.length:Int):=⟨pC,pC,aTa _⟩;have hi1:pY ((a:Int)+(t.1.length:Int)):=by unfold pY;omega
      have hi2:pY (((a:Int)+(t.1.length:Int))+(1:Int)):=by unfold pY;omega
      rw[←ht2];rw[tI (AB s),tI (AC s)];generalize hF:rG (AB s)=F;generalize hG:rG (AC s)=G;unfold AB AC;dsimp only;rw[aSj (tX hlt),aSj (tX hlt),aSj hab,aSj hab,ht1,aSm,aSm,aSj hi1,aSj hi1,aSj hi2,aSj hi2,hf1,aSm,aSm,hf2,ht3];cases hfr:CT t.1 with
      | true=>
        have hst':wE st t.1 (tT s a:Nat)=(0,st):=by unfold wE;rw[hfr,aSj rfl]
        rw[aSl (show¬(!true)=true by simp),aSl (show¬(!true)=true by simp),hst',aSj rfl,aSm,aSm];dsimp only;rw[←hF,←hG];exact a85 hs n (tT s a) st P hst hr hto.2 pC
      | false=>
        rw[aSj (show (!false)=true from rfl),aSj (show (!false)=true from rfl)];obtain⟨v,hv,he,hz⟩:=aPA hst hr hsub hfr (tT s a:Nat);have hv':HC (P.c.1,(P.c.2.1,(P.c.2.2.1,(P.c.2.2.2.1,())))) P.pl P.id P.sc P.tg P.fg P.sv P.ap (P.ends,()) t.1 ((tT s a:Nat):Int) P.cm P.n1 P.fl P.n2 P.seen P.ids=some v:=hv;rw[hv',aSm,aSm,he];by_cases h0:(wE st t.1 (tT s a:Nat)).1=0
        · rw[h0,aSl pE,aSl pE,aSj rfl,aSm,aSm]
          dsimp only;rw[←hF,←hG];exact a85 hs n (tT s a) _ (a80 v) (XO hst _ _ h0) (hz h0) hto.2 pC
        rw[aSj (by simp [h0]),aSj (by simp [h0]),aSl h0]
        exact⟨rfl,rfl,h0⟩
    rw[aSl hlt]
    have hF:decide ((a:Int)<(s.length:Int))=false:=decide_eq_false pC;rw[tI (AB s),tI (AC s)];unfold AB AC;dsimp only;rw[hF,aSl (show¬false=true by simp),aSl (show¬false=true by simp)];unfold SJ;dsimp only;by_cases hc:st.op=true∨st.ends=[]
    · rw[aSj hc]
      have hpl:P.pl≠2:=by
        rw[hr.pl];rcases hc with h1|h1
        .rw[aSj h1];split<;>decide
        rcases hr.live with h2|h2
        .rw[aSj h2];split<;>decide
        exact absurd h1 h2
      rw[aSj (show (!decide (P.pl=(2:Int)))=true by simp [hpl]),aSj (show (!decide (P.pl=(2:Int)))=true by simp [hpl])];exact⟨rfl,rfl⟩
    rw[aSl hc]
    rw[not_or] at hc;have hpl:P.pl=2:=by rw[hr.pl,aSl hc.1,aSl hc.2]
    rw[aSl (show¬(!decide (P.pl=(2:Int)))=true by simp [hpl])];exact⟨P,hr,rfl⟩
def aPG (t:p8):D9 (FN uG (t,uG.c.2) t) ⟨(t,([],([],([],())))),1,[],[],[],[],0,0,[],some [],0,some [],0,[],[]⟩ where
  c:=rfl
  ends:=rfl
  pl:=rfl
  x:=fun _=>⟨rfl,rfl,rfl,rfl,rfl⟩
  id:=fun _ h=>absurd rfl h
  fl:=fun _=>⟨[],rfl,rfl,List.nodup_nil,fun h=>absurd h.symm vC.2.2.2.1⟩
  ap:=ML.symm
  seen:=fun _=>⟨rfl,rfl,rfl,rfl⟩
  ids:=fun _=>rfl
  live:= .inl rfl
def aPH {t:p8}{line:p8}{nx:Int}(h:wE uG line nx=(0,FN uG (t,uG.c.2) t)):uV (FN uG (t,uG.c.2) t):=by
  have:=XO a8T line nx (by rw[h]);rw[h] at this;exact this
def aIj {s:p8}(hs:s.length≤1000000000): ∀(n a:Nat),a≤s.length→s.length<n+a→
    SJ s (rG (AB s) (.inl (a:Int))) (rG (AC s) (.inl (a:Int))) (zU s n uG a)
  |0,a,ha,hn=>by omega
  | n+1,a,ha,hn=>by
    rw[zU];by_cases hlt:a<s.length
    · rw[aSj hlt]
      obtain⟨t,ht1,ht2,ht3,ht4⟩:=aIa hs hlt;have hto:=SC hlt;obtain⟨hf1,hf2⟩:=aIb t.1;have hsub:t.1.length≤1000000000:=by omega
      have hab:0≤(a:Int)∧(a:Int)≤(s.length:Int)∧(s.length:Int)≤(s.length:Int):=⟨pC,pC,aTa _⟩;have hi1:pY ((a:Int)+(t.1.length:Int)):=by unfold pY;omega
      have hi2:pY (((a:Int)+(t.1.length:Int))+(1:Int)):=by unfold pY;omega
      rw[←ht2];rw[tI (AB s),tI (AC s)];generalize hF:rG (AB s)=F;generalize hG:rG (AC s)=G;unfold AB AC;dsimp only;rw[aSj (tX hlt),aSj (tX hlt),aSj hab,aSj hab,ht1,aSm,aSm,aSj hi1,aSj hi1,aSj hi2,aSj hi2,hf1,aSm,aSm,hf2,ht3];cases hfr:CT t.1 with
      | true=>
        have hst':wE uG t.1 (tT s a:Nat)=(0,uG):=by unfold wE;rw[hfr,aSj rfl]
        rw[aSl (show¬(!true)=true by simp),aSl (show¬(!true)=true by simp),hst',aSj rfl,aSm,aSm];dsimp only;rw[←hF,←hG];exact aIj hs n (tT s a) hto.2 pC
      | false=>
        rw[aSj (show (!false)=true from rfl),aSj (show (!false)=true from rfl)];rcases aPE hsub hfr (tT s a:Nat) with⟨x,h1,h2⟩ |⟨h1,h2,h3⟩
        · have h2':B6 (([]:p8),(([]:p9),(([]:List qG),(([]:List rW),())))) (0:Int) ([]:p8) ([]:p8) ([]:p8) ([]:p9) (0:Int) (([]:pI),()) t.1 ((tT s a:Nat):Int) (some ([]:p9)) 0 (some ([]:List qG)) 0 ([]:pG)=some (x,1,[],[]):=h2
          rw[h2',h1];simp only[Option.isSome_some,↓reduceIte,aSm,decide_true,Bool.not_true,aTy];rw[←hF,←hG];exact a85 hs n (tT s a) _ _ (aPH h1) (aPG x) hto.2 pC
        have h2':B6 (([]:p8),(([]:p9),(([]:List qG),(([]:List rW),())))) (0:Int) ([]:p8) ([]:p8) ([]:p8) ([]:p9) (0:Int) (([]:pI),()) t.1 ((tT s a:Nat):Int) (some ([]:p9)) 0 (some ([]:List qG)) 0 ([]:pG)=none:=h2
        have h3':FG (([]:p8),(([]:p9),(([]:List qG),(([]:List rW),())))) (0:Int) ([]:p8) ([]:p8) ([]:p8) ([]:p9) (0:Int) (([]:pI),()) t.1 ((tT s a:Nat):Int) (some ([]:p9)) 0 (some ([]:List qG)) 0 ([]:pG)=some 3:=h3;rw[h2',h3',h1];simp only[Option.isSome_none,aTy,↓reduceIte,aSm];rw[aSj (show (!decide ((3:Int)=(0:Int)))=true from rfl),aSj (show (!decide ((3:Int)=(0:Int)))=true from rfl),aSl (show¬(3:Int)=0 by decide)];exact⟨rfl,rfl,show (3:Int)≠0 by decide⟩
    rw[aSl hlt]
    have hF:decide ((a:Int)<(s.length:Int))=false:=decide_eq_false pC;rw[tI (AB s),tI (AC s)];unfold AB AC;dsimp only;rw[hF,aSl (show¬false=true by simp),aSl (show¬false=true by simp),aSj (show (!decide ((0:Int)=(2:Int)))=true from rfl),aSj (show (!decide ((0:Int)=(2:Int)))=true from rfl)];exact⟨rfl,rfl⟩
def aPI {s:p8}(hs:s.length≤1000000000):match BY s with
    | .inl q=>FH s=none∧JH s=some ((q.1:Int),q.2)∧q.2≠0
    | .inr st=> ∃P,D9 st P∧FH s=some P.out∧st.op=false∧st.ends≠[]:=by
  have h:=aIj hs (s.length+1) 0 (aTg _) pC;unfold BY;unfold FH JH;have h':SJ s (rG (AB s) (.inl (0:Int))) (rG (AC s) (.inl (0:Int))) (zU s (s.length+1) uG 0):=h;cases hr:zU s (s.length+1) uG 0 with
  |inl q=>rw[hr] at h';exact h'
  | inr st=>
    rw[hr] at h';unfold SJ at h';dsimp only at h'|-;by_cases hc:st.op=true∨st.ends=[]
    · rw[aSj hc] at h'|-
      exact⟨h'.1,h'.2,show (3:Int)≠0 by decide⟩
    rw[aSl hc] at h'|-
    obtain⟨P,h1,h2⟩:=h';rw[not_or] at hc;exact⟨P,h1,h2,by simpa using hc.1,hc.2⟩
def xH:(Nat×Int)⊕St→p8×p9×(List qG)×(List rW)×Int×Int
  | .inl q=>([],[],[],[],(q.1:Int),q.2)
  | .inr st=>(st.c.1,st.c.2.1,st.c.2.2.1,st.c.2.2.2.1,0,0)
def aPJ {s:p8}(hs:s.length≤1000000000):MD s=some (xH (BY s)):=by
  unfold MD;rw[aPj hs,aSm];cases BY s<;>rfl
def aPK {s:p8}(hs:s.length≤1000000000):JI s=some (xH (BY s)):=by
  have h:=aPI hs;unfold JI;cases hr:BY s with
  | inl q=>
    rw[hr] at h;obtain⟨h1,h2,h3⟩:=h;rw[h1,h2,aSl pE,aSm,aSj (by simpa using h3)];rfl
  | inr st=>
    rw[hr] at h;obtain⟨P,h1,h2,_⟩:=h;rw[h2,aSj (show (some P.out).isSome=true from rfl),aSm,aSl (show¬(!decide ((0:Int)=(0:Int)))=true by decide)];show some (P.c.1,P.c.2.1,P.c.2.2.1,P.c.2.2.2.1,(0:Int),(0:Int))=_;rw[h1.c];rfl
end
noncomputable section
def SK (a:Nat) (ends:pI):Prop:= ∃l:pM,ends=l.map (fun n:Nat=>(n:Int))∧l.Pairwise (·≤·)∧∀x∈l,x≤a
def a86 {a b:Nat}(h:a≤b) {e:pI}(he:SK a e):SK b e:=by
  obtain⟨l,h1,h2,h3⟩:=he;exact⟨l,h1,h2,fun x hx=>aTh (h3 x hx) h⟩
def aPL (s:St) (n:Int) (c:vZ):(rU s n c).2.ends=s.ends∨(rU s n c).2.ends=s.ends++[n]:=by
  cases c with
  |cont t=>exact .inl (aHL s n t).2.1
  |beg hd t=>cases hd<;>(rw[rU];repeat' split)<;>exact .inl rfl
  | fin=>
    rw[rU];split
    .exact .inl rfl
    .exact .inr rfl
  |bad=>exact .inl rfl
  | com t => rw[rU];repeat' split
             all_goals exact .inl rfl
  | src t => rw[rU];repeat' split
             all_goals exact .inl rfl
  | tgt t => rw[rU];repeat' split
             all_goals exact .inl rfl
  | sta v => rw[rU];repeat' split
             all_goals exact .inl rfl
  | fld m v => rw[rU];repeat' split
               all_goals exact .inl rfl
  | flg l => rw[rU];repeat' split
             all_goals exact .inl rfl
def aPM (s:St) (line:p8) (n:Int):(wE s line n).2.ends=s.ends∨(wE s line n).2.ends=s.ends++[n]:=by
  unfold wE;split
  .exact .inl rfl
  split
  .exact .inl rfl
  exact aPL _ _ _
def aIk {s:p8}: ∀(n a:Nat) (st st':St),a≤s.length→SK a st.ends→zU s n st a= .inr st'→SK s.length st'.ends
  |0,a,st,st',ha,h,e=>by cases e;exact a86 ha h
  | n+1,a,st,st',ha,h,e=>by
    rw[zU] at e;split at e
    · rename_i hlt
      have hto:=SC hlt;split at e
      · refine aIk n (tT s a) _ st' hto.2 ?_ e
        rcases aPM st (sM (AH s a)) (tT s a:Nat) with h1|h1
        .rw[h1];exact a86 pC h
        rw[h1]
        obtain⟨l,g1,g2,g3⟩:=h;refine⟨l++[tT s a],by rw[g1,List.map_append];rfl,aT9.2 ⟨g2,aUf _ _,fun x hx y hy=>?_⟩,fun x hx=>?_⟩
        .rw[aSC.1 hy];have:=g3 x hx;omega
        rcases aTx.1 hx with hx|hx
        .have:=g3 x hx;omega
        rw[aSC.1 hx];exact aSE _
      cases e
    cases e;exact a86 ha h
def aPN {s:p8}{st:St}(h:BY s= .inr st):uV st∧st.op=false∧st.ends≠[]∧SK s.length st.ends∧JP st.c=true:=by
  unfold BY at h;cases hr:zU s (s.length+1) uG 0 with
  |inl q=>rw[hr] at h;cases h
  | inr st'=>
    rw[hr] at h;dsimp only at h;split at h
    .cases h
    rename_i hc
    cases h;rw[not_or] at hc;have hok:=aHP _ _ _ a8T hr;exact⟨hok,by simpa using hc.1,hc.2,aIk _ _ _ _ (aTg _) ⟨[],rfl,List.Pairwise.nil,fun x hx=>(by cases hx)⟩ hr,aOp (hok.tag (.inl hc.2)) hok.hcm hok.hfd hok.es⟩
def aPO:OQ=some true:=by kernel_rfl
def aPP {s:p8}{st:St}(h:BY s= .inr st):E5 st.c st.c=some ()∧((((decide (st.c.1=st.c.1))&&(val (wD st.c.2.1 st.c.2.1)))&&(val (z6 st.c.2.2.1 st.c.2.2.1)))&&(val (CM st.c.2.2.2.1 st.c.2.2.2.1)))=true:=aOs (aPN h).2.2.2.2
def aPQ (s:p8):ME s=some true:=by
  unfold ME;rw[aPO,aSm,aSl pD];by_cases h:decide ((4000:Int)<(s.length:Int))=true
  .rw[aSj h]
  rw[aSl h]
  have hs:s.length≤1000000000:=by simp at h;omega
  rw[aPK hs,aPJ hs,aSm,aSm];cases hr:BY s with
  | inl q=>
    have he:E5 (([]:p8),(([]:p9),(([]:List qG),(([]:List rW),())))) (([]:p8),(([]:p9),(([]:List qG),(([]:List rW),()))))=some ():=aOt;rw[show (xH (.inl q)).1=[] from rfl,show (xH (.inl q)).2.1=[] from rfl,show (xH (.inl q)).2.2.1=[] from rfl,show (xH (.inl q)).2.2.2.1=[] from rfl,he,aSj (fun _=>Option.isSome_some)];have hv:((((decide (([]:p8)=[]))&&(val (wD [] [])))&&(val (z6 [] [])))&&(val (CM [] [])))=true:=by kernel_rfl
    rw[hv];simp
  | inr st=>
    obtain⟨h1,h2⟩:=aPP hr;have h1':E5 ((xH (.inr st)).1,((xH (.inr st)).2.1,((xH (.inr st)).2.2.1,((xH (.inr st)).2.2.2.1,())))) ((xH (.inr st)).1,((xH (.inr st)).2.1,((xH (.inr st)).2.2.1,((xH (.inr st)).2.2.2.1,()))))=some ():=h1;rw[h1',aSj (fun _=>Option.isSome_some)];have h2':((((decide ((xH (.inr st)).1=(xH (.inr st)).1))&&(val (wD (xH (.inr st)).2.1 (xH (.inr st)).2.1)))&&(val (z6 (xH (.inr st)).2.2.1 (xH (.inr st)).2.2.1)))&&(val (CM (xH (.inr st)).2.2.2.1 (xH (.inr st)).2.2.2.1)))=true:=h2;rw[h2'];simp
end
end Go.Proofs.YtcpbaddnmpeipaaGreatDoor
namespace Go.Proofs.YtcpbaddnmpeipaaGreatDoor
open Go.ChangeShapes Go.WideShapes Go.ChangeAt Go.RowKit
section
variable {H:Type}{enc:TypeId×pO->H}{P:Program}
theorem aPR (hl:laidOutB P=true) {W W':pN}(hb:Below W.heap.size W W'):
  ∀{ts:List TypeId}{vs:pJ}{ds:List (DataW H)}{ps:List MemPlace},(∀t∈ts,P.readableRec t=true/\t<P.types.size)->
  DataW.TrodAll enc P W 0 (fun _=>true) true ts vs ds ps->(∀x∈ps,x.block<W.heap.size)->
  DataW.TrodAll enc P W' 0 (fun b=>decide (b<W.heap.size)) true ts vs ds ps:=by
 intro ts
 induction ts with
 |nil=>
  intro vs ds ps _ h _;obtain⟨rfl,rfl,rfl⟩:=trodAll_nil h;exact trodAll_mk0
 |cons t ts ih=>
  intro vs ds ps hr h hlt;obtain⟨v,vs',d,ds',p,q,rfl,rfl,rfl,h0,r0⟩:=trodAll_cons h;exact trodAll_cons_mk (Below.trod hl (hr t pE).1 (hr t pE).2 h0 hb (fun x hx=>hlt x (by simp [hx]))) (ih (fun t' ht'=>hr t' (by simp [ht'])) r0 (fun x hx=>hlt x (by simp [hx])))
theorem aPS {f:Func}{s:ChangeSpec}{W W':pN}{args:Array pO}{ds gs:List (DataW H)}{before:List MemPlace}{tb:TypeId}
  (hl:laidOutB P=true) (hr: ∀t∈f.params.toList,P.readableRec t=true/\t<P.types.size)
  (hW:DataW.Whole enc P f.params.toList s.vars false W args.toList ds gs before) (hv:s.vars=[])
  (hfn:s.fn H ds={results:=[.lit (.bool true)],args:=ds}) (hrt:f.resultTypes= #[tb]) (htb:P.underlying tb=some .bool)
  (hb:Below W.heap.size W W'):s.post enc P f false true false false W args (.bool true) W':=by
 have hW':=hW;obtain⟨p,q,hA,hV,rfl,hfz,hnd⟩:=hW;rw[hv] at hV;obtain⟨rfl,rfl⟩:=trodVars_none hV;have hlt: ∀x∈p,x.block<W.heap.size:=fun x hx=>by simpa using hW'.lt x (by simp [hx])
 refine⟨ds,[],p++[],[],p,[],hW',?_,?_,?_,hb.frame _,fun h=>by cases h⟩
 .rw[List.append_nil,hfn,hrt];exact trodAll_mk1 (shut_bool htb true)
 .rw[List.append_nil,hfn];exact aPR hl hb hr hA hlt
 rw[hv,List.append_nil,hfn];rfl
end
section
variable {H:Type}{enc:TypeId×pO->H}
theorem aPT {C:Checked}{f:FuncId}{fn:Func}{s:ChangeSpec}{tb:TypeId}{FR:List (String×DataW Unit)}(own:ownKnob C.prog.godebug=none) {os:Os}(started:os.Started) (F:Stop.Interp)
  (noInit:C.prog.inits.idxOf? f=none) (hfn:C.prog.funcs[f]? =some fn)
  (hl:laidOutB C.prog=true) (hr: ∀t∈fn.params.toList,C.prog.readableRec t=true/\t<C.prog.types.size) (hv:s.vars=[])
  (hrt:fn.resultTypes= #[tb]) (htb:C.prog.underlying tb=some .bool)
  (hspec: ∀(ds:List (DataW H)) (W:pN) (args:Array pO) ps,DataW.TrodAll enc C.prog W 0 (fun _=>true) true fn.params.toList args.toList ds ps->s.fn H ds={results:=[.lit (.bool true)],args:=ds})
  (witness: ∃(w:pN) (tape:Tape) (i:Input),w.os=os/\(w.forCall tape i).Shaped C.prog/\i.vars=[]/\Input.okWide C.prog (w.forCall tape i) .any w.heap.size f i/\
   (OpenSpec.ofChange s).preRow enc C.prog fn [] false FR (w.forCall tape i).memory i.args/\Assume.holds {} C.prog (lone (Frame.enter C.prog f i.args .normal) [] (w.forCall tape i)))
  (contract: ∀(W:pN) (base:Nat) (args:Array pO) (ds:List (DataW H)) (ps:List MemPlace),
   (∀(j:Nat) t v,fn.params[j]? =some t->args[j]? =some v->Value.okWide C.prog W .any base t v)->
   DataW.TrodAll enc C.prog W 0 (fun _=>true) true fn.params.toList args.toList ds ps->
   (∀x∈ps,x.block<W.heap.size)->laidMetH C.prog FR W->W.ShapedOpen C.prog->
   Calls C.prog f args W fun e W'=>e= .returned (.bool true)/\Below W.heap.size W W'):
  ReturnsInHanded {} C os f .any ((OpenSpec.ofChange s).preRow enc C.prog fn [] false FR) (s.post enc C.prog fn false true false false):=by
 refine returnsInHanded_of_row (C:=C) (s:=OpenSpec.ofChange s) (F:=F) own started noInit hfn witness ?_;intro W base args ds gs before hval hW _ _ hsz hL hsh _;have hW':=hW;obtain⟨p,q,hA,hV,rfl,hfz,hnd⟩:=hW;have hV':DataW.TrodVars enc C.prog W (fun _=>true) s.vars gs q:=hV;rw[hv] at hV';obtain⟨rfl,rfl⟩:=trodVars_none hV';have hlt: ∀x∈p,x.block<W.heap.size:=fun x hx=>by simpa using hW'.lt x (by simp [hx])
 refine(contract W base args ds p hval hA hlt hL hsh).mono fun e W' ⟨he,hb⟩=>?_;subst he;exact⟨_,rfl,aPS hl hr hW' hv (hspec ds W args p hA) hrt htb hb⟩
end
end Go.Proofs.YtcpbaddnmpeipaaGreatDoor
namespace Go.Proofs.YtcpbaddnmpeipaaGreatDoor
open Go.Shelf Go.Lib
open Vc
theorem aPU:(Rows.laid_unicode_utf8_first:DataW Unit)=Lib.firstData:=by kernel_rfl
theorem aPV:(Rows.laid_unicode_utf8_acceptRanges:DataW Unit)=Lib.acceptData:=by kernel_rfl
theorem aPW {P:Program}{w:pN}{g:Nat}{t:TypeId}{k:IntKind}{zero:Array pO}(h:w.ShapedOpen P) (hg:g<P.globals.size)
  (h0:((begin P (fun _ _=>0) default).world.heap[g]?).bind Obj.row? =some (zero,t)) (hz:zero.size=1)
  (hb:P.buildable t=true) (hc:P.cellTypes P.depth t=some [t]) (hu:P.underlying t=some (.int k)): ∃m,w.cell? ⟨g,0,none⟩=some (.int k m):=by
 obtain⟨cs,hh,hs,hr⟩:=h.1 g zero t hg h0;obtain⟨ts,hts,_,hall⟩:=hr hb;rw[hc] at hts;cases hts;have h1:0<cs.size:=by omega
 obtain⟨u,hu',hok⟩:=hall 0 cs[0] (by simp [h1]);have:u=t:=by simpa using hu'.symm
 subst this;have hcell:w.cell? ⟨g,0,none⟩=some cs[0]:=by simp [World.cell?,hh,h1]
 rw[hcell];unfold Cell.ok at hok;rw[hu] at hok;cases hv:cs[0]<;>rw[hv] at hok<;>simp at hok
 rename_i k' m;exact⟨m,by rw[hok.1]⟩
theorem aPX {W:pN}(hsh:W.ShapedOpen Tryz.prog): ∃m,W.cell? ⟨0,0,none⟩=some (.int .i64 m):=
 aPW (t:=3) (zero:= #[.int .i64 0]) hsh (aS1 pQ) pQ rfl pQ pQ Tryz.underlying3
def aPY:Ren:=⟨fun x=>x,fun x=>if x=5 then 5 else if x=119 then 218 else if x=138 then 220 else 221,fun x=>if x=3 then 1 else 2⟩
theorem a87 {w:pN}{a:Addr}{v:pO}(h:w.cell? a=some v):a.block<w.heap.size:=by
 unfold World.cell? at h;split at h
 .rename_i hb;exact(aSO.1 hb).1
 cases h
theorem aPZ {W:pN}(hL:laidMet Tryz.prog Rows.blocksParseRow.laid W) (hsh:W.ShapedOpen Tryz.prog):EJ W:=by
 obtain⟨m,hm⟩:=aPX hsh;have h1:=laidMet.reads hL (.head _);have h2:=laidMet.reads hL (.tail _ (.head _));rw[aPU] at h2;rw[aPV] at h1;have hU:Lib.Utf8Tabs 1 2 W:=utf8Tabs_of_readsT (ρ:=aPY) ⟨pQ,pQ,pQ,pQ⟩ ⟨pQ,pQ,pQ,pQ,pQ,pQ,pQ⟩ h2 h1;refine⟨?_,hU,⟨m,hm⟩,fun _ h=>by cases h⟩;have b0:0<W.heap.size:=a87 hm;have b1:1<W.heap.size:=a87 (hU.1 0 pD);have b2:2<W.heap.size:=a87 (hU.2 0 pD).1;show 3<=W.heap.size;omega
end Go.Proofs.YtcpbaddnmpeipaaGreatDoor
namespace Go.Proofs.YtcpbaddnmpeipaaGreatDoor
open Vc
open Go.ChangeShapes Go.WideShapes Go.ChangeAt Go.RowKit
def gh1 (w:pN):Gh:=⟨fun b _=>b<w.heap.size,fun _=>none,fun _ _=>none⟩
theorem aP1 {W:pN}(hT:EJ W) (s:ByteArray):
  Calls Tryz.prog 3 #[.string s] W fun e W'=>e= .returned (.bool true)/\Below W.heap.size W W':=by
 have hC:a8p (RW s.data.toList) X5=some (OR s.data.toList):=aNo _;have ht:=aPQ s.data.toList;refine(aNq.1.2 (gh1 W) W (RW s.data.toList) [.string s] [] _ ⟨(fun i b h=>by cases h),(fun i j bi bj b o _ h=>by cases h),fun b o h=>h,hT,(fun i blk b o h=>by cases h)⟩ ⟨.string s,[],rfl,?_,rfl⟩ hC ?_).mono fun e W' ⟨v,g',he,r⟩=>?_
 .refine⟨?_,trivial⟩;refine .inr ⟨rfl,?_⟩;show [Value.string s]=[Value.string ⟨s.data.toList.toArray⟩];rw[aTW]
 .intro p hp;have:p=((ME s.data.toList).isSome=true):=by simpa[OR] using hp
  rw[this,ht];rfl
 have hv:v= .bool true:=by
  have h1:=r.ret;unfold OR at h1;rw[ht] at h1;exact vE h1.1
 subst hv;exact⟨he,⟨r.fr.os,r.fr.tape,r.fr.output,r.fr.size,fun k hk=>r.fr.blk k hk (fun o ⟨i,blk,hi,_⟩=>by cases hi)⟩⟩
end Go.Proofs.YtcpbaddnmpeipaaGreatDoor
namespace Go.Proofs.YtcpbaddnmpeipaaGreatDoor
open Go.ChangeShapes Go.WideShapes Go.ChangeAt Go.RowKit Go.Lib
open Go.ChangeMaps (open_string shut_string)
namespace blocksParseLaw
theorem own:ownKnob Tryz.prog.godebug=none:=by kernel_rfl
theorem FR:laidOutB Tryz.prog=true:=by kernel_rfl
theorem BY:Tryz.prog.readableRec 9=true:=by kernel_rfl
theorem ltS:9<Tryz.prog.types.size:=aS1 pQ
noncomputable def XS (os:Os):pN:=
 let w0:=World.holding Tryz.prog os ⟨#[],#[],[]⟩
 let uL (h:Array Obj) (g:Nat) (cs:Array pO):Array Obj:=h.modify g fun
  | .cells _ t frozen=> .cells cs t frozen
  |o=>o
 let h1:=uL w0.heap 1 (Lib.firstTab.map fun z=>Value.int .u8 z).toArray
 let h2:=uL h1 2 ((List.range 16).flatMap fun i=>[Value.int .u8 (Lib.accLo i),Value.int .u8 (Lib.accHi i)]).toArray
 {w0 with heap:=h2}
theorem aP3 (os:Os) (args:Array pO):laidMet Tryz.prog Rows.blocksParseRow.laid ((XS os).forCall (fun _ _=>0) ⟨#[],args,[]⟩).memory:=
 (LaidIn.of_run [2,1] 8 pQ pQ pQ pQ:LaidIn Tryz.prog _ Rows.blocksParseRow.laid _).met
theorem aP4 (os:Os) {H:Type}(enc:TypeId×pO->H):
  (OpenSpec.ofChange Rows.blocksParseSpec).preRow enc Tryz.prog Tryz.f3 [] false Rows.blocksParseRow.laid ((XS os).forCall (fun _ _=>0) ⟨#[],#[.string ⟨#[]⟩],[]⟩).memory #[.string ⟨#[]⟩]:=by
 have hw:(DataW.whole enc Tryz.prog ((XS os).forCall (fun _ _=>0) ⟨#[],#[.string ⟨#[]⟩],[]⟩).memory Tryz.f3.params.toList (OpenSpec.ofChange Rows.blocksParseSpec).vars false #[Value.string ⟨#[]⟩].toList 8).map (fun x=>(x.1,x.2.1))=
   some ([.lit (.string [])],[]):=by kernel_rfl
 obtain⟨⟨x1,x2,x3⟩,hx,hx1⟩:=aSA.1 hw;simp only[aSP] at hx1;obtain⟨rfl,rfl⟩:=hx1;exact OpenSpec.preRow_of_cond 8 hx pQ (fun k hk=>by cases hk) pQ (aP3 os _)
theorem lifted (os:Os) (started:os.Started) (H:Type) (enc:TypeId×pO->H) (F:Stop.Interp):
  ReturnsInHanded {} Tryz.checked os 3 .any ((OpenSpec.ofChange Rows.blocksParseSpec).preRow enc Tryz.prog Tryz.f3 [] false Rows.blocksParseRow.laid) (Rows.blocksParseSpec.post enc Tryz.prog Tryz.f3 false true false false):=by
 refine aPT (C:=Tryz.checked) (tb:=4) own started F pQ Tryz.func3 FR ?_ rfl rfl Tryz.underlying4 ?_
  (witness_row_atRef (enc:=enc) (C:=Tryz.checked) false (XS os) #[.string ⟨#[]⟩] rfl pQ pQ pQ (aP4 os enc)) ?_
 .intro t ht;rw[Tryz.params3] at ht;simp only[aSx,aTK,or_false] at ht;rcases ht with rfl
  exact⟨BY,ltS⟩
 .intro ds W args ps h;have h':DataW.TrodAll enc Tryz.prog W 0 (fun _=>true) true Tryz.f3.params.toList args.toList ds ps:=h;rw[Tryz.params3] at h';obtain⟨v0,d0,rfl,rfl,h0⟩:=trodAll_one h';rfl
 intro W base args ds ps hval0 hA0 hlt hL hsh;have hval: ∀(j:Nat) t v,Tryz.f3.params[j]? =some t->args[j]? =some v->Value.okWide Tryz.prog W .any base t v:=hval0;have hA:DataW.TrodAll enc Tryz.prog W 0 (fun _=>true) true Tryz.f3.params.toList args.toList ds ps:=hA0;rw[Tryz.params3] at hA hval;obtain⟨v0,d0,rfl,rfl,h0⟩:=trodAll_one hA;obtain⟨s,rfl,rfl,rfl,ws⟩:=open_string Tryz.underlying9 (hval 0 9 v0 rfl rfl) h0;exact aP1 (aPZ hL hsh) s
end blocksParseLaw
theorem aIl:Rows.BlocksParseSaid:=
 OpenClaim.holds_of_wide 3 Tryz.f3 rfl rfl rfl rfl rfl rfl rfl ⟨rfl,rfl,rfl,rfl,rfl⟩ rfl rfl rfl rfl rfl pQ Tryz.func3 pQ
  (aS1 pQ) (by unfold Func.isWrapper;first|(rw[aSj (by decide+kernel)];kernel_rfl) |(rw[aSl (by decide+kernel)];exact⟨rfl,rfl⟩))
  (fun os started H enc _=>by rw[OpenClaim.pre_eq_preRow];exact blocksParseLaw.lifted os started H enc (fun _ _ _=>0))
#print axioms aIl
end Go.Proofs.YtcpbaddnmpeipaaGreatDoor
namespace Go.Proofs.YtcpbaddnmpeipaaGreatDoor
open Go
theorem blocksParseCard_holds:Rows.BlocksParseCardSaid:=
 Claim7.holds_tied_plain_at .later [] [.data,.pinned] true (true, "5d87d424bdcb739eb2e592d3312f44549b2e7d9aae6f0497c2ce86444ec20ce9") false
  aIl (fun _ h=>by cases h) pQ (fun _ h=>by cases h) blocksParse_row_tie rfl ⟨rfl,rfl⟩ pQ rfl
  (fun f fn hf hfn=>by
   obtain rfl:f=3:=aSo ((show Tryz.prog.funcNamed "calque/calquelaw39.BlocksParse" =some 3 by kernel_rfl).symm.trans hf) |>.symm
   obtain rfl:fn=Tryz.f3:=(aSo (Tryz.func3.symm.trans hfn)).symm;exact⟨pQ,fun j t ht=>by
    rw[Tryz.params3] at ht;have hm:t∈[9]:=by simpa using Array.mem_of_getElem? ht
    have hall:([9].all fun u=> !Tryz.prog.wantsStandIn u)=true:=by kernel_rfl
    exact(show Tryz.prog.wantsStandIn t=false by simpa using aT3.1 hall t hm)⟩)
  pQ
#print axioms blocksParseCard_holds
end Go.Proofs.YtcpbaddnmpeipaaGreatDoor
