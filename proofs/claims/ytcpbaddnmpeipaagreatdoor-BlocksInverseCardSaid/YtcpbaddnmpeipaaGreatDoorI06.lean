/- Packed by a program of mine (wip/tools/pack.py): the same texts with short names and few blanks. -/
import Derived.SevenTiedAt
import Derived.Test.YtcpbaddnmpeipaaGreatDoorCards
import Derived.Test.YtcpbaddnmpeipaaGreatDoorTie
import Derived.Test.YtcpbaddnmpeipaaGreatDoorI05
set_option linter.all false
set_option maxRecDepth 100000
set_option maxHeartbeats 4000000
namespace Go.Proofs.YtcpbaddnmpeipaaGreatDoor
open Go.ChangeShapes Go.WideShapes Go.ChangeAt Go.RowKit Go.Lib
namespace blocksInverseLaw
theorem own:ownKnob Tryz.prog.godebug=none:=by kernel_rfl
theorem HD:laidOutB Tryz.prog=true:=by kernel_rfl
theorem aDn:Tryz.prog.readableRec 27=true:=by kernel_rfl
theorem ltC:27<Tryz.prog.types.size:=aGc qC
theorem DQ:Tryz.prog.readableRec 9=true:=by kernel_rfl
theorem ltS:9<Tryz.prog.types.size:=aGc qC
def US:q9:= .agg #[.string ⟨#[]⟩,.slice none 0 0,.slice none 0 0,.slice none 0 0]
theorem aDq (os:Os) {H:Type}(enc:TypeId×q9->H):
  (OpenSpec.ofChange Rows.blocksInverseSpec).preRow enc Tryz.prog Tryz.f7 [] false Rows.blocksInverseRow.laid ((br os).forCall (fun _ _=>0) ⟨#[],#[US,.string ⟨#[]⟩],[]⟩).memory #[US,.string ⟨#[]⟩]:=by
 have hw:(DataW.whole enc Tryz.prog ((br os).forCall (fun _ _=>0) ⟨#[],#[US,.string ⟨#[]⟩],[]⟩).memory Tryz.f7.params.toList (OpenSpec.ofChange Rows.blocksInverseSpec).vars false #[US,.string ⟨#[]⟩].toList 8).map (fun x=>(x.1,x.2.1))=
   some ([.agg [.lit (.string []),.nil,.nil,.nil],.lit (.string [])],[]):=by kernel_rfl
 obtain⟨⟨x1,x2,x3⟩,hx,hx1⟩:=aFQ.1 hw;simp only[aF3] at hx1;obtain⟨rfl,rfl⟩:=hx1;exact OpenSpec.preRow_of_cond 8 hx qC (fun k hk=>by cases hk) qC (aC7 os _)
theorem lifted (os:Os) (started:os.Started) (H:Type) (enc:TypeId×q9->H) (F:Stop.Interp):
  ReturnsInHanded {} Tryz.checked os 7 .any ((OpenSpec.ofChange Rows.blocksInverseSpec).preRow enc Tryz.prog Tryz.f7 [] false Rows.blocksInverseRow.laid) (Rows.blocksInverseSpec.post enc Tryz.prog Tryz.f7 false true false false):=by
 refine aCY (C:=Tryz.checked) (tb:=4) own started F qC Tryz.func7 HD ?_ rfl rfl Tryz.underlying4 ?_
  (witness_row_atRef (enc:=enc) (C:=Tryz.checked) false (br os) #[US,.string ⟨#[]⟩] rfl qC qC qC (aDq os enc)) ?_
 .intro t ht;rw[Tryz.params7] at ht;simp only[aFN,aG5,or_false] at ht;rcases ht with rfl|rfl
  .exact⟨aDn,ltC⟩
  exact⟨DQ,ltS⟩
 .intro ds W args ps h;have h':DataW.TrodAll enc Tryz.prog W 0 (fun _=>true) true Tryz.f7.params.toList args.toList ds ps:=h;rw[Tryz.params7] at h';obtain⟨v0,v1,d0,d1,p0,p1,rfl,rfl,rfl,h0,h1⟩:=trodAll_two h';rfl
 intro W base args ds ps hval0 hA0 hlt hsz0 hL hsh;have hval: ∀(j:Nat) t v,Tryz.f7.params[j]? =some t->args[j]? =some v->Value.okWide Tryz.prog W .any base t v:=hval0;have hA:DataW.TrodAll enc Tryz.prog W 0 (fun _=>true) true Tryz.f7.params.toList args.toList ds ps:=hA0;have hsz:(DataW.weightsEach Tryz.prog Tryz.f7.params.toList ds).all (·<=reachBytes)=true:=hsz0;rw[Tryz.params7] at hA hval hsz;obtain⟨v0,v1,d0,d1,p0,p1,rfl,rfl,rfl,h0,h1⟩:=trodAll_two hA;obtain⟨c,hv,hB⟩:=a3K aDe (hval 0 27 v0 rfl rfl) h0 (fun n hn=>by
  have:=aGt.1 hsz n (DataW.weights_mem_each (j:=0) rfl rfl n hn);simpa using this)
 obtain⟨s,hu,_⟩:=a3K LK (hval 1 9 v1 rfl rfl) h1 (fun n hn=>by
  have:=aGt.1 hsz n (DataW.weights_mem_each (j:=1) rfl rfl n hn);simpa using this)
 exact aDh (aC6 hL hsh) v0 c v1 s hv hu hB
end blocksInverseLaw
theorem a3M:Rows.BlocksInverseSaid:=
 OpenClaim.holds_of_wide 7 Tryz.f7 rfl rfl rfl rfl rfl rfl rfl ⟨rfl,rfl,rfl,rfl,rfl⟩ rfl rfl rfl rfl rfl qC Tryz.func7 aDm
  (aGc qC) (by unfold Func.isWrapper;first|(rw[aFz (by decide+kernel)];kernel_rfl) |(rw[aFA (by decide+kernel)];exact⟨rfl,rfl⟩))
  (fun os started H enc _=>by rw[OpenClaim.pre_eq_preRow];exact blocksInverseLaw.lifted os started H enc (fun _ _ _=>0))
#print axioms a3M
end Go.Proofs.YtcpbaddnmpeipaaGreatDoor
namespace Go.Proofs.YtcpbaddnmpeipaaGreatDoor
open Go
theorem aDr:Rows.blocksInverseRow.wfByText (OpenSpec.ofChange Rows.blocksInverseSpec)=true:=by kernel_rfl
theorem aDs:Tryz.prog.mainIs=some (true, "5d87d424bdcb739eb2e592d3312f44549b2e7d9aae6f0497c2ce86444ec20ce9".toList):=by kernel_rfl
theorem aDt:false=Tryz.prog.looks []:=by kernel_rfl
theorem aDu:false=Rows.blocksInverseRow.goesBy Tryz.prog:=by kernel_rfl
theorem aDv:Tryz.prog.funcNamed "calque/calquelaw39.BlocksInverse" =some 7:=by kernel_rfl
theorem aDw:([27,9].all fun u=> !Tryz.prog.wantsStandIn u)=true:=by kernel_rfl
theorem blocksInverseCard_holds:Rows.BlocksInverseCardSaid:=
 Claim7.holds_tied_plain_at .later [] [.data,.data,.data,.data,.pinned] true (true, "5d87d424bdcb739eb2e592d3312f44549b2e7d9aae6f0497c2ce86444ec20ce9") false
  a3M (fun _ h=>by cases h) aDr (fun _ h=>by cases h) blocksInverse_row_tie rfl ⟨rfl,rfl⟩ aDs rfl
  (fun f fn hf hfn=>by
   obtain rfl:f=7:=aFE (aDv.symm.trans hf) |>.symm
   obtain rfl:fn=Tryz.f7:=(aFE (Tryz.func7.symm.trans hfn)).symm;exact⟨aDt,fun j t ht=>by
    rw[Tryz.params7] at ht;have hm:t∈[27,9]:=by simpa using Array.mem_of_getElem? ht
    exact(show Tryz.prog.wantsStandIn t=false by simpa using aGt.1 aDw t hm)⟩)
  aDu
#print axioms blocksInverseCard_holds
end Go.Proofs.YtcpbaddnmpeipaaGreatDoor
