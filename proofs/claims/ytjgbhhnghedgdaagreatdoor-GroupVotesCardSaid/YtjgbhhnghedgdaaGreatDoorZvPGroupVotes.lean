/-
  Proved: for every input the law GroupVotes returns true, and each argument reads afterwards as it read before; and its card, tied to the text of the program. Condition: the tables unicode/utf8.first and acceptRanges read as they were laid (tied).
-/
import Derived.Test.YtjgbhhnghedgdaaGreatDoorCards
import Derived.Test.YtjgbhhnghedgdaaGreatDoorTie
import Derived.Test.YtjgbhhnghedgdaaGreatDoorZvGrV2
import Derived.LaidMore
import Derived.OpenShut
import Derived.ProofKit
import Derived.SevenTiedAt
import Derived.Lib.LaidU8T
import Derived.Lib.LaidIn
set_option linter.all false
namespace Go.Proofs.YtjgbhhnghedgdaaGreatDoor.groupVotes
open Go.ChangeShapes Go.WideShapes Go.ChangeAt Go.RowKit Go.Lib
theorem own:ownKnob Tryz.prog.godebug=none:=by kernel_rfl
theorem laidOut:laidOutB Tryz.prog=true:=by kernel_rfl
noncomputable def xL (os:Os):World :=
 let w0:=World.doorLaid Tryz.prog 400 os
 {w0 with heap:=w0.heap.modify 0 fun
   | .cells _ t frozen=>.cells (Lib.firstTab.map fun z=>Value.int .u8 z).toArray t frozen
   | o=>o}
theorem met (os:Os) (args:Array Value):laidMetH Tryz.prog Rows.groupVotesRow.laid ((xL os).forCall (fun _ _=>0) ⟨#[],args,[]⟩).memory :=
 laidMetH_of_parts3 (fuel:=8) (laidMet_of_run' 8 bu bu) bu bu
theorem LV {W:World} (h:laidMetH Tryz.prog Rows.groupVotesRow.laid W):Good W:=by
 rw [MakeChecks.laidMetH_plain _ _ _ bu] at h
 have e1:Rows.laid_unicode_utf8_first=Lib.firstData:=by kernel_rfl
 have e2:(Rows.laid_unicode_utf8_acceptRanges:DataW Unit)=Lib.acceptData:=by kernel_rfl
 have m1 : ("unicode/utf8.first", Rows.laid_unicode_utf8_first) ∈ Rows.groupVotesRow.laid := .tail _ (.head _)
 have m2 : ("unicode/utf8.acceptRanges", Rows.laid_unicode_utf8_acceptRanges) ∈ Rows.groupVotesRow.laid := .head _
 have r1:=Lib.laidMet.reads h m1
 have r2:=Lib.laidMet.reads h m2
 rw [e1] at r1
 rw [e2] at r2
 exact utf8Tabs_of_readsT (U8Types.of196 HD) ⟨by kernel_rfl,by kernel_rfl,by kernel_rfl,by kernel_rfl,by kernel_rfl,by kernel_rfl,by kernel_rfl⟩ r1 r2
set_option maxRecDepth 100000 in
theorem lifted (os:Os) (started:os.Started) (H:Type) (enc:TypeId×Value->H) :
  ReturnsInHanded {} Tryz.checked os 5 .any (fun w args=>(Rows.groupVotesSpec.pre enc Tryz.prog Tryz.f5 [] false w args∧laidMetH Tryz.prog Rows.groupVotesRow.laid w)∧sizedMet enc Tryz.prog Tryz.f5 (OpenSpec.ofChange Rows.groupVotesSpec) false w args) (Rows.groupVotesSpec.post enc Tryz.prog Tryz.f5 false true false false):=by
 refine returnsInHanded_of_change_and (C:=Tryz.checked) (X:=fun w _=>laidMetH Tryz.prog Rows.groupVotesRow.laid w) (fun _ _ _ hh h=>h.of_heap hh) own started bu Tryz.func5
  (ChangeSpec.witness_shaped (enc:=enc) (C:=Tryz.checked) (os:=os) (X:=fun w _=>laidMetH Tryz.prog Rows.groupVotesRow.laid w) false (xL os) #[.slice none 0 0,.int .i64 0,.string ⟨#[]⟩,.int .u64 0,.int .i64 0,.int .i64 0] 8 rfl (World.shaped_of_RefB bu bu) bu bu bu (met os _)) ?_
 intro W base args ds gs before P9 hW _ _ hL _
 have ko:Good W:=LV hL
 have iG:∀(j:Nat) t v,Tryz.f5.params[j]?=some t->args[j]?=some v->Value.okWide Tryz.prog W .any base t v:=P9
 have Wy:=hW
 obtain ⟨p,q,WT,hV,rfl,XH,iI⟩:=hW
 have hA:DataW.TrodAll enc Tryz.prog W 0 (fun _=>true) true Tryz.f5.params.toList args.toList ds p:=WT
 have gD:=hA
 rw [Tryz.params5] at hA iG
 obtain ⟨v0,Xo,d0,XZ,p0,q0,gZ,rfl,rfl,h0,r0⟩:=trodAll_cons hA
 obtain ⟨v1,Xn,d1,XY,p1,q1,rfl,rfl,rfl,h1,r1⟩:=trodAll_cons r0
 obtain ⟨v2,Xm,d2,XX,p2,q2,rfl,rfl,rfl,h2,r2⟩:=trodAll_cons r1
 obtain ⟨v3,Xl,d3,XW,p3,q3,rfl,rfl,rfl,h3,r3⟩:=trodAll_cons r2
 obtain ⟨v4,Xk,d4,XV,p4,q4,rfl,rfl,rfl,h4,r4⟩:=trodAll_cons r3
 obtain ⟨v5,Xj,d5,XU,p5,q5,rfl,rfl,rfl,h5,r5⟩:=trodAll_cons r4
 obtain ⟨rfl,rfl,rfl⟩:=trodAll_nil r5
 obtain rfl:args= #[v0,v1,v2,v3,v4,v5]:=by cases args;simp_all
 obtain ⟨rfl,rfl⟩:=trodVars_none hV
 obtain ⟨x0,o0,e0⟩:=((F_ Tryz.underlying33 Tryz.underlying3 bu).one bu) H enc W base v0 d0 p0 (iG 0 33 v0 rfl rfl) h0
 obtain ⟨x1,o1,e1⟩:=((qs Tryz.underlying3).one bu) H enc W base v1 d1 p1 (iG 1 3 v1 rfl rfl) h1
 obtain ⟨x2,o2,e2⟩:=((Bh Tryz.underlying9).one bu) H enc W base v2 d2 p2 (iG 2 9 v2 rfl rfl) h2
 obtain ⟨x3,o3,e3⟩:=((F9 Tryz.underlying22).one bu) H enc W base v3 d3 p3 (iG 3 22 v3 rfl rfl) h3
 obtain ⟨x4,o4,e4⟩:=((qs Tryz.underlying3).one bu) H enc W base v4 d4 p4 (iG 4 3 v4 rfl rfl) h4
 obtain ⟨x5,o5,e5⟩:=((qs Tryz.underlying3).one bu) H enc W base v5 d5 p5 (iG 5 3 v5 rfl rfl) h5
 refine ((vQ x0 x1 x2 x3 x4 x5 o0 o1 o2 o4 o5).law W ko [v0,v1,v2,v3,v4,v5] rfl (mi e0 (mi e1 (mi e2 (mi e3 (mi e4 (mi e5 (K8 _ _)))))))).mono fun e W' ⟨he,da⟩=>?_
 subst he
 exact ⟨_,rfl,_,_,_,[],_,[],Wy,trodAll_mk1 (shut_bool Tryz.underlying4 _),Below.HG laidOut da _ _ _ _ bu gD,rfl,da.frame _,fun h=>by cases h⟩
theorem over:Rows.groupVotesRow.holds Tryz.pinned (OpenSpec.ofChange Rows.groupVotesSpec) :=
 OpenClaim.holds_of_wide 5 Tryz.f5 rfl rfl rfl rfl rfl rfl rfl ⟨rfl,rfl,rfl,rfl,rfl⟩ rfl rfl rfl rfl rfl bu Tryz.func5 bu
  (of_decide_eq_true bu) (by unfold Func.isWrapper;first|(rw [if_pos (by decide +kernel)];kernel_rfl)|(rw [if_neg (by decide +kernel)];exact ⟨rfl,rfl⟩))
  (fun os started H enc _=>lifted os started H enc)
theorem proved:Rows.GroupVotesCardSaid :=
 Claim7.holds_tied_plain_at .later [] [.data, .pinned] true (true, "fab67545d1c5343aea5e1f3d0de8eea608bff556b3f6889684a4119b28c12f87") false
  over (fun _ h=>by cases h) bu (fun _ h=>by cases h) groupVotes_row_tie rfl ⟨rfl,rfl⟩ bu rfl
  (fun f fn hf Wh=>by
   obtain rfl : f = 5 := Option.some.inj ((show Tryz.prog.funcNamed "passkey/passkeylaw38.GroupVotes" = some 5 by kernel_rfl).symm.trans hf) |>.symm
   obtain rfl:fn=Tryz.f5:=(Option.some.inj (Tryz.func5.symm.trans Wh)).symm
   exact ⟨by kernel_rfl,fun j t ht=>by
    rw [Tryz.params5] at ht
    have gD:(Tryz.f5.params.toList.all fun u=> !Tryz.prog.wantsStandIn u)=true:=by kernel_rfl
    have hm:t∈Tryz.f5.params.toList:=by rw [Tryz.params5];simpa using Array.mem_of_getElem? ht
    exact (show Tryz.prog.wantsStandIn t=false by simpa using List.all_eq_true.1 gD t hm)⟩)
  bu
#print axioms proved
end Go.Proofs.YtjgbhhnghedgdaaGreatDoor.groupVotes
