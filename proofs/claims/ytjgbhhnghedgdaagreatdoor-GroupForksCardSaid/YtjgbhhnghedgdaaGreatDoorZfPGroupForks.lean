/-
  Proved: for every input the law GroupForks returns true, and each argument reads afterwards as it read before; and its card, tied to the text of the program. Condition: the tables unicode/utf8.first and acceptRanges read as they were laid (tied).
-/
import Derived.Test.YtjgbhhnghedgdaaGreatDoorCards
import Derived.Test.YtjgbhhnghedgdaaGreatDoorTie
import Derived.Test.YtjgbhhnghedgdaaGreatDoorZfGrU3
import Derived.LaidMore
import Derived.OpenShut
import Derived.ProofKit
import Derived.SevenTiedAt
import Derived.Lib.LaidU8T
import Derived.Lib.LaidIn
set_option linter.all false
namespace Go.Proofs.YtjgbhhnghedgdaaGreatDoor.groupForks
open Go.ChangeShapes Go.WideShapes Go.ChangeAt Go.RowKit Go.Lib
theorem own:ownKnob Tryz.prog.godebug=none:=by kernel_rfl
theorem laidOut:laidOutB Tryz.prog=true:=by kernel_rfl
noncomputable def xU (os:Os):World :=
 let w0:=World.doorLaid Tryz.prog 400 os
 {w0 with heap:=w0.heap.modify 0 fun
   | .cells _ t frozen=>.cells (Lib.firstTab.map fun z=>Value.int .u8 z).toArray t frozen
   | o=>o}
theorem met (os:Os) (args:Array Value):laidMetH Tryz.prog Rows.groupForksRow.laid ((xU os).forCall (fun _ _=>0) ⟨#[],args,[]⟩).memory :=
 laidMetH_of_parts3 (fuel:=8) (laidMet_of_run' 8 bC bC) bC bC
theorem MA {W:World} (h:laidMetH Tryz.prog Rows.groupForksRow.laid W):Good W:=by
 rw [MakeChecks.laidMetH_plain _ _ _ bC] at h
 have e1:Rows.laid_unicode_utf8_first=Lib.firstData:=by kernel_rfl
 have e2:(Rows.laid_unicode_utf8_acceptRanges:DataW Unit)=Lib.acceptData:=by kernel_rfl
 have m1 : ("unicode/utf8.first", Rows.laid_unicode_utf8_first) ∈ Rows.groupForksRow.laid := .tail _ (.head _)
 have m2 : ("unicode/utf8.acceptRanges", Rows.laid_unicode_utf8_acceptRanges) ∈ Rows.groupForksRow.laid := .head _
 have r1:=Lib.laidMet.reads h m1
 have r2:=Lib.laidMet.reads h m2
 rw [e1] at r1
 rw [e2] at r2
 exact utf8Tabs_of_readsT (U8Types.of196 Ib) ⟨by kernel_rfl,by kernel_rfl,by kernel_rfl,by kernel_rfl,by kernel_rfl,by kernel_rfl,by kernel_rfl⟩ r1 r2
set_option maxRecDepth 100000 in
theorem lifted (os:Os) (started:os.Started) (H:Type) (enc:TypeId×Value->H) :
  ReturnsInHanded {} Tryz.checked os 10 .any (fun w args=>(Rows.groupForksSpec.pre enc Tryz.prog Tryz.f10 [] false w args∧laidMetH Tryz.prog Rows.groupForksRow.laid w)∧sizedMet enc Tryz.prog Tryz.f10 (OpenSpec.ofChange Rows.groupForksSpec) false w args) (Rows.groupForksSpec.post enc Tryz.prog Tryz.f10 false true false false):=by
 refine returnsInHanded_of_change_and (C:=Tryz.checked) (X:=fun w _=>laidMetH Tryz.prog Rows.groupForksRow.laid w) (fun _ _ _ hh h=>h.of_heap hh) own started bC Tryz.func10
  (ChangeSpec.witness_shaped (enc:=enc) (C:=Tryz.checked) (os:=os) (X:=fun w _=>laidMetH Tryz.prog Rows.groupForksRow.laid w) false (xU os) #[.slice none 0 0,.slice none 0 0,.slice none 0 0] 8 rfl (World.shaped_of_RefB bC bC) bC bC bC (met os _)) ?_
 intro W base args ds gs before QT hW _ _ hL _
 have km:Good W:=MA hL
 have ji:∀(j:Nat) t v,Tryz.f10.params[j]?=some t->args[j]?=some v->Value.okWide Tryz.prog W .any base t v:=QT
 have WV:=hW
 obtain ⟨p,q,Xe,hV,rfl,XR,iF⟩:=hW
 have hA:DataW.TrodAll enc Tryz.prog W 0 (fun _=>true) true Tryz.f10.params.toList args.toList ds p:=Xe
 have gH:=hA
 rw [Tryz.params10] at hA ji
 obtain ⟨v0,XA,d0,X3,p0,q0,iS,rfl,rfl,h0,r0⟩:=trodAll_cons hA
 obtain ⟨v1,Xz,d1,X2,p1,q1,rfl,rfl,rfl,h1,r1⟩:=trodAll_cons r0
 obtain ⟨v2,Xy,d2,X1,p2,q2,rfl,rfl,rfl,h2,r2⟩:=trodAll_cons r1
 obtain ⟨rfl,rfl,rfl⟩:=trodAll_nil r2
 obtain rfl:args= #[v0,v1,v2]:=by cases args;simp_all
 obtain ⟨rfl,rfl⟩:=trodVars_none hV
 obtain ⟨x0,o0,e0⟩:=((rQ Tryz.underlying33 Tryz.underlying3 bC).one bC) H enc W base v0 d0 p0 (ji 0 33 v0 rfl rfl) h0
 obtain ⟨x1,o1,e1⟩:=((rQ Tryz.underlying33 Tryz.underlying3 bC).one bC) H enc W base v1 d1 p1 (ji 1 33 v1 rfl rfl) h1
 obtain ⟨x2,o2,e2⟩:=((rQ Tryz.underlying33 Tryz.underlying3 bC).one bC) H enc W base v2 d2 p2 (ji 2 33 v2 rfl rfl) h2
 refine ((vU x0 x1 x2 o0 o1 o2).law W km [v0,v1,v2] rfl (uW e0 (uW e1 (uW e2 (LN _ _))))).mono fun e W' ⟨he,cX⟩=>?_
 subst he
 exact ⟨_,rfl,_,_,_,[],_,[],WV,trodAll_mk1 (shut_bool Tryz.underlying4 _),Below.Ih laidOut cX _ _ _ _ bC gH,rfl,cX.frame _,fun h=>by cases h⟩
theorem over:Rows.groupForksRow.holds Tryz.pinned (OpenSpec.ofChange Rows.groupForksSpec) :=
 OpenClaim.holds_of_wide 10 Tryz.f10 rfl rfl rfl rfl rfl rfl rfl ⟨rfl,rfl,rfl,rfl,rfl⟩ rfl rfl rfl rfl rfl bC Tryz.func10 bC
  (of_decide_eq_true bC) (by unfold Func.isWrapper;first|(rw [if_pos (by decide +kernel)];kernel_rfl)|(rw [if_neg (by decide +kernel)];exact ⟨rfl,rfl⟩))
  (fun os started H enc _=>lifted os started H enc)
theorem proved:Rows.GroupForksCardSaid :=
 Claim7.holds_tied_plain_at .later [] [.data, .pinned] true (true, "fab67545d1c5343aea5e1f3d0de8eea608bff556b3f6889684a4119b28c12f87") false
  over (fun _ h=>by cases h) bC (fun _ h=>by cases h) groupForks_row_tie rfl ⟨rfl,rfl⟩ bC rfl
  (fun f fn hf WE=>by
   obtain rfl : f = 10 := Option.some.inj ((show Tryz.prog.funcNamed "passkey/passkeylaw38.GroupForks" = some 10 by kernel_rfl).symm.trans hf) |>.symm
   obtain rfl:fn=Tryz.f10:=(Option.some.inj (Tryz.func10.symm.trans WE)).symm
   exact ⟨by kernel_rfl,fun j t ht=>by
    rw [Tryz.params10] at ht
    have gH:(Tryz.f10.params.toList.all fun u=> !Tryz.prog.wantsStandIn u)=true:=by kernel_rfl
    have hm:t∈Tryz.f10.params.toList:=by rw [Tryz.params10];simpa using Array.mem_of_getElem? ht
    exact (show Tryz.prog.wantsStandIn t=false by simpa using List.all_eq_true.1 gH t hm)⟩)
  bC
#print axioms proved
end Go.Proofs.YtjgbhhnghedgdaaGreatDoor.groupForks
