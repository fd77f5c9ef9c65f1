/-
  Proved: for every input the law GroupSafe returns true, and each argument reads afterwards as it read before; and its card, tied to the text of the program. Condition: the tables unicode/utf8.first and acceptRanges read as they were laid (tied).
-/
import Derived.Test.YtjgbhhnghedgdaaGreatDoorCards
import Derived.Test.YtjgbhhnghedgdaaGreatDoorTie
import Derived.Test.YtjgbhhnghedgdaaGreatDoorZsGrU2
import Derived.LaidMore
import Derived.OpenShut
import Derived.ProofKit
import Derived.SevenTiedAt
import Derived.Lib.LaidU8T
import Derived.Lib.LaidIn
set_option linter.all false
namespace Go.Proofs.YtjgbhhnghedgdaaGreatDoor.groupSafe
open Go.ChangeShapes Go.WideShapes Go.ChangeAt Go.RowKit Go.Lib
theorem own:ownKnob Tryz.prog.godebug=none:=by kernel_rfl
theorem laidOut:laidOutB Tryz.prog=true:=by kernel_rfl
noncomputable def v_ (os:Os):World :=
 let w0:=World.doorLaid Tryz.prog 400 os
 {w0 with heap:=w0.heap.modify 0 fun
   | .cells _ t frozen=>.cells (Lib.firstTab.map fun z=>Value.int .u8 z).toArray t frozen
   | o=>o}
theorem met (os:Os) (args:Array Value):laidMetH Tryz.prog Rows.groupSafeRow.laid ((v_ os).forCall (fun _ _=>0) ⟨#[],args,[]⟩).memory :=
 laidMetH_of_parts3 (fuel:=8) (laidMet_of_run' 8 bH bH) bH bH
theorem KO {W:World} (h:laidMetH Tryz.prog Rows.groupSafeRow.laid W):Good W:=by
 rw [MakeChecks.laidMetH_plain _ _ _ bH] at h
 have e1:Rows.laid_unicode_utf8_first=Lib.firstData:=by kernel_rfl
 have e2:(Rows.laid_unicode_utf8_acceptRanges:DataW Unit)=Lib.acceptData:=by kernel_rfl
 have m1 : ("unicode/utf8.first", Rows.laid_unicode_utf8_first) ∈ Rows.groupSafeRow.laid := .tail _ (.head _)
 have m2 : ("unicode/utf8.acceptRanges", Rows.laid_unicode_utf8_acceptRanges) ∈ Rows.groupSafeRow.laid := .head _
 have r1:=Lib.laidMet.reads h m1
 have r2:=Lib.laidMet.reads h m2
 rw [e1] at r1
 rw [e2] at r2
 exact utf8Tabs_of_readsT (U8Types.of196 Gd) ⟨by kernel_rfl,by kernel_rfl,by kernel_rfl,by kernel_rfl,by kernel_rfl,by kernel_rfl,by kernel_rfl⟩ r1 r2
set_option maxRecDepth 100000 in
theorem lifted (os:Os) (started:os.Started) (H:Type) (enc:TypeId×Value->H) :
  ReturnsInHanded {} Tryz.checked os 8 .any (fun w args=>(Rows.groupSafeSpec.pre enc Tryz.prog Tryz.f8 [] false w args∧laidMetH Tryz.prog Rows.groupSafeRow.laid w)∧sizedMet enc Tryz.prog Tryz.f8 (OpenSpec.ofChange Rows.groupSafeSpec) false w args) (Rows.groupSafeSpec.post enc Tryz.prog Tryz.f8 false true false false):=by
 refine returnsInHanded_of_change_and (C:=Tryz.checked) (X:=fun w _=>laidMetH Tryz.prog Rows.groupSafeRow.laid w) (fun _ _ _ hh h=>h.of_heap hh) own started bH Tryz.func8
  (ChangeSpec.witness_shaped (enc:=enc) (C:=Tryz.checked) (os:=os) (X:=fun w _=>laidMetH Tryz.prog Rows.groupSafeRow.laid w) false (v_ os) #[.slice none 0 0] 8 rfl (World.shaped_of_RefB bH bH) bH bH bH (met os _)) ?_
 intro W base args ds gs before OX hW _ _ hL _
 have jR:Good W:=KO hL
 have jB:∀(j:Nat) t v,Tryz.f8.params[j]?=some t->args[j]?=some v->Value.okWide Tryz.prog W .any base t v:=OX
 have U7:=hW
 obtain ⟨p,q,Vq,hV,rfl,V3,g_⟩:=hW
 have hA:DataW.TrodAll enc Tryz.prog W 0 (fun _=>true) true Tryz.f8.params.toList args.toList ds p:=Vq
 have f_:=hA
 rw [Tryz.params8] at hA jB
 obtain ⟨v0,VL,d0,We,p0,q0,iq,rfl,rfl,h0,r0⟩:=trodAll_cons hA
 obtain ⟨rfl,rfl,rfl⟩:=trodAll_nil r0
 obtain rfl:args= #[v0]:=by cases args;simp_all
 obtain ⟨rfl,rfl⟩:=trodVars_none hV
 obtain ⟨x0,o0,e0⟩:=((EK Tryz.underlying33 Tryz.underlying3 bH).one bH) H enc W base v0 d0 p0 (jB 0 33 v0 rfl rfl) h0
 refine ((vq x0 o0).law W jR [v0] rfl (GH e0 (JY _ _))).mono fun e W' ⟨he,cM⟩=>?_
 subst he
 exact ⟨_,rfl,_,_,_,[],_,[],U7,trodAll_mk1 (shut_bool Tryz.underlying4 _),Below.Gg laidOut cM _ _ _ _ bH f_,rfl,cM.frame _,fun h=>by cases h⟩
theorem over:Rows.groupSafeRow.holds Tryz.pinned (OpenSpec.ofChange Rows.groupSafeSpec) :=
 OpenClaim.holds_of_wide 8 Tryz.f8 rfl rfl rfl rfl rfl rfl rfl ⟨rfl,rfl,rfl,rfl,rfl⟩ rfl rfl rfl rfl rfl bH Tryz.func8 bH
  (of_decide_eq_true bH) (by unfold Func.isWrapper;first|(rw [if_pos (by decide +kernel)];kernel_rfl)|(rw [if_neg (by decide +kernel)];exact ⟨rfl,rfl⟩))
  (fun os started H enc _=>lifted os started H enc)
theorem proved:Rows.GroupSafeCardSaid :=
 Claim7.holds_tied_plain_at .later [] [.data, .pinned] true (true, "fab67545d1c5343aea5e1f3d0de8eea608bff556b3f6889684a4119b28c12f87") false
  over (fun _ h=>by cases h) bH (fun _ h=>by cases h) groupSafe_row_tie rfl ⟨rfl,rfl⟩ bH rfl
  (fun f fn hf UQ=>by
   obtain rfl : f = 8 := Option.some.inj ((show Tryz.prog.funcNamed "passkey/passkeylaw38.GroupSafe" = some 8 by kernel_rfl).symm.trans hf) |>.symm
   obtain rfl:fn=Tryz.f8:=(Option.some.inj (Tryz.func8.symm.trans UQ)).symm
   exact ⟨by kernel_rfl,fun j t ht=>by
    rw [Tryz.params8] at ht
    have f_:(Tryz.f8.params.toList.all fun u=> !Tryz.prog.wantsStandIn u)=true:=by kernel_rfl
    have hm:t∈Tryz.f8.params.toList:=by rw [Tryz.params8];simpa using Array.mem_of_getElem? ht
    exact (show Tryz.prog.wantsStandIn t=false by simpa using List.all_eq_true.1 f_ t hm)⟩)
  bH
#print axioms proved
end Go.Proofs.YtjgbhhnghedgdaaGreatDoor.groupSafe
