/-
  Proved: for every input the law GroupPlays returns true, and each argument reads afterwards as it read before; and its card, tied to the text of the program. Condition: the tables unicode/utf8.first and acceptRanges read as they were laid (tied).
-/
import Derived.Test.YtjgbhhnghedgdaaGreatDoorCards
import Derived.Test.YtjgbhhnghedgdaaGreatDoorTie
import Derived.Test.YtjgbhhnghedgdaaGreatDoorZpGrU4
import Derived.LaidMore
import Derived.OpenShut
import Derived.ProofKit
import Derived.SevenTiedAt
import Derived.Lib.LaidU8T
import Derived.Lib.LaidIn
set_option linter.all false
namespace Go.Proofs.YtjgbhhnghedgdaaGreatDoor.groupPlays
open Go.ChangeShapes Go.WideShapes Go.ChangeAt Go.RowKit Go.Lib
theorem own:ownKnob Tryz.prog.godebug=none:=by kernel_rfl
theorem laidOut:laidOutB Tryz.prog=true:=by kernel_rfl
noncomputable def wx (os:Os):World :=
 let w0:=World.doorLaid Tryz.prog 400 os
 {w0 with heap:=w0.heap.modify 0 fun
   | .cells _ t frozen=>.cells (Lib.firstTab.map fun z=>Value.int .u8 z).toArray t frozen
   | o=>o}
theorem met (os:Os) (args:Array Value):laidMetH Tryz.prog Rows.groupPlaysRow.laid ((wx os).forCall (fun _ _=>0) ⟨#[],args,[]⟩).memory :=
 laidMetH_of_parts3 (fuel:=8) (laidMet_of_run' 8 bD bD) bD bD
theorem KU {W:World} (h:laidMetH Tryz.prog Rows.groupPlaysRow.laid W):Good W:=by
 rw [MakeChecks.laidMetH_plain _ _ _ bD] at h
 have e1:Rows.laid_unicode_utf8_first=Lib.firstData:=by kernel_rfl
 have e2:(Rows.laid_unicode_utf8_acceptRanges:DataW Unit)=Lib.acceptData:=by kernel_rfl
 have m1 : ("unicode/utf8.first", Rows.laid_unicode_utf8_first) ∈ Rows.groupPlaysRow.laid := .tail _ (.head _)
 have m2 : ("unicode/utf8.acceptRanges", Rows.laid_unicode_utf8_acceptRanges) ∈ Rows.groupPlaysRow.laid := .head _
 have r1:=Lib.laidMet.reads h m1
 have r2:=Lib.laidMet.reads h m2
 rw [e1] at r1
 rw [e2] at r2
 exact utf8Tabs_of_readsT (U8Types.of196 Gs) ⟨by kernel_rfl,by kernel_rfl,by kernel_rfl,by kernel_rfl,by kernel_rfl,by kernel_rfl,by kernel_rfl⟩ r1 r2
set_option maxRecDepth 100000 in
theorem lifted (os:Os) (started:os.Started) (H:Type) (enc:TypeId×Value->H) :
  ReturnsInHanded {} Tryz.checked os 6 .any (fun w args=>(Rows.groupPlaysSpec.pre enc Tryz.prog Tryz.f6 [] false w args∧laidMetH Tryz.prog Rows.groupPlaysRow.laid w)∧sizedMet enc Tryz.prog Tryz.f6 (OpenSpec.ofChange Rows.groupPlaysSpec) false w args) (Rows.groupPlaysSpec.post enc Tryz.prog Tryz.f6 false true false false):=by
 refine returnsInHanded_of_change_and (C:=Tryz.checked) (X:=fun w _=>laidMetH Tryz.prog Rows.groupPlaysRow.laid w) (fun _ _ _ hh h=>h.of_heap hh) own started bD Tryz.func6
  (ChangeSpec.witness_shaped (enc:=enc) (C:=Tryz.checked) (os:=os) (X:=fun w _=>laidMetH Tryz.prog Rows.groupPlaysRow.laid w) false (wx os) #[.slice none 0 0] 8 rfl (World.shaped_of_RefB bD bD) bD bD bD (met os _)) ?_
 intro W base args ds gs before OW hW _ _ hL _
 have jU:Good W:=KU hL
 have jH:∀(j:Nat) t v,Tryz.f6.params[j]?=some t->args[j]?=some v->Value.okWide Tryz.prog W .any base t v:=OW
 have UX:=hW
 obtain ⟨p,q,Vf,hV,rfl,VT,im⟩:=hW
 have hA:DataW.TrodAll enc Tryz.prog W 0 (fun _=>true) true Tryz.f6.params.toList args.toList ds p:=Vf
 have gh:=hA
 rw [Tryz.params6] at hA jH
 obtain ⟨v0,VC,d0,V5,p0,q0,iC,rfl,rfl,h0,r0⟩:=trodAll_cons hA
 obtain ⟨rfl,rfl,rfl⟩:=trodAll_nil r0
 obtain rfl:args= #[v0]:=by cases args;simp_all
 obtain ⟨rfl,rfl⟩:=trodVars_none hV
 obtain ⟨x0,o0,e0⟩:=((E0 Tryz.underlying33 Tryz.underlying3 bD).one bD) H enc W base v0 d0 p0 (jH 0 33 v0 rfl rfl) h0
 refine ((uF x0 o0).law W jU [v0] rfl (GY e0 (J5 _ _))).mono fun e W' ⟨he,cV⟩=>?_
 subst he
 exact ⟨_,rfl,_,_,_,[],_,[],UX,trodAll_mk1 (shut_bool Tryz.underlying4 _),Below.Gv laidOut cV _ _ _ _ bD gh,rfl,cV.frame _,fun h=>by cases h⟩
theorem over:Rows.groupPlaysRow.holds Tryz.pinned (OpenSpec.ofChange Rows.groupPlaysSpec) :=
 OpenClaim.holds_of_wide 6 Tryz.f6 rfl rfl rfl rfl rfl rfl rfl ⟨rfl,rfl,rfl,rfl,rfl⟩ rfl rfl rfl rfl rfl bD Tryz.func6 bD
  (of_decide_eq_true bD) (by unfold Func.isWrapper;first|(rw [if_pos (by decide +kernel)];kernel_rfl)|(rw [if_neg (by decide +kernel)];exact ⟨rfl,rfl⟩))
  (fun os started H enc _=>lifted os started H enc)
theorem proved:Rows.GroupPlaysCardSaid :=
 Claim7.holds_tied_plain_at .later [] [.data, .pinned] true (true, "fab67545d1c5343aea5e1f3d0de8eea608bff556b3f6889684a4119b28c12f87") false
  over (fun _ h=>by cases h) bD (fun _ h=>by cases h) groupPlays_row_tie rfl ⟨rfl,rfl⟩ bD rfl
  (fun f fn hf UF=>by
   obtain rfl : f = 6 := Option.some.inj ((show Tryz.prog.funcNamed "passkey/passkeylaw38.GroupPlays" = some 6 by kernel_rfl).symm.trans hf) |>.symm
   obtain rfl:fn=Tryz.f6:=(Option.some.inj (Tryz.func6.symm.trans UF)).symm
   exact ⟨by kernel_rfl,fun j t ht=>by
    rw [Tryz.params6] at ht
    have gh:(Tryz.f6.params.toList.all fun u=> !Tryz.prog.wantsStandIn u)=true:=by kernel_rfl
    have hm:t∈Tryz.f6.params.toList:=by rw [Tryz.params6];simpa using Array.mem_of_getElem? ht
    exact (show Tryz.prog.wantsStandIn t=false by simpa using List.all_eq_true.1 gh t hm)⟩)
  bD
#print axioms proved
end Go.Proofs.YtjgbhhnghedgdaaGreatDoor.groupPlays
