/-
  Proved: for every input the law RecoveryReturns returns true, and each argument reads afterwards as it read before; and its card, tied to the text of the program. Condition: the tables unicode/utf8.first and acceptRanges read as they were laid (tied).
-/
import Derived.Test.YtejpabdmiagnnaaDoorCards
import Derived.Test.YtejpabdmiagnnaaDoorTie
import Derived.Test.YtejpabdmiagnnaaDoorZcRC
import Derived.Test.YtejpabdmiagnnaaDoorZcV8
import Derived.Test.YtejpabdmiagnnaaDoorZcRec8
import Derived.LaidMore
import Derived.OpenShut
import Derived.ProofKit
import Derived.SevenTiedAt
import Derived.Lib.LaidU8T
import Derived.Lib.LaidIn
set_option linter.all false
namespace Go.Proofs.YtejpabdmiagnnaaDoor.recoveryReturns
open Go.ChangeShapes Go.WideShapes Go.ChangeAt Go.RowKit Go.Lib
set_option linter.unusedVariables false
theorem own:ownKnob Tryd.prog.godebug=none:=by kernel_rfl
theorem laidOut:laidOutB Tryd.prog=true:=by kernel_rfl
noncomputable def laidWorld (os:Os):World :=
 let w0:=World.doorLaid Tryd.prog 400 os
 {w0 with heap:=w0.heap.modify 0 fun
   | .cells _ t frozen=>.cells (Lib.firstTab.map fun z=>Value.int .u8 z).toArray t frozen
   | o=>o}
theorem met (os:Os) (args:Array Value):laidMetH Tryd.prog Rows.recoveryReturnsRow.laid ((laidWorld os).forCall (fun _ _=>0) ⟨#[],args,[]⟩).memory :=
 laidMetH_of_parts3 (fuel:=8) (laidMet_of_run' 8 (by kernel_rfl) (by kernel_rfl)) (by kernel_rfl) (by kernel_rfl)
theorem good_of {W:World} (h:laidMetH Tryd.prog Rows.recoveryReturnsRow.laid W):Good W:=by
 rw [MakeChecks.laidMetH_plain _ _ _ (by kernel_rfl)] at h
 have e1:Rows.laid_unicode_utf8_first=Lib.firstData:=by kernel_rfl
 have e2:(Rows.laid_unicode_utf8_acceptRanges:DataW Unit)=Lib.acceptData:=by kernel_rfl
 have m1 : ("unicode/utf8.first", Rows.laid_unicode_utf8_first) ∈ Rows.recoveryReturnsRow.laid := .tail _ (.head _)
 have m2 : ("unicode/utf8.acceptRanges", Rows.laid_unicode_utf8_acceptRanges) ∈ Rows.recoveryReturnsRow.laid := .head _
 have r1:=Lib.laidMet.reads h m1
 have r2:=Lib.laidMet.reads h m2
 rw [e1] at r1
 rw [e2] at r2
 exact utf8Tabs_of_readsT (U8Types.of196 v8lays) ⟨by kernel_rfl,by kernel_rfl,by kernel_rfl,by kernel_rfl,by kernel_rfl,by kernel_rfl,by kernel_rfl⟩ r1 r2
set_option maxRecDepth 100000 in
theorem lifted (os:Os) (started:os.Started) (H:Type) (enc:TypeId×Value->H) :
  ReturnsInHanded {} Tryd.checked os 4 .any (fun w args=>(Rows.recoveryReturnsSpec.pre enc Tryd.prog Tryd.f4 [] false w args∧laidMetH Tryd.prog Rows.recoveryReturnsRow.laid w)∧sizedMet enc Tryd.prog Tryd.f4 (OpenSpec.ofChange Rows.recoveryReturnsSpec) false w args) (Rows.recoveryReturnsSpec.post enc Tryd.prog Tryd.f4 false true false false):=by
 refine returnsInHanded_of_change_and (C:=Tryd.checked) (X:=fun w _=>laidMetH Tryd.prog Rows.recoveryReturnsRow.laid w) (fun _ _ _ hh h=>h.of_heap hh) own started (by kernel_rfl) Tryd.func4
  (ChangeSpec.witness_shaped (enc:=enc) (C:=Tryd.checked) (os:=os) (X:=fun w _=>laidMetH Tryd.prog Rows.recoveryReturnsRow.laid w) false (laidWorld os) #[.int .u8 0,.int .u8 0,.int .u8 0,.slice none 0 0,.slice none 0 0,.int .u64 0] 8 rfl (World.shaped_of_RefB (by kernel_rfl) (by kernel_rfl)) (by kernel_rfl) (by kernel_rfl) (by kernel_rfl) (met os _)) ?_
 intro W base args ds gs before hval0 hW _ _ hL _
 have hgood:Good W:=good_of hL
 have hval:∀(j:Nat) t v,Tryd.f4.params[j]?=some t->args[j]?=some v->Value.okWide Tryd.prog W .any base t v:=hval0
 have hW':=hW
 obtain ⟨p,q,hA0,hV,rfl,hfz,hnd⟩:=hW
 have hA:DataW.TrodAll enc Tryd.prog W 0 (fun _=>true) true Tryd.f4.params.toList args.toList ds p:=hA0
 have hall:=hA
 rw [Tryd.params4] at hA hval
 obtain ⟨v0,vs0,d0,ds0,p0,q0,hargs,rfl,rfl,h0,r0⟩:=trodAll_cons hA
 obtain ⟨v1,vs1,d1,ds1,p1,q1,rfl,rfl,rfl,h1,r1⟩:=trodAll_cons r0
 obtain ⟨v2,vs2,d2,ds2,p2,q2,rfl,rfl,rfl,h2,r2⟩:=trodAll_cons r1
 obtain ⟨v3,vs3,d3,ds3,p3,q3,rfl,rfl,rfl,h3,r3⟩:=trodAll_cons r2
 obtain ⟨v4,vs4,d4,ds4,p4,q4,rfl,rfl,rfl,h4,r4⟩:=trodAll_cons r3
 obtain ⟨v5,vs5,d5,ds5,p5,q5,rfl,rfl,rfl,h5,r5⟩:=trodAll_cons r4
 obtain ⟨rfl,rfl,rfl⟩:=trodAll_nil r5
 obtain rfl:args= #[v0,v1,v2,v3,v4,v5]:=by cases args;simp_all
 obtain ⟨rfl,rfl⟩:=trodVars_none hV
 obtain ⟨x0,o0,e0⟩:=((read_byte Tryd.underlying5).one (by kernel_rfl)) H enc W base v0 d0 p0 (hval 0 5 v0 rfl rfl) h0
 obtain ⟨x1,o1,e1⟩:=((read_byte Tryd.underlying5).one (by kernel_rfl)) H enc W base v1 d1 p1 (hval 1 5 v1 rfl rfl) h1
 obtain ⟨x2,o2,e2⟩:=((read_byte Tryd.underlying5).one (by kernel_rfl)) H enc W base v2 d2 p2 (hval 2 5 v2 rfl rfl) h2
 obtain ⟨x3,o3,e3⟩:=((read_bytes Tryd.underlying30 Tryd.underlying5 (by kernel_rfl)).one (by kernel_rfl)) H enc W base v3 d3 p3 (hval 3 30 v3 rfl rfl) h3
 obtain ⟨x4,o4,e4⟩:=((read_bytes Tryd.underlying30 Tryd.underlying5 (by kernel_rfl)).one (by kernel_rfl)) H enc W base v4 d4 p4 (hval 4 30 v4 rfl rfl) h4
 obtain ⟨x5,o5,e5⟩:=((read_word Tryd.underlying22).one (by kernel_rfl)) H enc W base v5 d5 p5 (hval 5 22 v5 rfl rfl) h5
 refine ((recoveryReturns_law x0 x1 x2 x3 x4 x5).law W hgood [v0,v1,v2,v3,v4,v5] rfl (rep_cons e0 (rep_cons e1 (rep_cons e2 (rep_cons e3 (rep_cons e4 (rep_cons e5 (rep_nil _ _)))))))).mono fun e W' ⟨he,bel⟩=>?_
 subst he
 exact ⟨_,rfl,_,_,_,[],_,[],hW',trodAll_mk1 (shut_bool Tryd.underlying4 _),Below.trodAll_ laidOut bel _ _ _ _ (by kernel_rfl) hall,rfl,bel.frame _,fun h=>by cases h⟩
theorem over:Rows.recoveryReturnsRow.holds Tryd.pinned (OpenSpec.ofChange Rows.recoveryReturnsSpec) :=
 OpenClaim.holds_of_wide 4 Tryd.f4 rfl rfl rfl rfl rfl rfl rfl ⟨rfl,rfl,rfl,rfl,rfl⟩ rfl rfl rfl rfl rfl (by kernel_rfl) Tryd.func4 (by kernel_rfl)
  (of_decide_eq_true (by kernel_rfl)) (by unfold Func.isWrapper;first|(rw [if_pos (by decide +kernel)];kernel_rfl)|(rw [if_neg (by decide +kernel)];exact ⟨rfl,rfl⟩))
  (fun os started H enc _=>lifted os started H enc)
theorem proved:Rows.RecoveryReturnsCardSaid :=
 Claim7.holds_tied_plain_at .later [] [.data, .pinned] true (true, "8e4d47c34cde0db918153680695d7e23bab8418001794300e7d4381e31a393f1") false
  over (fun _ h=>by cases h) (by kernel_rfl) (fun _ h=>by cases h) recoveryReturns_row_tie rfl ⟨rfl,rfl⟩ (by kernel_rfl) rfl
  (fun f fn hf hfn=>by
   obtain rfl : f = 4 := Option.some.inj ((show Tryd.prog.funcNamed "passkey/passkeylaw39.RecoveryReturns" = some 4 by kernel_rfl).symm.trans hf) |>.symm
   obtain rfl:fn=Tryd.f4:=(Option.some.inj (Tryd.func4.symm.trans hfn)).symm
   exact ⟨by kernel_rfl,fun j t ht=>by
    rw [Tryd.params4] at ht
    have hall:(Tryd.f4.params.toList.all fun u=> !Tryd.prog.wantsStandIn u)=true:=by kernel_rfl
    have hm:t∈Tryd.f4.params.toList:=by rw [Tryd.params4];simpa using Array.mem_of_getElem? ht
    exact (show Tryd.prog.wantsStandIn t=false by simpa using List.all_eq_true.1 hall t hm)⟩)
  (by kernel_rfl)
#print axioms proved
end Go.Proofs.YtejpabdmiagnnaaDoor.recoveryReturns
