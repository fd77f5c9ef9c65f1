/-
  Proved: for every input the law GroupBodies returns true, and each argument reads afterwards as it read before; and its card, tied to the text of the program. Condition: the tables unicode/utf8.first and acceptRanges read as they were laid (tied).
-/
import Derived.Test.YtjgbhhnghedgdaaGreatDoorZbGrK2
import Derived.Test.YtjgbhhnghedgdaaGreatDoorZbGrE5
import Derived.Test.YtjgbhhnghedgdaaGreatDoorZbGrM1
import Derived.Test.YtjgbhhnghedgdaaGreatDoorCards
import Derived.Test.YtjgbhhnghedgdaaGreatDoorTie
import Derived.LaidMore
import Derived.OpenShut
import Derived.ProofKit
import Derived.SevenTiedAt
import Derived.Lib.LaidU8T
import Derived.Lib.LaidIn
set_option linter.all false
namespace Go.Proofs.YtjgbhhnghedgdaaGreatDoor
open Go.RowKit
set_option maxRecDepth 100000
set_option maxHeartbeats 4000000
theorem Ho:fY Tryz.prog 24 (fun a:Int×UInt64=>[ai a.1,aw a.2]) (fun a=>Eh a.1):=by
 have h:=jI (P:=Tryz.prog) (t:=24) (e:=2) Tryz.underlying24 rfl bk (fun _=>rfl)
  (bF (kI bk) rfl bk (fun _=>rfl) (bF (iz bk) rfl bk (fun _=>rfl) (ns _)))
 exact h.map (f':=fun a:Int×UInt64=>[ai a.1,aw a.2]) (fun a=>(a.1,a.2.1)) (fun _ _=>rfl) (fun _ h=>h.1)
theorem B0:fY Tryz.prog 26 (fun l:List (List UInt8)=>[.sl 1 (ae ay l)]) (fun _=>True) :=
 (kH (P:=Tryz.prog) (t:=26) (e:=1) Tryz.underlying26 bk (nr (P:=Tryz.prog) (t:=9) Tryz.underlying9)).map (f':=fun l:List (List UInt8)=>[.sl 1 (ae ay l)]) (fun l=>l) (fun _ _=>rfl) (fun _ _=>trivial)
theorem nt:fY Tryz.prog 27 (fun l:List UInt64=>[.sl 1 (ah l)]) (fun _=>True):=BX Tryz.underlying27 Tryz.underlying22 bk
theorem Ff:fY Tryz.prog 29 bg (fun _=>True):=by
 have h:=jI (P:=Tryz.prog) (t:=29) (e:=7) Tryz.underlying29 rfl bk (fun _=>rfl)
  (bF (iz bk) rfl bk (fun _=>rfl) (bF (iz bk) rfl bk (fun _=>rfl) (bF (BZ Tryz.underlying25 Tryz.underlying5 bk) rfl bk (fun _=>rfl)
  (bF B0 rfl bk (fun _=>rfl) (bF nt rfl bk (fun _=>rfl) (bF (kI bk) rfl bk (fun _=>rfl) (bF (iz bk) rfl bk (fun _=>rfl) (ns _))))))))
 exact h.map (f':=bg) (fun a=>(⟨a.1,a.2.1,a.2.2.1,a.2.2.2.1,a.2.2.2.2.1,a.2.2.2.2.2.1,a.2.2.2.2.2.2.1⟩:na)) (fun _ _=>rfl) (fun _ _=>trivial)
theorem Fe:fY Tryz.prog 68 (fun s:Int×List UInt64×List UInt64=>[ai s.1,.sl 1 (ah s.2.1),.sl 1 (ah s.2.2)]) (fun _=>True):=by
 have h:=jI (P:=Tryz.prog) (t:=68) (e:=3) Tryz.underlying68 rfl bk (fun _=>rfl)
  (bF (kI bk) rfl bk (fun _=>rfl) (bF nt rfl bk (fun _=>rfl) (bF nt rfl bk (fun _=>rfl) (ns _))))
 exact h.map (f':=fun s:Int×List UInt64×List UInt64=>[ai s.1,.sl 1 (ah s.2.1),.sl 1 (ah s.2.2)]) (fun a=>(a.1,a.2.1,a.2.2.1)) (fun _ _=>rfl) (fun _ _=>trivial)
theorem Ac:fY Tryz.prog 30 (fun l:List gl=>[.sl 4 (ae aP l)]) (fun _=>True):=by
 have h:=jI (P:=Tryz.prog) (t:=70) (e:=4) Tryz.underlying70 rfl bk (fun _=>rfl)
  (bF (nr bk) rfl bk (fun _=>rfl) (bF (e:=3) Fe rfl bk (fun _=>rfl) (ns _)))
 have h2:=h.map (f':=aP) (fun a=>(⟨a.1,a.2.1.1,a.2.1.2.1,a.2.1.2.2⟩:gl)) (fun _ _=>rfl) (ok':=fun _=>True) (fun _ _=>trivial)
 exact (kH (P:=Tryz.prog) (t:=30) (e:=4) Tryz.underlying30 bk h2).map (f':=fun l:List gl=>[.sl 4 (ae aP l)]) (fun l=>l) (fun _ _=>rfl) (fun _ _=>trivial)
theorem Hn:JD Tryz.prog 32 (fun e:eP=>.agg (a7 e)) (fun _=>True):=by
 have h:=jI (P:=Tryz.prog) (t:=32) (e:=17) Tryz.underlying32 rfl bk (fun _=>rfl)
  (bF (kI bk) rfl bk (fun _=>rfl) (bF (iz bk) rfl bk (fun _=>rfl) (bF (kI bk) rfl bk (fun _=>rfl)
  (bF (nr bk) rfl bk (fun _=>rfl) (bF (e:=2) Ho rfl bk (fun _=>rfl) (bF (kI bk) rfl bk (fun _=>rfl)
  (bF (e:=7) Ff rfl bk (fun _=>rfl) (bF (iz bk) rfl bk (fun _=>rfl) (bF (iz bk) rfl bk (fun _=>rfl) (bF Ac rfl bk (fun _=>rfl) (ns _)))))))))))
 exact (h.map (f':=a7) (fun a=>(⟨a.1,a.2.1,a.2.2.1,a.2.2.2.1,a.2.2.2.2.1.1,a.2.2.2.2.1.2,a.2.2.2.2.2.1,a.2.2.2.2.2.2.1,a.2.2.2.2.2.2.2.1,a.2.2.2.2.2.2.2.2.1,a.2.2.2.2.2.2.2.2.2.1⟩:eP)) (fun _ _=>rfl) (fun _ _=>trivial)).whole Tryz.underlying32
theorem sK (e:eP) (l:List Int) (_:∀n∈l,Eh n):bL Tryz.prog 3 [.agg (a7 e),.sl 1 (ax l)] (ao true):=by
 refine bL.len 1 rfl fun hl=>?_
 rw [ko] at hl
 have TD:=Bm
 by_cases c:rN e
 case neg =>
  have hs:=lq c
  refine zO Tryz.func3 39<|zq<|zS<|zP 1 [yH [(1,yV (ao (zm e)))]] [.aa [11,4,2,0,1] [2]] [yI (wa e)]<|dB 11 (!zm e) (by simp_all)<|zQ 1 [yH [(0,yV (ao true))]] [yI TD]<|dn (bR)
 have hs:=DQ c
 have hC:=NB
 have N1:=FI l k8 0 5 aj (Nat.zero_le _) hl ⟨hC.cw,hC.AB,Nat.zero_le _,hC.Vw⟩
 obtain ⟨hB,hk⟩:=Cy l (s:=(k8,0)) hC (Nat.zero_le _) 5
 generalize dm l (k8,0) 5=s at *
 obtain ⟨c1,k1⟩:=s
 simp only at N1 hB hk
 have N2:=vb l k1 c1.cw hk hl hB.cw
 obtain ⟨b1,b2,b3⟩:=C9 l c1.cw k1 hk hB.cw.m8
 generalize sM l c1.cw k1=E at *
 obtain ⟨E,k2⟩:=E
 simp only at N2 b1 b2 b3
 unfold y5 at N1 N2
 have h1:=pv e c.b
 have h2:=pv E b1
 have h3:=pv {e with kind:=E.kind} ⟨c.b.OW,c.b.dep⟩
 refine zO Tryz.func3 39<|zq<|zS<|zP 1 [yH [(1,yV (ao (zm e)))]] [.aa [11,4,2,0,1] [2]] [yI (wa e)]<|bn 11 (!zm e) (by simp_all)<|a_<|zP 6 [yH [(1,{av:=some (AV.box [AV.sl 1 (ax l),ai (↑(0:Nat):Int)]),b:=false})],yH [(1,{av:=some (AV.agg [ai k8.cw.aB,aw k8.cw.head,ai k8.cw.bA,AV.sl 4 (ae aF k8.cw.al),AV.sl 7 (ae bg k8.cw.aO),AV.sl 17 (ae a7 k8.log),ai (k8.nx 0),ai (k8.nx 1),ai (k8.nx 2),ai (k8.nx 3),ai (k8.nx 4),ai (k8.nx 5),ai (k8.nx 6),ai (k8.nx 7),ai (k8.nx 8),ai (k8.nx 9)]),b:=false}),(2,{av:=some (AV.agg [ai c1.cw.aB,aw c1.cw.head,ai c1.cw.bA,AV.sl 4 (ae aF c1.cw.al),AV.sl 7 (ae bg c1.cw.aO),AV.sl 17 (ae a7 c1.log),ai (c1.nx 0),ai (c1.nx 1),ai (c1.nx 2),ai (c1.nx 3),ai (c1.nx 4),ai (c1.nx 5),ai (c1.nx 6),ai (c1.nx 7),ai (c1.nx 8),ai (c1.nx 9)]),ln:=[(14,1000000000000)],ho:=[(1000000000000,Row.mk 1 false true [AV.sl 1 (ax l),ai ↑k1])]})],yH [(3,{av:=some (AV.agg (a7 E)),ln:=[(14,1000000000000)],ho:=[(1000000000000,Row.mk 1 false true [AV.sl 1 (ax l),ai ↑k2])]})],{},{},yH [(1,yV (ao true)),(4,yV (ao true)),(8,yV (ao true)),(11,yV (ao true))]] [.aa [4,8,7,6,5,11,2,0,1] [8,7,14,6,2]] ([yI (Ku l),yI Gh,yI N1,yB ([AV.sl 1 (ax l),ai (↑(0:Nat):Int)].length= [AV.sl 1 (ax l),ai ↑k1].length∧0< [AV.sl 1 (ax l),ai ↑k1].length) ⟨rfl,Nat.succ_pos _⟩,yL 16 16,yI N2,yB ([AV.sl 1 (ax l),ai ↑k1].length= [AV.sl 1 (ax l),ai ↑k2].length∧0< [AV.sl 1 (ax l),ai ↑k2].length) ⟨rfl,Nat.succ_pos _⟩,yL 17 17,yL 17 17,yL 3 17,yI h1,yR true,yR true,yI h2]++yM 3 (yR true)++ [yI h3,yR true,yR true,yI TD,yR true])<|zR (bR)
end Go.Proofs.YtjgbhhnghedgdaaGreatDoor
namespace Go.Proofs.YtjgbhhnghedgdaaGreatDoor.groupBodies
open Go.ChangeShapes Go.WideShapes Go.ChangeAt Go.RowKit Go.Lib
theorem own:ownKnob Tryz.prog.godebug=none:=by kernel_rfl
theorem laidOut:laidOutB Tryz.prog=true:=by kernel_rfl
noncomputable def wG (os:Os):World :=
 let w0:=World.doorLaid Tryz.prog 400 os
 {w0 with heap:=w0.heap.modify 0 fun
   | .cells _ t frozen=>.cells (Lib.firstTab.map fun z=>Value.int .u8 z).toArray t frozen
   | o=>o}
theorem met (os:Os) (args:Array Value):laidMetH Tryz.prog Rows.groupBodiesRow.laid ((wG os).forCall (fun _ _=>0) ⟨#[],args,[]⟩).memory :=
 laidMetH_of_parts3 (fuel:=8) (laidMet_of_run' 8 bk bk) bk bk
theorem K5 {W:World} (h:laidMetH Tryz.prog Rows.groupBodiesRow.laid W):Good W:=by
 rw [MakeChecks.laidMetH_plain _ _ _ bk] at h
 have e1:Rows.laid_unicode_utf8_first=Lib.firstData:=by kernel_rfl
 have e2:(Rows.laid_unicode_utf8_acceptRanges:DataW Unit)=Lib.acceptData:=by kernel_rfl
 have m1 : ("unicode/utf8.first", Rows.laid_unicode_utf8_first) ∈ Rows.groupBodiesRow.laid := .tail _ (.head _)
 have m2 : ("unicode/utf8.acceptRanges", Rows.laid_unicode_utf8_acceptRanges) ∈ Rows.groupBodiesRow.laid := .head _
 have r1:=Lib.laidMet.reads h m1
 have r2:=Lib.laidMet.reads h m2
 rw [e1] at r1
 rw [e2] at r2
 exact utf8Tabs_of_readsT (U8Types.of196 GM) ⟨by kernel_rfl,by kernel_rfl,by kernel_rfl,by kernel_rfl,by kernel_rfl,by kernel_rfl,by kernel_rfl⟩ r1 r2
set_option maxRecDepth 100000 in
theorem lifted (os:Os) (started:os.Started) (H:Type) (enc:TypeId×Value->H) :
  ReturnsInHanded {} Tryz.checked os 3 .any (fun w args=>(Rows.groupBodiesSpec.pre enc Tryz.prog Tryz.f3 [] false w args∧laidMetH Tryz.prog Rows.groupBodiesRow.laid w)∧sizedMet enc Tryz.prog Tryz.f3 (OpenSpec.ofChange Rows.groupBodiesSpec) false w args) (Rows.groupBodiesSpec.post enc Tryz.prog Tryz.f3 false true false false):=by
 refine returnsInHanded_of_change_and (C:=Tryz.checked) (X:=fun w _=>laidMetH Tryz.prog Rows.groupBodiesRow.laid w) (fun _ _ _ hh h=>h.of_heap hh) own started bk Tryz.func3
  (ChangeSpec.witness_shaped (enc:=enc) (C:=Tryz.checked) (os:=os) (X:=fun w _=>laidMetH Tryz.prog Rows.groupBodiesRow.laid w) false (wG os) #[.agg #[.int .i64 0,.int .u64 0,.int .i64 0,.string ⟨#[]⟩,.int .i64 0,.int .u64 0,.int .i64 0,.int .u64 0,.int .u64 0,.slice none 0 0,.slice none 0 0,.slice none 0 0,.int .i64 0,.int .u64 0,.int .u64 0,.int .u64 0,.slice none 0 0],.slice none 0 0] 8 rfl (World.shaped_of_RefB bk bk) bk bk bk (met os _)) ?_
 intro W base args ds gs before O9 hW _ _ hL _
 have j0:Good W:=K5 hL
 have jj:∀(j:Nat) t v,Tryz.f3.params[j]?=some t->args[j]?=some v->Value.okWide Tryz.prog W .any base t v:=O9
 have U5:=hW
 obtain ⟨p,q,Vn,hV,rfl,VY,im⟩:=hW
 have hA:DataW.TrodAll enc Tryz.prog W 0 (fun _=>true) true Tryz.f3.params.toList args.toList ds p:=Vn
 have gj:=hA
 rw [Tryz.params3] at hA jj
 obtain ⟨v0,VI,d0,Wa,p0,q0,iD,rfl,rfl,h0,r0⟩:=trodAll_cons hA
 obtain ⟨v1,VH,d1,V_,p1,q1,rfl,rfl,rfl,h1,r1⟩:=trodAll_cons r0
 obtain ⟨rfl,rfl,rfl⟩:=trodAll_nil r1
 obtain rfl:args= #[v0,v1]:=by cases args;simp_all
 obtain ⟨rfl,rfl⟩:=trodVars_none hV
 obtain ⟨x0,o0,e0⟩:=(Hn) H enc W base v0 d0 p0 (jj 0 32 v0 rfl rfl) h0
 obtain ⟨x1,o1,e1⟩:=((Fb Tryz.underlying33 Tryz.underlying3 bk).one bk) H enc W base v1 d1 p1 (jj 1 33 v1 rfl rfl) h1
 refine ((sK x0 x1 o1).law W j0 [v0,v1] rfl (zC e0 (zC e1 (Kf _ _)))).mono fun e W' ⟨he,cZ⟩=>?_
 subst he
 exact ⟨_,rfl,_,_,_,[],_,[],U5,trodAll_mk1 (shut_bool Tryz.underlying4 _),Below.GQ laidOut cZ _ _ _ _ bk gj,rfl,cZ.frame _,fun h=>by cases h⟩
theorem over:Rows.groupBodiesRow.holds Tryz.pinned (OpenSpec.ofChange Rows.groupBodiesSpec) :=
 OpenClaim.holds_of_wide 3 Tryz.f3 rfl rfl rfl rfl rfl rfl rfl ⟨rfl,rfl,rfl,rfl,rfl⟩ rfl rfl rfl rfl rfl bk Tryz.func3 bk
  (of_decide_eq_true bk) (by unfold Func.isWrapper;first|(rw [if_pos (by decide +kernel)];kernel_rfl)|(rw [if_neg (by decide +kernel)];exact ⟨rfl,rfl⟩))
  (fun os started H enc _=>lifted os started H enc)
theorem proved:Rows.GroupBodiesCardSaid :=
 Claim7.holds_tied_plain_at .later [] [.data, .pinned] true (true, "fab67545d1c5343aea5e1f3d0de8eea608bff556b3f6889684a4119b28c12f87") false
  over (fun _ h=>by cases h) bk (fun _ h=>by cases h) groupBodies_row_tie rfl ⟨rfl,rfl⟩ bk rfl
  (fun f fn hf UM=>by
   obtain rfl : f = 3 := Option.some.inj ((show Tryz.prog.funcNamed "passkey/passkeylaw38.GroupBodies" = some 3 by kernel_rfl).symm.trans hf) |>.symm
   obtain rfl:fn=Tryz.f3:=(Option.some.inj (Tryz.func3.symm.trans UM)).symm
   exact ⟨by kernel_rfl,fun j t ht=>by
    rw [Tryz.params3] at ht
    have gj:(Tryz.f3.params.toList.all fun u=> !Tryz.prog.wantsStandIn u)=true:=by kernel_rfl
    have hm:t∈Tryz.f3.params.toList:=by rw [Tryz.params3];simpa using Array.mem_of_getElem? ht
    exact (show Tryz.prog.wantsStandIn t=false by simpa using List.all_eq_true.1 gj t hm)⟩)
  bk
#print axioms proved
end Go.Proofs.YtjgbhhnghedgdaaGreatDoor.groupBodies
