/-
  Proved: for every input the law GroupStarts returns true, and each argument reads afterwards as it read before; and its card, tied to the text of the program. Condition: the tables unicode/utf8.first and acceptRanges read as they were laid (tied).
-/
import Derived.Test.YtjgbhhnghedgdaaGreatDoorZsGr1
import Derived.Test.YtjgbhhnghedgdaaGreatDoorProg
import Derived.Test.YtjgbhhnghedgdaaGreatDoorZsV8
import Derived.Test.YtjgbhhnghedgdaaGreatDoorZsGr6
import Derived.Test.YtjgbhhnghedgdaaGreatDoorCards
import Derived.Test.YtjgbhhnghedgdaaGreatDoorTie
import Derived.Test.YtjgbhhnghedgdaaGreatDoorZsRC
import Derived.LaidMore
import Derived.OpenShut
import Derived.ProofKit
import Derived.SevenTiedAt
import Derived.Lib.LaidU8T
import Derived.Lib.LaidIn
set_option linter.all false
namespace Go.Proofs.YtjgbhhnghedgdaaGreatDoor
open Go.RowKit
def okStr (s:List UInt8):Prop:=s.length≤9223372036854775807
def okMem (m:Mem):Prop:=okStr m.name∧i64ok m.h
theorem readC_pk:ReadC Tryz.prog 24 (fun a:Int×UInt64=>[ai a.1,aw a.2]) (fun a=>i64ok a.1):=by
 have h:=read_struct (P:=Tryz.prog) (t:=24) (e:=2) Tryz.underlying24 rfl (by kernel_rfl) (fun _=>rfl)
  (read_field (read_int (by kernel_rfl)) rfl (by kernel_rfl) (fun _=>rfl) (read_field (read_word (by kernel_rfl)) rfl (by kernel_rfl) (fun _=>rfl) (read_end _)))
 exact h.map (f':=fun a:Int×UInt64=>[ai a.1,aw a.2]) (fun a=>(a.1,a.2.1)) (fun _ _=>rfl) (fun _ h=>h.1)
theorem read_mem:ReadT Tryz.prog 51 (fun m:Mem=>.agg [as_ m.name,ai m.h,aw m.r,aw m.used]) okMem:=by
 have h:=read_struct (P:=Tryz.prog) (t:=51) (e:=4) Tryz.underlying51 rfl (by kernel_rfl) (fun _=>rfl)
  (read_field (read_string (by kernel_rfl)) rfl (by kernel_rfl) (fun _=>rfl) (read_field (e:=2) readC_pk rfl (by kernel_rfl) (fun _=>rfl) (read_field (read_word (by kernel_rfl)) rfl (by kernel_rfl) (fun _=>rfl) (read_end _))))
 exact (h.map (f':=memC) (fun a=>(⟨a.1,a.2.1.1,a.2.1.2,a.2.2.1⟩:Mem)) (fun _ _=>rfl) (fun _ h=>⟨h.1,h.2.1⟩)).whole Tryz.underlying51
end Go.Proofs.YtjgbhhnghedgdaaGreatDoor
namespace Go.Proofs.YtjgbhhnghedgdaaGreatDoor
open Go.RowKit
set_option maxRecDepth 100000
set_option maxHeartbeats 4000000
set_option linter.unusedVariables false
theorem groupStarts_law (m:Mem) (n:Int) (name:List UInt8) (hm:okMem m) (hn:i64ok n) (hl:okStr name):Ret Tryz.prog 4 [.agg [as_ m.name,ai m.h,aw m.r,aw m.used],ai n,as_ name] (ao true):=by
 have haw:=awake38_ret
 by_cases c1:200<m.name.length
 ·refine zO Tryz.func4 65 ?_
  refine zQ 1 [{}] [] ?_
  refine zS ?_
  refine zP 1 [yH [(2,yV (ai (↑m.name.length:Int)))]] [.keep [23,6,3,0,1,2] [3]] [yR (ai (↑m.name.length:Int)),yT ((↑m.name.length:Int)>200),yT ((↑m.name.length:Int)>200),yT ((↑m.name.length:Int)>200),yT ((↑m.name.length:Int)>200)] ?_
  refine zT 23 ?_
  refine zQ 1 [yH [(0,yV (ao true))]] [yB (Ret Tryz.prog (12:Nat) [] (ao true)) (haw)] ?_
  refine zR ?_
  refine then_r ?_
  refine zV [yR (Value.bool true)]
 by_cases c2:200<name.length
 ·refine zO Tryz.func4 65 ?_
  refine zQ 1 [{}] [] ?_
  refine zS ?_
  refine zP 1 [yH [(2,yV (ai (↑m.name.length:Int))),(5,{g:=false}),(6,{av:=some (ai (↑name.length:Int)),g:=false}),(7,{g:=false}),(8,{b:=false})]] [.keep [23,6,3,0,1,2] [3]] [yR (ai (↑m.name.length:Int)),yF ((↑m.name.length:Int)>200),yF ((↑m.name.length:Int)>200),yR (ai (↑name.length:Int)),yF ((↑m.name.length:Int)>200),yF ((↑m.name.length:Int)>200)] ?_
  refine zTd 23 ((↑name.length:Int)>200) ?_
  refine zQ 1 [yH [(0,yV (ao true))]] [yB (Ret Tryz.prog (12:Nat) [] (ao true)) (haw)] ?_
  refine zR ?_
  refine then_r ?_
  refine zV [yR (Value.bool true)]
 obtain ⟨k,hk⟩:∃k,k=modI n 10:=⟨_,rfl⟩
 have hmb:=member_ret n
 rw [←hk] at hmb
 obtain ⟨L,hL⟩:∃L:List Mem,L= [m,⟨(mbr k).name,(mbr k).h,(mbr k).r,u64 (msk n 1:Nat)⟩,⟨name,(mbr k).h,(mbr k).r,(mbr k).used⟩]:=⟨_,rfl⟩
 have hL3:L.length=3:=by rw [hL];rfl
 have hLn:∀z∈L,z.name.length≤1000:=by
  intro z hz
  rw [hL] at hz
  simp only [List.mem_cons,List.not_mem_nil,or_false] at hz
  rcases hz with rfl|rfl|rfl
  ·omega
  ·exact Nat.le_of_ble_eq_true rfl
  ·show name.length≤_;omega
 refine zO Tryz.func4 65 ?_
 refine zQ 1 [{}] [] ?_
 refine zS ?_
 refine zP 1 [yH [(2,yV (ai (↑m.name.length:Int))),(5,{g:=false}),(6,{av:=some (ai (↑name.length:Int)),g:=false}),(7,{g:=false}),(8,{b:=false})]] [.keep [23,6,3,0,1,2] [3]] [yR (ai (↑m.name.length:Int)),yF ((↑m.name.length:Int)>200),yF ((↑m.name.length:Int)>200),yR (ai (↑name.length:Int)),yF ((↑m.name.length:Int)>200),yF ((↑m.name.length:Int)>200)] ?_
 refine zFd 23 ((↑name.length:Int)>200) ?_
 refine zK ?_
 refine then_n ?_
 refine zP 4 [yH [(1,yV (AV.agg [AV.val (Value.string (ByteArray.mk (mbr k).name.toArray)),ai ((mbr k).h),aw ((mbr k).r),aw ((mbr k).used)]))],yH [(1,yV (ai (↑(msk n (1:Nat)):Int))),(2,yV (aw (u64 (↑(msk n (1:Nat)):Int))))],yH [(1,yV (AV.agg [AV.val (Value.string (ByteArray.mk (mbr k).name.toArray)),ai ((mbr k).h),aw ((mbr k).r),aw ((mbr k).used)]))],{}] [.keep [8,7,23,6,3,0,1,2] [8,7,3]] [yB (Ret Tryz.prog (18:Nat) [ai n] (AV.agg [AV.val (Value.string (ByteArray.mk (mbr k).name.toArray)),ai ((mbr k).h),aw ((mbr k).r),aw ((mbr k).used)])) (hmb),yL 4 4,yB (ai (IntKind.i64.wrap (↑(BitVec.ofInt IntKind.i64.bits n&&&BitVec.ofInt IntKind.i64.bits (1:Int)).toNat:Int))=ai (↑(msk n (1:Nat)):Int)) (avi_msk (n) 1 (by omega)),yI (avw_conv (↑(msk n (1:Nat)):Int)),yL 4 4,yB (Ret Tryz.prog (18:Nat) [ai n] (AV.agg [AV.val (Value.string (ByteArray.mk (mbr k).name.toArray)),ai ((mbr k).h),aw ((mbr k).r),aw ((mbr k).used)])) (hmb),yL 4 4,yL 1 4] ?_
 refine zS ?_
 refine zP 1 [yH [(4,{k:=3})]] [.keep [40,39,38,8,7,23,6,3,0,1,2] [38,8,7,3]] [yR ((3:Nat)*(4:Nat))] ?_
 refine zB 0 ?_
 refine zL (fun (i:Nat)=>(⟨[(39,ai (↑(3:Nat):Int)),(38,AV.ref 38),(8,AV.addr 8 0),(7,AV.addr 7 0),(23,ao (decide ((↑name.length:Int)>200))),(3,AV.addr 3 0),(0,AV.agg [AV.val (Value.string (ByteArray.mk m.name.toArray)),ai m.h,aw m.r,aw m.used]),(1,ai n),(2,AV.val (Value.string (ByteArray.mk name.toArray))),(40,ai i)],[(8,⟨1,false,true,[AV.val (Value.string (ByteArray.mk name.toArray)),ai ((mbr k).h),aw ((mbr k).r),aw ((mbr k).used)]⟩),(7,⟨1,false,true,[AV.val (Value.string (ByteArray.mk (mbr k).name.toArray)),ai ((mbr k).h),aw ((mbr k).r),aw (u64 (↑(msk n (1:Nat)):Int))]⟩),(3,⟨1,false,true,[AV.val (Value.string (ByteArray.mk m.name.toArray)),ai m.h,aw m.r,aw m.used]⟩),(38,⟨4,true,true,encA memC L⟩)]⟩:AS)) (fun i=>(i≤3)) (fun i=>(3-i)) (0) ?_ (Weaks.of [.keep [39,38,8,7,23,3,0,1,2,40] [8,7,3,38]] (s1:=AS.mk [(39,ai (↑(3:Nat):Int)),(38,AV.ref 38),(8,AV.addr 8 0),(7,AV.addr 7 0),(23,ao (decide ((↑name.length:Int)>200))),(3,AV.addr 3 0),(0,AV.agg [AV.val (Value.string (ByteArray.mk m.name.toArray)),ai m.h,aw m.r,aw m.used]),(1,ai n),(2,AV.val (Value.string (ByteArray.mk name.toArray))),(40,ai 0)] [(8,Row.mk 1 false true [AV.val (Value.string (ByteArray.mk name.toArray)),ai ((mbr k).h),aw ((mbr k).r),aw ((mbr k).used)]),(7,Row.mk 1 false true [AV.val (Value.string (ByteArray.mk (mbr k).name.toArray)),ai ((mbr k).h),aw ((mbr k).r),aw (u64 (↑(msk n (1:Nat)):Int))]),(3,Row.mk 1 false true [AV.val (Value.string (ByteArray.mk m.name.toArray)),ai m.h,aw m.r,aw m.used]),(38,Row.mk 4 true true [AV.val (Value.string (ByteArray.mk m.name.toArray)),ai m.h,aw m.r,aw m.used,AV.val (Value.string (ByteArray.mk (mbr k).name.toArray)),ai ((mbr k).h),aw ((mbr k).r),aw (u64 (↑(msk n (1:Nat)):Int)),AV.val (Value.string (ByteArray.mk name.toArray)),ai ((mbr k).h),aw ((mbr k).r),aw ((mbr k).used)])]) (by kernel_rfl) (as_eq (f_cons rfl (f_cons rfl (f_cons rfl (f_cons rfl (f_cons rfl (f_cons rfl (f_cons rfl (f_cons rfl (f_cons rfl (f_cons rfl rfl)))))))))) (h_cons rfl (h_cons rfl (h_cons rfl (h_cons (by rw [hL];rfl) rfl)))))) ?_
 ·omega
 intro i hi
 refine zQ 1 [{}] [] ?_
 refine zS ?_
 refine zD 41 ((↑i:Int)<(↑(3:Nat):Int)) (fun h=>?_) (fun h=>?_)
 ·have hi2:i<L.length:=by omega
  have hat:=mems_at hi2
  have hz:=hLn (L.getD i default) (by rw [List.getD_eq_getElem?_getD,List.getElem?_eq_getElem hi2];exact List.getElem_mem hi2)
  have h1:(newG (L.getD i default)).mems.length≤1000000:=by unfold newG;split<;>simp
  have h2:(newG (L.getD i default)).deps= []:=by unfold newG;split<;>rfl
  have hs:=samegrp_ret (newG (L.getD i default)) h1 (by rw [h2];exact Nat.zero_le _) (by rw [h2];simp)
  refine zK ?_
  refine then_n ?_
  refine zS ?_
  refine zB 1 ?_
  refine zP 4 [yH [(0,{k:=i}),(1,yV (AV.agg [AV.val (Value.string (ByteArray.mk (L.getD i default).name.toArray)),ai ((L.getD i default).h),aw ((L.getD i default).r),aw ((L.getD i default).used)]))],yH [(1,{av:=some (AV.tup [AV.agg [ai ((newG (L.getD i default)).epoch),aw ((newG (L.getD i default)).head),ai ((newG (L.getD i default)).thr),AV.own 4 (encA memC (newG (L.getD i default)).mems),AV.own 7 (encA depC (newG (L.getD i default)).deps)],ai (newE (L.getD i default))]),b:=false})],yH [(1,{av:=some (AV.tup [AV.agg [ai ((newG (L.getD i default)).epoch),aw ((newG (L.getD i default)).head),ai ((newG (L.getD i default)).thr),AV.sl 4 (encA memC (newG (L.getD i default)).mems),AV.own 7 (encA depC (newG (L.getD i default)).deps)],ai (newE (L.getD i default))]),b:=false})],yH [(4,{g:=false}),(5,{g:=false}),(6,{av:=some (ao true),g:=false}),(7,{g:=false}),(8,{b:=false})]] [.keep [62,14,13,12,11,10,41,39,38,8,7,23,3,0,1,2,40] [13,501051,11,501046,401046,10,8,7,3,38]] [yR (↑i:Int),yB (i*(4:Nat)<(encA memC L).length) (by simp only [encA_len (f:=memC) (e:=4) (fun _=>rfl)];omega),yB (List.take 4 (List.drop (i*(4:Nat)) (encA memC L))= [AV.val (Value.string (ByteArray.mk (L.getD i default).name.toArray)),ai ((L.getD i default).h),aw ((L.getD i default).r),aw ((L.getD i default).used)]) (encA_sub (f:=memC) (e:=4) (k:=i) (j:=0) (fun _=>rfl) (by omega) (by decide) rfl),yR (4:Nat),yL 4 4,yI (gnew_ret (L.getD i default) (by assumption)),yL 5 5,yI (refnew_ret (L.getD i default) (by assumption)),yL 5 5,yB ((newE (L.getD i default) != newE (L.getD i default))=false) (by simp_all),yB ((newE (L.getD i default) != newE (L.getD i default))=false) (by simp_all),yB ((newE (L.getD i default) != newE (L.getD i default))=false) (by simp_all),yB (Ret Tryz.prog (21:Nat) [AV.agg [ai ((newG (L.getD i default)).epoch),aw ((newG (L.getD i default)).head),ai ((newG (L.getD i default)).thr),AV.sl 4 (encA memC (newG (L.getD i default)).mems),AV.sl 7 (encA depC (newG (L.getD i default)).deps)],AV.agg [ai ((newG (L.getD i default)).epoch),aw ((newG (L.getD i default)).head),ai ((newG (L.getD i default)).thr),AV.sl 4 (encA memC (newG (L.getD i default)).mems),AV.sl 7 (encA depC (newG (L.getD i default)).deps)]] (ao true)) (hs),yB ((newE (L.getD i default) != newE (L.getD i default))=false) (by simp_all),yB ((newE (L.getD i default) != newE (L.getD i default))=false) (by simp_all)] ?_
  refine zFb 62 (!true) rfl ?_
  refine zK ?_
  refine inb_n ?_
  refine then_n ?_
  refine zX (yH [(0,yV (ai ((↑i:Int)+1)))]) [yN ((↑i:Int)+1)] ?_
  refine round_n (i+1) (by omega) (by omega) (zW [.keep [39,38,8,7,23,3,0,1,2,40] [8,7,3,38]])
 ·skip
  refine zE 0 ?_
  refine then_e ?_
  refine round_e ?_
  refine inb_e ?_
  refine then_n ?_
  refine zQ 1 [yH [(0,yV (ao true))]] [yB (Ret Tryz.prog (12:Nat) [] (ao true)) (haw)] ?_
  refine zR ?_
  refine zV [yR (Value.bool true)]
end Go.Proofs.YtjgbhhnghedgdaaGreatDoor
namespace Go.Proofs.YtjgbhhnghedgdaaGreatDoor.groupStarts
open Go.ChangeShapes Go.WideShapes Go.ChangeAt Go.RowKit Go.Lib
set_option linter.unusedVariables false
theorem own:ownKnob Tryz.prog.godebug=none:=by kernel_rfl
theorem laidOut:laidOutB Tryz.prog=true:=by kernel_rfl
noncomputable def laidWorld (os:Os):World :=
 let w0:=World.doorLaid Tryz.prog 400 os
 {w0 with heap:=w0.heap.modify 0 fun
   | .cells _ t frozen=>.cells (Lib.firstTab.map fun z=>Value.int .u8 z).toArray t frozen
   | o=>o}
theorem met (os:Os) (args:Array Value):laidMetH Tryz.prog Rows.groupStartsRow.laid ((laidWorld os).forCall (fun _ _=>0) ⟨#[],args,[]⟩).memory :=
 laidMetH_of_parts3 (fuel:=8) (laidMet_of_run' 8 (by kernel_rfl) (by kernel_rfl)) (by kernel_rfl) (by kernel_rfl)
theorem good_of {W:World} (h:laidMetH Tryz.prog Rows.groupStartsRow.laid W):Good W:=by
 rw [MakeChecks.laidMetH_plain _ _ _ (by kernel_rfl)] at h
 have e1:Rows.laid_unicode_utf8_first=Lib.firstData:=by kernel_rfl
 have e2:(Rows.laid_unicode_utf8_acceptRanges:DataW Unit)=Lib.acceptData:=by kernel_rfl
 have m1 : ("unicode/utf8.first", Rows.laid_unicode_utf8_first) ∈ Rows.groupStartsRow.laid := .tail _ (.head _)
 have m2 : ("unicode/utf8.acceptRanges", Rows.laid_unicode_utf8_acceptRanges) ∈ Rows.groupStartsRow.laid := .head _
 have r1:=Lib.laidMet.reads h m1
 have r2:=Lib.laidMet.reads h m2
 rw [e1] at r1
 rw [e2] at r2
 exact utf8Tabs_of_readsT (U8Types.of196 v8lays) ⟨by kernel_rfl,by kernel_rfl,by kernel_rfl,by kernel_rfl,by kernel_rfl,by kernel_rfl,by kernel_rfl⟩ r1 r2
set_option maxRecDepth 100000 in
theorem lifted (os:Os) (started:os.Started) (H:Type) (enc:TypeId×Value->H) :
  ReturnsInHanded {} Tryz.checked os 4 .any (fun w args=>(Rows.groupStartsSpec.pre enc Tryz.prog Tryz.f4 [] false w args∧laidMetH Tryz.prog Rows.groupStartsRow.laid w)∧sizedMet enc Tryz.prog Tryz.f4 (OpenSpec.ofChange Rows.groupStartsSpec) false w args) (Rows.groupStartsSpec.post enc Tryz.prog Tryz.f4 false true false false):=by
 refine returnsInHanded_of_change_and (C:=Tryz.checked) (X:=fun w _=>laidMetH Tryz.prog Rows.groupStartsRow.laid w) (fun _ _ _ hh h=>h.of_heap hh) own started (by kernel_rfl) Tryz.func4
  (ChangeSpec.witness_shaped (enc:=enc) (C:=Tryz.checked) (os:=os) (X:=fun w _=>laidMetH Tryz.prog Rows.groupStartsRow.laid w) false (laidWorld os) #[.agg #[.string ⟨#[]⟩,.int .i64 0,.int .u64 0,.int .u64 0],.int .i64 0,.string ⟨#[]⟩] 8 rfl (World.shaped_of_RefB (by kernel_rfl) (by kernel_rfl)) (by kernel_rfl) (by kernel_rfl) (by kernel_rfl) (met os _)) ?_
 intro W base args ds gs before hval0 hW _ _ hL _
 have hgood:Good W:=good_of hL
 have hval:∀(j:Nat) t v,Tryz.f4.params[j]?=some t->args[j]?=some v->Value.okWide Tryz.prog W .any base t v:=hval0
 have hW':=hW
 obtain ⟨p,q,hA0,hV,rfl,hfz,hnd⟩:=hW
 have hA:DataW.TrodAll enc Tryz.prog W 0 (fun _=>true) true Tryz.f4.params.toList args.toList ds p:=hA0
 have hall:=hA
 rw [Tryz.params4] at hA hval
 obtain ⟨v0,vs0,d0,ds0,p0,q0,hargs,rfl,rfl,h0,r0⟩:=trodAll_cons hA
 obtain ⟨v1,vs1,d1,ds1,p1,q1,rfl,rfl,rfl,h1,r1⟩:=trodAll_cons r0
 obtain ⟨v2,vs2,d2,ds2,p2,q2,rfl,rfl,rfl,h2,r2⟩:=trodAll_cons r1
 obtain ⟨rfl,rfl,rfl⟩:=trodAll_nil r2
 obtain rfl:args= #[v0,v1,v2]:=by cases args;simp_all
 obtain ⟨rfl,rfl⟩:=trodVars_none hV
 obtain ⟨x0,o0,e0⟩:=(read_mem) H enc W base v0 d0 p0 (hval 0 51 v0 rfl rfl) h0
 obtain ⟨x1,o1,e1⟩:=((read_int Tryz.underlying3).one (by kernel_rfl)) H enc W base v1 d1 p1 (hval 1 3 v1 rfl rfl) h1
 obtain ⟨x2,o2,e2⟩:=((read_string Tryz.underlying9).one (by kernel_rfl)) H enc W base v2 d2 p2 (hval 2 9 v2 rfl rfl) h2
 refine ((groupStarts_law x0 x1 x2 o0 o1 o2).law W hgood [v0,v1,v2] rfl (rep_cons e0 (rep_cons e1 (rep_cons e2 (rep_nil _ _))))).mono fun e W' ⟨he,bel⟩=>?_
 subst he
 exact ⟨_,rfl,_,_,_,[],_,[],hW',trodAll_mk1 (shut_bool Tryz.underlying4 _),Below.trodAll_ laidOut bel _ _ _ _ (by kernel_rfl) hall,rfl,bel.frame _,fun h=>by cases h⟩
theorem over:Rows.groupStartsRow.holds Tryz.pinned (OpenSpec.ofChange Rows.groupStartsSpec) :=
 OpenClaim.holds_of_wide 4 Tryz.f4 rfl rfl rfl rfl rfl rfl rfl ⟨rfl,rfl,rfl,rfl,rfl⟩ rfl rfl rfl rfl rfl (by kernel_rfl) Tryz.func4 (by kernel_rfl)
  (of_decide_eq_true (by kernel_rfl)) (by unfold Func.isWrapper;first|(rw [if_pos (by decide +kernel)];kernel_rfl)|(rw [if_neg (by decide +kernel)];exact ⟨rfl,rfl⟩))
  (fun os started H enc _=>lifted os started H enc)
theorem proved:Rows.GroupStartsCardSaid :=
 Claim7.holds_tied_plain_at .later [] [.data, .pinned] true (true, "fab67545d1c5343aea5e1f3d0de8eea608bff556b3f6889684a4119b28c12f87") false
  over (fun _ h=>by cases h) (by kernel_rfl) (fun _ h=>by cases h) groupStarts_row_tie rfl ⟨rfl,rfl⟩ (by kernel_rfl) rfl
  (fun f fn hf hfn=>by
   obtain rfl : f = 4 := Option.some.inj ((show Tryz.prog.funcNamed "passkey/passkeylaw38.GroupStarts" = some 4 by kernel_rfl).symm.trans hf) |>.symm
   obtain rfl:fn=Tryz.f4:=(Option.some.inj (Tryz.func4.symm.trans hfn)).symm
   exact ⟨by kernel_rfl,fun j t ht=>by
    rw [Tryz.params4] at ht
    have hall:(Tryz.f4.params.toList.all fun u=> !Tryz.prog.wantsStandIn u)=true:=by kernel_rfl
    have hm:t∈Tryz.f4.params.toList:=by rw [Tryz.params4];simpa using Array.mem_of_getElem? ht
    exact (show Tryz.prog.wantsStandIn t=false by simpa using List.all_eq_true.1 hall t hm)⟩)
  (by kernel_rfl)
#print axioms proved
end Go.Proofs.YtjgbhhnghedgdaaGreatDoor.groupStarts
