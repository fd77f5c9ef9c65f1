/-
  Proved: for every input the law GroupAny returns true, and each argument reads afterwards as it read before; and its card, tied to the text of the program. Condition: the tables unicode/utf8.first and acceptRanges read as they were laid (tied).
-/
import Derived.Test.YtjgbhhnghedgdaaGreatDoorZaGrK2
import Derived.Test.YtjgbhhnghedgdaaGreatDoorZaGrE5
import Derived.Test.YtjgbhhnghedgdaaGreatDoorZaGrM1
import Derived.Test.YtjgbhhnghedgdaaGreatDoorCards
import Derived.Test.YtjgbhhnghedgdaaGreatDoorTie
import Derived.LaidMore
import Derived.OpenShut
import Derived.ProofKit
import Derived.SevenTiedAt
import Derived.Lib.LaidU8T
import Derived.Lib.LaidIn
set_option linter.all false
namespace Go.Proofs.YtjgbhhnghedgdaaGreatDoor
open Go.RowKit
set_option maxRecDepth 100000
set_option maxHeartbeats 4000000
instance:Inhabited eF:=⟨⟨0,0,0,[],0,0,0,⟨0,0,[],[],[],0,0⟩,0,0,[]⟩⟩
theorem Lo {l:List eF} {i:Nat} (h:i<l.length):List.take 17 (List.drop (i*17) (af aT l))=aT (l.getD i default):=jn (e:=17) (fun _=>rfl) h
theorem LI {g:gK} (e:eF) (hG:nT g):nT (iq g e):=by
 by_cases c:fI g e=0
 ·exact JL hG c
 ·rw [ti c];exact hG
theorem He (g:gK) (hG:nT g) (hH:DH g):bK Tryz.prog 21 [.agg (bB g),.agg (bB g)] (ao true):=zH g (by have:=hG.m8;omega) (by have:=hG.d8;omega) hH
theorem Hv:fU Tryz.prog 24 (fun a:Int×UInt64=>[ai a.1,aw a.2]) (fun a=>Ep a.1):=by
 have h:=jH (P:=Tryz.prog) (t:=24) (e:=2) Tryz.underlying24 rfl bh (fun _=>rfl)
  (bF (kF bh) rfl bh (fun _=>rfl) (bF (iy bh) rfl bh (fun _=>rfl) (nq _)))
 exact h.map (f':=fun a:Int×UInt64=>[ai a.1,aw a.2]) (fun a=>(a.1,a.2.1)) (fun _ _=>rfl) (fun _ h=>h.1)
theorem B7:fU Tryz.prog 26 (fun l:List (List UInt8)=>[.sl 1 (af ay l)]) (fun _=>True) :=
 (kE (P:=Tryz.prog) (t:=26) (e:=1) Tryz.underlying26 bh (np (P:=Tryz.prog) (t:=9) Tryz.underlying9)).map (f':=fun l:List (List UInt8)=>[.sl 1 (af ay l)]) (fun l=>l) (fun _ _=>rfl) (fun _ _=>trivial)
theorem nr:fU Tryz.prog 27 (fun l:List UInt64=>[.sl 1 (aj l)]) (fun _=>True):=B5 Tryz.underlying27 Tryz.underlying22 bh
theorem Fo:fU Tryz.prog 29 bc (fun _=>True):=by
 have h:=jH (P:=Tryz.prog) (t:=29) (e:=7) Tryz.underlying29 rfl bh (fun _=>rfl)
  (bF (iy bh) rfl bh (fun _=>rfl) (bF (iy bh) rfl bh (fun _=>rfl) (bF (B6 Tryz.underlying25 Tryz.underlying5 bh) rfl bh (fun _=>rfl)
  (bF B7 rfl bh (fun _=>rfl) (bF nr rfl bh (fun _=>rfl) (bF (kF bh) rfl bh (fun _=>rfl) (bF (iy bh) rfl bh (fun _=>rfl) (nq _))))))))
 exact h.map (f':=bc) (fun a=>(⟨a.1,a.2.1,a.2.2.1,a.2.2.2.1,a.2.2.2.2.1,a.2.2.2.2.2.1,a.2.2.2.2.2.2.1⟩:m0)) (fun _ _=>rfl) (fun _ _=>trivial)
theorem Fm:fU Tryz.prog 68 (fun s:Int×List UInt64×List UInt64=>[ai s.1,.sl 1 (aj s.2.1),.sl 1 (aj s.2.2)]) (fun _=>True):=by
 have h:=jH (P:=Tryz.prog) (t:=68) (e:=3) Tryz.underlying68 rfl bh (fun _=>rfl)
  (bF (kF bh) rfl bh (fun _=>rfl) (bF nr rfl bh (fun _=>rfl) (bF nr rfl bh (fun _=>rfl) (nq _))))
 exact h.map (f':=fun s:Int×List UInt64×List UInt64=>[ai s.1,.sl 1 (aj s.2.1),.sl 1 (aj s.2.2)]) (fun a=>(a.1,a.2.1,a.2.2.1)) (fun _ _=>rfl) (fun _ _=>trivial)
theorem An:fU Tryz.prog 30 (fun l:List gk=>[.sl 4 (af a8 l)]) (fun _=>True):=by
 have h:=jH (P:=Tryz.prog) (t:=70) (e:=4) Tryz.underlying70 rfl bh (fun _=>rfl)
  (bF (np bh) rfl bh (fun _=>rfl) (bF (e:=3) Fm rfl bh (fun _=>rfl) (nq _)))
 have h2:=h.map (f':=a8) (fun a=>(⟨a.1,a.2.1.1,a.2.1.2.1,a.2.1.2.2⟩:gk)) (fun _ _=>rfl) (ok':=fun _=>True) (fun _ _=>trivial)
 exact (kE (P:=Tryz.prog) (t:=30) (e:=4) Tryz.underlying30 bh h2).map (f':=fun l:List gk=>[.sl 4 (af a8 l)]) (fun l=>l) (fun _ _=>rfl) (fun _ _=>trivial)
theorem Hu:JP Tryz.prog 32 (fun e:eF=>.agg (aT e)) (fun _=>True):=by
 have h:=jH (P:=Tryz.prog) (t:=32) (e:=17) Tryz.underlying32 rfl bh (fun _=>rfl)
  (bF (kF bh) rfl bh (fun _=>rfl) (bF (iy bh) rfl bh (fun _=>rfl) (bF (kF bh) rfl bh (fun _=>rfl)
  (bF (np bh) rfl bh (fun _=>rfl) (bF (e:=2) Hv rfl bh (fun _=>rfl) (bF (kF bh) rfl bh (fun _=>rfl)
  (bF (e:=7) Fo rfl bh (fun _=>rfl) (bF (iy bh) rfl bh (fun _=>rfl) (bF (iy bh) rfl bh (fun _=>rfl) (bF An rfl bh (fun _=>rfl) (nq _)))))))))))
 exact (h.map (f':=aT) (fun a=>(⟨a.1,a.2.1,a.2.2.1,a.2.2.2.1,a.2.2.2.2.1.1,a.2.2.2.2.1.2,a.2.2.2.2.2.1,a.2.2.2.2.2.2.1,a.2.2.2.2.2.2.2.1,a.2.2.2.2.2.2.2.2.1,a.2.2.2.2.2.2.2.2.2.1⟩:eF)) (fun _ _=>rfl) (fun _ _=>trivial)).whole Tryz.underlying32
theorem x6 (e:eF) (l:List Int) (_:∀n∈l,Ep n):bK Tryz.prog 7 [.agg (aT e),.sl 1 (ax l)] (ao true):=by
 refine bK.len 1 rfl fun hl=>?_
 rw [km] at hl
 have TR:=Bu
 by_cases c:rM e
 case neg =>
  have hs:=ll c
  refine zO Tryz.func7 64<|zq<|zS<|zP 1 [yH [(1,yV (ao (xf e)))]] [.ae [15,4,2,0,1] [2]] [yI (wg e)]<|du 15 (!xf e) (by simp_all)<|zQ 1 [yH [(0,yV (ao true))]] [yI TR]<|dk (bV)
 have hs:=DY c
 have hC:=NQ
 have N1:=FQ l kZ 0 6 ah (Nat.zero_le _) hl ⟨hC.bP,hC.zb,Nat.zero_le _,hC.VM⟩
 obtain ⟨hB,hk⟩:=CG l (s:=(kZ,0)) hC (Nat.zero_le _) 6
 generalize dj l (kZ,0) 6=s at *
 obtain ⟨c1,k1⟩:=s
 simp only at N1 hB hk
 unfold zg at N1
 obtain ⟨hG,hH,-,-⟩:=hB
 obtain ⟨L,hL⟩:∃L:List eF,L= [e,{e with aB:=c1.bP.aB+1,prev:=c1.bP.head}]:=⟨_,rfl⟩
 have Wn:L.length=2:=by rw [hL];rfl
 have Vo:∀z∈L,mN z∧z.aq.length≤10:=by
  intro z hz
  rw [hL] at hz
  simp only [List.mem_cons,List.not_mem_nil,or_false] at hz
  rcases hz with rfl|rfl
  ·exact ⟨c.b,c.Ra⟩
  ·exact ⟨⟨c.b.Pa,c.b.dep⟩,c.Ra⟩
 have hw:IntKind.i64.wrap (c1.bP.aB+1)=c1.bP.aB+1:=by have:=hG.T0;have:=hG.Qh;rw [IntKind.wrap_i64];omega
 refine zO Tryz.func7 64<|zq<|zS<|zP 1 [yH [(1,yV (ao (xf e)))]] [.ae [15,4,2,0,1] [2]] [yI (wg e)]<|bj 15 (!xf e) (by simp_all)<|a_<|zP 2 [yH [(1,{av:=some (AV.box [AV.sl 1 (ax l),ai (↑(0:Nat):Int)]),b:=false}),(2,{av:=some (AV.agg [ai kZ.bP.aB,aw kZ.bP.head,ai kZ.bP.bt,AV.sl 4 (af aH kZ.bP.al),AV.sl 7 (af bc kZ.bP.aK),AV.sl 17 (af aT kZ.log),ai (kZ.nx 0),ai (kZ.nx 1),ai (kZ.nx 2),ai (kZ.nx 3),ai (kZ.nx 4),ai (kZ.nx 5),ai (kZ.nx 6),ai (kZ.nx 7),ai (kZ.nx 8),ai (kZ.nx 9)]),b:=false}),(3,{av:=some (AV.agg [ai c1.bP.aB,aw c1.bP.head,ai c1.bP.bt,AV.sl 4 (af aH c1.bP.al),AV.sl 7 (af bc c1.bP.aK),AV.sl 17 (af aT c1.log),ai (c1.nx 0),ai (c1.nx 1),ai (c1.nx 2),ai (c1.nx 3),ai (c1.nx 4),ai (c1.nx 5),ai (c1.nx 6),ai (c1.nx 7),ai (c1.nx 8),ai (c1.nx 9)]),ln:=[(18,1000000000000)],ho:=[(1000000000000,Row.mk 1 false true [AV.sl 1 (ax l),ai ↑k1])]})],{}] [.ae [6,5,15,4,2,0,1] [6,5,2]] [yI (KG l),yI Gq,yI N1,yB ([AV.sl 1 (ax l),ai (↑(0:Nat):Int)].length= [AV.sl 1 (ax l),ai ↑k1].length∧0< [AV.sl 1 (ax l),ai ↑k1].length) ⟨rfl,Nat.succ_pos _⟩,yL 16 16,yL 17 17]<|zS<|y9 9 [8] [(3,yV (ai (c1.bP.aB+1)))] [yI (yc hw),yL 1 17,yR (AV.addr 5 0),yR (AV.addr 5 1),yR (aw c1.bP.head),yL 2 17]<|ak<|bf.sv [.ae [6,5,15,4,2,0,1] [6,5,2]] bh<|zS<|zP 1 [yH [(3,{k:=2})]] [.ae [35,34,33,6,5,15,4,2,0,1] [33,6,5,2]] [yR (2*17)]<|zB 0 (zL (fun (i:Nat)=>(⟨[(34,ai (↑(2:Nat):Int)),(33,AV.ref 33),(6,AV.addr 6 0),(5,AV.addr 5 0),(15,ao (!xf e)),(2,AV.addr 2 0),(0,AV.agg (aT e)),(1,AV.sl 1 (ax l)),(35,ai i)],[(6,⟨1,false,true,[ai (c1.bP.aB+1),aw c1.bP.head,ai e.kind,db e.name,ai e.kh,aw e.kr,ai e.bt,aw e.dep.bR,aw e.dep.peer,AV.sl 1 (ag e.dep.box),AV.sl 1 (af ay e.dep.aa),AV.sl 1 (aj e.dep.au),ai e.dep.need,aw e.dep.target,aw e.bR,aw e.target,AV.sl 4 (af a8 e.aq)]⟩),(5,⟨1,false,true,[ai c1.bP.aB,aw c1.bP.head,ai c1.bP.bt,AV.sl 4 (af aH c1.bP.al),AV.sl 7 (af bc c1.bP.aK),AV.sl 17 (af aT c1.log),ai (c1.nx 0),ai (c1.nx 1),ai (c1.nx 2),ai (c1.nx 3),ai (c1.nx 4),ai (c1.nx 5),ai (c1.nx 6),ai (c1.nx 7),ai (c1.nx 8),ai (c1.nx 9)]⟩),(33,⟨17,true,true,af aT L⟩),(2,⟨1,false,true,aT e⟩)]⟩:AS)) (fun i=>(i≤2)) (fun i=>(2-i)) (0) ?_ (eK [.ae [34,33,6,5,15,2,0,1,35] [6,5,33,2]] [] [33] [yB ((let y:=let y:=let y:=[ai e.dep.need,aw e.dep.target,aw e.bR,aw e.target,AV.sl 4 (af a8 e.aq)];aw e.dep.peer::AV.sl 1 (ag e.dep.box)::AV.sl 1 (af ay e.dep.aa)::AV.sl 1 (aj e.dep.au)::y;let y:=ai e.kh::aw e.kr::ai e.bt::aw e.dep.bR::y;ai (c1.bP.aB+1)::aw c1.bP.head::ai e.kind::db e.name::y;let y:=let y:=ai e.dep.need::aw e.dep.target::aw e.bR::aw e.target::AV.sl 4 (af a8 e.aq)::y;aw e.dep.peer::AV.sl 1 (ag e.dep.box)::AV.sl 1 (af ay e.dep.aa)::AV.sl 1 (aj e.dep.au)::y;let y:=ai e.kh::aw e.kr::ai e.bt::aw e.dep.bR::y;ai e.aB::aw e.prev::ai e.kind::db e.name::y)=af aT L) (by rw [hL];rfl)]) ?_)
 ·omega
 intro i hi
 refine bf.i9 1 [{}] bh (s':=AS.mk [(36,ao (decide ((↑i:Int)<(↑(2:Nat):Int)))),(34,ai (↑(2:Nat):Int)),(33,AV.ref 33),(6,AV.addr 6 0),(5,AV.addr 5 0),(15,ao (!xf e)),(2,AV.addr 2 0),(0,AV.agg (aT e)),(1,AV.sl 1 (ax l)),(35,ai ↑i)] [(6,Row.mk 1 false true [ai (c1.bP.aB+1),aw c1.bP.head,ai e.kind,db e.name,ai e.kh,aw e.kr,ai e.bt,aw e.dep.bR,aw e.dep.peer,AV.sl 1 (ag e.dep.box),AV.sl 1 (af ay e.dep.aa),AV.sl 1 (aj e.dep.au),ai e.dep.need,aw e.dep.target,aw e.bR,aw e.target,AV.sl 4 (af a8 e.aq)]),(5,Row.mk 1 false true [ai c1.bP.aB,aw c1.bP.head,ai c1.bP.bt,AV.sl 4 (af aH c1.bP.al),AV.sl 7 (af bc c1.bP.aK),AV.sl 17 (af aT c1.log),ai (c1.nx 0),ai (c1.nx 1),ai (c1.nx 2),ai (c1.nx 3),ai (c1.nx 4),ai (c1.nx 5),ai (c1.nx 6),ai (c1.nx 7),ai (c1.nx 8),ai (c1.nx 9)]),(33,Row.mk 17 true true (af aT L)),(2,Row.mk 1 false true (aT e))]) (C:=[]) bh trivial<|zS (zD 36 ((↑i:Int)<(↑(2:Nat):Int)) (fun h=>?_) (fun h=>?_))
 ·have dz:i<L.length:=ah
  have gh:=Lo dz
  obtain ⟨b1,b2⟩:=Vo (L.getD i default) (by rw [List.getD_eq_getElem?_getD,List.getElem?_eq_getElem dz];exact List.getElem_mem dz)
  have h1:=ou c1.bP (L.getD i default) hG b1 ah
  have h2:=pP c1.bP (L.getD i default) hG b1 ah (nn _ b1)
  have h3:=He (iq c1.bP (L.getD i default)) (LI _ hG) (hH.T6 b1.dep.zb)
  generalize iq c1.bP (L.getD i default)=G at *
  generalize fI c1.bP (L.getD i default)=E at *
  refine a_<|zS<|zB 1<|zP 4 [yH [(0,{k:=i}),(1,yV (AV.agg (aT (L.getD i default))))],yH [(3,{av:=some (AV.bq [AV.agg (bB G),ai E]),b:=false})],yH [(3,{av:=some (AV.bq [AV.agg (bB G),ai E]),b:=false})],yH ([(6,{av:=some (ao true),g:=false}),(8,{b:=false})]++yg [4,5,7])] [.ae [61,12,11,10,9,8,36,34,33,6,5,15,2,0,1,35] [11,9,8,6,5,33,2]] ([yR (↑i:Int),yB (i*17<(af aT L).length) (by simp only [aF (f:=aT) (e:=17) (fun _=>rfl)];omega),yu aT L i 0 17,yR 17,yL 17 17,yI h1,yL 5 5,yI h2,yL 5 5]++yM 3 (yS ((E != E)=false))++ [yI h3]++yM 2 (yS ((E != E)=false)))<|zF 61<|zK<|aM<|ak<|zX (yH [(0,yV (ai ((↑i:Int)+1)))]) [yN ((↑i:Int)+1)] (aJ (i+1) ah ah (zW [.ae [34,33,6,5,15,2,0,1,35] [6,5,33,2]]))
 ·skip
  refine zE 0<|a7<|aO<|bn<|ak<|zQ 1 [yH [(0,yV (ao true))]] [yI TR]<|zR (bV)
end Go.Proofs.YtjgbhhnghedgdaaGreatDoor
namespace Go.Proofs.YtjgbhhnghedgdaaGreatDoor.groupAny
open Go.ChangeShapes Go.WideShapes Go.ChangeAt Go.RowKit Go.Lib
theorem own:ownKnob Tryz.prog.godebug=none:=by kernel_rfl
theorem laidOut:laidOutB Tryz.prog=true:=by kernel_rfl
noncomputable def wI (os:Os):World :=
 let w0:=World.doorLaid Tryz.prog 400 os
 {w0 with heap:=w0.heap.modify 0 fun
   | .cells _ t frozen=>.cells (Lib.firstTab.map fun z=>Value.int .u8 z).toArray t frozen
   | o=>o}
theorem met (os:Os) (args:Array Value):laidMetH Tryz.prog Rows.groupAnyRow.laid ((wI os).forCall (fun _ _=>0) ⟨#[],args,[]⟩).memory :=
 laidMetH_of_parts3 (fuel:=8) (laidMet_of_run' 8 bh bh) bh bh
theorem Lg {W:World} (h:laidMetH Tryz.prog Rows.groupAnyRow.laid W):Good W:=by
 rw [MakeChecks.laidMetH_plain _ _ _ bh] at h
 have e1:Rows.laid_unicode_utf8_first=Lib.firstData:=by kernel_rfl
 have e2:(Rows.laid_unicode_utf8_acceptRanges:DataW Unit)=Lib.acceptData:=by kernel_rfl
 have m1 : ("unicode/utf8.first", Rows.laid_unicode_utf8_first) ∈ Rows.groupAnyRow.laid := .tail _ (.head _)
 have m2 : ("unicode/utf8.acceptRanges", Rows.laid_unicode_utf8_acceptRanges) ∈ Rows.groupAnyRow.laid := .head _
 have r1:=Lib.laidMet.reads h m1
 have r2:=Lib.laidMet.reads h m2
 rw [e1] at r1
 rw [e2] at r2
 exact utf8Tabs_of_readsT (U8Types.of196 GV) ⟨by kernel_rfl,by kernel_rfl,by kernel_rfl,by kernel_rfl,by kernel_rfl,by kernel_rfl,by kernel_rfl⟩ r1 r2
set_option maxRecDepth 100000 in
theorem lifted (os:Os) (started:os.Started) (H:Type) (enc:TypeId×Value->H) :
  ReturnsInHanded {} Tryz.checked os 7 .any (fun w args=>(Rows.groupAnySpec.pre enc Tryz.prog Tryz.f7 [] false w args∧laidMetH Tryz.prog Rows.groupAnyRow.laid w)∧sizedMet enc Tryz.prog Tryz.f7 (OpenSpec.ofChange Rows.groupAnySpec) false w args) (Rows.groupAnySpec.post enc Tryz.prog Tryz.f7 false true false false):=by
 refine returnsInHanded_of_change_and (C:=Tryz.checked) (X:=fun w _=>laidMetH Tryz.prog Rows.groupAnyRow.laid w) (fun _ _ _ hh h=>h.of_heap hh) own started bh Tryz.func7
  (ChangeSpec.witness_shaped (enc:=enc) (C:=Tryz.checked) (os:=os) (X:=fun w _=>laidMetH Tryz.prog Rows.groupAnyRow.laid w) false (wI os) #[.agg #[.int .i64 0,.int .u64 0,.int .i64 0,.string ⟨#[]⟩,.int .i64 0,.int .u64 0,.int .i64 0,.int .u64 0,.int .u64 0,.slice none 0 0,.slice none 0 0,.slice none 0 0,.int .i64 0,.int .u64 0,.int .u64 0,.int .u64 0,.slice none 0 0],.slice none 0 0] 8 rfl (World.shaped_of_RefB bh bh) bh bh bh (met os _)) ?_
 intro W base args ds gs before Pn hW _ _ hL _
 have jZ:Good W:=Lg hL
 have ji:∀(j:Nat) t v,Tryz.f7.params[j]?=some t->args[j]?=some v->Value.okWide Tryz.prog W .any base t v:=Pn
 have Vk:=hW
 obtain ⟨p,q,VE,hV,rfl,Wf,ik⟩:=hW
 have hA:DataW.TrodAll enc Tryz.prog W 0 (fun _=>true) true Tryz.f7.params.toList args.toList ds p:=VE
 have gi:=hA
 rw [Tryz.params7] at hA ji
 obtain ⟨v0,VX,d0,Wu,p0,q0,iC,rfl,rfl,h0,r0⟩:=trodAll_cons hA
 obtain ⟨v1,VW,d1,Wt,p1,q1,rfl,rfl,rfl,h1,r1⟩:=trodAll_cons r0
 obtain ⟨rfl,rfl,rfl⟩:=trodAll_nil r1
 obtain rfl:args= #[v0,v1]:=by cases args;simp_all
 obtain ⟨rfl,rfl⟩:=trodVars_none hV
 obtain ⟨x0,o0,e0⟩:=(Hu) H enc W base v0 d0 p0 (ji 0 32 v0 rfl rfl) h0
 obtain ⟨x1,o1,e1⟩:=((Fk Tryz.underlying33 Tryz.underlying3 bh).one bh) H enc W base v1 d1 p1 (ji 1 33 v1 rfl rfl) h1
 refine ((x6 x0 x1 o1).law W jZ [v0,v1] rfl (z8 e0 (z8 e1 (Kv _ _)))).mono fun e W' ⟨he,cX⟩=>?_
 subst he
 exact ⟨_,rfl,_,_,_,[],_,[],Vk,trodAll_mk1 (shut_bool Tryz.underlying4 _),Below.GZ laidOut cX _ _ _ _ bh gi,rfl,cX.frame _,fun h=>by cases h⟩
theorem over:Rows.groupAnyRow.holds Tryz.pinned (OpenSpec.ofChange Rows.groupAnySpec) :=
 OpenClaim.holds_of_wide 7 Tryz.f7 rfl rfl rfl rfl rfl rfl rfl ⟨rfl,rfl,rfl,rfl,rfl⟩ rfl rfl rfl rfl rfl bh Tryz.func7 bh
  (of_decide_eq_true bh) (by unfold Func.isWrapper;first|(rw [if_pos (by decide +kernel)];kernel_rfl)|(rw [if_neg (by decide +kernel)];exact ⟨rfl,rfl⟩))
  (fun os started H enc _=>lifted os started H enc)
theorem proved:Rows.GroupAnyCardSaid :=
 Claim7.holds_tied_plain_at .later [] [.data, .pinned] true (true, "fab67545d1c5343aea5e1f3d0de8eea608bff556b3f6889684a4119b28c12f87") false
  over (fun _ h=>by cases h) bh (fun _ h=>by cases h) groupAny_row_tie rfl ⟨rfl,rfl⟩ bh rfl
  (fun f fn hf U4=>by
   obtain rfl : f = 7 := Option.some.inj ((show Tryz.prog.funcNamed "passkey/passkeylaw38.GroupAny" = some 7 by kernel_rfl).symm.trans hf) |>.symm
   obtain rfl:fn=Tryz.f7:=(Option.some.inj (Tryz.func7.symm.trans U4)).symm
   exact ⟨by kernel_rfl,fun j t ht=>by
    rw [Tryz.params7] at ht
    have gi:(Tryz.f7.params.toList.all fun u=> !Tryz.prog.wantsStandIn u)=true:=by kernel_rfl
    have hm:t∈Tryz.f7.params.toList:=by rw [Tryz.params7];simpa using Array.mem_of_getElem? ht
    exact (show Tryz.prog.wantsStandIn t=false by simpa using List.all_eq_true.1 gi t hm)⟩)
  bh
#print axioms proved
end Go.Proofs.YtjgbhhnghedgdaaGreatDoor.groupAny
