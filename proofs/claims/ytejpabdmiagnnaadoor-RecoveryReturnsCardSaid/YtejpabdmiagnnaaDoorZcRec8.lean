import Derived.Test.YtejpabdmiagnnaaDoorZcV8
import Derived.Test.YtejpabdmiagnnaaDoorZcShLag
set_option linter.all false
namespace Go.Proofs.YtejpabdmiagnnaaDoor
open Go.RowKit
set_option maxRecDepth 100000
set_option maxHeartbeats 4000000
set_option linter.unusedVariables false
theorem tmod_nat (x:UInt8) (m:Nat) (hm:0<m):∃k:Nat,(bv x).tmod (m:Int)=k∧k<m:=by
 have:=bv_nn x
 have h2:=Int.emod_lt_of_pos (bv x) (show (0:Int)<m by omega)
 have h3:=Int.emod_nonneg (bv x) (show (m:Int)≠0 by omega)
 exact ⟨((bv x)%m).toNat,by rw [Int.tmod_eq_emod_of_nonneg this];omega,by omega⟩
theorem nodup_snoc {js:List Nat} {j:Nat} (h:js.Nodup) (hj:j ∉ js):(js++ [j]).Nodup:=by
 rw [List.nodup_append]
 refine ⟨h,by simp,fun a ha b hb=>?_⟩
 simp at hb;subst hb
 exact fun e=>hj (e ▸ ha)
theorem recoveryReturns_law (seed n need:UInt8) (order text:List UInt8) (nonce:UInt64):Ret Tryd.prog 4 [ab seed,ab n,ab need,.sl 1 (bytesA order),.sl 1 (bytesA text),aw nonce] (ao true):=by
 have haw:=awake39_ret
 by_cases c1:200<text.length
 ·refine zO Tryd.func4 186 ?_
  refine zQ 1 [{}] [] ?_
  refine zS ?_
  refine zP 1 [yH [(1,{k:=text.length})]] [.keep [38,12,0,1,2,3,4,5] []] [yI (bytesA_len text)] ?_
  refine zTd 38 ((↑text.length:Int)>200) ?_
  refine zQ 1 [yH [(0,yV (ao true))]] [yI (awake39_ret)] ?_
  refine zR ?_
  refine then_r ?_
  refine zV [yR (Value.bool true)]
 obtain ⟨M,hM,hM8⟩:=tmod_nat n 8 (by omega)
 obtain ⟨m,hm⟩:∃m,m=1+M:=⟨_,rfl⟩
 obtain ⟨K,hK,hKM⟩:=tmod_nat need m (by omega)
 obtain ⟨k,hk⟩:∃k,k=1+K:=⟨_,rfl⟩
 obtain ⟨sd,hsd,hs8⟩:∃s:Nat,bv seed=s∧s<256:=⟨seed.toNat,rfl,UInt8.toNat_lt seed⟩
 obtain ⟨G,D,S,hv,hp,hSl,hS8,hrel,hrst⟩:=bench sd (n:=m) (k:=k) text hs8 (by omega) (by omega) (by omega) (by omega) (by omega)
 obtain ⟨G2,D2,S2,hv2,hrel2,hrst2⟩:=benchF sd (n:=m) (k:=k) text hs8 (by omega) (by omega) (by omega) (by omega)
 have hlS:(encA bysC S).length=m:=by rw [encA_len (e:=1) (fun _=>rfl),hSl];omega
 have w1:IntKind.i64.wrap (1+IntKind.i64.wrap ((bv n).tmod 8))=m:=by
  rw [show (bv n).tmod 8=(M:Int) from hM,i64_small (n:=(M:Int)) (by omega) (by omega),i64_small (by omega) (by omega)];omega
 have w2:IntKind.i64.wrap (1+(bv need).tmod (m:Int))=k:=by
  rw [hK,i64_small (by omega) (by omega)];omega
 have w3:(m:Int)≠0:=by omega
 have w4:AV.val (.int .i64 (IntKind.i64.wrap (bv seed)))=ai sd:=by rw [hsd,i64_small (n:=(sd:Int)) (by omega) (by omega)]
 refine zO Tryd.func4 186 ?_
 refine zQ 1 [{}] [] ?_
 refine zS ?_
 refine zP 1 [yH [(1,{k:=text.length})]] [.keep [38,12,0,1,2,3,4,5] []] [yI (bytesA_len text)] ?_
 refine zFd 38 ((↑text.length:Int)>200) ?_
 refine zK ?_
 refine then_n ?_
 refine zP 6 [yH [(3,yV (ai (↑m:Int)))],yH [(1,yV (ai (bv need))),(4,yV (ai (↑k:Int)))],yH [(1,yV (ai (↑sd:Int))),(5,{av:=some (AV.tup [AV.agg [ai G.epoch,aw G.head,ai G.thr,AV.own 4 (encA memC G.mems),AV.own 7 (encA depC G.deps)],AV.agg [aw D.pub,aw D.peer,AV.sl 1 (bytesA D.box),AV.sl 1 (encA strC D.holders),AV.sl 1 (wordsA D.digests),ai D.need,aw D.target],AV.own 1 (encA bysC S)]),b:=false})],{},{},yH [(0,yV (AV.arr (boolsA (List.replicate (8:Nat) false))))]] [.keep [20,19,18,17,16,15,14,13,38,12,0,1,2,3,4,5] [20,16,15,3055,501055,401055]] [yO ((8:Int)≠(0:Int)),yB (ai (IntKind.i64.wrap ((1:Int)+IntKind.i64.wrap ((bv n).tmod (8:Int))))=ai (↑m:Int)) (congrArg (fun n=>AV.val (.int .i64 n)) w1),yB (ai (IntKind.i64.wrap (bv need))=ai (bv need)) (av_i64_bv (need)),yB ((↑m:Int)≠(0:Int)) (by assumption),yB (ai (IntKind.i64.wrap ((1:Int)+(bv need).tmod (↑m:Int)))=ai (↑k:Int)) (congrArg (fun n=>AV.val (.int .i64 n)) w2),yI w4,yB (Ret Tryd.prog (9:Nat) [ai (↑sd:Int),ai (↑m:Int),ai (↑k:Int),AV.sl 1 (bytesA text),ao true] (AV.tup [AV.agg [ai G.epoch,aw G.head,ai G.thr,AV.own 4 (encA memC G.mems),AV.own 7 (encA depC G.deps)],AV.agg [aw D.pub,aw D.peer,AV.sl 1 (bytesA D.box),AV.sl 1 (encA strC D.holders),AV.sl 1 (wordsA D.digests),ai D.need,aw D.target],AV.own 1 (encA bysC S)])) (hv),yL 5 5,yL 7 7,yR (boolsA (List.replicate (8:Nat) false))] ?_
 refine AWP.joinX (fun (js:List Nat)=>(⟨[(20,AV.addr 20 0),(17,AV.ref 3055),(16,AV.addr 16 0),(15,AV.addr 15 0),(14,ai (↑k:Int)),(13,ai (↑m:Int)),(38,ao (decide ((↑text.length:Int)>200))),(0,ab seed),(1,ab n),(2,ab need),(3,AV.sl 1 (bytesA order)),(4,AV.sl 1 (bytesA text)),(5,aw nonce),(18,AV.ref 103),(19,AV.ref 107)],[(3055,⟨1,true,false,encA bysC S⟩),(16,⟨1,false,true,[aw D.pub,aw D.peer,AV.sl 1 (bytesA D.box),AV.sl 1 (encA strC D.holders),AV.sl 1 (wordsA D.digests),ai D.need,aw D.target]⟩),(15,⟨1,false,true,[ai G.epoch,aw G.head,ai G.thr,AV.ref 401055,AV.ref 501055]⟩),(401055,⟨4,true,false,encA memC G.mems⟩),(501055,⟨7,true,false,encA depC G.deps⟩),(20,⟨1,true,false,boolsA (seenL 8 js)⟩),(103,⟨1,true,false,encA strC (js.map nm)⟩),(107,⟨1,true,false,encA bysC (js.map fun j=>S.getD j default)⟩)]⟩:AS)) (fun js=>(js.Nodup∧ ∀j∈js,j<m)) (by kernel_rfl) ?_ ?_
 ·skip
  refine zQ 1 [{}] [] ?_
  refine zB 0 ?_
  refine zL (fun (q:Nat×List Nat)=>(⟨[(20,AV.addr 20 0),(17,AV.ref 3055),(16,AV.addr 16 0),(15,AV.addr 15 0),(14,ai (↑k:Int)),(13,ai (↑m:Int)),(38,ao (decide ((↑text.length:Int)>200))),(0,ab seed),(1,ab n),(2,ab need),(3,AV.sl 1 (bytesA order)),(4,AV.sl 1 (bytesA text)),(5,aw nonce),(21,ai q.1),(18,AV.ref 103),(19,AV.ref 107)],[(3055,⟨1,true,false,encA bysC S⟩),(16,⟨1,false,true,[aw D.pub,aw D.peer,AV.sl 1 (bytesA D.box),AV.sl 1 (encA strC D.holders),AV.sl 1 (wordsA D.digests),ai D.need,aw D.target]⟩),(15,⟨1,false,true,[ai G.epoch,aw G.head,ai G.thr,AV.ref 401055,AV.ref 501055]⟩),(401055,⟨4,true,false,encA memC G.mems⟩),(501055,⟨7,true,false,encA depC G.deps⟩),(20,⟨1,true,false,boolsA (seenL 8 q.2)⟩),(103,⟨1,true,false,encA strC (q.2.map nm)⟩),(107,⟨1,true,false,encA bysC (q.2.map fun j=>S.getD j default)⟩)]⟩:AS)) (fun q=>(q.1≤20∧q.2.Nodup∧ ∀j∈q.2,j<m)) (fun q=>(20-q.1)) ((0,[])) ?_ (zW [.nil 18 103 1,.nil 19 107 1,.loose 20,.keep [20,17,16,15,14,13,38,0,1,2,3,4,5,21,18,19] [3055,16,15,401055,501055,20,103,107]]) ?_
  ·exact ⟨by omega,by simp,by simp⟩
  rintro ⟨i,js⟩ ⟨hi,hnd,hjs⟩
  simp only at hi hnd hjs
  have hsl:=seenL_len 8 js
  have hl1:(encA strC (js.map nm)).length=js.length:=by rw [encA_len (e:=1) (fun _=>rfl),List.length_map];omega
  have hl2:(encA bysC (js.map fun j=>S.getD j default)).length=js.length:=by rw [encA_len (e:=1) (fun _=>rfl),List.length_map];omega
  have hjl:js.length≤m:=by
   have:=nodup_sub (m:=List.range m) hnd fun j h=>List.mem_range.2 (hjs j h)
   rwa [List.length_range] at this
  obtain ⟨j,hj,hjm⟩:=tmod_nat (order.getD i 0) m (by omega)
  refine (Classical.em ((↑i:Int)<(↑order.length:Int))).elim (fun h6=>?_) (fun h6=>?_)
  ·skip
   refine zS ?_
   refine zP 1 [yH [(2,{k:=order.length})]] [.keep [66,20,17,16,15,14,13,38,0,1,2,3,4,5,21,18,19] [3055,16,15,401055,501055,20,103,107]] [yI (bytesA_len order),yT ((↑i:Int)<(↑order.length:Int)),yT ((↑i:Int)<(↑order.length:Int)),yT ((↑i:Int)<(↑order.length:Int))] ?_
   refine zD 66 ((↑i:Int)<20) (fun h8=>?_) (fun h8=>?_)
   ·have hat:=bys_at (l:=S) (i:=j) (by omega)
    have hr:=hrel j hjm
    have en:(mbr (modI (j:Int) 10)).name=nm j:=by rw [mod10 (by omega)];rfl
    rw [←en] at hr
    by_cases hin:j∈js
    ·have hs:(seenL 8 js).getD j false=true:=by rw [seenL_get js (by omega)];simpa using hin
     refine zK ?_
     refine then_n ?_
     refine zS ?_
     refine zB 1 ?_
     refine zP 2 [yH [(2,{k:=i}),(3,yV (ab (order.getD i 0))),(4,yV (ai (bv (order.getD i 0)))),(6,yV (ai (↑j:Int)))],{hs:=[(4,yV (AV.agg [AV.val (Value.string (ByteArray.mk (mbr (modI (↑j:Int) (10:Int))).name.toArray)),ai ((mbr (modI (↑j:Int) (10:Int))).h),aw ((mbr (modI (↑j:Int) (10:Int))).r),aw ((mbr (modI (↑j:Int) (10:Int))).used)])),(8,{k:=j}),(9,yV (AV.sl 1 (bytesA (S.getD j default)))),(10,yV (AV.tup [AV.own 1 (bytesA (S.getD j default)),ai 0]))],T:=15}] [.keep [24,23,22,66,20,17,16,15,14,13,38,0,1,2,3,4,5,21,18,19] [3055,16,15,401055,501055,20,103,107]] [yR (↑i:Int),yB (i<(bytesA order).length) (by simp only [bytesA_len];omega),yB ((bytesA order)[i]?=some (ab (order.getD i 0))) (bytesA_at (by omega)),yB (ai (IntKind.i64.wrap (bv (order.getD i 0)))=ai (bv (order.getD i 0))) (av_i64_bv (order.getD i 0)),yB (ai ((bv (order.getD i 0)).tmod (↑m:Int))=ai (↑j:Int)) (congrArg (fun n=>AV.val (.int .i64 n)) hj),yB ((↑m:Int)≠(0:Int)) (by assumption),yI (member_ret ((↑j:Int))),yR (↑j:Int),yO (j<(encA bysC S).length),yB ((encA bysC S)[j]?=some (AV.sl 1 (bytesA (S.getD j default)))) (by assumption),yB (Ret Tryd.prog (10:Nat) [AV.agg [ai G.epoch,aw G.head,ai G.thr,AV.sl 4 (encA memC G.mems),AV.sl 7 (encA depC G.deps)],aw D.pub,AV.val (Value.string (ByteArray.mk (mbr (modI (↑j:Int) (10:Int))).name.toArray)),AV.sl 1 (bytesA (S.getD j default))] (AV.tup [AV.own 1 (bytesA (S.getD j default)),ai 0])) (hr),yI (valR_bytes (S.getD j default))] ?_
     refine zS ?_
     refine zQ 1 [{}] [] ?_
     refine zFb 91 ((0:Int) != (0:Int)) rfl ?_
     refine zK ?_
     refine then_n ?_
     refine zP 1 [yH [(1,{k:=j}),(2,yV (ao ((seenL (8:Nat) js).getD j false)))]] [.keep [95,91,24,23,22,66,20,17,16,15,14,13,38,0,1,2,3,4,5,21,18,19] [3055,16,15,401055,501055,20,103,107]] [yR (↑j:Int),yO (j<(8:Nat)),yB ((boolsA (seenL (8:Nat) js))[j]?=some (ao ((seenL (8:Nat) js).getD j false))) (boolsA_at (by omega))] ?_
     refine zFb 95 (!(seenL (8:Nat) js).getD j false) (by simp_all) ?_
     refine zK ?_
     refine inb_n ?_
     refine then_n ?_
     refine zX (yH [(1,yV (ai ((↑i:Int)+1)))]) [yN ((↑i:Int)+1)] ?_
     refine round_n (i+1,js) ⟨by omega,hnd,hjs⟩ (by omega) (zW [.keep [20,17,16,15,14,13,38,0,1,2,3,4,5,21,18,19] [3055,16,15,401055,501055,20,103,107]])
    ·have hs:(seenL 8 js).getD j false=false:=by rw [seenL_get js (by omega)];simpa using hin
     have t1:encA strC (js.map nm)++ [as_ (mbr (modI (j:Int) 10)).name]=encA strC ((js++ [j]).map nm):=by rw [en,List.map_append,←encA_app];rfl
     have t2:encA bysC (js.map fun j=>S.getD j default)++ [.sl 1 (bytesA (S.getD j default))]=encA bysC ((js++ [j]).map fun j=>S.getD j default):=by rw [List.map_append,←encA_app];rfl
     refine zK ?_
     refine then_n ?_
     refine zS ?_
     refine zB 1 ?_
     refine zP 2 [yH [(2,{k:=i}),(3,yV (ab (order.getD i 0))),(4,yV (ai (bv (order.getD i 0)))),(6,yV (ai (↑j:Int)))],{hs:=[(4,yV (AV.agg [AV.val (Value.string (ByteArray.mk (mbr (modI (↑j:Int) (10:Int))).name.toArray)),ai ((mbr (modI (↑j:Int) (10:Int))).h),aw ((mbr (modI (↑j:Int) (10:Int))).r),aw ((mbr (modI (↑j:Int) (10:Int))).used)])),(8,{k:=j}),(9,yV (AV.sl 1 (bytesA (S.getD j default)))),(10,yV (AV.tup [AV.own 1 (bytesA (S.getD j default)),ai 0]))],T:=15}] [.keep [24,23,22,66,20,17,16,15,14,13,38,0,1,2,3,4,5,21,18,19] [3055,16,15,401055,501055,20,103,107]] [yR (↑i:Int),yB (i<(bytesA order).length) (by simp only [bytesA_len];omega),yB ((bytesA order)[i]?=some (ab (order.getD i 0))) (bytesA_at (by omega)),yB (ai (IntKind.i64.wrap (bv (order.getD i 0)))=ai (bv (order.getD i 0))) (av_i64_bv (order.getD i 0)),yB (ai ((bv (order.getD i 0)).tmod (↑m:Int))=ai (↑j:Int)) (congrArg (fun n=>AV.val (.int .i64 n)) hj),yB ((↑m:Int)≠(0:Int)) (by assumption),yI (member_ret ((↑j:Int))),yR (↑j:Int),yO (j<(encA bysC S).length),yB ((encA bysC S)[j]?=some (AV.sl 1 (bytesA (S.getD j default)))) (by assumption),yB (Ret Tryd.prog (10:Nat) [AV.agg [ai G.epoch,aw G.head,ai G.thr,AV.sl 4 (encA memC G.mems),AV.sl 7 (encA depC G.deps)],aw D.pub,AV.val (Value.string (ByteArray.mk (mbr (modI (↑j:Int) (10:Int))).name.toArray)),AV.sl 1 (bytesA (S.getD j default))] (AV.tup [AV.own 1 (bytesA (S.getD j default)),ai 0])) (hr),yI (valR_bytes (S.getD j default))] ?_
     refine zS ?_
     refine zQ 1 [{}] [] ?_
     refine zFb 91 ((0:Int) != (0:Int)) rfl ?_
     refine zK ?_
     refine then_n ?_
     refine zP 1 [yH [(1,{k:=j}),(2,yV (ao ((seenL (8:Nat) js).getD j false)))]] [.keep [95,91,24,23,22,66,20,17,16,15,14,13,38,0,1,2,3,4,5,21,18,19] [3055,16,15,401055,501055,20,103,107]] [yR (↑j:Int),yO (j<(8:Nat)),yB ((boolsA (seenL (8:Nat) js))[j]?=some (ao ((seenL (8:Nat) js).getD j false))) (boolsA_at (by omega))] ?_
     refine zTb 95 (!(seenL (8:Nat) js).getD j false) (by simp_all) ?_
     refine zP 1 [yH [(1,{k:=j}),(2,yV (AV.arr (boolsA ((seenL (8:Nat) js).set j true))))]] [.keep [95,91,24,23,22,66,20,17,16,15,14,13,38,0,1,2,3,4,5,21,18,19] [20,3055,16,15,401055,501055,103,107]] [yR (↑j:Int),yO (j<(8:Nat)),yB ((boolsA (seenL (8:Nat) js)).set j (ao true)=boolsA ((seenL (8:Nat) js).set j true)) (boolsA_set _ _ _),yB (j+(1:Nat)≤(boolsA (seenL (8:Nat) js)).length) (by simp only [boolsA_len];omega)] ?_
     refine zX (yH [(2,yV (AV.agg [AV.val (Value.string (ByteArray.mk (mbr (modI (↑j:Int) (10:Int))).name.toArray)),ai ((mbr (modI (↑j:Int) (10:Int))).h),aw ((mbr (modI (↑j:Int) (10:Int))).r),aw ((mbr (modI (↑j:Int) (10:Int))).used)])),(5,yV (AV.arr (encA strC (List.map nm (js++ [j]))))),(9,yV (AV.arr (encA bysC (List.map (fun j↦S.getD j default) (js++ [j])))))]) [yI (member_ret ((↑j:Int))),yI t1,yO (((encA strC (List.map nm js)).length+(1:Nat))*(16:Nat)≤(140737488355328:Nat)),yI t2,yO (((encA bysC (List.map (fun j↦S.getD j default) js)).length+(1:Nat))*(24:Nat)≤(140737488355328:Nat))] ?_
     refine inb_n ?_
     refine then_n ?_
     refine zX (yH [(1,yV (ai ((↑i:Int)+1)))]) [yN ((↑i:Int)+1)] ?_
     refine round_n (i+1,js++ [j]) ⟨by omega,nodup_snoc hnd hin,fun t ht=>by rcases List.mem_append.1 ht with ht|ht;exact hjs t ht;simp at ht;omega⟩ (by omega) (Weaks.of [.keep [20,17,16,15,14,13,38,0,1,2,3,4,5,21,18,19] [3055,16,15,401055,501055,20,103,107]] (s1:=AS.mk [(20,AV.addr 20 0),(17,AV.ref 3055),(16,AV.addr 16 0),(15,AV.addr 15 0),(14,ai (↑k:Int)),(13,ai (↑m:Int)),(38,ao (decide ((↑text.length:Int)>200))),(0,ab seed),(1,ab n),(2,ab need),(3,AV.sl 1 (bytesA order)),(4,AV.sl 1 (bytesA text)),(5,aw nonce),(21,ai ((↑i:Int)+1)),(18,AV.ref 103),(19,AV.ref 107)] [(3055,Row.mk 1 true false (encA bysC S)),(16,Row.mk 1 false true [aw D.pub,aw D.peer,AV.sl 1 (bytesA D.box),AV.sl 1 (encA strC D.holders),AV.sl 1 (wordsA D.digests),ai D.need,aw D.target]),(15,Row.mk 1 false true [ai G.epoch,aw G.head,ai G.thr,AV.ref 401055,AV.ref 501055]),(401055,Row.mk 4 true false (encA memC G.mems)),(501055,Row.mk 7 true false (encA depC G.deps)),(20,Row.mk 1 true false (boolsA ((seenL (8:Nat) js).set j true))),(103,Row.mk 1 true false (encA strC (List.map nm (js++ [j])))),(107,Row.mk 1 true false (encA bysC (List.map (fun j↦S.getD j default) (js++ [j]))))]) (by kernel_rfl) (as_eq (f_cons rfl (f_cons rfl (f_cons rfl (f_cons rfl (f_cons rfl (f_cons rfl (f_cons rfl (f_cons rfl (f_cons rfl (f_cons rfl (f_cons rfl (f_cons rfl (f_cons rfl (f_cons rfl (f_cons rfl (f_cons rfl rfl)))))))))))))))) (h_cons rfl (h_cons rfl (h_cons rfl (h_cons rfl (h_cons rfl (h_cons (congrArg boolsA (seenL_set js)) (h_cons rfl (h_cons rfl rfl))))))))))
   ·skip
    refine zE 0 ?_
    refine then_e ?_
    refine round_e ?_
    refine inb_e ?_
    refine then_n ?_
    refine ⟨js,⟨hnd,hjs⟩,Weaks.of [.keep [20,17,16,15,14,13,38,0,1,2,3,4,5,18,19] [3055,16,15,401055,501055,20,103,107]] (s1:=AS.mk [(20,AV.addr 20 0),(17,AV.ref 3055),(16,AV.addr 16 0),(15,AV.addr 15 0),(14,ai (↑k:Int)),(13,ai (↑m:Int)),(38,ao (decide ((↑text.length:Int)>200))),(0,ab seed),(1,ab n),(2,ab need),(3,AV.sl 1 (bytesA order)),(4,AV.sl 1 (bytesA text)),(5,aw nonce),(18,AV.ref 103),(19,AV.ref 107)] [(3055,Row.mk 1 true false (encA bysC S)),(16,Row.mk 1 false true [aw D.pub,aw D.peer,AV.sl 1 (bytesA D.box),AV.sl 1 (encA strC D.holders),AV.sl 1 (wordsA D.digests),ai D.need,aw D.target]),(15,Row.mk 1 false true [ai G.epoch,aw G.head,ai G.thr,AV.ref 401055,AV.ref 501055]),(401055,Row.mk 4 true false (encA memC G.mems)),(501055,Row.mk 7 true false (encA depC G.deps)),(20,Row.mk 1 true false (boolsA (seenL (8:Nat) js))),(103,Row.mk 1 true false (encA strC (List.map nm js))),(107,Row.mk 1 true false (encA bysC (List.map (fun j↦S.getD j default) js)))]) (by kernel_rfl) rfl⟩
  ·skip
   refine zS ?_
   refine zP 1 [yH [(2,{k:=order.length}),(5,{g:=false}),(6,{g:=false}),(7,{b:=false})]] [.keep [66,20,17,16,15,14,13,38,0,1,2,3,4,5,21,18,19] [3055,16,15,401055,501055,20,103,107]] [yI (bytesA_len order),yF ((↑i:Int)<(↑order.length:Int)),yF ((↑i:Int)<(↑order.length:Int)),yF ((↑i:Int)<(↑order.length:Int))] ?_
   refine zF 66 ?_
   refine zE 0 ?_
   refine then_e ?_
   refine round_e ?_
   refine inb_e ?_
   refine then_n ?_
   refine ⟨js,⟨hnd,hjs⟩,Weaks.of [.keep [20,17,16,15,14,13,38,0,1,2,3,4,5,18,19] [3055,16,15,401055,501055,20,103,107]] (s1:=AS.mk [(20,AV.addr 20 0),(17,AV.ref 3055),(16,AV.addr 16 0),(15,AV.addr 15 0),(14,ai (↑k:Int)),(13,ai (↑m:Int)),(38,ao (decide ((↑text.length:Int)>200))),(0,ab seed),(1,ab n),(2,ab need),(3,AV.sl 1 (bytesA order)),(4,AV.sl 1 (bytesA text)),(5,aw nonce),(18,AV.ref 103),(19,AV.ref 107)] [(3055,Row.mk 1 true false (encA bysC S)),(16,Row.mk 1 false true [aw D.pub,aw D.peer,AV.sl 1 (bytesA D.box),AV.sl 1 (encA strC D.holders),AV.sl 1 (wordsA D.digests),ai D.need,aw D.target]),(15,Row.mk 1 false true [ai G.epoch,aw G.head,ai G.thr,AV.ref 401055,AV.ref 501055]),(401055,Row.mk 4 true false (encA memC G.mems)),(501055,Row.mk 7 true false (encA depC G.deps)),(20,Row.mk 1 true false (boolsA (seenL (8:Nat) js))),(103,Row.mk 1 true false (encA strC (List.map nm js))),(107,Row.mk 1 true false (encA bysC (List.map (fun j↦S.getD j default) js)))]) (by kernel_rfl) rfl⟩
 rintro js ⟨hnd,hjs⟩
 have hl1:(encA strC (js.map nm)).length=js.length:=by rw [encA_len (e:=1) (fun _=>rfl),List.length_map];omega
 obtain ⟨E,box,hE,hfew,hall⟩:=hrst js nonce hnd hjs
 have hop:=opened_ret D.pub box
 have hjl:js.length≤m:=by
  have:=nodup_sub (m:=List.range m) hnd fun j h=>List.mem_range.2 (hjs j h)
  rwa [List.length_range] at this
 have h2:=hrst2 (js.map nm) (js.map fun j=>S.getD j default) nonce (by rw [List.length_map];omega) (fun i hi=>by
  rw [List.length_map] at hi
  rw [List.getD_eq_getElem?_getD,List.getElem?_map,List.getElem?_eq_getElem hi]
  show (nm _).length≤1000
  simp [nm]) (fun i hi=>by
  rw [List.length_map] at hi
  rw [List.getD_eq_getElem?_getD,List.getElem?_map,List.getElem?_eq_getElem hi]
  show (S.getD (js[i]) default).length≤1000
  rw [hS8 _ (hjs _ (List.getElem_mem hi))];omega)
 have h3:=hrel2 [109,48] (S.getD 0 default) (by decide) (by rw [hS8 0 (by omega)];omega)
 refine zP 1 [yH [(6,yV (AV.tup [AV.own 1 (bytesA box),ai E]))]] [.keep [26,25,20,17,16,15,14,13,38,0,1,2,3,4,5,18,19] [1115,3055,16,15,401055,501055,20,103,107]] [yB (Ret Tryd.prog (12:Nat) [AV.agg [ai G.epoch,aw G.head,ai G.thr,AV.sl 4 (encA memC G.mems),AV.sl 7 (encA depC G.deps)],aw D.pub,AV.sl 1 (encA strC (List.map nm js)),AV.sl 1 (encA bysC (List.map (fun j↦S.getD j default) js)),aw nonce] (AV.tup [AV.own 1 (bytesA box),ai E])) (hE),yI (valR_bytes box)] ?_
 refine zS ?_
 refine zP 1 [yH [(1,{k:=(encA strC (List.map nm js)).length})]] [.keep [121,26,25,20,17,16,15,14,13,38,0,1,2,3,4,5,18,19] [1115,3055,16,15,401055,501055,20,103,107]] [yR ((encA strC (List.map nm js)).length)] ?_
 refine zD 121 ((↑(encA strC (List.map nm js)).length:Int)<(↑k:Int)) (fun h9=>?_) (fun h9=>?_)
 ·have e:=hfew (by omega)
  subst e
  refine zP 1 [yH [(3,yV (ao true))]] [.keep [12,121,26,25,20,17,16,15,14,13,38,0,1,2,3,4,5,18,19] [1115,3055,16,15,401055,501055,20,103,107]] [yB (((41:Int) == (41:Int))=true) (decide_eq_true (by omega)),yI (awake39_ret),yB (((41:Int) == (41:Int))=true) (decide_eq_true (by omega))] ?_
  refine zR ?_
  refine then_r ?_
  refine zV [yR (Value.bool true)]
 ·obtain ⟨e,o1,o2⟩:=hall (by omega)
  subst e
  rw [o1,o2] at hop
  refine zK ?_
  refine then_n ?_
  refine zP 5 [yH [(3,yV (AV.tup [AV.val (Value.string (ByteArray.mk text.toArray)),ao ((0:Int) == (0:Int))]))],yH [(1,yV (ai (↑sd:Int))),(5,{av:=some (AV.tup [AV.agg [ai G2.epoch,aw G2.head,ai G2.thr,AV.own 4 (encA memC G2.mems),AV.own 7 (encA depC G2.deps)],AV.agg [aw D2.pub,aw D2.peer,AV.sl 1 (bytesA D2.box),AV.sl 1 (encA strC D2.holders),AV.sl 1 (wordsA D2.digests),ai D2.need,aw D2.target],AV.own 1 (encA bysC S2)]),b:=false})],yH [(6,yV (AV.tup [AV.own 1 (bytesA []),ai 18]))],{hs:=[(4,{k:=0}),(5,yV (AV.sl 1 (bytesA (S.getD (0:Nat) default)))),(6,yV (AV.tup [AV.own 1 (bytesA []),ai 18]))],T:=11},yH [(8,yV (AV.val (Value.string (ByteArray.mk text.toArray)))),(9,yV (ao (text == text))),(20,yV (ao true))]] [.keep [12,35,33,30,29,28,27,121,26,25,20,17,16,15,14,13,38,0,1,2,3,4,5,18,19] [30,29,501140,401140,1115,3055,16,15,401055,501055,20,103,107]] [yB (Ret Tryd.prog (13:Nat) [aw D.pub,AV.sl 1 (bytesA box)] (AV.tup [AV.val (Value.string (ByteArray.mk text.toArray)),ao ((0:Int) == (0:Int))])) (hop),yI w4,yB (Ret Tryd.prog (9:Nat) [ai (↑sd:Int),ai (↑m:Int),ai (↑k:Int),AV.sl 1 (bytesA text),ao false] (AV.tup [AV.agg [ai G2.epoch,aw G2.head,ai G2.thr,AV.own 4 (encA memC G2.mems),AV.own 7 (encA depC G2.deps)],AV.agg [aw D2.pub,aw D2.peer,AV.sl 1 (bytesA D2.box),AV.sl 1 (encA strC D2.holders),AV.sl 1 (wordsA D2.digests),ai D2.need,aw D2.target],AV.own 1 (encA bysC S2)])) (hv2),yL 5 5,yL 7 7,yB (Ret Tryd.prog (12:Nat) [AV.agg [ai G2.epoch,aw G2.head,ai G2.thr,AV.sl 4 (encA memC G2.mems),AV.sl 7 (encA depC G2.deps)],aw D2.pub,AV.sl 1 (encA strC (List.map nm js)),AV.sl 1 (encA bysC (List.map (fun j↦S.getD j default) js)),aw nonce] (AV.tup [AV.own 1 (bytesA []),ai 18])) (h2),yI (valR_bytes []),yR (0:Int),yO ((0:Nat)<(encA bysC S).length),yB ((encA bysC S)[(0:Nat)]?=some (AV.sl 1 (bytesA (S.getD (0:Nat) default)))) (encA_at (f:=bysC) (e:=1) (k:=0) (j:=0) (fun _=>rfl) (by omega) rfl),yB (Ret Tryd.prog (10:Nat) [AV.agg [ai G2.epoch,aw G2.head,ai G2.thr,AV.sl 4 (encA memC G2.mems),AV.sl 7 (encA depC G2.deps)],aw D2.pub,AV.val (Value.string (ByteArray.mk #[109,48])),AV.sl 1 (bytesA (S.getD (0:Nat) default))] (AV.tup [AV.own 1 (bytesA []),ai 18])) (h3),yI (valR_bytes []),yB (((0:Int) == (0:Int))=true) (decide_eq_true (by omega)),yB (((0:Int) == (0:Int))=true) (decide_eq_true (by omega)),yB (((0:Int) == (0:Int))=true) (decide_eq_true (by omega)),yB (((0:Int) == (0:Int))=true) (decide_eq_true (by omega)),yB (((0:Int) == (0:Int))=true) (decide_eq_true (by omega)),yR (bytesA text),yB (((0:Int) == (0:Int))=true) (decide_eq_true (by omega)),yB (ao ((ByteArray.mk text.toArray).toList == (ByteArray.mk text.toArray).toList)=ao (text == text)) (str_eq (text) (text)),yB (((0:Int) == (0:Int))=true) (decide_eq_true (by omega)),yB ((text == text)=true) (by simp_all),yB ((text == text)=true) (by simp_all),yB ((text == text)=true) (by simp_all),yB (((18:Int) == (18:Int))=true) (decide_eq_true (by omega)),yB (((18:Int) == (18:Int))=true) (decide_eq_true (by omega)),yB (((18:Int) == (18:Int))=true) (decide_eq_true (by omega)),yB (((18:Int) == (18:Int))=true) (decide_eq_true (by omega)),yI (awake39_ret),yB (((18:Int) == (18:Int))=true) (decide_eq_true (by omega))] ?_
  refine zR ?_
  refine zV [yR (Value.bool true)]
end Go.Proofs.YtejpabdmiagnnaaDoor
