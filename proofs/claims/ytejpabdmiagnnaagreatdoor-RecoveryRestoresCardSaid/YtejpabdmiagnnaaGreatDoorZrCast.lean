import Derived.Test.YtejpabdmiagnnaaGreatDoorZrV8
import Derived.Test.YtejpabdmiagnnaaGreatDoorZrDR
import Derived.Lib.AppendZerosOnto
import Derived.Lib.SliceRun
set_option linter.all false
namespace Go.Proofs.YtejpabdmiagnnaaGreatDoor
open Go.RowKit
set_option maxRecDepth 100000
set_option maxHeartbeats 4000000
set_option linter.unusedVariables false
def modI (v n:Int):Nat:=((v%18446744073709551616)%n).toNat
theorem modI_lt (v:Int) {n:Int} (h:1≤n):(modI v n:Int)<n:=by
 have:=Int.emod_lt_of_pos (v%18446744073709551616) (show 0<n by omega)
 have:=Int.emod_nonneg (v%18446744073709551616) (show n≠0 by omega)
 unfold modI;omega
theorem u64_wv (v:Int):wv (u64 v)=v%18446744073709551616:=by rw [←wv_ofInt,IntKind.wrap_u64]
theorem mod_ret (v n:Int) (h1:1≤n) (h2:n≤9223372036854775807):Ret Tryz.prog 31 [ai v,ai n] (ai (modI v n)):=by
 have hn:wv (u64 n)=n:=by rw [u64_wv];omega
 have hm:=modI_lt v h1
 have e:(wv (u64 v)).tmod (wv (u64 n))=modI v n:=by
  have h0:0≤v%18446744073709551616:=Int.emod_nonneg _ (by decide)
  have:=Int.emod_nonneg (v%18446744073709551616) (show n≠0 by omega)
  rw [hn,u64_wv,Int.tmod_eq_emod_of_nonneg h0];unfold modI;omega
 refine zO Tryz.func31 11 ?_
 refine zQ 2 [{},yH [(1,yV (aw (u64 v))),(3,yV (aw (u64 n))),(5,yV (ai ((wv (u64 v)).tmod (wv (u64 n)))))]] [yI (avw_conv v),yI (avw_conv n),yO (wv (u64 n)≠(0:Int)),yN ((wv (u64 v)).tmod (wv (u64 n)))] ?_
 refine AWP.wkX [.keep [4,0,1] []] (by kernel_rfl) ?_
 refine zR ?_
 refine zV [yJ ((wv (u64 v)).tmod (wv (u64 n))) (↑(modI v n):Int) (by rw [e])]
def blk (key nonce:UInt64) (i:Nat):List UInt8:=words [mac key 5 (words [nonce,u64 i])]
def strm (key nonce:UInt64):Nat->List UInt8
 | 0=>[]
 | k+1=>strm key nonce k++blk key nonce k
theorem blk_len (key nonce:UInt64) (i:Nat):(blk key nonce i).length=8:=by rw [blk,words_len];rfl
theorem strm_len (key nonce:UInt64):∀k,(strm key nonce k).length=8*k
 | 0=>rfl
 | k+1=>by rw [strm,List.length_append,strm_len key nonce k,blk_len];omega
def streamN (n:Int):Nat:=(min (max n 0) 1024).toNat
def stream (key nonce:UInt64) (n:Int):List UInt8:=(strm key nonce ((streamN n+7)/8)).take (streamN n)
theorem stream_len (key nonce:UInt64) (n:Int):(stream key nonce n).length=streamN n:=by
 rw [stream,List.length_take,strm_len];omega
theorem refstream_ret (key nonce:UInt64) (n:Int):Ret Tryz.prog 50 [aw key,aw nonce,ai n] (.own 1 (bytesA (stream key nonce n))):=by
 generalize hm:streamN n=m
 have hv:(if 1024<if 0>n then 0 else n then 1024 else if 0>n then 0 else n)=(m:Int):=by
  rw [←hm];unfold streamN;split<;>split at* <;> omega
 have hm2:m≤1024:=by rw [←hm];unfold streamN;omega
 refine zO Tryz.func50 32 ?_
 refine zQ 3 [{},yH [(2,yV (ai (↑m:Int)))],{}] [yB (ai (if (1024:Int)<if (0:Int)>n then (0:Int) else n then (1024:Int) else if (0:Int)>n then (0:Int) else n)=ai (↑m:Int)) (congrArg (fun n=>AV.val (.int .i64 n)) hv)] ?_
 refine AWP.wkX [.keep [7,2,6,0,1] []] (by kernel_rfl) ?_
 refine zS ?_
 refine zQ 1 [{}] [] ?_
 refine zB 0 ?_
 refine zL (fun (k:Nat)=>(⟨[(2,ai (↑m:Int)),(6,AV.nil),(0,aw key),(1,aw nonce),(8,ai k),(7,AV.ref 28)],[(28,⟨1,true,false,bytesA (strm key nonce k)⟩)]⟩:AS)) (fun k=>(8*k<m+8)) (fun k=>(m+8-8*k)) (0) ?_ (zW [.nil 7 28 1,.keep [2,6,0,1,8,7] [28]]) ?_
 ·omega
 intro k hk
 have hl:=strm_len key nonce k
 refine zS ?_
 refine zQ 1 [yH [(1,{k:=(strm key nonce k).length})]] [yI (bytesA_len (strm key nonce k))] ?_
 refine AWP.wkX [.keep [15,2,6,0,1,8,7] [28]] (by kernel_rfl) ?_
 refine zD 15 ((↑(strm key nonce k).length:Int)<(↑m:Int)) (fun h1=>?_) (fun h1=>?_)
 ·skip
  refine zK ?_
  refine then_n ?_
  refine zS ?_
  refine zB 1 ?_
  refine zX (yH [(4,yV (aw (u64 (↑k:Int)))),(5,yV (AV.arr (wordsA [nonce,u64 (↑k:Int)]))),(6,yV (AV.own 1 (bytesA (words [nonce,u64 (↑k:Int)])))),(7,yV (aw (mac key (5:Int) (words [nonce,u64 (↑k:Int)])))),(8,yV (AV.arr (wordsA [mac key (5:Int) (words [nonce,u64 (↑k:Int)])]))),(9,yV (AV.own 1 (bytesA (words [mac key (5:Int) (words [nonce,u64 (↑k:Int)])])))),(10,yV (AV.arr (bytesA (strm key nonce k++words [mac key (5:Int) (words [nonce,u64 (↑k:Int)])]))))]) [yI (avw_conv ((↑k:Int))),yR (wordsA [nonce,u64 (↑k:Int)]),yI (refwords_ret [nonce,u64 (↑k:Int)] (by simp only [List.length_cons,List.length_nil];omega)),yI (valR_bytes (words [nonce,u64 (↑k:Int)])),yI (refmac_ret key ((5:Int)) (words [nonce,u64 (↑k:Int)]) (by simp only [List.length_cons,List.length_nil,words_len];omega)),yR [aw (mac key (5:Int) (words [nonce,u64 (↑k:Int)]))],yI (refwords_ret [mac key (5:Int) (words [nonce,u64 (↑k:Int)])] (by simp only [List.length_cons,List.length_nil];omega)),yI (valR_bytes (words [mac key (5:Int) (words [nonce,u64 (↑k:Int)])])),yB (bytesA (strm key nonce k)++bytesA (words [mac key (5:Int) (words [nonce,u64 (↑k:Int)])])=bytesA (strm key nonce k++words [mac key (5:Int) (words [nonce,u64 (↑k:Int)])])) (bytesA_app _ _),yB (((bytesA (strm key nonce k)).length+(bytesA (words [mac key (5:Int) (words [nonce,u64 (↑k:Int)])])).length)*(1:Nat)≤(140737488355328:Nat)) (by simp only [bytesA_len,List.length_cons,List.length_nil,words_len];omega)] ?_
  refine inb_n ?_
  refine then_n ?_
  refine zX (yH [(1,yV (ai ((↑k:Int)+1)))]) [yN ((↑k:Int)+1)] ?_
  refine round_n (k+1) (by omega) (by omega) (zW [.keep [2,6,0,1,8,7] [28]])
 ·have e:k=(m+7)/8:=by omega
  refine zE 0 ?_
  refine then_e ?_
  refine round_e ?_
  refine inb_e ?_
  refine then_n ?_
  refine zQ 1 [yH [(2,{m:=m})]] [yR (↑m:Int),yB (m≤(bytesA (strm key nonce k)).length) (by simp only [bytesA_len];omega)] ?_
  refine AWP.wkX [.keep [6,15,2,0,1,8,7] [28]] (by kernel_rfl) ?_
  refine zR ?_
  refine zV [yB (List.take m (bytesA (strm key nonce k))=bytesA (stream key nonce n)) (by rw [bytesA_take,stream,hm,←e])]
theorem bytes_ret (seed n:Int):Ret Tryz.prog 15 [ai seed,ai n] (.own 1 (bytesA (stream (u64 seed+1) 7 n))):=by
 have hs:streamN (if 0>if 1024<n then 1024 else n then 0 else if 1024<n then 1024 else n)=streamN n:=by
  unfold streamN;split<;>split at* <;> omega
 refine zO Tryz.func15 12 ?_
 refine zQ 2 [{},yH [(1,yV (aw (u64 seed))),(2,yV (aw (u64 seed+1))),(6,yV (AV.own 1 (bytesA (stream (u64 seed+1) 7 (if (0:Int)>if (1024:Int)<n then (1024:Int) else n then (0:Int) else if (1024:Int)<n then (1024:Int) else n)))))]] [yI (avw_conv seed),yI (avw_add (u64 seed) 1),yI (refstream_ret (u64 seed+1) 7 (if (0:Int)>if (1024:Int)<n then (1024:Int) else n then (0:Int) else if (1024:Int)<n then (1024:Int) else n)),yI (valR_bytes (stream (u64 seed+1) 7 (if (0:Int)>if (1024:Int)<n then (1024:Int) else n then (0:Int) else if (1024:Int)<n then (1024:Int) else n)))] ?_
 refine AWP.wkX [.keep [4,0,1] [11]] (by kernel_rfl) ?_
 refine zR ?_
 refine zV [yB (bytesA (stream (u64 seed+1) 7 (if (0:Int)>if (1024:Int)<n then (1024:Int) else n then (0:Int) else if (1024:Int)<n then (1024:Int) else n))=bytesA (stream (u64 seed+1) 7 n)) (by rw [stream,stream,hs])]
end Go.Proofs.YtejpabdmiagnnaaGreatDoor
namespace Go.Proofs.YtejpabdmiagnnaaGreatDoor
open Go.RowKit
set_option maxHeartbeats 4000000 in
theorem grow_any (n:Nat) (w:World) (h0:0<n) (hn:n≤70368744177664) :
  Calls Tryz.prog 143 #[.slice none 0 0,.int .i64 n] w fun e w'=>NewBytes w e w' []:=by
 obtain ⟨i0,hi0,hz0,hs0,hb0⟩:∃i:TypeInfo,Tryz.prog.info? 5=some i∧i.zero=some (.int .u8 0)∧i.size=1∧i.bytes=1:=by
  have h:=info8
  cases hp:Tryz.prog.info? 5 with
  | none=>rw [hp] at h;cases h
  | some i=>rw [hp] at h;simp at h;exact ⟨i,rfl,h⟩
 have hold:(Builtin.firstCells i0.size 0 (.slice none 0 0)).run Tryz.prog w.drew= .ok (([]:List Value)).toArray w.drew:=run_firstCells_none w.drew i0.size 0 0 0
 have hrz:∀ty,(Builtin.append_ #[31,3] ty #[.slice none 0 0,.int .i64 n]).run Tryz.prog w =
   .ok (.slice (some ⟨w.heap.size,0,none⟩) n (grownCap w n 0 5)) (w.drew.alloc (.cells (#[]++Builtin.zeroCells (Value.int .u8 0).cells n++Builtin.zeroCells (Value.int .u8 0).cells (grownCap w n 0 5-n)) 5)):=fun ty=>by
  have h:=Lib.run_append_grow_zeros w 31 3 ty 5 i0 (.int .u8 0) .i64 .i64 Tryz.underlying31 Tryz.underlying3 hi0 hz0 none 0 0 [] hold n h0 (by omega) (by omega) (by omega) (by rw [hb0];omega)
   (by have:=growslice_fits (bytes:=i0.bytes) (show 0<0+n by omega) (by rw [hb0];omega);exact this)
  simpa using h
 have hGn:n≤grownCap w n 0 5:=grownCap_ge w _ _ _
 obtain ⟨G,hG⟩:∃G,G=grownCap w n 0 5:=⟨_,rfl⟩
 rw [←hG] at hrz hGn
 have hG63:G≤9223372036854775807:=by
  have:=grownCap_le_maxLen w n 0 5 (by unfold maxLen;omega)
  rw [←hG] at this
  unfold maxLen at this
  omega
 clear hold hG
 have h1:¬((n:Int)<0):=by omega
 have h3:wrap64 ((n:Int)-0)=(n:Int):=by unfold wrap64;omega
 have h4:(n:Int)>0:=by omega
 go_enter Tryz.func143,Tryz.ntmps143
 go_wp2_with (at_builtin;refine Lib.wpList_append_run _ rfl _ _ _ _ rfl _ _ rfl rfl _ _ (hrz _) ?_)
 all_goals (go_ret;exact ⟨_,rfl,.inr ⟨w.heap.size,G,_,_,(0,0),rfl,Nat.le_refl _,heap_alloc_new w.drew _,by simp [bvs],by unfold maxLen;omega,by simp [Builtin.zeroCells];omega,by simp [bvs],by simp⟩,rfl,rfl,rfl,by simp,fun b hb=>Below.heap_alloc w.drew _ b hb⟩)
theorem grow0_any (w:World) :
  Calls Tryz.prog 143 #[.slice none 0 0,.int .i64 0] w fun e w'=>NewBytes w e w' []:=by
 go_enter Tryz.func143,Tryz.ntmps143
 go_wp2
 go_ret
 exact ⟨_,rfl,.inl ⟨rfl,rfl⟩,Below.refl _ _⟩
theorem grow_ret (n:Nat) (hn:n≤70368744177664):Ret Tryz.prog 143 [.nil,ai n] (.own 1 (bytesA [])):=by
 refine Ret.of_bytes fun w vs hl hr=>?_
 obtain ⟨a,b,rfl⟩:=args2 hl rfl
 have h0:=hr 0 a _ rfl rfl
 have ha:a= .slice none 0 0:=by cases h0;rfl
 rw [ha,rep_val (hr 1 b _ rfl rfl)]
 by_cases h:n=0
 ·subst h;exact grow0_any w
 ·exact grow_any n w (by omega) hn
end Go.Proofs.YtejpabdmiagnnaaGreatDoor
