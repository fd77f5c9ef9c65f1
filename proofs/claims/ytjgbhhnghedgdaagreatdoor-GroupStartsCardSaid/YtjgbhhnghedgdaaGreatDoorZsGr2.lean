import Derived.Test.YtjgbhhnghedgdaaGreatDoorZsV8
import Derived.Test.YtjgbhhnghedgdaaGreatDoorZsGr1
set_option linter.all false
namespace Go.Proofs.YtjgbhhnghedgdaaGreatDoor
open Go.RowKit
set_option maxRecDepth 100000
set_option maxHeartbeats 4000000
set_option linter.unusedVariables false
structure Bare (e:Ent):Prop where
 thr:e.thr=0
 dpub:e.dep.pub=0
 dpeer:e.dep.peer=0
 dbox:e.dep.box= []
 dhol:e.dep.holders= []
 ddig:e.dep.digests= []
 dneed:e.dep.need=0
 dtar:e.dep.target=0
 pub:e.pub=0
 tar:e.target=0
structure Adds (e:Ent):Prop where
 kind:e.kind=1
 name:nmE e.name=0
 key:keyE e.kh=0
 e1:1≤e.epoch
 e2:e.epoch≤2147483647
 bare:Bare e
structure Rems (e:Ent):Prop where
 kind:e.kind=2
 name:nmE e.name=0
 kh:e.kh=0
 kr:e.kr=0
 e1:1≤e.epoch
 e2:e.epoch≤2147483647
 bare:Bare e
theorem nm_len {x:List UInt8} (h:nmE x=0):1≤x.length∧x.length≤32:=by
 apply Classical.byContradiction
 intro q
 have:=nm_short (x:=x) (by omega)
 omega
theorem nm_valid {x:List UInt8} (h:nmE x=0):Lib.validD x=true:=by
 have:=nm_len h
 cases e:Lib.validD x with
 | true=>rfl
 | false=>have:=nm_text (x:=x) (by omega) e;omega
theorem wv0 {x:UInt64} (h:x=0):wv x=0:=by rw [h];rfl
theorem strangeA_ret (e:Ent) (h:Adds e):Ret Tryz.prog 73 [.agg (entC e)] (ao false):=by
 have hk:=h.kind
 obtain ⟨t,d1,d2,d3,d4,d5,d6,d7,p1,p2⟩:=h.bare
 obtain ⟨f,hf⟩:∃f:Ent,f= {e with name:=[],kh:=0,kr:=0}:=⟨_,rfl⟩
 have f1:f.name= []:=by rw [hf]
 have f2:f.kh=0:=by rw [hf]
 have f3:wv f.kr=0:=wv0 (by rw [hf])
 have f4:f.thr=0:=by rw [hf];exact t
 have g1:wv f.dep.pub=0:=wv0 (by rw [hf];exact d1)
 have g2:wv f.dep.peer=0:=wv0 (by rw [hf];exact d2)
 have g3:f.dep.box.length=0:=by rw [hf];show e.dep.box.length=0;rw [d3];rfl
 have g4:(encA strC f.dep.holders).length=0:=by rw [hf];show (encA strC e.dep.holders).length=0;rw [d4];rfl
 have g5:f.dep.digests.length=0:=by rw [hf];show e.dep.digests.length=0;rw [d5];rfl
 have g6:f.dep.need=0:=by rw [hf];exact d6
 have g7:wv f.dep.target=0:=wv0 (by rw [hf];exact d7)
 have g8:wv f.pub=0:=wv0 (by rw [hf];exact p1)
 have g9:wv f.target=0:=wv0 (by rw [hf];exact p2)
 refine zO Tryz.func73 94 ?_
 refine zQ 1 [{}] [] ?_
 refine zS ?_
 refine zQ 1 [{}] [] ?_
 refine zB 0 ?_
 refine zP 1 [{}] [.keep [7,6,2,1,0] [1]] [] ?_
 refine zTb 7 (e.kind == (1:Int)) (decide_eq_true (by omega)) ?_
 refine zQ 1 [{}] [yB ((4:Nat)≤(List.map (kill0 (1:Nat)) (entC e)).length) (Nat.le_of_ble_eq_true rfl)] ?_
 refine zX (yH [(2,yV (AV.arr (entC f)))]) [yB (List.take 4 ((List.map (kill0 (1:Nat)) (entC e)).set (3:Nat) (AV.val (Value.string (ByteArray.mk #[]))))++ [ai 0,au0]++List.drop 6 ((List.map (kill0 (1:Nat)) (entC e)).set (3:Nat) (AV.val (Value.string (ByteArray.mk #[]))))=entC f) (by rw [hf];rfl),yB ((6:Nat)≤((List.map (kill0 (1:Nat)) (entC e)).set (3:Nat) (AV.val (Value.string (ByteArray.mk #[])))).length) (Nat.le_of_ble_eq_true rfl)] ?_
 refine inb_n ?_
 refine then_n ?_
 refine zP 3 [{},yH [(2,yV (ao (f.dep.pub != 0))),(4,{g:=false}),(5,{g:=false}),(6,{av:=some (ao (f.dep.peer != 0)),g:=false}),(7,{b:=false}),(9,{g:=false}),(10,{g:=false}),(11,{k:=f.dep.box.length,g:=false}),(12,{g:=false}),(13,{b:=false}),(15,{g:=false}),(16,{g:=false}),(17,{k:=(encA strC f.dep.holders).length,g:=false}),(18,{g:=false}),(19,{b:=false}),(21,{g:=false}),(22,{g:=false}),(23,{k:=f.dep.digests.length,g:=false}),(24,{g:=false}),(25,{b:=false}),(27,{g:=false}),(28,{g:=false}),(29,{g:=false}),(30,{b:=false}),(32,{g:=false}),(33,{g:=false}),(34,{av:=some (ao (f.dep.target != 0)),g:=false}),(35,{b:=false})],yH [(2,{g:=false}),(3,{g:=false}),(4,{av:=some (ao (f.name != [])),g:=false}),(5,{b:=false}),(7,{g:=false}),(8,{g:=false}),(9,{g:=false}),(10,{av:=some (ao false),g:=false}),(11,{b:=false}),(13,{g:=false}),(14,{g:=false}),(15,{g:=false}),(16,{b:=false}),(18,{g:=false}),(19,{g:=false}),(20,{av:=some (ao (f.pub != 0)),g:=false}),(21,{b:=false}),(23,{g:=false}),(24,{g:=false}),(25,{av:=some (ao (f.target != 0)),g:=false}),(26,{b:=false})]] [.keep [2,4,3,7,6,1,0] [3,1]] (yL 7 7::yI (avw_ne f.dep.pub 0)::yB ((f.dep.pub != 0)=false) (by simp_all)::yB ((f.dep.pub != 0)=false) (by simp_all)::yB ((f.dep.pub != 0)=false) (by simp_all)::yB (ao (wv f.dep.peer != (0:Int))=ao (f.dep.peer != 0)) (by simp_all)::yB ((f.dep.pub != 0)=false) (by simp_all)::yB ((f.dep.peer != 0)=false) (by simp_all)::yB ((f.dep.peer != 0)=false) (by simp_all)::yB ((f.dep.peer != 0)=false) (by simp_all)::yI (bytesA_len f.dep.box)::yB ((f.dep.peer != 0)=false) (by simp_all)::yB ((f.dep.peer != 0)=false) (by simp_all)::yB (((↑f.dep.box.length:Int) != (0:Int))=false) (by simp_all)::yB (((↑f.dep.box.length:Int) != (0:Int))=false) (by simp_all)::yB (((↑f.dep.box.length:Int) != (0:Int))=false) (by simp_all)::yR ((encA strC f.dep.holders).length)::yB (((↑f.dep.box.length:Int) != (0:Int))=false) (by simp_all)::yB (((↑f.dep.box.length:Int) != (0:Int))=false) (by simp_all)::yB (((↑(encA strC f.dep.holders).length:Int) != (0:Int))=false) (by simp_all)::yB (((↑(encA strC f.dep.holders).length:Int) != (0:Int))=false) (by simp_all)::yB (((↑(encA strC f.dep.holders).length:Int) != (0:Int))=false) (by simp_all)::yB ((wordsA f.dep.digests).length=f.dep.digests.length) (wordsA_len _)::yB (((↑(encA strC f.dep.holders).length:Int) != (0:Int))=false) (by simp_all)::yB (((↑(encA strC f.dep.holders).length:Int) != (0:Int))=false) (by simp_all)::yB (((↑f.dep.digests.length:Int) != (0:Int))=false) (by simp_all)::yB (((↑f.dep.digests.length:Int) != (0:Int))=false) (by simp_all)::yB (((↑f.dep.digests.length:Int) != (0:Int))=false) (by simp_all)::yB (((↑f.dep.digests.length:Int) != (0:Int))=false) (by simp_all)::yB ((f.dep.need != (0:Int))=false) (by simp_all)::yB ((f.dep.need != (0:Int))=false) (by simp_all)::yB ((f.dep.need != (0:Int))=false) (by simp_all)::yB (ao (wv f.dep.target != (0:Int))=ao (f.dep.target != 0)) (by simp_all)::yB ((f.dep.need != (0:Int))=false) (by simp_all)::yB ((f.dep.target != 0)=false) (by simp_all)::yB ((f.dep.target != 0)=false) (by simp_all)::yB ((f.dep.target != 0)=false) (by simp_all)::yB (ao (!(ByteArray.mk f.name.toArray).toList == (ByteArray.mk #[]).toList)=ao (f.name != [])) (by simp_all)::yB ((f.dep.target != 0)=false) (by simp_all)::yB ((f.name != [])=false) (by simp_all)::yB ((f.name != [])=false) (by simp_all)::yB ((f.name != [])=false) (by simp_all)::yB ((f.name != [])=false) (by simp_all)::yB (ao (!(f.kh == (0:Int) && (wv f.kr == (0:Int) && true)))=ao false) (by simp_all)::yB ((f.name != [])=false) (by simp_all)::yR false::yR false::yR false::yR false::yB ((f.thr != (0:Int))=false) (by simp_all)::yB ((f.thr != (0:Int))=false) (by simp_all)::yB ((f.thr != (0:Int))=false) (by simp_all)::yB (ao (wv f.pub != (0:Int))=ao (f.pub != 0)) (by simp_all)::yB ((f.thr != (0:Int))=false) (by simp_all)::yB ((f.pub != 0)=false) (by simp_all)::yB ((f.pub != 0)=false) (by simp_all)::yB ((f.pub != 0)=false) (by simp_all)::yB (ao (wv f.target != (0:Int))=ao (f.target != 0)) (by simp_all)::yB ((f.pub != 0)=false) (by simp_all):: []) ?_
 refine zR ?_
 have g0:f.target=0:=by rw [hf];exact p2
 refine zV [yB (Value.bool (f.target != 0)=Value.bool false) (by simp [g0])]
theorem strangeR_ret (e:Ent) (h:Rems e):Ret Tryz.prog 73 [.agg (entC e)] (ao false):=by
 have hk:=h.kind
 obtain ⟨t,d1,d2,d3,d4,d5,d6,d7,p1,p2⟩:=h.bare
 obtain ⟨f,hf⟩:∃f:Ent,f= {e with name:=[]}:=⟨_,rfl⟩
 have f1:f.name= []:=by rw [hf]
 have f2:f.kh=0:=by rw [hf];exact h.kh
 have f3:wv f.kr=0:=wv0 (by rw [hf];exact h.kr)
 have f4:f.thr=0:=by rw [hf];exact t
 have g1:wv f.dep.pub=0:=wv0 (by rw [hf];exact d1)
 have g2:wv f.dep.peer=0:=wv0 (by rw [hf];exact d2)
 have g3:f.dep.box.length=0:=by rw [hf];show e.dep.box.length=0;rw [d3];rfl
 have g4:(encA strC f.dep.holders).length=0:=by rw [hf];show (encA strC e.dep.holders).length=0;rw [d4];rfl
 have g5:f.dep.digests.length=0:=by rw [hf];show e.dep.digests.length=0;rw [d5];rfl
 have g6:f.dep.need=0:=by rw [hf];exact d6
 have g7:wv f.dep.target=0:=wv0 (by rw [hf];exact d7)
 have g8:wv f.pub=0:=wv0 (by rw [hf];exact p1)
 have g9:wv f.target=0:=wv0 (by rw [hf];exact p2)
 refine zO Tryz.func73 94 ?_
 refine zQ 1 [{}] [] ?_
 refine zS ?_
 refine zQ 1 [{}] [] ?_
 refine zB 0 ?_
 refine zP 1 [{}] [.keep [7,6,2,1,0] [1]] [] ?_
 refine zFb 7 (e.kind == (1:Int)) (decide_eq_false (by omega)) ?_
 refine zQ 1 [{}] [] ?_
 refine zTb 12 (e.kind == (2:Int)) (decide_eq_true (by omega)) ?_
 refine zX (yH [(1,yV (AV.arr (entC f)))]) [yB ((List.map (kill0 (1:Nat)) (entC e)).set (3:Nat) (AV.val (Value.string (ByteArray.mk #[])))=entC f) (by rw [hf];rfl),yB ((4:Nat)≤(List.map (kill0 (1:Nat)) (entC e)).length) (Nat.le_of_ble_eq_true rfl)] ?_
 refine inb_n ?_
 refine then_n ?_
 refine zP 3 [{},yH [(2,yV (ao (f.dep.pub != 0))),(4,{g:=false}),(5,{g:=false}),(6,{av:=some (ao (f.dep.peer != 0)),g:=false}),(7,{b:=false}),(9,{g:=false}),(10,{g:=false}),(11,{k:=f.dep.box.length,g:=false}),(12,{g:=false}),(13,{b:=false}),(15,{g:=false}),(16,{g:=false}),(17,{k:=(encA strC f.dep.holders).length,g:=false}),(18,{g:=false}),(19,{b:=false}),(21,{g:=false}),(22,{g:=false}),(23,{k:=f.dep.digests.length,g:=false}),(24,{g:=false}),(25,{b:=false}),(27,{g:=false}),(28,{g:=false}),(29,{g:=false}),(30,{b:=false}),(32,{g:=false}),(33,{g:=false}),(34,{av:=some (ao (f.dep.target != 0)),g:=false}),(35,{b:=false})],yH [(2,{g:=false}),(3,{g:=false}),(4,{av:=some (ao (f.name != [])),g:=false}),(5,{b:=false}),(7,{g:=false}),(8,{g:=false}),(9,{g:=false}),(10,{g:=false}),(11,{b:=false}),(13,{g:=false}),(14,{g:=false}),(15,{g:=false}),(16,{b:=false}),(18,{g:=false}),(19,{g:=false}),(20,{av:=some (ao (f.pub != 0)),g:=false}),(21,{b:=false}),(23,{g:=false}),(24,{g:=false}),(25,{av:=some (ao (f.target != 0)),g:=false}),(26,{b:=false})]] [.keep [2,4,3,12,7,6,1,0] [3,1]] (yL 7 7::yI (avw_ne f.dep.pub 0)::yB ((f.dep.pub != 0)=false) (by simp_all)::yB ((f.dep.pub != 0)=false) (by simp_all)::yB ((f.dep.pub != 0)=false) (by simp_all)::yB (ao (wv f.dep.peer != (0:Int))=ao (f.dep.peer != 0)) (by simp_all)::yB ((f.dep.pub != 0)=false) (by simp_all)::yB ((f.dep.peer != 0)=false) (by simp_all)::yB ((f.dep.peer != 0)=false) (by simp_all)::yB ((f.dep.peer != 0)=false) (by simp_all)::yI (bytesA_len f.dep.box)::yB ((f.dep.peer != 0)=false) (by simp_all)::yB ((f.dep.peer != 0)=false) (by simp_all)::yB (((↑f.dep.box.length:Int) != (0:Int))=false) (by simp_all)::yB (((↑f.dep.box.length:Int) != (0:Int))=false) (by simp_all)::yB (((↑f.dep.box.length:Int) != (0:Int))=false) (by simp_all)::yR ((encA strC f.dep.holders).length)::yB (((↑f.dep.box.length:Int) != (0:Int))=false) (by simp_all)::yB (((↑f.dep.box.length:Int) != (0:Int))=false) (by simp_all)::yB (((↑(encA strC f.dep.holders).length:Int) != (0:Int))=false) (by simp_all)::yB (((↑(encA strC f.dep.holders).length:Int) != (0:Int))=false) (by simp_all)::yB (((↑(encA strC f.dep.holders).length:Int) != (0:Int))=false) (by simp_all)::yB ((wordsA f.dep.digests).length=f.dep.digests.length) (wordsA_len _)::yB (((↑(encA strC f.dep.holders).length:Int) != (0:Int))=false) (by simp_all)::yB (((↑(encA strC f.dep.holders).length:Int) != (0:Int))=false) (by simp_all)::yB (((↑f.dep.digests.length:Int) != (0:Int))=false) (by simp_all)::yB (((↑f.dep.digests.length:Int) != (0:Int))=false) (by simp_all)::yB (((↑f.dep.digests.length:Int) != (0:Int))=false) (by simp_all)::yB (((↑f.dep.digests.length:Int) != (0:Int))=false) (by simp_all)::yB ((f.dep.need != (0:Int))=false) (by simp_all)::yB ((f.dep.need != (0:Int))=false) (by simp_all)::yB ((f.dep.need != (0:Int))=false) (by simp_all)::yB (ao (wv f.dep.target != (0:Int))=ao (f.dep.target != 0)) (by simp_all)::yB ((f.dep.need != (0:Int))=false) (by simp_all)::yB ((f.dep.target != 0)=false) (by simp_all)::yB ((f.dep.target != 0)=false) (by simp_all)::yB ((f.dep.target != 0)=false) (by simp_all)::yB (ao (!(ByteArray.mk f.name.toArray).toList == (ByteArray.mk #[]).toList)=ao (f.name != [])) (by simp_all)::yB ((f.dep.target != 0)=false) (by simp_all)::yB ((f.name != [])=false) (by simp_all)::yB ((f.name != [])=false) (by simp_all)::yB ((f.name != [])=false) (by simp_all)::yB ((f.name != [])=false) (by simp_all)::yB ((f.name != [])=false) (by simp_all)::yB ((!(f.kh == (0:Int) && (wv f.kr == (0:Int) && true)))=false) (by simp_all)::yB ((!(f.kh == (0:Int) && (wv f.kr == (0:Int) && true)))=false) (by simp_all)::yB ((!(f.kh == (0:Int) && (wv f.kr == (0:Int) && true)))=false) (by simp_all)::yB ((!(f.kh == (0:Int) && (wv f.kr == (0:Int) && true)))=false) (by simp_all)::yB ((f.thr != (0:Int))=false) (by simp_all)::yB ((f.thr != (0:Int))=false) (by simp_all)::yB ((f.thr != (0:Int))=false) (by simp_all)::yB (ao (wv f.pub != (0:Int))=ao (f.pub != 0)) (by simp_all)::yB ((f.thr != (0:Int))=false) (by simp_all)::yB ((f.pub != 0)=false) (by simp_all)::yB ((f.pub != 0)=false) (by simp_all)::yB ((f.pub != 0)=false) (by simp_all)::yB (ao (wv f.target != (0:Int))=ao (f.target != 0)) (by simp_all)::yB ((f.pub != 0)=false) (by simp_all):: []) ?_
 refine zR ?_
 have g0:f.target=0:=by rw [hf];exact p2
 refine zV [yB (Value.bool (f.target != 0)=Value.bool false) (by simp [g0])]
theorem fieldsA_ret (e:Ent) (h:Adds e):Ret Tryz.prog 74 [.agg (entC e)] (.tup [.own 1 (encA itmsC [[textI e.name],[byteI (keyD e.kh e.kr)]]),ai 0]):=by
 have hk:=h.kind
 have h1:=h.name
 have h2:=h.key
 have hn:=nm_len h1
 have hz:=str_le e.name (by omega)
 have hkl:=keyD_len e.kh e.kr
 refine zO Tryz.func74 77 ?_
 refine zQ 1 [{}] [] ?_
 refine zS ?_
 refine zQ 1 [{}] [] ?_
 refine zB 0 ?_
 refine zP 1 [{}] [.keep [10,9,3,2,1,0] [1]] [] ?_
 refine zTb 10 (e.kind == (1:Int)) (decide_eq_true (by omega)) ?_
 refine zS ?_
 refine zP 2 [yH [(2,yV (ai (nmE e.name)))],yH [(1,yV (ao false))]] [.keep [16,4,10,9,3,2,1,0] [1]] [yI (gname_ret e.name (by omega)),yB (ao (nmE e.name != (0:Int))=ao false) (by simp [h1])] ?_
 refine zF 16 ?_
 refine zK ?_
 refine then_n ?_
 refine zP 1 [yH [(2,yV (AV.tup [AV.own 1 (bytesA (keyD e.kh e.kr)),ai (keyE e.kh)]))]] [.keep [6,5,16,4,10,9,3,2,1,0] [1021,1]] [yI (encodekey_ret e.kh e.kr),yI (valR_bytes (keyD e.kh e.kr))] ?_
 refine zS ?_
 refine zQ 1 [yH [(1,yV (ao false))]] [yB (ao (keyE e.kh != (0:Int))=ao false) (by simp [h2])] ?_
 refine zF 25 ?_
 refine zK ?_
 refine then_n ?_
 refine zP 1 [yH [(2,{av:=some (AV.own 3 (encA itmC [textI e.name])),b:=false}),(4,{av:=some (AV.own 3 (encA itmC [byteI (keyD e.kh e.kr)])),b:=false})]] [.keep [3,2,25,6,5,16,4,10,9,1,0] [32,1]] [yI (text_ret e.name),yI (byte_ret (keyD e.kh e.kr) (by omega))] ?_
 refine zR ?_
 refine inb_r ?_
 refine then_r ?_
 refine zV [yR (encA itmsC [[textI e.name],[byteI (keyD e.kh e.kr)]]),yR (Value.int .i64 0)]
theorem fieldsR_ret (e:Ent) (h:Rems e):Ret Tryz.prog 74 [.agg (entC e)] (.tup [.own 1 (encA itmsC [[textI e.name]]),ai 0]):=by
 have hk:=h.kind
 have h1:=h.name
 have hn:=nm_len h1
 have hz:=str_le e.name (by omega)
 refine zO Tryz.func74 77 ?_
 refine zQ 1 [{}] [] ?_
 refine zS ?_
 refine zQ 1 [{}] [] ?_
 refine zB 0 ?_
 refine zP 1 [{}] [.keep [10,9,3,2,1,0] [1]] [] ?_
 refine zFb 10 (e.kind == (1:Int)) (decide_eq_false (by omega)) ?_
 refine zQ 1 [{}] [] ?_
 refine zTb 33 (e.kind == (2:Int)) (decide_eq_true (by omega)) ?_
 refine zS ?_
 refine zP 2 [yH [(2,yV (ai (nmE e.name)))],yH [(1,yV (ao false))]] [.keep [39,7,33,10,9,3,2,1,0] [1]] [yI (gname_ret e.name (by omega)),yB (ao (nmE e.name != (0:Int))=ao false) (by simp [h1])] ?_
 refine zF 39 ?_
 refine zK ?_
 refine then_n ?_
 refine zP 1 [yH [(2,{av:=some (AV.own 3 (encA itmC [textI e.name])),b:=false})]] [.keep [3,2,39,7,33,10,9,1,0] [44,1]] [yI (text_ret e.name)] ?_
 refine zR ?_
 refine inb_r ?_
 refine then_r ?_
 refine zV [yR (encA itmsC [[textI e.name]]),yR (Value.int .i64 0)]
def bodI (e:Ent):List Itm:=[uintI (u64 e.epoch),uintI e.prev,uintI (u64 e.kind),textI e.name]++if e.kind=1 then [byteI (keyD e.kh e.kr)] else []
def bodB (e:Ent):List UInt8:=encL (arrI (u64 (bodI e).length)::bodI e)
theorem bodyA_ret (e:Ent) (h:Adds e):Ret Tryz.prog 39 [.agg (entC e)] (.tup [.own 1 (bytesA (bodB e)),ai 0]):=by
 have hk:=h.kind
 have h1:=h.name
 have hn:=nm_len h1
 have hv:=nm_valid h1
 have q1:=h.e1
 have q2:=h.e2
 have hkl:=keyD_len e.kh e.kr
 have hb:bodI e= [uintI (u64 e.epoch),uintI e.prev,uintI (u64 e.kind),textI e.name,byteI (keyD e.kh e.kr)]:=by unfold bodI;rw [if_pos hk];rfl
 have hlf:∀x∈bodI e,LeafI x:=by
  rw [hb]
  intro x hx
  simp only [List.mem_cons,List.not_mem_nil,or_false] at hx
  rcases hx with rfl|rfl|rfl|rfl|rfl
  ·exact .uint _
  ·exact .uint _
  ·exact .uint _
  ·exact .text (by omega) hv
  ·exact .byte (by omega)
 have hl5:(bodI e).length=5:=by rw [hb];rfl
 obtain ⟨v1,v2,v3,v4⟩:=plain_vals hlf (by omega) (by omega)
 have ha:=array_ret _ v1 v2 v3
 rw [v4] at v3 ha
 have hd:encD (arrI (u64 (bodI e).length)::bodI e)=bodB e:=by unfold encD;rw [if_pos v3];rfl
 have hen:=encode_ret (arrI (u64 (bodI e).length)::bodI e) (by rw [List.length_cons];omega) (fun x hx=>by
  rcases List.mem_cons.1 hx with rfl|hx
  ·exact .inr (.inr (.inr rfl))
  ·rcases (hlf x hx).kind with q|q|q
   ·exact .inl q
   ·exact .inr (.inl q)
   ·exact .inr (.inr (.inl q))) (fun x hx=>by
  rcases List.mem_cons.1 hx with rfl|hx
  ·exact Nat.zero_le _
  ·have:=(hlf x hx).dat;omega)
 rw [hd,v3] at hen
 generalize arrI (u64 (bodI e).length)::bodI e=A at *
 rw [hb] at ha
 refine zO Tryz.func39 60 ?_
 refine zQ 1 [{}] [] ?_
 refine zS ?_
 refine zP 1 [yH [(4,{g:=false}),(5,{g:=false}),(6,{g:=false}),(7,{b:=false})]] [.keep [15,3,2,1,0] [1]] [yF (e.kind<1),yF (e.kind<1),yF (e.kind<1),yF (e.kind<1)] ?_
 refine zFd 15 (e.kind>5) ?_
 refine zK ?_
 refine then_n ?_
 refine zS ?_
 refine zP 1 [yH [(1,yV (ao false))]] [.keep [17,15,3,2,1,0] [1]] [yI (strangeA_ret e (by assumption))] ?_
 refine zF 17 ?_
 refine zK ?_
 refine then_n ?_
 refine zS ?_
 refine zP 1 [yH [(4,{g:=false}),(5,{g:=false}),(6,{g:=false}),(7,{b:=false})]] [.keep [25,17,15,3,2,1,0] [1]] [yF (e.epoch<1),yF (e.epoch<1),yF (e.epoch<1),yF (e.epoch<1)] ?_
 refine zFd 25 (e.epoch>2147483647) ?_
 refine zK ?_
 refine then_n ?_
 refine zP 1 [yH [(1,{av:=some (AV.tup [AV.own 1 (encA itmsC [[textI e.name],[byteI (keyD e.kh e.kr)]]),ai 0]),b:=false})]] [.keep [5,4,25,17,15,3,2,1,0] [1028,1]] [yI (fieldsA_ret e (by assumption))] ?_
 refine zS ?_
 refine zQ 1 [{}] [] ?_
 refine zFb 32 ((0:Int) != (0:Int)) rfl ?_
 refine zK ?_
 refine then_n ?_
 refine zP 2 [{hs:=[(2,yV (aw (u64 e.epoch))),(3,{av:=some (AV.own 3 (encA itmC [uintI (u64 e.epoch)])),b:=false}),(6,{av:=some (AV.own 3 (encA itmC [uintI e.prev])),b:=false}),(9,yV (aw (u64 e.kind))),(10,{av:=some (AV.own 3 (encA itmC [uintI (u64 e.kind)])),b:=false})],T:=10},yH [(3,{av:=some (AV.tup [AV.sl 3 (encA itmC A),ai 0]),b:=false})]] [.keep [5,7,32,4,25,17,15,3,2,1,0] [1028,1]] [yI (avw_conv e.epoch),yI (uint_ret (u64 e.epoch)),yI (uint_ret e.prev),yI (avw_conv e.kind),yI (uint_ret (u64 e.kind)),yB (((3:Nat)+(encA itmsC [[textI e.name],[byteI (keyD e.kh e.kr)]]).length)*(24:Nat)≤(140737488355328:Nat)) (by simp only [List.length_cons,List.length_nil,encA_len (f:=itmsC) (e:=1) (fun _=>rfl)];omega),yB (Ret Tryz.prog (76:Nat) [AV.sl 1 [AV.sl 3 (encA itmC [uintI (u64 e.epoch)]),AV.sl 3 (encA itmC [uintI e.prev]),AV.sl 3 (encA itmC [uintI (u64 e.kind)]),AV.sl 3 (encA itmC [textI e.name]),AV.sl 3 (encA itmC [byteI (keyD e.kh e.kr)])]] (AV.tup [AV.sl 3 (encA itmC A),ai 0])) (ha)] ?_
 refine zS ?_
 refine zQ 1 [{}] [] ?_
 refine zFb 54 ((0:Int) != (0:Int)) rfl ?_
 refine zK ?_
 refine then_n ?_
 refine zP 1 [yH [(1,yV (AV.tup [AV.own 1 (bytesA (bodB e)),ai 0]))]] [.keep [3,2,54,5,7,32,4,25,17,15,1,0] [1057,1028,1]] [yB (Ret Tryz.prog (77:Nat) [AV.sl 3 (encA itmC A)] (AV.tup [AV.own 1 (bytesA (bodB e)),ai 0])) (hen),yI (valR_bytes (bodB e))] ?_
 refine zR ?_
 refine zV [yR (bytesA (bodB e)),yR (Value.int .i64 0)]
theorem bodyR_ret (e:Ent) (h:Rems e):Ret Tryz.prog 39 [.agg (entC e)] (.tup [.own 1 (bytesA (bodB e)),ai 0]):=by
 have hk:=h.kind
 have h1:=h.name
 have hn:=nm_len h1
 have hv:=nm_valid h1
 have q1:=h.e1
 have q2:=h.e2
 have hb:bodI e= [uintI (u64 e.epoch),uintI e.prev,uintI (u64 e.kind),textI e.name]:=by unfold bodI;rw [if_neg (by omega)];rfl
 have hlf:∀x∈bodI e,LeafI x:=by
  rw [hb]
  intro x hx
  simp only [List.mem_cons,List.not_mem_nil,or_false] at hx
  rcases hx with rfl|rfl|rfl|rfl
  ·exact .uint _
  ·exact .uint _
  ·exact .uint _
  ·exact .text (by omega) hv
 have hl5:(bodI e).length=4:=by rw [hb];rfl
 obtain ⟨v1,v2,v3,v4⟩:=plain_vals hlf (by omega) (by omega)
 have ha:=array_ret _ v1 v2 v3
 rw [v4] at v3 ha
 have hd:encD (arrI (u64 (bodI e).length)::bodI e)=bodB e:=by unfold encD;rw [if_pos v3];rfl
 have hen:=encode_ret (arrI (u64 (bodI e).length)::bodI e) (by rw [List.length_cons];omega) (fun x hx=>by
  rcases List.mem_cons.1 hx with rfl|hx
  ·exact .inr (.inr (.inr rfl))
  ·rcases (hlf x hx).kind with q|q|q
   ·exact .inl q
   ·exact .inr (.inl q)
   ·exact .inr (.inr (.inl q))) (fun x hx=>by
  rcases List.mem_cons.1 hx with rfl|hx
  ·exact Nat.zero_le _
  ·have:=(hlf x hx).dat;omega)
 rw [hd,v3] at hen
 generalize arrI (u64 (bodI e).length)::bodI e=A at *
 rw [hb] at ha
 refine zO Tryz.func39 60 ?_
 refine zQ 1 [{}] [] ?_
 refine zS ?_
 refine zP 1 [yH [(4,{g:=false}),(5,{g:=false}),(6,{g:=false}),(7,{b:=false})]] [.keep [15,3,2,1,0] [1]] [yF (e.kind<1),yF (e.kind<1),yF (e.kind<1),yF (e.kind<1)] ?_
 refine zFd 15 (e.kind>5) ?_
 refine zK ?_
 refine then_n ?_
 refine zS ?_
 refine zP 1 [yH [(1,yV (ao false))]] [.keep [17,15,3,2,1,0] [1]] [yI (strangeR_ret e (by assumption))] ?_
 refine zF 17 ?_
 refine zK ?_
 refine then_n ?_
 refine zS ?_
 refine zP 1 [yH [(4,{g:=false}),(5,{g:=false}),(6,{g:=false}),(7,{b:=false})]] [.keep [25,17,15,3,2,1,0] [1]] [yF (e.epoch<1),yF (e.epoch<1),yF (e.epoch<1),yF (e.epoch<1)] ?_
 refine zFd 25 (e.epoch>2147483647) ?_
 refine zK ?_
 refine then_n ?_
 refine zP 1 [yH [(1,{av:=some (AV.tup [AV.own 1 (encA itmsC [[textI e.name]]),ai 0]),b:=false})]] [.keep [5,4,25,17,15,3,2,1,0] [1028,1]] [yI (fieldsR_ret e (by assumption))] ?_
 refine zS ?_
 refine zQ 1 [{}] [] ?_
 refine zFb 32 ((0:Int) != (0:Int)) rfl ?_
 refine zK ?_
 refine then_n ?_
 refine zP 2 [{hs:=[(2,yV (aw (u64 e.epoch))),(3,{av:=some (AV.own 3 (encA itmC [uintI (u64 e.epoch)])),b:=false}),(6,{av:=some (AV.own 3 (encA itmC [uintI e.prev])),b:=false}),(9,yV (aw (u64 e.kind))),(10,{av:=some (AV.own 3 (encA itmC [uintI (u64 e.kind)])),b:=false})],T:=10},yH [(3,{av:=some (AV.tup [AV.sl 3 (encA itmC A),ai 0]),b:=false})]] [.keep [5,7,32,4,25,17,15,3,2,1,0] [1028,1]] [yI (avw_conv e.epoch),yI (uint_ret (u64 e.epoch)),yI (uint_ret e.prev),yI (avw_conv e.kind),yI (uint_ret (u64 e.kind)),yB (((3:Nat)+(encA itmsC [[textI e.name]]).length)*(24:Nat)≤(140737488355328:Nat)) (by simp only [List.length_cons,List.length_nil,encA_len (f:=itmsC) (e:=1) (fun _=>rfl)];omega),yB (Ret Tryz.prog (76:Nat) [AV.sl 1 [AV.sl 3 (encA itmC [uintI (u64 e.epoch)]),AV.sl 3 (encA itmC [uintI e.prev]),AV.sl 3 (encA itmC [uintI (u64 e.kind)]),AV.sl 3 (encA itmC [textI e.name])]] (AV.tup [AV.sl 3 (encA itmC A),ai 0])) (ha)] ?_
 refine zS ?_
 refine zQ 1 [{}] [] ?_
 refine zFb 54 ((0:Int) != (0:Int)) rfl ?_
 refine zK ?_
 refine then_n ?_
 refine zP 1 [yH [(1,yV (AV.tup [AV.own 1 (bytesA (bodB e)),ai 0]))]] [.keep [3,2,54,5,7,32,4,25,17,15,1,0] [1057,1028,1]] [yB (Ret Tryz.prog (77:Nat) [AV.sl 3 (encA itmC A)] (AV.tup [AV.own 1 (bytesA (bodB e)),ai 0])) (hen),yI (valR_bytes (bodB e))] ?_
 refine zR ?_
 refine zV [yR (bytesA (bodB e)),yR (Value.int .i64 0)]
theorem wordA_ret (e:Ent) (h:Adds e) (hl:(bodB e).length≤100000):Ret Tryz.prog 50 [.agg (entC e)] (.tup [aw (hash 16 (bodB e)),ai 0]):=by
 refine zO Tryz.func50 16 ?_
 refine zP 2 [{},yH [(1,yV (AV.tup [AV.own 1 (bytesA (bodB e)),ai 0]))]] [.keep [5,4,3,2,1,0] [1008,1]] [yI (bodyA_ret e (by assumption)),yI (valR_bytes (bodB e))] ?_
 refine zS ?_
 refine zQ 1 [{}] [] ?_
 refine zFb 12 ((0:Int) != (0:Int)) rfl ?_
 refine zK ?_
 refine then_n ?_
 refine zP 1 [yH [(1,yV (aw (hash (16:Int) (bodB e))))]] [.keep [3,2,12,5,4,1,0] [1008,1]] [yI (hash_ret ((16:Int)) (bodB e))] ?_
 refine zR ?_
 refine zV [yR (Value.int .u64 (wv (hash (16:Int) (bodB e)))),yR (Value.int .i64 0)]
theorem wordR_ret (e:Ent) (h:Rems e) (hl:(bodB e).length≤100000):Ret Tryz.prog 50 [.agg (entC e)] (.tup [aw (hash 16 (bodB e)),ai 0]):=by
 refine zO Tryz.func50 16 ?_
 refine zP 2 [{},yH [(1,yV (AV.tup [AV.own 1 (bytesA (bodB e)),ai 0]))]] [.keep [5,4,3,2,1,0] [1008,1]] [yI (bodyR_ret e (by assumption)),yI (valR_bytes (bodB e))] ?_
 refine zS ?_
 refine zQ 1 [{}] [] ?_
 refine zFb 12 ((0:Int) != (0:Int)) rfl ?_
 refine zK ?_
 refine then_n ?_
 refine zP 1 [yH [(1,yV (aw (hash (16:Int) (bodB e))))]] [.keep [3,2,12,5,4,1,0] [1008,1]] [yI (hash_ret ((16:Int)) (bodB e))] ?_
 refine zR ?_
 refine zV [yR (Value.int .u64 (wv (hash (16:Int) (bodB e)))),yR (Value.int .i64 0)]
end Go.Proofs.YtjgbhhnghedgdaaGreatDoor
