import Derived.Test.YtejpabdmiagnnaaGreatDoorZrV8
import Derived.Test.YtejpabdmiagnnaaGreatDoorZrRec5
import Derived.Test.YtejpabdmiagnnaaGreatDoorZrKey1
set_option linter.all false
namespace Go.Proofs.YtejpabdmiagnnaaGreatDoor
open Go.RowKit
set_option maxRecDepth 100000
set_option maxHeartbeats 4000000
set_option linter.unusedVariables false
theorem key_ret (seed:UInt64) (h:Int):Ret Tryz.prog 52 [aw seed,ai h] (.agg [ai (pkH h),aw (pkR seed h)]):=by
 refine zO Tryz.func52 14 ?_
 refine zP 3 [{},yH [(2,yV (AV.tup [AV.agg [ai (pkH h),aw (pkR seed h)],ai (pkE h)]))],{}] [.keep [5,4,0,1] [4,5]] [yI (refpublic_ret seed h),yL 2 2,yL 2 2] ?_
 refine zR ?_
 refine zV [yR (Value.int .i64 (pkH h)),yR (Value.int .u64 (wv (pkR seed h)))]
def mbr (k:Nat):Mem:=⟨[109,u8 (48+(k:Int))],4,pkR (300+u64 k) 4,0⟩
theorem cat_m (c:UInt8):({data:= #[109]}:ByteArray)++ {data:= #[c]}=⟨[109,c].toArray⟩:=by
 apply ByteArray.ext
 simp [ByteArray.data_append]
theorem member_ret (i:Int):Ret Tryz.prog 17 [ai i] (.agg (memC (mbr (modI i 10)))):=by
 have hm:=modI_lt i (n:=10) (by omega)
 have p2:pkH 4=4:=by decide
 refine zO Tryz.func17 16 ?_
 refine zP 2 [{},{hs:=[(1,yV (ai (↑(modI i (10:Int)):Int))),(2,yV (ai ((48:Int)+(↑(modI i (10:Int)):Int)))),(3,yV (ab (u8 ((48:Int)+(↑(modI i (10:Int)):Int))))),(4,yV (AV.arr (bytesA [u8 ((48:Int)+(↑(modI i (10:Int)):Int))]))),(5,yV (AV.val (Value.string (ByteArray.mk #[u8 ((48:Int)+(↑(modI i (10:Int)):Int))])))),(8,yV (ai (↑(modI i (10:Int)):Int))),(9,yV (aw (u64 (↑(modI i (10:Int)):Int)))),(10,yV (aw (300+u64 (↑(modI i (10:Int)):Int)))),(11,yV (AV.agg [ai (pkH (4:Int)),aw (pkR (300+u64 (↑(modI i (10:Int)):Int)) (4:Int))]))],T:=12}] [.keep [2,0] [2]] [yI (mod_ret i ((10:Int)) (by omega) (by omega)),yN ((48:Int)+(↑(modI i (10:Int)):Int)),yI (avb_conv ((48:Int)+(↑(modI i (10:Int)):Int))),yR [ab (u8 ((48:Int)+(↑(modI i (10:Int)):Int)))],yR (bytesA [u8 ((48:Int)+(↑(modI i (10:Int)):Int))]),yI (mod_ret i ((10:Int)) (by omega) (by omega)),yI (avw_conv (↑(modI i (10:Int)):Int)),yI (avw_add 300 (u64 (↑(modI i (10:Int)):Int))),yI (key_ret (300+u64 (↑(modI i (10:Int)):Int)) ((4:Int))),yL 4 4] ?_
 refine zR ?_
 refine zV [yB (Value.string (ByteArray.mk #[109]++ByteArray.mk #[u8 ((48:Int)+(↑(modI i (10:Int)):Int))])=Value.string (ByteArray.mk (mbr (modI i (10:Int))).name.toArray)) (by rw [cat_m];rfl),yJ (pkH (4:Int)) ((mbr (modI i (10:Int))).h) (by rw [p2];rfl),yR (Value.int .u64 (wv (mbr (modI i (10:Int))).r)),yR (Value.int .u64 0)]
theorem mod10 {i:Nat} (h:i<10):modI (i:Int) 10=i:=by
 unfold modI
 rw [Int.emod_eq_of_lt (by omega) (by omega),Int.emod_eq_of_lt (by omega) (by omega),Int.toNat_natCast]
def nms (n:Nat):List (List UInt8):=(List.range n).map fun i=>(mbr i).name
theorem nms_len (n:Nat):(nms n).length=n:=by simp [nms]
theorem nms_at {n i:Nat} (h:i<n):(nms n).getD i default=(mbr i).name:=by unfold nms;rw [range_getD _ _ h]
theorem nms_snoc (n:Nat):encA strC (nms n)++ [as_ (mbr n).name]=encA strC (nms (n+1)):=by
 unfold nms
 rw [←snocR (fun i=>(mbr i).name),←encA_app];rfl
theorem memberN_ret (i:Nat) (h:i<10):Ret Tryz.prog 17 [ai i] (.agg (memC (mbr i))):=by
 have:=member_ret i
 rwa [mod10 h] at this
theorem names_ret (n:Nat) (hn:n≤10):Ret Tryz.prog 46 [ai n] (.own 1 (encA strC (nms n))):=by
 refine zO Tryz.func46 17 ?_
 refine zQ 2 [{},{}] [] ?_
 refine zS ?_
 refine zQ 1 [{}] [] ?_
 refine zB 0 ?_
 refine zL (fun (i:Nat)=>(⟨[(2,AV.nil),(0,ai (↑n:Int)),(4,ai i),(3,AV.ref 15)],[(15,⟨1,true,false,encA strC (nms i)⟩)]⟩:AS)) (fun i=>(i≤n)) (fun i=>(n-i)) (0) ?_ (zW [.nil 3 15 1,.keep [2,0,4,3] [15]]) ?_
 ·omega
 intro i hi
 refine zS ?_
 refine zP 1 [{}] [.keep [7,2,0,4,3] [15]] [] ?_
 refine zD 7 ((↑i:Int)<(↑n:Int)) (fun g=>?_) (fun g=>?_)
 ·have hm:=memberN_ret i (by omega)
  have hs:=nms_snoc i
  have hl:(encA strC (nms i)).length=i:=by rw [encA_len (e:=1) (fun _=>rfl),nms_len];omega
  refine zK ?_
  refine then_n ?_
  refine zS ?_
  refine zB 1 ?_
  refine zX (yH [(2,yV (AV.agg [AV.val (Value.string (ByteArray.mk (mbr i).name.toArray)),ai ((mbr i).h),aw ((mbr i).r),aw ((mbr i).used)]))]) [yI (memberN_ret i (by omega)),yO (((encA strC (nms i)).length+(1:Nat))*(16:Nat)≤(140737488355328:Nat))] ?_
  refine inb_n ?_
  refine then_n ?_
  refine zX (yH [(1,yV (ai ((↑i:Int)+1)))]) [yN ((↑i:Int)+1)] ?_
  refine round_n (i+1) (by omega) (by omega) (Weaks.of [.keep [2,0,4,3] [15]] (s1:=AS.mk [(2,AV.nil),(0,ai (↑n:Int)),(4,ai ((↑i:Int)+1)),(3,AV.ref 15)] [(15,Row.mk 1 true false (encA strC (nms i)++ [AV.val (Value.string (ByteArray.mk (mbr i).name.toArray))]))]) (by kernel_rfl) (as_eq (f_cons rfl (f_cons rfl (f_cons rfl (f_cons rfl rfl)))) (h_cons hs rfl)))
 ·have e:i=n:=by omega
  subst e
  refine zE 0 ?_
  refine then_e ?_
  refine round_e ?_
  refine inb_e ?_
  refine then_n ?_
  refine zQ 1 [{}] [] ?_
  refine zR ?_
  refine zV [yR (encA strC (nms i))]
theorem nms_len2 (n i:Nat) (h:i<(nms n).length):((nms n).getD i default).length≤1000:=by
 rw [nms_len] at h
 rw [nms_at h];simp [mbr]
def vD (seed:Int) (n:Nat) (need:Int) (text:List UInt8) (t:Bool):Dep :=
 let d:=prpD (u64 seed) 3 (nms n) need
 ⟨d.pub,pubW 41,sealD (shK 41 d.pub) 9 [] text,d.holders,d.digests,d.need,if t then pubW 42 else d.target⟩
def vS (seed:Int) (n:Nat) (need:Int):List (List UInt8):=prpS (u64 seed) 3 (nms n) need
def vG (seed:Int) (n:Nat) (need:Int) (text:List UInt8) (t:Bool):Grp:=⟨5,0,n,(List.range n).map mbr,[⟨1,0,[],[],[],0,0⟩,vD seed n need text t]⟩
def grpO (g:Grp):List AV:=[ai g.epoch,aw g.head,ai g.thr,.own 4 (encA memC g.mems),.own 7 (encA depC g.deps)]
theorem mbr_snoc (i:Nat):encA memC ((List.range i).map mbr)++memC (mbr i)=encA memC ((List.range (i+1)).map mbr):=by
 rw [←snocR mbr,←encA_app];rfl
theorem vaulted_ret (seed:Int) (n:Nat) (need:Int) (text:List UInt8) (t:Bool) (hn:n≤10):Ret Tryz.prog 14 [ai seed,ai n,ai need,.sl 1 (bytesA text),ao t] (.tup [.agg (grpO (vG seed n need text t)),.agg (depC (vD seed n need text t)),.own 1 (encA bysC (vS seed n need))]):=by
 have hnl:=nms_len n
 have hp:=refprepare_ret (u64 seed) 3 (nms n) need (by omega) (nms_len2 n)
 have hd:vD seed n need text t=⟨(prpD (u64 seed) 3 (nms n) need).pub,pubW 41,sealD (shK 41 (prpD (u64 seed) 3 (nms n) need).pub) 9 [] text,(prpD (u64 seed) 3 (nms n) need).holders,(prpD (u64 seed) 3 (nms n) need).digests,(prpD (u64 seed) 3 (nms n) need).need,if t then pubW 42 else (prpD (u64 seed) 3 (nms n) need).target⟩:=rfl
 have hs:vS seed n need=prpS (u64 seed) 3 (nms n) need:=rfl
 generalize prpD (u64 seed) 3 (nms n) need=d at *
 generalize prpS (u64 seed) 3 (nms n) need=S at *
 generalize prpE (nms n) need=E at *
 cases t with
 | true =>
  refine zO Tryz.func14 68 ?_
  refine zP 5 [{},yH [(1,yV (aw (u64 seed))),(3,{av:=some (AV.own 1 (encA strC (nms n))),b:=false}),(5,{av:=some (AV.tup [AV.agg [aw d.pub,aw d.peer,AV.own 1 (bytesA d.box),AV.own 1 (encA strC d.holders),AV.own 1 (wordsA d.digests),ai d.need,aw d.target],AV.own 1 (encA bysC S),ai E]),b:=false})],yH [(0,yV (aw (pubW 41)))],yH [(2,yV (AV.tup [aw (shK 41 d.pub),ai (shE d.pub)]))],yH [(2,yV (AV.tup [AV.own 1 (bytesA (sealD (shK 41 d.pub) 9 [] text)),ai (sealE [] text)]))]] [.keep [16,35,30,14,13,12,11,10,0,1,2,3,4] [13,1041,2026,501026,401026,11,10]] [yI (avw_conv seed),yI (names_ret n (by assumption)),yB (Ret Tryz.prog (45:Nat) [aw (u64 seed),ai 3,AV.sl 1 (encA strC (nms n)),ai need] (AV.tup [AV.agg [aw d.pub,aw d.peer,AV.own 1 (bytesA d.box),AV.own 1 (encA strC d.holders),AV.own 1 (wordsA d.digests),ai d.need,aw d.target],AV.own 1 (encA bysC S),ai E])) (hp),yL 7 7,yI (refpubx_ret 41),yL 2 7,yI (refsharedx_ret 41 d.pub),yI (refsealN_ret (shK 41 d.pub) 9 text),yI (valR_bytes (sealD (shK 41 d.pub) 9 [] text)),yL 3 7] ?_
  refine zS ?_
  refine zQ 1 [{}] [] ?_
  refine zT 45 ?_
  refine zX (yH [(0,yV (aw (pubW 42)))]) [yI (refpubx_ret 42),yL 7 7] ?_
  refine then_n ?_
  refine zP 1 [{}] [.keep [18,45,16,35,30,14,13,12,11,10,0,1,2,3,4] [18,51,13,2026,11,10]] [yL 5 5] ?_
  refine zS ?_
  refine zQ 1 [{}] [] ?_
  refine zB 0 ?_
  refine AWP.weak (Weaks.slr 51 (r:=⟨7,true,true,[.val (.int .u64 1),au0,.nil,.nil,.nil,ai 0,au0,aw d.pub,aw (pubW 41),.sl 1 (bytesA (sealD (shK 41 d.pub) 9 [] text)),.sl 1 (encA strC d.holders),.sl 1 (wordsA d.digests),ai d.need,aw (pubW 42)]⟩) (by kernel_rfl) rfl) ?_
  refine AWP.weak (Weaks.cnil 18 3 63 4 (r:=⟨1,false,true,[ai 5,au0,ai n,.nil,.ref 51]⟩) (by kernel_rfl) rfl rfl (by kernel_rfl)) ?_
  refine zL (fun (i:Nat)=>(⟨[(18,AV.addr 18 0),(45,ao true),(16,aw (shK 41 d.pub)),(35,AV.tup [aw (shK 41 d.pub),ai (shE d.pub)]),(30,aw (pubW 41)),(14,AV.ref 2026),(13,AV.addr 13 0),(12,AV.nil),(11,AV.addr 11 0),(10,AV.addr 10 0),(0,ai seed),(1,ai (↑n:Int)),(2,ai need),(3,AV.sl 1 (bytesA text)),(4,ao true),(19,ai i)],[(2026,⟨1,true,false,encA bysC S⟩),(13,⟨1,false,true,[aw d.pub,aw (pubW 41),AV.sl 1 (bytesA (sealD (shK 41 d.pub) 9 [] text)),AV.sl 1 (encA strC d.holders),AV.sl 1 (wordsA d.digests),ai d.need,aw (pubW 42)]⟩),(11,⟨1,false,true,[au0,au0,AV.nil,AV.nil,AV.nil,ai 0,au0]⟩),(10,⟨1,false,true,[ai 0,au0,ai 0,AV.nil,AV.nil]⟩),(18,⟨1,false,true,[ai 5,au0,ai n,.ref 63,.ref 51]⟩),(51,⟨7,true,true,encA depC [⟨1,0,[],[],[],0,0⟩,⟨d.pub,pubW 41,sealD (shK 41 d.pub) 9 [] text,d.holders,d.digests,d.need,pubW 42⟩]⟩),(63,⟨4,true,false,encA memC ((List.range i).map mbr)⟩)]⟩:AS)) (fun i=>(i≤n)) (fun i=>(n-i)) (0) ?_ (zW [.keep [18,45,16,35,30,14,13,12,11,10,0,1,2,3,4,19] [2026,13,11,10,18,51,63]]) ?_
  ·omega
  intro i hi
  refine zS ?_
  refine zP 1 [{}] [.keep [55,18,45,16,35,30,14,13,12,11,10,0,1,2,3,4,19] [2026,13,11,10,18,51,63]] [] ?_
  refine zD 55 ((↑i:Int)<(↑n:Int)) (fun g=>?_) (fun g=>?_)
  ·have hm:=memberN_ret i (by omega)
   have hsn:=mbr_snoc i
   have hml:(encA memC ((List.range i).map mbr)).length=i*4:=by rw [encA_len (e:=4) (fun _=>rfl)];simp
   refine zK ?_
   refine then_n ?_
   refine zS ?_
   refine zB 1 ?_
   refine zX ({hs:=[(3,yV (AV.agg [AV.val (Value.string (ByteArray.mk (mbr i).name.toArray)),ai ((mbr i).h),aw ((mbr i).r),aw ((mbr i).used)]))],T:=5}) [yI (memberN_ret i (by omega)),yO (((encA memC (List.map mbr (List.range i))).length+(4:Nat))*(40:Nat)≤(562949953421312:Nat)),yL 4 5] ?_
   refine inb_n ?_
   refine then_n ?_
   refine zX (yH [(1,yV (ai ((↑i:Int)+1)))]) [yN ((↑i:Int)+1)] ?_
   refine round_n (i+1) (by omega) (by omega) (Weaks.of [.keep [18,45,16,35,30,14,13,12,11,10,0,1,2,3,4,19] [2026,13,11,10,18,51,63]] (s1:=AS.mk [(18,AV.addr 18 0),(45,ao true),(16,aw (shK 41 d.pub)),(35,AV.tup [aw (shK 41 d.pub),ai (shE d.pub)]),(30,aw (pubW 41)),(14,AV.ref 2026),(13,AV.addr 13 0),(12,AV.nil),(11,AV.addr 11 0),(10,AV.addr 10 0),(0,ai seed),(1,ai (↑n:Int)),(2,ai need),(3,AV.sl 1 (bytesA text)),(4,ao true),(19,ai ((↑i:Int)+1))] [(2026,Row.mk 1 true false (encA bysC S)),(13,Row.mk 1 false true [aw d.pub,aw (pubW 41),AV.sl 1 (bytesA (sealD (shK 41 d.pub) 9 [] text)),AV.sl 1 (encA strC d.holders),AV.sl 1 (wordsA d.digests),ai d.need,aw (pubW 42)]),(11,Row.mk 1 false true [au0,au0,AV.nil,AV.nil,AV.nil,ai 0,au0]),(10,Row.mk 1 false true [ai 0,au0,ai 0,AV.nil,AV.nil]),(18,Row.mk 1 false true [ai 5,au0,ai (↑n:Int),AV.ref 63,AV.ref 51]),(51,Row.mk 7 true true (encA depC [Dep.mk 1 0 [] [] [] (0:Int) 0,Dep.mk d.pub (pubW 41) (sealD (shK 41 d.pub) 9 [] text) d.holders d.digests d.need (pubW 42)])),(63,Row.mk 4 true false (encA memC (List.map mbr (List.range i))++ [AV.val (Value.string (ByteArray.mk (mbr i).name.toArray)),ai ((mbr i).h),aw ((mbr i).r),aw ((mbr i).used)]))]) (by kernel_rfl) (as_eq (f_cons rfl (f_cons rfl (f_cons rfl (f_cons rfl (f_cons rfl (f_cons rfl (f_cons rfl (f_cons rfl (f_cons rfl (f_cons rfl (f_cons rfl (f_cons rfl (f_cons rfl (f_cons rfl (f_cons rfl (f_cons rfl rfl)))))))))))))))) (h_cons rfl (h_cons rfl (h_cons rfl (h_cons rfl (h_cons rfl (h_cons rfl (h_cons hsn rfl)))))))))
  ·have e:i=n:=by omega
   subst e
   have hd2:vD seed i need text true=⟨d.pub,pubW 41,sealD (shK 41 d.pub) 9 [] text,d.holders,d.digests,d.need,pubW 42⟩:=by rw [hd];rfl
   have hg:(vG seed i need text true).deps= [⟨1,0,[],[],[],0,0⟩,⟨d.pub,pubW 41,sealD (shK 41 d.pub) 9 [] text,d.holders,d.digests,d.need,pubW 42⟩]:=by rw [←hd2];rfl
   refine zE 0 ?_
   refine then_e ?_
   refine round_e ?_
   refine inb_e ?_
   refine then_n ?_
   refine zS ?_
   refine AWP.regWX 5 [3,4] [] (C:=[(5:Nat)≤(5:Nat),AV.agg [aw d.pub,aw (pubW 41),AV.sl 1 (bytesA (sealD (shK 41 d.pub) 9 [] text)),AV.sl 1 (encA strC d.holders),AV.sl 1 (wordsA d.digests),ai d.need,aw (pubW 42)]=AV.agg [aw d.pub,aw (pubW 41),AV.sl 1 (bytesA (sealD (shK 41 d.pub) 9 [] text)),AV.sl 1 (encA strC d.holders),AV.sl 1 (wordsA d.digests),ai d.need,aw (pubW 42)],AV.ref 2026=AV.ref 2026,(7:Nat)≤(7:Nat),AV.ref 2026=AV.ref 2026]) (by kernel_rfl) ⟨(by omega),rfl,rfl,(by omega),rfl,trivial⟩ ?_
   refine then_n ?_
   refine AWP.wkX [.keep [12,55,18,45,16,35,30,14,13,11,10,0,1,2,3,4,19] [11,10,2026,13,18,51,63]] (by kernel_rfl) ?_
   refine zR ?_
   refine zV [yR (Value.int .i64 5),yR (Value.int .u64 0),yR (Value.int .i64 (↑i:Int)),yR (encA memC (List.map mbr (List.range i))),yB (encA depC [Dep.mk 1 0 [] [] [] (0:Int) 0,Dep.mk d.pub (pubW 41) (sealD (shK 41 d.pub) 9 [] text) d.holders d.digests d.need (pubW 42)]=encA depC (vG seed i need text true).deps) (by rw [hg]),yK (wv d.pub) (wv (vD seed i need text true).pub) (by rw [hd2]),yR (Value.int .u64 (wv (pubW 41))),yB (bytesA (sealD (shK 41 d.pub) 9 [] text)=bytesA (vD seed i need text true).box) (by rw [hd2]),yB (encA strC d.holders=encA strC (vD seed i need text true).holders) (by rw [hd2]),yB (wordsA d.digests=wordsA (vD seed i need text true).digests) (by rw [hd2]),yJ d.need ((vD seed i need text true).need) (by rw [hd2]),yR (Value.int .u64 (wv (pubW 42))),yB (encA bysC S=encA bysC (vS seed i need)) (by rw [hs])]
 | false =>
  refine zO Tryz.func14 68 ?_
  refine zP 5 [{},yH [(1,yV (aw (u64 seed))),(3,{av:=some (AV.own 1 (encA strC (nms n))),b:=false}),(5,{av:=some (AV.tup [AV.agg [aw d.pub,aw d.peer,AV.own 1 (bytesA d.box),AV.own 1 (encA strC d.holders),AV.own 1 (wordsA d.digests),ai d.need,aw d.target],AV.own 1 (encA bysC S),ai E]),b:=false})],yH [(0,yV (aw (pubW 41)))],yH [(2,yV (AV.tup [aw (shK 41 d.pub),ai (shE d.pub)]))],yH [(2,yV (AV.tup [AV.own 1 (bytesA (sealD (shK 41 d.pub) 9 [] text)),ai (sealE [] text)]))]] [.keep [16,35,30,14,13,12,11,10,0,1,2,3,4] [13,1041,2026,501026,401026,11,10]] [yI (avw_conv seed),yI (names_ret n (by assumption)),yB (Ret Tryz.prog (45:Nat) [aw (u64 seed),ai 3,AV.sl 1 (encA strC (nms n)),ai need] (AV.tup [AV.agg [aw d.pub,aw d.peer,AV.own 1 (bytesA d.box),AV.own 1 (encA strC d.holders),AV.own 1 (wordsA d.digests),ai d.need,aw d.target],AV.own 1 (encA bysC S),ai E])) (hp),yL 7 7,yI (refpubx_ret 41),yL 2 7,yI (refsharedx_ret 41 d.pub),yI (refsealN_ret (shK 41 d.pub) 9 text),yI (valR_bytes (sealD (shK 41 d.pub) 9 [] text)),yL 3 7] ?_
  refine zS ?_
  refine zQ 1 [{}] [] ?_
  refine zF 45 ?_
  refine zK ?_
  refine then_n ?_
  refine zP 1 [{}] [.keep [18,45,16,35,30,14,13,12,11,10,0,1,2,3,4] [18,51,13,2026,11,10]] [yL 5 5] ?_
  refine zS ?_
  refine zQ 1 [{}] [] ?_
  refine zB 0 ?_
  refine AWP.weak (Weaks.slr 51 (r:=⟨7,true,true,[.val (.int .u64 1),au0,.nil,.nil,.nil,ai 0,au0,aw d.pub,aw (pubW 41),.sl 1 (bytesA (sealD (shK 41 d.pub) 9 [] text)),.sl 1 (encA strC d.holders),.sl 1 (wordsA d.digests),ai d.need,aw d.target]⟩) (by kernel_rfl) rfl) ?_
  refine AWP.weak (Weaks.cnil 18 3 63 4 (r:=⟨1,false,true,[ai 5,au0,ai n,.nil,.ref 51]⟩) (by kernel_rfl) rfl rfl (by kernel_rfl)) ?_
  refine zL (fun (i:Nat)=>(⟨[(18,AV.addr 18 0),(45,ao false),(16,aw (shK 41 d.pub)),(35,AV.tup [aw (shK 41 d.pub),ai (shE d.pub)]),(30,aw (pubW 41)),(14,AV.ref 2026),(13,AV.addr 13 0),(12,AV.nil),(11,AV.addr 11 0),(10,AV.addr 10 0),(0,ai seed),(1,ai (↑n:Int)),(2,ai need),(3,AV.sl 1 (bytesA text)),(4,ao false),(19,ai i)],[(2026,⟨1,true,false,encA bysC S⟩),(13,⟨1,false,true,[aw d.pub,aw (pubW 41),AV.sl 1 (bytesA (sealD (shK 41 d.pub) 9 [] text)),AV.sl 1 (encA strC d.holders),AV.sl 1 (wordsA d.digests),ai d.need,aw d.target]⟩),(11,⟨1,false,true,[au0,au0,AV.nil,AV.nil,AV.nil,ai 0,au0]⟩),(10,⟨1,false,true,[ai 0,au0,ai 0,AV.nil,AV.nil]⟩),(18,⟨1,false,true,[ai 5,au0,ai n,.ref 63,.ref 51]⟩),(51,⟨7,true,true,encA depC [⟨1,0,[],[],[],0,0⟩,⟨d.pub,pubW 41,sealD (shK 41 d.pub) 9 [] text,d.holders,d.digests,d.need,d.target⟩]⟩),(63,⟨4,true,false,encA memC ((List.range i).map mbr)⟩)]⟩:AS)) (fun i=>(i≤n)) (fun i=>(n-i)) (0) ?_ (zW [.keep [18,45,16,35,30,14,13,12,11,10,0,1,2,3,4,19] [2026,13,11,10,18,51,63]]) ?_
  ·omega
  intro i hi
  refine zS ?_
  refine zP 1 [{}] [.keep [55,18,45,16,35,30,14,13,12,11,10,0,1,2,3,4,19] [2026,13,11,10,18,51,63]] [] ?_
  refine zD 55 ((↑i:Int)<(↑n:Int)) (fun g=>?_) (fun g=>?_)
  ·have hm:=memberN_ret i (by omega)
   have hsn:=mbr_snoc i
   have hml:(encA memC ((List.range i).map mbr)).length=i*4:=by rw [encA_len (e:=4) (fun _=>rfl)];simp
   refine zK ?_
   refine then_n ?_
   refine zS ?_
   refine zB 1 ?_
   refine zX ({hs:=[(3,yV (AV.agg [AV.val (Value.string (ByteArray.mk (mbr i).name.toArray)),ai ((mbr i).h),aw ((mbr i).r),aw ((mbr i).used)]))],T:=5}) [yI (memberN_ret i (by omega)),yO (((encA memC (List.map mbr (List.range i))).length+(4:Nat))*(40:Nat)≤(562949953421312:Nat)),yL 4 5] ?_
   refine inb_n ?_
   refine then_n ?_
   refine zX (yH [(1,yV (ai ((↑i:Int)+1)))]) [yN ((↑i:Int)+1)] ?_
   refine round_n (i+1) (by omega) (by omega) (Weaks.of [.keep [18,45,16,35,30,14,13,12,11,10,0,1,2,3,4,19] [2026,13,11,10,18,51,63]] (s1:=AS.mk [(18,AV.addr 18 0),(45,ao false),(16,aw (shK 41 d.pub)),(35,AV.tup [aw (shK 41 d.pub),ai (shE d.pub)]),(30,aw (pubW 41)),(14,AV.ref 2026),(13,AV.addr 13 0),(12,AV.nil),(11,AV.addr 11 0),(10,AV.addr 10 0),(0,ai seed),(1,ai (↑n:Int)),(2,ai need),(3,AV.sl 1 (bytesA text)),(4,ao false),(19,ai ((↑i:Int)+1))] [(2026,Row.mk 1 true false (encA bysC S)),(13,Row.mk 1 false true [aw d.pub,aw (pubW 41),AV.sl 1 (bytesA (sealD (shK 41 d.pub) 9 [] text)),AV.sl 1 (encA strC d.holders),AV.sl 1 (wordsA d.digests),ai d.need,aw d.target]),(11,Row.mk 1 false true [au0,au0,AV.nil,AV.nil,AV.nil,ai 0,au0]),(10,Row.mk 1 false true [ai 0,au0,ai 0,AV.nil,AV.nil]),(18,Row.mk 1 false true [ai 5,au0,ai (↑n:Int),AV.ref 63,AV.ref 51]),(51,Row.mk 7 true true (encA depC [Dep.mk 1 0 [] [] [] (0:Int) 0,Dep.mk d.pub (pubW 41) (sealD (shK 41 d.pub) 9 [] text) d.holders d.digests d.need d.target])),(63,Row.mk 4 true false (encA memC (List.map mbr (List.range i))++ [AV.val (Value.string (ByteArray.mk (mbr i).name.toArray)),ai ((mbr i).h),aw ((mbr i).r),aw ((mbr i).used)]))]) (by kernel_rfl) (as_eq (f_cons rfl (f_cons rfl (f_cons rfl (f_cons rfl (f_cons rfl (f_cons rfl (f_cons rfl (f_cons rfl (f_cons rfl (f_cons rfl (f_cons rfl (f_cons rfl (f_cons rfl (f_cons rfl (f_cons rfl (f_cons rfl rfl)))))))))))))))) (h_cons rfl (h_cons rfl (h_cons rfl (h_cons rfl (h_cons rfl (h_cons rfl (h_cons hsn rfl)))))))))
  ·have e:i=n:=by omega
   subst e
   have hd2:vD seed i need text false=⟨d.pub,pubW 41,sealD (shK 41 d.pub) 9 [] text,d.holders,d.digests,d.need,d.target⟩:=by rw [hd];rfl
   have hg:(vG seed i need text false).deps= [⟨1,0,[],[],[],0,0⟩,⟨d.pub,pubW 41,sealD (shK 41 d.pub) 9 [] text,d.holders,d.digests,d.need,d.target⟩]:=by rw [←hd2];rfl
   refine zE 0 ?_
   refine then_e ?_
   refine round_e ?_
   refine inb_e ?_
   refine then_n ?_
   refine zS ?_
   refine AWP.regWX 5 [3,4] [] (C:=[(5:Nat)≤(5:Nat),AV.agg [aw d.pub,aw (pubW 41),AV.sl 1 (bytesA (sealD (shK 41 d.pub) 9 [] text)),AV.sl 1 (encA strC d.holders),AV.sl 1 (wordsA d.digests),ai d.need,aw d.target]=AV.agg [aw d.pub,aw (pubW 41),AV.sl 1 (bytesA (sealD (shK 41 d.pub) 9 [] text)),AV.sl 1 (encA strC d.holders),AV.sl 1 (wordsA d.digests),ai d.need,aw d.target],AV.ref 2026=AV.ref 2026,(7:Nat)≤(7:Nat),AV.ref 2026=AV.ref 2026]) (by kernel_rfl) ⟨(by omega),rfl,rfl,(by omega),rfl,trivial⟩ ?_
   refine then_n ?_
   refine AWP.wkX [.keep [12,55,18,45,16,35,30,14,13,11,10,0,1,2,3,4,19] [11,10,2026,13,18,51,63]] (by kernel_rfl) ?_
   refine zR ?_
   refine zV [yR (Value.int .i64 5),yR (Value.int .u64 0),yR (Value.int .i64 (↑i:Int)),yR (encA memC (List.map mbr (List.range i))),yB (encA depC [Dep.mk 1 0 [] [] [] (0:Int) 0,Dep.mk d.pub (pubW 41) (sealD (shK 41 d.pub) 9 [] text) d.holders d.digests d.need d.target]=encA depC (vG seed i need text false).deps) (by rw [hg]),yK (wv d.pub) (wv (vD seed i need text false).pub) (by rw [hd2]),yR (Value.int .u64 (wv (pubW 41))),yB (bytesA (sealD (shK 41 d.pub) 9 [] text)=bytesA (vD seed i need text false).box) (by rw [hd2]),yB (encA strC d.holders=encA strC (vD seed i need text false).holders) (by rw [hd2]),yB (wordsA d.digests=wordsA (vD seed i need text false).digests) (by rw [hd2]),yJ d.need ((vD seed i need text false).need) (by rw [hd2]),yK (wv d.target) (wv (vD seed i need text false).target) (by rw [hd2]),yB (encA bysC S=encA bysC (vS seed i need)) (by rw [hs])]
theorem opened_ret (p:UInt64) (box:List UInt8):Ret Tryz.prog 67 [aw p,.sl 1 (bytesA box)] (.tup [as_ (openD (shK 42 p) [] box),ao (openE (shK 42 p) [] box == 0)]):=by
 refine zO Tryz.func67 25 ?_
 refine zP 4 [{},yH [(1,yV (AV.tup [aw (shK 42 p),ai (shE p)]))],yH [(2,yV (AV.tup [AV.own 1 (bytesA (openD (shK 42 p) [] box)),ai (openE (shK 42 p) [] box)]))],yH [(1,yV (AV.val (Value.string (ByteArray.mk (openD (shK 42 p) [] box).toArray))))]] [.keep [5,4,9,8,6,0,1] [1018]] [yI (refsharedx_ret 42 p),yI (refopenN_ret (shK 42 p) box),yI (valR_bytes (openD (shK 42 p) [] box)),yR (bytesA (openD (shK 42 p) [] box))] ?_
 refine zR ?_
 refine zV [yR (Value.string (ByteArray.mk (openD (shK 42 p) [] box).toArray)),yR (Value.bool (openE (shK 42 p) [] box == (0:Int)))]
end Go.Proofs.YtejpabdmiagnnaaGreatDoor
