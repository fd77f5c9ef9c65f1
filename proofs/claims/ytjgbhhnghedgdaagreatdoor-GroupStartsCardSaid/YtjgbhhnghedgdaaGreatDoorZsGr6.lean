import Derived.Test.YtjgbhhnghedgdaaGreatDoorZsV8
import Derived.Test.YtjgbhhnghedgdaaGreatDoorZsGr5
import Derived.Test.YtjgbhhnghedgdaaGreatDoorZsGr3
set_option linter.all false
namespace Go.Proofs.YtjgbhhnghedgdaaGreatDoor
open Go.RowKit
set_option maxRecDepth 100000
set_option maxHeartbeats 4000000
set_option linter.unusedVariables false
def esE17:List (Nat×Nat):=[(9,1),(10,1),(11,1),(16,4)]
theorem bodB_len (e:Ent) (hn:e.name.length≤1000):(bodB e).length≤60054:=by
 have hk:=keyD_len e.kh e.kr
 refine encL_len (n:=6) (fun x hx=>?_) ?_
 ·rcases List.mem_cons.1 hx with rfl|hx
  ·exact Nat.zero_le _
  ·unfold bodI at hx
   rw [List.mem_append] at hx
   rcases hx with hx|hx
   ·simp only [List.mem_cons,List.not_mem_nil,or_false] at hx
    rcases hx with rfl|rfl|rfl|rfl
    ·exact Nat.zero_le _
    ·exact Nat.zero_le _
    ·exact Nat.zero_le _
    ·show e.name.length≤_;omega
   ·split at hx
    ·simp only [List.mem_cons,List.not_mem_nil,or_false] at hx
     subst hx
     show (keyD e.kh e.kr).length≤_
     omega
    ·cases hx
 ·rw [List.length_cons]
  unfold bodI
  rw [List.length_append]
  split<;>simp
def dep0:Dep:=⟨0,0,[],[],[],0,0⟩
theorem nmE0:nmE [109,48]=0:=nm_ok (by decide) (by decide)
theorem nmE1:nmE [109,49]=0:=nm_ok (by decide) (by decide)
theorem pkR4 (s:UInt64):pkR s 4=nodeW s 4 0:=if_neg (show ¬badH 4 by decide)
theorem mbr0:mbr 0=⟨[109,48],4,nodeW 300 4 0,0⟩:=by
 unfold mbr
 rw [pkR4,show u8 (48+((0:Nat):Int))=48 by decide,show (300:UInt64)+u64 ((0:Nat):Int)=300 by decide]
theorem mbr1:mbr 1=⟨[109,49],4,nodeW 301 4 0,0⟩:=by
 unfold mbr
 rw [pkR4,show u8 (48+((1:Nat):Int))=49 by decide,show (300:UInt64)+u64 ((1:Nat):Int)=301 by decide]
theorem bare0 (e:Ent) (h1:e.thr=0) (h2:e.dep=dep0) (h3:e.pub=0) (h4:e.target=0):Bare e:=⟨h1,by rw [h2];rfl,by rw [h2];rfl,by rw [h2];rfl,by rw [h2];rfl,by rw [h2];rfl,by rw [h2];rfl,by rw [h2];rfl,h3,h4⟩
def entX (hd P:UInt64) (V:List Vot):Ent:=⟨1,hd,1,[109,49],4,P,0,dep0,0,0,V⟩
def entZ (W:UInt64) (V:List Vot):Ent:=⟨2,W,2,[109,49],0,0,0,dep0,0,0,V⟩
def celX (hd P:UInt64):List AV:=[ai 1,aw hd,ai 1,as_ [109,49],ai 4,aw P,ai 0,aw 0,aw 0,.nil,.nil,.nil,ai 0,aw 0,aw 0,aw 0,.nil]
def celZ (W:UInt64):List AV:=[ai 2,aw W,ai 2,as_ [109,49],ai 0,aw 0,ai 0,aw 0,aw 0,.nil,.nil,.nil,ai 0,aw 0,aw 0,aw 0,.nil]
theorem entX_adds (hd P:UInt64) (V:List Vot):Adds (entX hd P V):=⟨rfl,nmE1,(show keyE 4=0 by decide),Int.le_refl 1,(show (1:Int)≤2147483647 by omega),bare0 _ rfl rfl rfl rfl⟩
theorem entZ_rems (W:UInt64) (V:List Vot):Rems (entZ W V):=⟨rfl,nmE1,rfl,rfl,(show (1:Int)≤2 by omega),(show (2:Int)≤2147483647 by omega),bare0 _ rfl rfl rfl rfl⟩
theorem memI_hd (m:Mem) (l:List Mem) {h:List UInt8} (e:m.name=h):memI (m::l) h=(0:Nat):=memI_at (i:=0) (Nat.zero_lt_succ _) (by omega) e
theorem memI_one (m:Mem) {h:List UInt8} (e:m.name≠h):memI [m] h= -1:=memI_no fun j hj=>by
 have:j=0:=by simp at hj;omega
 subst this;exact e
theorem awake38_ret:Ret Tryz.prog 12 [] (ao true):=by
 have hm0:=memberN_ret 0 (by omega)
 have hm1:=memberN_ret 1 (by omega)
 rw [mbr0] at hm0
 rw [mbr1] at hm1
 have hvs (l:Nat) (hl:l<16) (m:UInt64):=ver_sign 300 4 l m (by omega) (by omega)
 generalize nodeW 300 4 0=P0 at *
 generalize nodeW 301 4 0=P1 at *
 have hk4:keyE 4=0:=by decide
 have hn:=gnew_ret ⟨[109,48],4,P0,0⟩ (Nat.le_of_ble_eq_true rfl)
 have ne:newE ⟨[109,48],4,P0,0⟩=0:=by unfold newE;rw [if_neg (by simp [nmE0]),if_neg (by simp [hk4]),if_neg (by simp)]
 rw [ne,show newG ⟨[109,48],4,P0,0⟩=⟨0,hash 16 (keyD 4 P0++ [109,48]),1,[⟨[109,48],4,P0,0⟩],[]⟩ from if_pos ne] at hn
 generalize hash 16 (keyD 4 P0++ [109,48])=hd at hn
 have hwx (V:List Vot):Ret Tryz.prog 50 [.agg (entC (entX hd P1 V))] (.tup [aw (hash 16 (bodB (entX hd P1 []))),ai 0]):=wordA_ret _ (entX_adds hd P1 V) (Nat.le_trans (bodB_len _ (Nat.le_of_ble_eq_true rfl)) (by decide))
 generalize hash 16 (bodB (entX hd P1 []))=W at *
 have hwz (V:List Vot):Ret Tryz.prog 50 [.agg (entC (entZ W V))] (.tup [aw (hash 16 (bodB (entZ W []))),ai 0]):=wordR_ret _ (entZ_rems W V) (Nat.le_trans (bodB_len _ (Nat.le_of_ble_eq_true rfl)) (by decide))
 generalize hash 16 (bodB (entZ W []))=W2 at *
 have b0:¬badL 4 0:=by decide
 have b1:¬badL 4 1:=by decide
 have hv:=vote1_ret (entX hd P1 []) W [109,48] 300 4 0 rfl (if_neg b0) (hwx []) (Nat.le_of_ble_eq_true rfl) (Nat.le_of_ble_eq_true rfl) (Nat.le_of_ble_eq_true rfl)
 have hv2:=vote1_ret (entZ W []) W2 [109,48] 300 4 1 rfl (if_neg b1) (hwz []) (Nat.le_of_ble_eq_true rfl) (Nat.le_of_ble_eq_true rfl) (Nat.le_of_ble_eq_true rfl)
 rw [show sgL 4 0=0 from if_neg b0,show sgC 300 4 0 W=signL 300 0 W 18 from if_neg b0,show sgP 300 4 0=pathW 300 0 4 from if_neg b0] at hv
 rw [show sgL 4 1=1 from if_neg b1,show sgC 300 4 1 W2=signL 300 1 W2 18 from if_neg b1,show sgP 300 4 1=pathW 300 1 4 from if_neg b1] at hv2
 have hs0:=hvs 0 (by omega) W
 have hs1:=hvs 1 (by omega) W2
 clear hvs
 have q0:signL 300 ((0:Nat):Int) W 18=signL 300 0 W 18:=rfl
 have q1:signL 300 ((1:Nat):Int) W2 18=signL 300 1 W2 18:=rfl
 rw [q0] at hs0
 rw [q1] at hs1
 generalize signL 300 0 W 18=C0 at *
 generalize signL 300 1 W2 18=C1 at *
 generalize pathW 300 0 4=A0 at *
 generalize pathW 300 1 4=A1 at *
 have V0:Votes ⟨0,hd,1,[⟨[109,48],4,P0,0⟩],[]⟩ W ⟨[109,48],0,C0,A0⟩ 0:=⟨memI_hd _ _ rfl,(show 0<1 by omega),hs0,Int.le_refl 0,(show (0:Int)<64 by omega),(show (0:UInt64)&&&((1:UInt64)<<<UInt64.ofNat (Int.toNat 0))=0 by decide)⟩
 have V1:Votes ⟨1,W,2,[⟨[109,48],4,P0,1⟩,⟨[109,49],4,P1,0⟩],[]⟩ W2 ⟨[109,48],1,C1,A1⟩ 0:=⟨memI_hd _ _ rfl,(show 0<2 by omega),hs1,(show (0:Int)≤1 by omega),(show (1:Int)<64 by omega),(show (1:UInt64)&&&((1:UInt64)<<<UInt64.ofNat (Int.toNat 1))=0 by decide)⟩
 have hA:=applyA_ret ⟨0,hd,1,[⟨[109,48],4,P0,0⟩],[]⟩ (entX hd P1 [⟨[109,48],0,C0,A0⟩]) W ⟨[109,48],0,C0,A0⟩ 0 rfl (hwx _) V0 (memI_hd _ _ rfl) (show 0<2 by omega) (Int.le_refl 1) rfl (Int.le_refl 1) (show (1:Int)≤2147483647 by omega) rfl rfl (memI_one _ (show ([109,48]:List UInt8)≠ [109,49] by decide)) (show 0<1 by omega) (show 1<8 by omega) (show (0:Int)≤1 by omega)
 have eA:appG ⟨0,hd,1,[⟨[109,48],4,P0,0⟩],[]⟩ (entX hd P1 [⟨[109,48],0,C0,A0⟩]) W ⟨[109,48],0,C0,A0⟩ 0=⟨1,W,2,[⟨[109,48],4,P0,1⟩,⟨[109,49],4,P1,0⟩],[]⟩:=by
  unfold appG addG useM
  show (⟨1,W,if 2*(1:Int)≤((1:Nat):Int)+1 then 1+1 else 1,[⟨[109,48],4,P0,0|||((1:UInt64)<<<UInt64.ofNat (Int.toNat 0))⟩,⟨[109,49],4,P1,0⟩],[]⟩:Grp)=_
  rw [if_pos (by omega),show (0:UInt64)|||((1:UInt64)<<<UInt64.ofNat (Int.toNat 0))=1 by decide];rfl
 rw [eA] at hA
 have hQ:=applyQ_ret ⟨0,hd,1,[⟨[109,48],4,P0,0⟩],[]⟩ (entX hd P1 []) W 41 (hwx _) (chkv0_ret _ W [] rfl) (by decide) rfl (Int.le_refl 1) (show (1:Int)≤2147483647 by omega) rfl
 have hQ2:=applyQ_ret ⟨1,W,2,[⟨[109,48],4,P0,1⟩,⟨[109,49],4,P1,0⟩],[]⟩ (entZ W [⟨[109,48],1,C1,A1⟩]) W2 41 (hwz _) (chkv1_ret _ W2 _ 0 V1 (show 2≤1000 by omega)) (by decide) rfl (show (1:Int)≤2 by omega) (show (2:Int)≤2147483647 by omega) rfl
 have hv':Ret Tryz.prog 25 [.agg (celX hd P1),as_ [109,48],aw 300,ai 4,ai 0] _:=Ret.nilsA esE17 hv
 have hv2':Ret Tryz.prog 25 [.agg (celZ W),as_ [109,48],aw 300,ai 4,ai 1] (.tup [.agg (entO (entZ W [⟨[109,48],1,C1,A1⟩]) [⟨[109,48],1,C1,A1⟩]),ai 0]):=Ret.nilsA esE17 hv2
 have hQ':Ret Tryz.prog 30 [.agg (grpC ⟨0,hd,1,[⟨[109,48],4,P0,0⟩],[]⟩),.agg (celX hd P1)] _:=Ret.nilsA esE17 hQ
 have hQ2':Ret Tryz.prog 30 [.agg (grpC ⟨1,W,2,[⟨[109,48],4,P0,1⟩,⟨[109,49],4,P1,0⟩],[]⟩),.agg (entC (entZ W [⟨[109,48],1,C1,A1⟩]))] (.tup [.agg (grpC ⟨1,W,2,[⟨[109,48],4,P0,1⟩,⟨[109,49],4,P1,0⟩],[]⟩),ai 41]):=hQ2
 clear hQ2 V0 V1 hs0 hs1 eA hwx hwz hv hv2 hQ q0 q1 ne hk4
 refine zO Tryz.func12 100 ?_
 refine zP 2 [{},yH [(0,yV (AV.agg [AV.val (Value.string (ByteArray.mk #[109,48])),ai 4,aw P0,aw 0])),(1,{av:=some (AV.tup [AV.agg [ai 0,aw hd,ai 1,AV.own 4 (encA memC [Mem.mk [109,48] (4:Int) P0 0]),AV.own 7 (encA depC [])],ai 0]),b:=false})]] [.keep [2,1,0] [1,501016,401016]] [yB (Ret Tryz.prog (18:Nat) [ai 0] (AV.agg [AV.val (Value.string (ByteArray.mk #[109,48])),ai 4,aw P0,aw 0])) (hm0),yB (Ret Tryz.prog (19:Nat) [AV.agg [AV.val (Value.string (ByteArray.mk #[109,48])),ai 4,aw P0,aw 0]] (AV.tup [AV.agg [ai 0,aw hd,ai 1,AV.own 4 (encA memC [Mem.mk [109,48] (4:Int) P0 0]),AV.own 7 (encA depC [])],ai 0])) (hn),yL 5 5] ?_
 refine zS ?_
 refine AWP.regWX 6 [5] [(2,{av:=some (AV.agg [AV.val (Value.string (ByteArray.mk #[109,49])),ai 4,aw P1,aw 0])})] (C:=[Ret Tryz.prog (18:Nat) [ai 1] (AV.agg [AV.val (Value.string (ByteArray.mk #[109,49])),ai 4,aw P1,aw 0]),AV.addr 1 1=AV.addr 1 1,aw hd=aw hd,AV.agg [AV.val (Value.string (ByteArray.mk #[109,49])),ai 4,aw P1,aw 0]=AV.agg [AV.val (Value.string (ByteArray.mk #[109,49])),ai 4,aw P1,aw 0],Ret Tryz.prog (18:Nat) [ai 1] (AV.agg [AV.val (Value.string (ByteArray.mk #[109,49])),ai 4,aw P1,aw 0]),AV.agg [ai 4,aw P1]=AV.agg [ai 4,aw P1],AV.agg [ai 1,aw hd,ai 1,AV.val (Value.string (ByteArray.mk #[109,49])),ai 4,aw P1,ai 0,au0,au0,AV.nil,AV.nil,AV.nil,ai 0,au0,au0,au0,AV.nil]=AV.agg [ai 1,aw hd,ai 1,AV.val (Value.string (ByteArray.mk #[109,49])),ai 4,aw P1,ai 0,au0,au0,AV.nil,AV.nil,AV.nil,ai 0,au0,au0,au0,AV.nil],(17:Nat)≤(17:Nat)]) (by kernel_rfl) ⟨(hm1),rfl,rfl,rfl,(hm1),rfl,rfl,(by omega),trivial⟩ ?_
 refine then_n ?_
 refine AWP.wkX [.keep [3,2,1,0] [3,1,501016,401016]] (by kernel_rfl) ?_
 refine zP 6 [yH [(1,{av:=some (AV.tup [AV.agg [ai ((entX hd P1 []).epoch),aw ((entX hd P1 []).prev),ai ((entX hd P1 []).kind),AV.val (Value.string (ByteArray.mk (entX hd P1 []).name.toArray)),ai ((entX hd P1 []).kh),aw ((entX hd P1 []).kr),ai ((entX hd P1 []).thr),aw ((entX hd P1 []).dep.pub),aw ((entX hd P1 []).dep.peer),AV.own 1 (bytesA (entX hd P1 []).dep.box),AV.own 1 (encA strC (entX hd P1 []).dep.holders),AV.own 1 (wordsA (entX hd P1 []).dep.digests),ai ((entX hd P1 []).dep.need),aw ((entX hd P1 []).dep.target),aw ((entX hd P1 []).pub),aw ((entX hd P1 []).target),AV.own 4 (encA votC [Vot.mk [109,48] (0:Int) C0 A0])],ai 0]),b:=false})],yH [(2,{av:=some (AV.tup [AV.agg [ai 1,aw W,ai 2,AV.own 4 (encA memC [Mem.mk [109,48] (4:Int) P0 1,Mem.mk [109,49] (4:Int) P1 0]),AV.sl 7 (encA depC [])],ai 0]),b:=false})],yH [(2,{av:=some (AV.tup [AV.agg [ai 0,aw hd,ai 1,AV.sl 4 (encA memC [Mem.mk [109,48] (4:Int) P0 0]),AV.sl 7 (encA depC [])],ai 41]),b:=false})],yH [(3,{av:=some (AV.tup [AV.agg [ai ((entZ W [Vot.mk [109,48] (1:Int) C1 A1]).epoch),aw ((entZ W [Vot.mk [109,48] (1:Int) C1 A1]).prev),ai ((entZ W [Vot.mk [109,48] (1:Int) C1 A1]).kind),AV.val (Value.string (ByteArray.mk (entZ W [Vot.mk [109,48] (1:Int) C1 A1]).name.toArray)),ai ((entZ W [Vot.mk [109,48] (1:Int) C1 A1]).kh),aw ((entZ W [Vot.mk [109,48] (1:Int) C1 A1]).kr),ai ((entZ W [Vot.mk [109,48] (1:Int) C1 A1]).thr),aw ((entZ W [Vot.mk [109,48] (1:Int) C1 A1]).dep.pub),aw ((entZ W [Vot.mk [109,48] (1:Int) C1 A1]).dep.peer),AV.own 1 (bytesA (entZ W [Vot.mk [109,48] (1:Int) C1 A1]).dep.box),AV.own 1 (encA strC (entZ W [Vot.mk [109,48] (1:Int) C1 A1]).dep.holders),AV.own 1 (wordsA (entZ W [Vot.mk [109,48] (1:Int) C1 A1]).dep.digests),ai ((entZ W [Vot.mk [109,48] (1:Int) C1 A1]).dep.need),aw ((entZ W [Vot.mk [109,48] (1:Int) C1 A1]).dep.target),aw ((entZ W [Vot.mk [109,48] (1:Int) C1 A1]).pub),aw ((entZ W [Vot.mk [109,48] (1:Int) C1 A1]).target),AV.own 4 (encA votC [Vot.mk [109,48] (1:Int) C1 A1])],ai 0]),b:=false})],yH [(2,{av:=some (AV.tup [AV.agg [ai 1,aw W,ai 2,AV.sl 4 (encA memC [Mem.mk [109,48] (4:Int) P0 1,Mem.mk [109,49] (4:Int) P1 0]),AV.sl 7 (encA depC [])],ai 41]),b:=false})],yH [(30,{k:=2}),(36,{k:=0}),(39,yV (ao (1 == 1)))]] [.keep [0,13,11,10,9,7,6,5,4,3,2,1] [10,6,4,3,1]] [yB (Ret Tryz.prog (25:Nat) [AV.agg [ai 1,aw hd,ai 1,AV.val (Value.string (ByteArray.mk #[109,49])),ai 4,aw P1,ai 0,au0,au0,AV.nil,AV.nil,AV.nil,ai 0,au0,au0,au0,AV.nil],AV.val (Value.string (ByteArray.mk #[109,48])),AV.val (Value.int .u64 300),ai 4,ai 0] (AV.tup [AV.agg [ai ((entX hd P1 []).epoch),aw ((entX hd P1 []).prev),ai ((entX hd P1 []).kind),AV.val (Value.string (ByteArray.mk (entX hd P1 []).name.toArray)),ai ((entX hd P1 []).kh),aw ((entX hd P1 []).kr),ai ((entX hd P1 []).thr),aw ((entX hd P1 []).dep.pub),aw ((entX hd P1 []).dep.peer),AV.own 1 (bytesA (entX hd P1 []).dep.box),AV.own 1 (encA strC (entX hd P1 []).dep.holders),AV.own 1 (wordsA (entX hd P1 []).dep.digests),ai ((entX hd P1 []).dep.need),aw ((entX hd P1 []).dep.target),aw ((entX hd P1 []).pub),aw ((entX hd P1 []).target),AV.own 4 (encA votC [Vot.mk [109,48] (0:Int) C0 A0])],ai 0])) (hv'),yL 17 17,yB (Ret Tryz.prog (30:Nat) [AV.agg [ai 0,aw hd,ai 1,AV.sl 4 (encA memC [Mem.mk [109,48] (4:Int) P0 0]),AV.sl 7 (encA depC [])],AV.agg [ai ((entX hd P1 []).epoch),aw ((entX hd P1 []).prev),ai ((entX hd P1 []).kind),AV.val (Value.string (ByteArray.mk (entX hd P1 []).name.toArray)),ai ((entX hd P1 []).kh),aw ((entX hd P1 []).kr),ai ((entX hd P1 []).thr),aw ((entX hd P1 []).dep.pub),aw ((entX hd P1 []).dep.peer),AV.sl 1 (bytesA (entX hd P1 []).dep.box),AV.sl 1 (encA strC (entX hd P1 []).dep.holders),AV.sl 1 (wordsA (entX hd P1 []).dep.digests),ai ((entX hd P1 []).dep.need),aw ((entX hd P1 []).dep.target),aw ((entX hd P1 []).pub),aw ((entX hd P1 []).target),AV.sl 4 (encA votC [Vot.mk [109,48] (0:Int) C0 A0])]] (AV.tup [AV.agg [ai 1,aw W,ai 2,AV.own 4 (encA memC [Mem.mk [109,48] (4:Int) P0 1,Mem.mk [109,49] (4:Int) P1 0]),AV.sl 7 (encA depC [])],ai 0])) (hA),yL 5 5,yB (Ret Tryz.prog (30:Nat) [AV.agg [ai 0,aw hd,ai 1,AV.sl 4 (encA memC [Mem.mk [109,48] (4:Int) P0 0]),AV.sl 7 (encA depC [])],AV.agg [ai 1,aw hd,ai 1,AV.val (Value.string (ByteArray.mk #[109,49])),ai 4,aw P1,ai 0,au0,au0,AV.nil,AV.nil,AV.nil,ai 0,au0,au0,au0,AV.nil]] (AV.tup [AV.agg [ai 0,aw hd,ai 1,AV.sl 4 (encA memC [Mem.mk [109,48] (4:Int) P0 0]),AV.sl 7 (encA depC [])],ai 41])) (hQ'),yL 5 5,yB (Ret Tryz.prog (25:Nat) [AV.agg [ai 2,aw W,ai 2,AV.val (Value.string (ByteArray.mk #[109,49])),ai 0,au0,ai 0,au0,au0,AV.nil,AV.nil,AV.nil,ai 0,au0,au0,au0,AV.nil],AV.val (Value.string (ByteArray.mk #[109,48])),AV.val (Value.int .u64 300),ai 4,ai 1] (AV.tup [AV.agg [ai ((entZ W [Vot.mk [109,48] (1:Int) C1 A1]).epoch),aw ((entZ W [Vot.mk [109,48] (1:Int) C1 A1]).prev),ai ((entZ W [Vot.mk [109,48] (1:Int) C1 A1]).kind),AV.val (Value.string (ByteArray.mk (entZ W [Vot.mk [109,48] (1:Int) C1 A1]).name.toArray)),ai ((entZ W [Vot.mk [109,48] (1:Int) C1 A1]).kh),aw ((entZ W [Vot.mk [109,48] (1:Int) C1 A1]).kr),ai ((entZ W [Vot.mk [109,48] (1:Int) C1 A1]).thr),aw ((entZ W [Vot.mk [109,48] (1:Int) C1 A1]).dep.pub),aw ((entZ W [Vot.mk [109,48] (1:Int) C1 A1]).dep.peer),AV.own 1 (bytesA (entZ W [Vot.mk [109,48] (1:Int) C1 A1]).dep.box),AV.own 1 (encA strC (entZ W [Vot.mk [109,48] (1:Int) C1 A1]).dep.holders),AV.own 1 (wordsA (entZ W [Vot.mk [109,48] (1:Int) C1 A1]).dep.digests),ai ((entZ W [Vot.mk [109,48] (1:Int) C1 A1]).dep.need),aw ((entZ W [Vot.mk [109,48] (1:Int) C1 A1]).dep.target),aw ((entZ W [Vot.mk [109,48] (1:Int) C1 A1]).pub),aw ((entZ W [Vot.mk [109,48] (1:Int) C1 A1]).target),AV.own 4 (encA votC [Vot.mk [109,48] (1:Int) C1 A1])],ai 0])) (hv2'),yL 17 17,yB (Ret Tryz.prog (30:Nat) [AV.agg [ai 1,aw W,ai 2,AV.sl 4 (encA memC [Mem.mk [109,48] (4:Int) P0 1,Mem.mk [109,49] (4:Int) P1 0]),AV.sl 7 (encA depC [])],AV.agg [ai ((entZ W [Vot.mk [109,48] (1:Int) C1 A1]).epoch),aw ((entZ W [Vot.mk [109,48] (1:Int) C1 A1]).prev),ai ((entZ W [Vot.mk [109,48] (1:Int) C1 A1]).kind),AV.val (Value.string (ByteArray.mk (entZ W [Vot.mk [109,48] (1:Int) C1 A1]).name.toArray)),ai ((entZ W [Vot.mk [109,48] (1:Int) C1 A1]).kh),aw ((entZ W [Vot.mk [109,48] (1:Int) C1 A1]).kr),ai ((entZ W [Vot.mk [109,48] (1:Int) C1 A1]).thr),aw ((entZ W [Vot.mk [109,48] (1:Int) C1 A1]).dep.pub),aw ((entZ W [Vot.mk [109,48] (1:Int) C1 A1]).dep.peer),AV.sl 1 (bytesA (entZ W [Vot.mk [109,48] (1:Int) C1 A1]).dep.box),AV.sl 1 (encA strC (entZ W [Vot.mk [109,48] (1:Int) C1 A1]).dep.holders),AV.sl 1 (wordsA (entZ W [Vot.mk [109,48] (1:Int) C1 A1]).dep.digests),ai ((entZ W [Vot.mk [109,48] (1:Int) C1 A1]).dep.need),aw ((entZ W [Vot.mk [109,48] (1:Int) C1 A1]).dep.target),aw ((entZ W [Vot.mk [109,48] (1:Int) C1 A1]).pub),aw ((entZ W [Vot.mk [109,48] (1:Int) C1 A1]).target),AV.sl 4 (encA votC [Vot.mk [109,48] (1:Int) C1 A1])]] (AV.tup [AV.agg [ai 1,aw W,ai 2,AV.sl 4 (encA memC [Mem.mk [109,48] (4:Int) P0 1,Mem.mk [109,49] (4:Int) P1 0]),AV.sl 7 (encA depC [])],ai 41])) (hQ2'),yL 5 5,yB (((0:Int) == (0:Int))=true) (decide_eq_true (by omega)),yB (((0:Int) == (0:Int))=true) (decide_eq_true (by omega)),yB (((0:Int) == (0:Int))=true) (decide_eq_true (by omega)),yB (((0:Int) == (0:Int))=true) (decide_eq_true (by omega)),yB (((0:Int) == (0:Int))=true) (decide_eq_true (by omega)),yB (((0:Int) == (0:Int))=true) (decide_eq_true (by omega)),yB (((0:Int) == (0:Int))=true) (decide_eq_true (by omega)),yB (((0:Int) == (0:Int))=true) (decide_eq_true (by omega)),yB (((0:Int) == (0:Int))=true) (decide_eq_true (by omega)),yB (((41:Int) == (41:Int))=true) (decide_eq_true (by omega)),yB (((41:Int) == (41:Int))=true) (decide_eq_true (by omega)),yB (((41:Int) == (41:Int))=true) (decide_eq_true (by omega)),yB (((0:Int) == (0:Int))=true) (decide_eq_true (by omega)),yB (((0:Int) == (0:Int))=true) (decide_eq_true (by omega)),yB (((0:Int) == (0:Int))=true) (decide_eq_true (by omega)),yB (((41:Int) == (41:Int))=true) (decide_eq_true (by omega)),yB (((41:Int) == (41:Int))=true) (decide_eq_true (by omega)),yB (((41:Int) == (41:Int))=true) (decide_eq_true (by omega)),yB (((41:Int) == (41:Int))=true) (decide_eq_true (by omega)),yB (((2:Int) == (2:Int))=true) (decide_eq_true (by omega)),yB (((2:Int) == (2:Int))=true) (decide_eq_true (by omega)),yB (((2:Int) == (2:Int))=true) (decide_eq_true (by omega)),yR ((2:Nat)*(4:Nat)),yB (((2:Int) == (2:Int))=true) (decide_eq_true (by omega)),yB (((2:Int) == (2:Int))=true) (decide_eq_true (by omega)),yB (((↑(2:Nat):Int) == (2:Int))=true) (decide_eq_true (by omega)),yB (((↑(2:Nat):Int) == (2:Int))=true) (decide_eq_true (by omega)),yB (((↑(2:Nat):Int) == (2:Int))=true) (decide_eq_true (by omega)),yR (0:Int),yB ((0:Nat)<(encA memC [Mem.mk [109,48] (4:Int) P0 1,Mem.mk [109,49] (4:Int) P1 0]).length) (by simp only [List.length_cons,encA_len (f:=memC) (e:=4) (fun _=>rfl)];omega),yB (((↑(2:Nat):Int) == (2:Int))=true) (decide_eq_true (by omega)),yB (((↑(2:Nat):Int) == (2:Int))=true) (decide_eq_true (by omega)),yB (((↑(2:Nat):Int) == (2:Int))=true) (decide_eq_true (by omega)),yI (avw_eq 1 1),yB (((↑(2:Nat):Int) == (2:Int))=true) (decide_eq_true (by omega)),yR true,yR true,yR true,yR true] ?_
 refine zR ?_
 refine zV [yR (Value.bool true)]
end Go.Proofs.YtjgbhhnghedgdaaGreatDoor
