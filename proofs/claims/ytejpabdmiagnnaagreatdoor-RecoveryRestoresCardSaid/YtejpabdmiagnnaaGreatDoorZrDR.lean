import Derived.Test.YtejpabdmiagnnaaGreatDoorZrDG
import Derived.Deep.RegionWith
import Derived.StillTailTactics
import Derived.Deep.DeepCutAuto
import Derived.Test.YtejpabdmiagnnaaGreatDoorZrRC
set_option linter.all false
namespace Go.Proofs.YtejpabdmiagnnaaGreatDoor
def fromAbove (f:Nat->UInt8):Nat->UInt64
 | 0=>0
 | t+1=>fromAbove f t<<<8|||(f (7-t)).toUInt64
theorem fromAbove_8 (f:Nat->UInt8):fromAbove f 8=le [f 0,f 1,f 2,f 3,f 4,f 5,f 6,f 7]:=rfl
def byteAt (b:List UInt8) (j k:Nat):UInt8:=if 8*j+k<b.length then b.getD (8*j+k) 0 else if k=7 then UInt8.ofNat b.length else 0
theorem list8 (f:Nat->UInt8):[f 0,f 1,f 2,f 3,f 4,f 5,f 6,f 7]=(List.range 8).map f:=rfl
theorem word_full (b:List UInt8) (j:Nat) (h:8*j+8≤b.length):fromAbove (byteAt b j) 8=le ((b.drop (8*j)).take 8):=by
 rw [fromAbove_8,list8]
 congr 1
 apply List.ext_getElem?
 intro i
 by_cases hi:i<8
 ·rw [List.getElem?_map,List.getElem?_range hi,List.getElem?_take,if_pos hi,List.getElem?_drop]
  simp [byteAt,show 8*j+i<b.length by omega]
 ·rw [List.getElem?_eq_none (by simp;omega),List.getElem?_eq_none (by simp;omega)]
theorem len_byte (n:Nat):(UInt8.ofNat n).toUInt64<<<56=UInt64.ofNat n<<<56:=by
 apply UInt64.toNat_inj.1
 rw [UInt64.toNat_shiftLeft,UInt64.toNat_shiftLeft,UInt8.toNat_toUInt64]
 simp only [UInt8.toNat_ofNat',UInt64.toNat_ofNat',Nat.shiftLeft_eq]
 show n%256*72057594037927936%18446744073709551616=n%18446744073709551616*72057594037927936%18446744073709551616
 omega
theorem word_last (b:List UInt8):fromAbove (byteAt b (b.length/8)) 8=lastWord b:=by
 have hsplit:(List.range 8).map (byteAt b (b.length/8))=(b.drop (8*(b.length/8))++List.replicate (7-b.length%8) 0)++ [UInt8.ofNat b.length]:=by
  apply List.ext_getElem?
  intro i
  by_cases hi:i<8
  ·rw [List.getElem?_map,List.getElem?_range hi,List.getElem?_append,List.getElem?_append]
   have hl:(b.drop (8*(b.length/8))).length=b.length%8:=by simp;omega
   simp only [List.length_append,hl,List.length_replicate,Option.map_some]
   by_cases h1:i<b.length%8
   ·rw [if_pos (by omega),if_pos h1,List.getElem?_drop]
    simp [byteAt,show 8*(b.length/8)+i<b.length by omega]
   ·by_cases h2:i<7
    ·rw [if_pos (by omega),if_neg h1,List.getElem?_replicate,if_pos (by omega)]
     simp [byteAt,show ¬8*(b.length/8)+i<b.length by omega,show i≠7 by omega]
    ·obtain rfl:i=7:=by omega
     rw [if_neg (by omega)]
     simp [byteAt,show ¬8*(b.length/8)+7<b.length by omega,show 7-(b.length%8+(7-b.length%8))=0 by omega]
  ·rw [List.getElem?_eq_none (by simp;omega),List.getElem?_eq_none (by simp;omega)]
 rw [fromAbove_8,list8,hsplit,le_snoc _ _ (by simp;omega),le_zero _ _ (by simp;omega)]
 have h56:8*(b.drop (8*(b.length/8))++List.replicate (7-b.length%8) (0:UInt8)).length=56:=by simp;omega
 rw [h56]
 unfold lastWord
 rw [←len_byte]
 rfl
def absR (k0 k1:UInt64) (b:List UInt8) (j:Nat):St:=if j≤b.length/8 then absN k0 k1 b j else absorb (absN k0 k1 b (b.length/8)) (lastWord b)
theorem absR_succ (k0 k1:UInt64) (b:List UInt8) (j:Nat) (h:j≤b.length/8):absR k0 k1 b (j+1)=absorb (absR k0 k1 b j) (fromAbove (byteAt b j) 8):=by
 unfold absR
 rw [if_pos h]
 by_cases h2:j+1≤b.length/8
 ·rw [if_pos h2,word_full b j (by omega)];rfl
 ·obtain rfl:j=b.length/8:=by omega
  rw [if_neg h2,word_last]
theorem absR_last (k0 k1:UInt64) (b:List UInt8):finD (absR k0 k1 b (b.length/8+1))=sum k0 k1 b:=by
 unfold absR sum;rw [if_neg (by omega)]
end Go.Proofs.YtejpabdmiagnnaaGreatDoor
namespace Go.Proofs.YtejpabdmiagnnaaGreatDoor
open Go.RowKit
theorem rotl_any (x:UInt64) (k:Nat) (hk:k=13∨k=16∨k=17∨k=21∨k=32) (w:World) :
  Calls Tryz.prog 218 #[.int .u64 (wv x),.int .u64 k] w fun e w'=>e= .returned (.int .u64 (wv (rotl x (UInt64.ofNat k))))∧w=w':=by
 rw [←rot_val x k (by omega) (by omega)]
 rcases hk with rfl|rfl|rfl|rfl|rfl
 all_goals
  go_enter Tryz.func218,Tryz.ntmps218
  go_wp2
  go_ret
  exact ⟨rfl,rfl⟩
set_option maxRecDepth 100000 in
set_option maxHeartbeats 1600000 in
theorem round_any (v0 v1 v2 v3:UInt64) (w:World) :
  Calls Tryz.prog 192 #[.agg #[.int .u64 (wv v0),.int .u64 (wv v1),.int .u64 (wv v2),.int .u64 (wv v3)]] w fun e w'=>e= .returned (.agg (rnd ⟨v0,v1,v2,v3⟩).cells)∧Below w.heap.size w w':=by
 go_enter Tryz.func192,Tryz.ntmps192
 have ha0:=wv_add v0 v1
 obtain ⟨x0,hx0⟩:∃x,x=v0+v1:=⟨_,rfl⟩
 rw [←hx0] at ha0
 have Hx0:=Lib.hid hx0;clear hx0
 go_upto_region 2 with fail
 clear ha0
 obtain ⟨x1,hx1⟩:∃x,Hid (x=rotl v1 13^^^x0):=⟨_,Lib.hid rfl⟩
 have Hx1:=hx1;clear hx1
 go_cut [9] (fun _ wx=>wx=((w.alloc (.cells #[.int .u64 (wv x0),.int .u64 (wv x1),.int .u64 (wv v2),.int .u64 (wv v3)] 216)).alloc (.cells #[.int .u64 0,.int .u64 0,.int .u64 0,.int .u64 0] 216)).drew)
 case first =>
  have hy:=wv_xor (rotl v1 13) x0
  rw [←Hx1.out] at hy
  go_region_with (go_at_call 218;refine (rotl_any _ 13 (by decide) _).mono ?_;rintro e w1 ⟨rfl,rfl⟩)
  all_goals (go_wp2_with fail;go_meet;rfl)
 case rest =>
  subst hcut
  obtain ⟨x2,hx2⟩:∃x,x=rotl x0 32:=⟨_,rfl⟩
  have ha1:=wv_add v2 v3
  obtain ⟨x3,hx3⟩:∃x,x=v2+v3:=⟨_,rfl⟩
  rw [←hx3] at ha1
  have Hx2:=Lib.hid hx2;clear hx2
  have Hx3:=Lib.hid hx3;clear hx3
  go_upto_region 5 with (go_at_call 218;refine (rotl_any _ 32 (by decide) _).mono ?_;rintro e w1 ⟨rfl,rfl⟩;rw [show rotl x0 (UInt64.ofNat 32)=x2 from Hx2.out.symm])
  clear ha1
  obtain ⟨x4,hx4⟩:∃x,Hid (x=rotl v3 16^^^x3):=⟨_,Lib.hid rfl⟩
  have Hx4:=hx4;clear hx4
  go_cut [26] (fun _ wx=>wx=((w.alloc (.cells #[.int .u64 (wv x2),.int .u64 (wv x1),.int .u64 (wv x3),.int .u64 (wv x4)] 216)).alloc (.cells #[.int .u64 0,.int .u64 0,.int .u64 0,.int .u64 0] 216)).drew.drew)
  case first =>
   have hy:=wv_xor (rotl v3 16) x3
   rw [←Hx4.out] at hy
   go_region_with (go_at_call 218;refine (rotl_any _ 16 (by decide) _).mono ?_;rintro e w1 ⟨rfl,rfl⟩)
   all_goals (go_wp2_with fail;go_meet;rfl)
  case rest =>
   subst hcut
   have ha2:=wv_add x2 x4
   obtain ⟨x5,hx5⟩:∃x,x=x2+x4:=⟨_,rfl⟩
   rw [←hx5] at ha2
   have Hx5:=Lib.hid hx5;clear hx5
   go_upto_region 7 with fail
   clear ha2
   obtain ⟨x6,hx6⟩:∃x,Hid (x=rotl x4 21^^^x5):=⟨_,Lib.hid rfl⟩
   have Hx6:=hx6;clear hx6
   go_cut [39] (fun _ wx=>wx=((w.alloc (.cells #[.int .u64 (wv x5),.int .u64 (wv x1),.int .u64 (wv x3),.int .u64 (wv x6)] 216)).alloc (.cells #[.int .u64 0,.int .u64 0,.int .u64 0,.int .u64 0] 216)).drew.drew.drew)
   case first =>
    have hy:=wv_xor (rotl x4 21) x5
    rw [←Hx6.out] at hy
    go_region_with (go_at_call 218;refine (rotl_any _ 21 (by decide) _).mono ?_;rintro e w1 ⟨rfl,rfl⟩)
    all_goals (go_wp2_with fail;go_meet;rfl)
   case rest =>
    subst hcut
    have ha3:=wv_add x3 x1
    obtain ⟨x7,hx7⟩:∃x,x=x3+x1:=⟨_,rfl⟩
    rw [←hx7] at ha3
    have Hx7:=Lib.hid hx7;clear hx7
    go_upto_region 9 with fail
    clear ha3
    obtain ⟨x8,hx8⟩:∃x,Hid (x=rotl x1 17^^^x7):=⟨_,Lib.hid rfl⟩
    have Hx8:=hx8;clear hx8
    go_cut [52] (fun _ wx=>wx=((w.alloc (.cells #[.int .u64 (wv x5),.int .u64 (wv x8),.int .u64 (wv x7),.int .u64 (wv x6)] 216)).alloc (.cells #[.int .u64 0,.int .u64 0,.int .u64 0,.int .u64 0] 216)).drew.drew.drew.drew)
    case first =>
     have hy:=wv_xor (rotl x1 17) x7
     rw [←Hx8.out] at hy
     go_region_with (go_at_call 218;refine (rotl_any _ 17 (by decide) _).mono ?_;rintro e w1 ⟨rfl,rfl⟩)
     all_goals (go_wp2_with fail;go_meet;rfl)
    case rest =>
     subst hcut
     go_wp2_with (go_at_call 218;refine (rotl_any _ 32 (by decide) _).mono ?_;rintro e w1 ⟨rfl,rfl⟩)
     refine bodyPost_ret (v:=.agg #[.int .u64 (wv x5),.int .u64 (wv x8),.int .u64 (wv (rotl x7 32)),.int .u64 (wv x6)]) (by simp [results,Tryz.results192,go_sem]) rfl ⟨?_,?_⟩
     ·simp only [rnd,St.cells,Hx0.out,Hx1.out,Hx2.out,Hx3.out,Hx4.out,Hx5.out,Hx6.out,Hx7.out,Hx8.out]
     ·exact ((((((Below.refl _ _).alloc (Nat.le_refl _) _).alloc (by simp) _).drew).drew).drew).drew
end Go.Proofs.YtejpabdmiagnnaaGreatDoor
namespace Go.Proofs.YtejpabdmiagnnaaGreatDoor
open Go.RowKit
theorem round_st (s:St) (w:World):Calls Tryz.prog 192 #[.agg s.cells] w fun e w'=>e= .returned (.agg (rnd s).cells)∧Below w.heap.size w w':=round_any s.v0 s.v1 s.v2 s.v3 w
theorem fa_step (f:Nat->UInt8) (t:Nat) (y:Int) (hy:y=bv (f (7-t))):bits BinOp.or IntKind.u64 (IntKind.u64.wrap (wv (fromAbove f t)*256)) y=wv (fromAbove f (t+1)):=by
 have e2:=wv_shl (fromAbove f t) 8 (by decide)
 show _=wv (fromAbove f t<<<8|||(f (7-t)).toUInt64)
 rw [←wv_or,hy,bv_wv]
 exact congrArg (fun y=>bits BinOp.or IntKind.u64 y (wv (f (7-t)).toUInt64)) e2
set_option maxRecDepth 100000 in
set_option maxHeartbeats 1600000 in
theorem refsum_any (k0 k1:UInt64) (A:Option Addr) (n c:Nat) (bs:List UInt8) (w:World) (hr:Reads w w.heap.size A n (bvs bs)) (hn:n≤1000000000) :
  Calls Tryz.prog 145 #[.int .u64 (wv k0),.int .u64 (wv k1),.slice A n c] w fun e w'=>e= .returned (.int .u64 (wv (sum k0 k1 bs)))∧Below w.heap.size w w':=by
 have hl:bs.length=n:=by have:=hr.1;rw [bvs_len] at this;exact this
 have HL:=Lib.hid hl;clear hl
 have HR:=Lib.hid hr;clear hr
 have e0:bits BinOp.xor IntKind.u64 (wv k0) 8317987319222330741=wv (k0^^^8317987319222330741):=wv_xor k0 8317987319222330741
 have e1:bits BinOp.xor IntKind.u64 (wv k1) 7237128888997146477=wv (k1^^^7237128888997146477):=wv_xor k1 7237128888997146477
 have e2:bits BinOp.xor IntKind.u64 (wv k0) 7816392313619706465=wv (k0^^^7816392313619706465):=wv_xor k0 7816392313619706465
 have e3:bits BinOp.xor IntKind.u64 (wv k1) 8387220255154660723=wv (k1^^^8387220255154660723):=wv_xor k1 8387220255154660723
 go_enter Tryz.func145,Tryz.ntmps145
 go_wp2_with fail
 clear e0 e1 e2 e3
 have hb1:Blk (w.alloc (.cells #[.int .u64 (wv (k0^^^8317987319222330741)),.int .u64 (wv (k1^^^7237128888997146477)),.int .u64 (wv (k0^^^7816392313619706465)),.int .u64 (wv (k1^^^8387220255154660723))] 216)) w.heap.size 216 (absR k0 k1 bs 0).cells:=by unfold absR;rw [if_pos (Nat.zero_le _)];exact Blk.new w _ _
 have hw1:Below w.heap.size w (w.alloc (.cells #[.int .u64 (wv (k0^^^8317987319222330741)),.int .u64 (wv (k1^^^7237128888997146477)),.int .u64 (wv (k0^^^7816392313619706465)),.int .u64 (wv (k1^^^8387220255154660723))] 216)):=(Below.refl _ _).alloc (Nat.le_refl _) _
 revert hb1 hw1
 generalize w.alloc (.cells #[.int .u64 (wv (k0^^^8317987319222330741)),.int .u64 (wv (k1^^^7237128888997146477)),.int .u64 (wv (k0^^^7816392313619706465)),.int .u64 (wv (k1^^^8387220255154660723))] 216)=w1
 intro hb1 hw1
 obtain ⟨g,hg⟩:∃g,Hid (g=w.heap.size):=⟨_,Lib.hid rfl⟩
 rw [←hg.out] at hb1 ⊢
 go_loopw [8] (fun i wr=>∃j:Nat,j≤n/8+1∧i= .int .i64 (8*j:Nat)∧Blk wr g 216 (absR k0 k1 bs j).cells∧Below w.heap.size w wr) (fun i _=>n+8-(intOf i).toNat)
 case atStart=>exact ⟨0,Nat.zero_le _,rfl,hb1,hw1⟩
 case round =>
  clear hb1 hw1 w1
  obtain ⟨j,hj,rfl,hb,hw⟩:=hrel
  by_cases hlt:j≤n/8
  ·go_wp2_with fail
   obtain ⟨wo,rfl⟩:∃wo:World,wo=wr:=⟨_,rfl⟩
   go_loop [9,10,11] (fun m k _=>∃t:Nat,t≤8∧k= .int .i64 (7-(t:Int))∧m= .int .u64 (wv (fromAbove (byteAt bs j) t))) (fun _ k _=>(intOf k+1).toNat)
   case atStart=>exact ⟨0,Nat.zero_le _,rfl,rfl⟩
   case round =>
    obtain ⟨t,ht,rfl,rfl⟩:=hrel
    by_cases htl:t<8
    ·by_cases hin:8*j+(7-t)<n
     ·obtain ⟨ad,x,rfl,hx,hc⟩:=(HR.out.below hw).byte HL.out hin
      have hx0:=bv_nn x
      have hx1:=bv_lt x
      go_wp2_with fail
      go_round
      case rel =>
       refine ⟨t+1,by omega,by congr 1;omega,congrArg _ (fa_step _ _ _ ?_)⟩
       unfold byteAt;rw [HL.out,if_pos hin,List.getD_eq_getElem?_getD,hx.out.2];rfl
      case measure=>simp [intOf];omega
     ·by_cases ht0:t=0
      ·subst ht0
       go_wp2_with fail
       go_round
       case rel =>
        refine ⟨1,by omega,rfl,congrArg _ (fa_step _ _ _ ?_)⟩
        unfold byteAt;rw [HL.out,if_neg hin,if_pos rfl,bv,UInt8.toNat_ofNat'];omega
       case measure=>simp [intOf]
      ·have ht7:((7-(t:Int)) == 7)=false:=by simp;omega
       go_wp2_with fail
       go_round
       case rel =>
        refine ⟨t+1,by omega,by congr 1;omega,congrArg _ (fa_step _ _ _ ?_)⟩
        unfold byteAt;rw [HL.out,if_neg hin,if_neg (by omega)];rfl
       case measure=>simp [intOf];omega
    ·obtain rfl:t=8:=by omega
     obtain ⟨m,hm⟩:∃m,Hid (m=fromAbove (byteAt bs j) 8):=⟨_,Lib.hid rfl⟩
     rw [←hm.out]
     obtain ⟨s,hs⟩:∃s,Hid (s=absR k0 k1 bs j):=⟨_,Lib.hid rfl⟩
     rw [←hs.out] at hb
     obtain ⟨t0,t1,t2,t3⟩:=s
     replace hb:Blk wo g 216 #[.int .u64 (wv t0),.int .u64 (wv t1),.int .u64 (wv t2),.int .u64 (wv t3)]:=hb
     have c0:wo.cell? ⟨g,0,none⟩=some (.int .u64 (wv t0)):=hb.cell 0
     have c1:wo.cell? ⟨g,1,none⟩=some (.int .u64 (wv t1)):=hb.cell 1
     have c2:wo.cell? ⟨g,2,none⟩=some (.int .u64 (wv t2)):=hb.cell 2
     have c3:wo.cell? ⟨g,3,none⟩=some (.int .u64 (wv t3)):=hb.cell 3
     have f3:wo.frozen? ⟨g,3,none⟩=false:=hb.frozen 3
     have hx3:=wv_xor t3 m
     go_wp2_with fail
     clear c0 c1 c2 c3 f3 hx3
     have hb2:Blk (wo.setCell ⟨g,3,none⟩ (.int .u64 (wv (t3^^^m)))) g 216 #[.int .u64 (wv t0),.int .u64 (wv t1),.int .u64 (wv t2),.int .u64 (wv (t3^^^m))]:=set4_3 hb _
     have hw2:Below w.heap.size w (wo.setCell ⟨g,3,none⟩ (.int .u64 (wv (t3^^^m)))):=hw.setCell (by rw [hg.out];exact Nat.le_refl _) _
     clear hb
     revert hb2 hw2
     generalize wo.setCell ⟨g,3,none⟩ (.int .u64 (wv (t3^^^m)))=w2
     intro hb2 hw2
     refine (round_st ⟨t0,t1,t2,t3^^^m⟩ _).mono ?_
     rintro e w3 ⟨rfl,hw3⟩
     go_wp2_with fail
     refine (round_st (rnd ⟨t0,t1,t2,t3^^^m⟩) _).mono ?_
     rintro e w4 ⟨rfl,hw4⟩
     have hb4:=(hb2.below hw3 hb2.lt).below hw4 ((hb2.below hw3 hb2.lt).lt)
     have hw5:=(hw2.thenCall hw3).thenCall hw4
     obtain ⟨r,hr⟩:∃r,Hid (r=rnd (rnd ⟨t0,t1,t2,t3^^^m⟩)):=⟨_,Lib.hid rfl⟩
     rw [←hr.out]
     clear hb2 hw2 hw3 hw4
     obtain ⟨r0,r1,r2,r3⟩:=r
     rw [show (Value.agg (St.cells ⟨r0,r1,r2,r3⟩))= .agg #[.int .u64 (wv r0),.int .u64 (wv r1),.int .u64 (wv r2),.int .u64 (wv r3)] from rfl]
     have c0:w4.cell? ⟨g,0,none⟩=some (.int .u64 (wv t0)):=hb4.cell 0
     have c1:w4.cell? ⟨g,1,none⟩=some (.int .u64 (wv t1)):=hb4.cell 1
     have c2:w4.cell? ⟨g,2,none⟩=some (.int .u64 (wv t2)):=hb4.cell 2
     have c3:w4.cell? ⟨g,3,none⟩=some (.int .u64 (wv (t3^^^m))):=hb4.cell 3
     have f0:w4.frozen? ⟨g,0,none⟩=false:=hb4.frozen 0
     have f1:w4.frozen? ⟨g,1,none⟩=false:=hb4.frozen 1
     have f2:w4.frozen? ⟨g,2,none⟩=false:=hb4.frozen 2
     have f3:w4.frozen? ⟨g,3,none⟩=false:=hb4.frozen 3
     have hx0:=wv_xor r0 m
     go_wp2_with fail
     have hgB:w.heap.size≤g:=by rw [hg.out];exact Nat.le_refl _
     go_roundw
     case rel =>
      refine ⟨j+1,by omega,congrArg _ (by omega),?_,((((hw5.setCell hgB _).setCell hgB _).setCell hgB _).setCell hgB _).setCell hgB _⟩
      have hlen:=HL.out
      rw [absR_succ _ _ _ _ (by omega),←hm.out,←hs.out]
      show Blk _ g _ (xor0 (rnd (rnd ⟨t0,t1,t2,t3^^^m⟩)) m).cells
      rw [←hr.out]
      exact set4_0 (set4_3 (set4_2 (set4_1 (set4_0 hb4 _) _) _) _) _
     case measure=>simp [intOf];omega
  ·obtain rfl:j=n/8+1:=by omega
   obtain ⟨s,hs⟩:∃s,Hid (s=absR k0 k1 bs (n/8+1)):=⟨_,Lib.hid rfl⟩
   rw [←hs.out] at hb
   have hfin:Hid (finD s=sum k0 k1 bs):=by rw [hs.out,←HL.out];exact absR_last k0 k1 bs
   clear hs
   obtain ⟨t0,t1,t2,t3⟩:=s
   replace hb:Blk wr g 216 #[.int .u64 (wv t0),.int .u64 (wv t1),.int .u64 (wv t2),.int .u64 (wv t3)]:=hb
   have c0:wr.cell? ⟨g,0,none⟩=some (.int .u64 (wv t0)):=hb.cell 0
   have c1:wr.cell? ⟨g,1,none⟩=some (.int .u64 (wv t1)):=hb.cell 1
   have c2:wr.cell? ⟨g,2,none⟩=some (.int .u64 (wv t2)):=hb.cell 2
   have c3:wr.cell? ⟨g,3,none⟩=some (.int .u64 (wv t3)):=hb.cell 3
   have f2:wr.frozen? ⟨g,2,none⟩=false:=hb.frozen 2
   have hx2:bits BinOp.xor IntKind.u64 (wv t2) 255=wv (t2^^^255):=wv_xor t2 255
   go_wp2_with fail
   clear c0 c1 c2 c3 f2 hx2
   have hb2:Blk (wr.setCell ⟨g,2,none⟩ (.int .u64 (wv (t2^^^255)))) g 216 #[.int .u64 (wv t0),.int .u64 (wv t1),.int .u64 (wv (t2^^^255)),.int .u64 (wv t3)]:=set4_2 hb _
   have hw2:Below w.heap.size w (wr.setCell ⟨g,2,none⟩ (.int .u64 (wv (t2^^^255)))):=hw.setCell (by rw [hg.out];exact Nat.le_refl _) _
   clear hb
   revert hb2 hw2
   generalize wr.setCell ⟨g,2,none⟩ (.int .u64 (wv (t2^^^255)))=w2
   intro hb2 hw2
   refine (round_st ⟨t0,t1,t2^^^255,t3⟩ _).mono ?_
   rintro e w3 ⟨rfl,hw3⟩
   replace hw2:=hw2.thenCall hw3
   replace hb2:=hb2.below hw3 hb2.lt
   clear hw3
   go_wp2_with fail
   refine (round_st (rnd ⟨t0,t1,t2^^^255,t3⟩) _).mono ?_
   rintro e w4 ⟨rfl,hw3⟩
   replace hw2:=hw2.thenCall hw3
   replace hb2:=hb2.below hw3 hb2.lt
   clear hw3
   go_wp2_with fail
   refine (round_st (rnd (rnd ⟨t0,t1,t2^^^255,t3⟩)) _).mono ?_
   rintro e w5 ⟨rfl,hw3⟩
   replace hw2:=hw2.thenCall hw3
   replace hb2:=hb2.below hw3 hb2.lt
   clear hw3
   go_wp2_with fail
   refine (round_st (rnd (rnd (rnd ⟨t0,t1,t2^^^255,t3⟩))) _).mono ?_
   rintro e w6 ⟨rfl,hw3⟩
   replace hw2:=hw2.thenCall hw3
   replace hb2:=hb2.below hw3 hb2.lt
   clear hw3
   obtain ⟨r,hr⟩:∃r,Hid (r=rnd (rnd (rnd (rnd ⟨t0,t1,t2^^^255,t3⟩)))):=⟨_,Lib.hid rfl⟩
   rw [←hr.out]
   have hfin2:Hid (finD ⟨t0,t1,t2,t3⟩=r.v0^^^r.v1^^^r.v2^^^r.v3):=by rw [hr.out];rfl
   clear hr
   obtain ⟨r0,r1,r2,r3⟩:=r
   rw [show (Value.agg (St.cells ⟨r0,r1,r2,r3⟩))= .agg #[.int .u64 (wv r0),.int .u64 (wv r1),.int .u64 (wv r2),.int .u64 (wv r3)] from rfl]
   have c0:w6.cell? ⟨g,0,none⟩=some (.int .u64 (wv t0)):=hb2.cell 0
   have c1:w6.cell? ⟨g,1,none⟩=some (.int .u64 (wv t1)):=hb2.cell 1
   have c2:w6.cell? ⟨g,2,none⟩=some (.int .u64 (wv (t2^^^255))):=hb2.cell 2
   have c3:w6.cell? ⟨g,3,none⟩=some (.int .u64 (wv t3)):=hb2.cell 3
   have f0:w6.frozen? ⟨g,0,none⟩=false:=hb2.frozen 0
   have f1:w6.frozen? ⟨g,1,none⟩=false:=hb2.frozen 1
   have f2:w6.frozen? ⟨g,2,none⟩=false:=hb2.frozen 2
   have f3:w6.frozen? ⟨g,3,none⟩=false:=hb2.frozen 3
   have hgB:w.heap.size≤g:=by rw [hg.out];exact Nat.le_refl _
   go_wp2
   go_ret
   exact ⟨ret_int (by rw [wv_xor,wv_xor,wv_xor,←hfin.out,hfin2.out]),(((hw2.setCell hgB _).setCell hgB _).setCell hgB _).setCell hgB _⟩
end Go.Proofs.YtejpabdmiagnnaaGreatDoor
namespace Go.Proofs.YtejpabdmiagnnaaGreatDoor
open Go.RowKit
set_option maxHeartbeats 1600000 in
theorem refwords_any (A:Option Addr) (n c:Nat) (l:List UInt64) (w:World) (hr:Reads w w.heap.size A n (wvs l)) (hn:n≤1000000) :
  Calls Tryz.prog 104 #[.slice A n c] w fun e w'=>NewBytes w e w' (words l):=by
 have hl:l.length=n:=by have:=hr.1;rw [wvs_len] at this;exact this
 have HL:=Lib.hid hl;clear hl
 have HR:=Lib.hid hr;clear hr
 go_enter Tryz.func104,Tryz.ntmps104
 go_wp2_with fail
 go_loopw [3,4] (fun v i wr=>∃k:Nat,k≤n∧i= .int .i64 k∧Own wr w.heap.size v (bvs (words (l.take k)))∧Below w.heap.size w wr) (fun _ i _=>n-(intOf i).toNat)
 case atStart=>exact ⟨0,Nat.zero_le _,rfl,Own.nil _ _,Below.refl _ _⟩
 case round =>
  obtain ⟨k,hk,rfl,hown,hw⟩:=hrel
  by_cases hlt:k<n
  ·obtain ⟨ad,x,rfl,hx,-⟩:=(HR.out.below hw).word HL.out hlt
   go_wp2_with fail
   obtain ⟨wo,rfl⟩:∃wo:World,wo=wr:=⟨_,rfl⟩
   go_loopw [3,5] (fun v i wr=>∃j:Nat,j≤8∧i= .int .i64 (7-(j:Int))∧Own wr w.heap.size v (bvs (words (l.take k)++(be x).take j))∧Below w.heap.size w wr) (fun _ i _=>(intOf i+1).toNat)
   case atStart=>exact ⟨0,Nat.zero_le _,rfl,by simpa using hown,hw⟩
   case round =>
    clear hown hw
    obtain ⟨j,hj,rfl,hown,hw⟩:=hrel
    by_cases hjl:j<8
    ·obtain ⟨ad2,x2,he,hx2,hc⟩:=(HR.out.below hw).word HL.out hlt
     obtain rfl:ad=ad2:=by injection he
     obtain rfl:x=x2:=by have h1:=hx.out.2;rw [hx2.out.2] at h1;injection h1 with h1;exact h1.symm
     clear hx2 he
     have hx0:=wv_nn x
     have hone:∀u∈ [Value.int .u8 (wv x/2^(8*(7-j))%256)],u.oneCell'=true:=by simp [Value.oneCell']
     go_wp2_with (at_builtin;refine wpList_app _ rfl _ _ 31 rfl E8 w.heap.size u3 _ rfl (hown.alloc _) _ [.int .u8 (wv x/2^(8*(7-j))%256)] rfl (SliceAt.one _ _ _) hone (by rw [bvs_len,List.length_append,words_len,List.length_take,List.length_take];simp [be];omega) (hw.sizeNew _) ?_;intro v' w2 hown2 hg2 _)
     have hw2:Below w.heap.size w w2:=(hw.thenNew _).thenApp (hown.alloc _) hg2
     have hown3:Own w2 w.heap.size v' (bvs (words (l.take k)++(be x).take (j+1))):=by
      have e1:(be x).take (j+1)=(be x).take j++ [(x>>>UInt64.ofNat (56-8*j)).toUInt8]:=be_take x j hjl
      have e2:wv x/2^(8*(7-j))%256=bv (x>>>UInt64.ofNat (56-8*j)).toUInt8:=by
       rw [show 8*(7-j)=56-8*j by omega,wv_shr x _ (by omega),←wv_byte,IntKind.wrap_u8]
      rw [e2] at hown2
      rw [e1,←List.append_assoc,bvs_app _ [_]]
      exact hown2
     clear hown hown2 hg2 hw hx0 hone hc
     go_wp2_with fail
     go_roundw
     case rel=>exact ⟨j+1,by omega,congrArg _ (by omega),hown3,hw2⟩
     case measure=>simp [intOf];omega
    ·obtain rfl:j=8:=by omega
     have hown3:Own wr w.heap.size u3 (bvs (words (l.take (k+1)))):=by
      rw [hx.out.1,words_app]
      exact hown
     clear hown
     go_wp2_with fail
     go_roundw
     case rel=>exact ⟨k+1,by omega,by go_num,hown3,hw⟩
     case measure=>simp [intOf];omega
  ·obtain rfl:k=n:=by omega
   have hown3:Own wr w.heap.size u3 (bvs (words l)):=by
    rw [List.take_of_length_le (by have:=HL.out;omega)] at hown
    exact hown
   clear hown
   go_wp2
   go_ret
   exact ⟨_,rfl,hown3,hw⟩
theorem refsum_at (k0 k1:UInt64) (v:Value) (bs:List UInt8) (w:World) (h:SliceAt w v (bvs bs)) (hl:bs.length≤1000000000) :
  Calls Tryz.prog 145 #[.int .u64 (wv k0),.int .u64 (wv k1),v] w fun e w'=>e= .returned (.int .u64 (wv (sum k0 k1 bs)))∧Below w.heap.size w w':=by
 obtain ⟨A,c,rfl,hc,hm,hr⟩:=h
 exact refsum_any k0 k1 A _ c bs w hr (by rw [bvs_len];exact hl)
theorem refwords_at (v:Value) (l:List UInt64) (w:World) (h:SliceAt w v (wvs l)) (hl:l.length≤1000000) :
  Calls Tryz.prog 104 #[v] w fun e w'=>NewBytes w e w' (words l):=by
 obtain ⟨A,c,rfl,hc,hm,hr⟩:=h
 exact refwords_any A _ c l w hr (by rw [wvs_len];exact hl)
theorem refhash_any (d:Int) (v:Value) (bs:List UInt8) (w:World) (h:SliceAt w v (bvs bs)) (hl:bs.length≤1000000000) :
  Calls Tryz.prog 77 #[.int .i64 d,v] w fun e w'=>e= .returned (.int .u64 (wv (hash d bs)))∧Below w.heap.size w w':=by
 have hd:=wv_ofInt d
 go_enter Tryz.func77,Tryz.ntmps77
 go_wp2_with fail
 refine (refsum_at _ 0 _ bs _ h hl).mono ?_
 rintro e w1 ⟨rfl,hb⟩
 go_wp2
 go_ret
 exact ⟨rfl,hb⟩
theorem refmac_any (key:UInt64) (d:Int) (v:Value) (bs:List UInt8) (w:World) (h:SliceAt w v (bvs bs)) (hl:bs.length≤1000000000) :
  Calls Tryz.prog 110 #[.int .u64 (wv key),.int .i64 d,v] w fun e w'=>e= .returned (.int .u64 (wv (mac key d bs)))∧Below w.heap.size w w':=by
 have hd:=wv_ofInt d
 have h1:IntKind.u64.wrap (1+wv (u64 d))=wv (1+u64 d):=wv_add 1 (u64 d)
 go_enter Tryz.func110,Tryz.ntmps110
 go_wp2_with fail
 refine (refsum_at _ _ _ bs _ h hl).mono ?_
 rintro e w1 ⟨rfl,hb⟩
 go_wp2
 go_ret
 exact ⟨rfl,hb⟩
set_option maxHeartbeats 400000 in
theorem refderive_any (key:UInt64) (s:ByteArray) (n:Int) (w:World) (hs:s.size≤1000000) :
  Calls Tryz.prog 102 #[.int .u64 (wv key),.string s,.int .i64 n] w fun e w'=>e= .returned (.int .u64 (wv (derive key s.data.toList n)))∧Below w.heap.size w w':=by
 have hd:=wv_ofInt n
 have hsz:(bvs s.data.toList).length=s.size:=by rw [bvs_len];rfl
 have HSZ:=Lib.hid hsz;clear hsz
 go_enter Tryz.func102,Tryz.ntmps102
 go_wp2_with (first
  | (with_reducible refine wpList_bytes _ rfl (.tmp 8) 9 31 rfl 5 s rfl Tryz.underlying9 Tryz.underlying31 Tryz.underlying5 (by unfold maxLen;omega) ?_);intro v1 w1 ho1 hw1
  | (at_builtin;refine wpList_app _ rfl (.tmp 9) (.tmp 10) 31 rfl E8 w.heap.size v1 _ rfl (ho1.alloc _) _ (bvs [0]) rfl (SliceAt.one _ _ _) (bvs_one _) (by rw [HSZ.out];simp [bvs];omega) (hw1.sizeNew _) ?_;intro v2 w2 ho2 hg2 _;have hw2:=(hw1.thenNew _).thenApp (ho1.alloc _) hg2;clear hg2)
  | (go_at_call 104;refine (refwords_at _ [u64 n] _ (SliceAt.one _ _ _) (by simp)).mono ?_;rintro e w3 ⟨v3,rfl,ho3,hw3⟩)
  | (at_builtin;refine wpList_app _ rfl (.tmp 11) (.tmp 15) 31 rfl E8 w.heap.size v2 _ rfl ((ho2.alloc _).below hw3 (Nat.le_refl _)) _ _ rfl ho3.reads (bvs_one _) (by rw [List.length_append,HSZ.out,bvs_len,bvs_len,words_len];simp;omega) ((hw2.thenNew _).thenCall hw3).size ?_;intro v4 w4 ho4 hg4 _)
  | (go_at_call 110;refine (refmac_any _ _ _ _ _ (by rw [←bvs_app,←bvs_app] at ho4;exact ho4.reads) (by have:=HSZ.out;rw [bvs_len] at this;simp [words_len];omega)).mono ?_;rintro e w5 ⟨rfl,hw5⟩))
 go_ret
 exact ⟨rfl,(((hw2.thenNew _).thenCall hw3).thenApp ((ho2.alloc _).below hw3 (Nat.le_refl _)) hg4).thenCall hw5⟩
end Go.Proofs.YtejpabdmiagnnaaGreatDoor
namespace Go.Proofs.YtejpabdmiagnnaaGreatDoor
open Go.RowKit
theorem rep_words {S:Nat->Prop} {w:World} {v:Value} {bs:List UInt64} (h:Rep S w v (.sl 1 (wordsA bs))) (hS:∀b,S b->b<w.heap.size):SliceAt w v (wvs bs):=by
 cases h with
 | sl A n c e us row hl hn hc hm ha h =>
  have hus:us=wvs bs:=by
   apply List.ext_getElem?
   intro j
   cases hu:us[j]? with
   | none =>
    have:us.length≤j:=List.getElem?_eq_none_iff.1 hu
    rw [List.getElem?_eq_none (by rw [wvs_len];rw [wordsA_len] at hl;omega)]
   | some u =>
    have hj:j<bs.length:=by have:=(List.getElem?_eq_some_iff.1 hu).1;rw [hl,wordsA_len] at this;exact this
    have hx:(wordsA bs)[j]?=some (.val (.int .u64 (wv bs[j]))):=by simp [wordsA,hj]
    have:=h j u _ hu hx
    cases this
    simp [wvs,hj]
  subst hus
  rw [wordsA_len] at hn ha
  have hn':bs.length=n:=by omega
  subst hn'
  refine ⟨A,c,by rw [wvs_len],by rw [wvs_len];exact hc,hm,by rw [wvs_len],fun h0=>?_⟩
  rw [wvs_len] at h0
  obtain ⟨ad,e,hs,hcell⟩:=ha h0
  exact ⟨ad,e,hS _ hs,hcell⟩
theorem rep_val {S:Nat->Prop} {w:World} {v u:Value} (h:Rep S w v (.val u)):v=u:=by cases h;rfl
theorem Ret.of_val {P:Program} {f:FuncId} {args:List AV} {u:Value} (h:∀(w:World) (vs:List Value),vs.length=args.length->(∀(j:Nat) v x,vs[j]?=some v->args[j]?=some x->Rep (fun b=>b<w.heap.size) w v x) ->
  Calls P f vs.toArray w fun e w'=>e= .returned u∧Below w.heap.size w w'):Ret P f args (.val u):=by
 intro w S vs _ hS hl hr
 refine (h w vs hl fun j v x hv hx=>(hr j v x hv hx).mono fun b hb=>⟨hS b hb,rfl⟩).mono fun e w' ⟨he,hb⟩=>?_
 exact ⟨u,[],he,hb,List.nodup_nil,by simp,.inl (.inl (.rep (.val u)))⟩
theorem Ret.of_bytes {P:Program} {f:FuncId} {args:List AV} {bs:List UInt8} (h:∀(w:World) (vs:List Value),vs.length=args.length->(∀(j:Nat) v x,vs[j]?=some v->args[j]?=some x->Rep (fun b=>b<w.heap.size) w v x) ->
  Calls P f vs.toArray w fun e w'=>NewBytes w e w' bs):Ret P f args (.own 1 (bytesA bs)):=by
 intro w S vs _ hS hl hr
 refine (h w vs hl fun j v x hv hx=>(hr j v x hv hx).mono fun b hb=>⟨hS b hb,rfl⟩).mono fun e w' ⟨v,he,ho,hb⟩=>?_
 rcases ho with ⟨rfl,hn⟩|⟨g,cap,cur,te,fr,rfl,hg0,hg,hlc,hcm,hcs,htk,hfr⟩
 ·have:bs= []:=by cases bs with
   | nil=>rfl
   | cons a l=>simp [bvs] at hn
  subst this
  exact ⟨_,[],he,hb,List.nodup_nil,by simp,.inl (.inl (.nil 1))⟩
 ·have hlt:g<w'.heap.size:=by
   rcases Nat.lt_or_ge g w'.heap.size with h|h
   ·exact h
   ·rw [Array.getElem?_eq_none h] at hg;cases hg
  refine ⟨_,[g],he,hb,by simp,by simp [hg0,hlt],.inl (.inl (.own g _ cap 1 (bytesA bs) cur te fr hg (fun j hj=>hfr j (by omega)) (by rw [bytesA_len,bvs_len,Nat.one_mul]) hlc hcm (by omega) ?_))⟩
  intro j u x hu hx
  have hj:j<bs.length:=by have:=(List.getElem?_eq_some_iff.1 hx).1;rwa [bytesA_len] at this
  have hx':x= .val (.int .u8 (bv bs[j])):=by simp [bytesA,hj] at hx;exact hx.symm
  subst hx'
  have hu2:(bvs bs)[j]?=some u:=by
   rw [←htk,List.getElem?_take_of_lt (by rw [bvs_len];exact hj)];simpa using hu
  have:u= .int .u8 (bv bs[j]):=by simp [bvs,hj] at hu2;exact hu2.symm
  subst this
  exact .val _
theorem args1 {vs:List Value} {xs:List AV} (h:vs.length=xs.length) (hx:xs.length=1):∃v,vs= [v]:=by
 match vs,h with
 | [v],_=>exact ⟨v,rfl⟩
 | [],h=>simp at h;omega
 | _::_::_,h=>simp at h;omega
theorem args2 {vs:List Value} {xs:List AV} (h:vs.length=xs.length) (hx:xs.length=2):∃v u,vs= [v,u]:=by
 match vs,h with
 | [v,u],_=>exact ⟨v,u,rfl⟩
 | [],h=>simp at h;omega
 | [_],h=>simp at h;omega
 | _::_::_::_,h=>simp at h;omega
theorem args3 {vs:List Value} {xs:List AV} (h:vs.length=xs.length) (hx:xs.length=3):∃v u t,vs= [v,u,t]:=by
 match vs,h with
 | [v,u,t],_=>exact ⟨v,u,t,rfl⟩
 | [],h=>simp at h;omega
 | [_],h=>simp at h;omega
 | [_,_],h=>simp at h;omega
 | _::_::_::_::_,h=>simp at h;omega
theorem words_ret (l:List UInt64) (hl:l.length≤1000000):Ret Tryz.prog 125 [.sl 1 (wordsA l)] (.own 1 (bytesA (words l))):=by
 refine Ret.of_bytes fun w vs hv hr=>?_
 obtain ⟨a,rfl⟩:=args1 hv rfl
 exact words_at a l w (rep_words (hr 0 a _ rfl rfl) (fun _ h=>h)) hl
theorem hash_ret (d:Int) (bs:List UInt8):Ret Tryz.prog 73 [ai d,.sl 1 (bytesA bs)] (aw (hash d bs)):=by
 refine Ret.of_val fun w vs hl hr=>?_
 obtain ⟨a,b,rfl⟩:=args2 hl rfl
 rw [rep_val (hr 0 a _ rfl rfl)]
 exact hash_any d b bs w (rep_bytes (hr 1 b _ rfl rfl) (fun _ h=>h))
theorem mac_ret (key:UInt64) (d:Int) (bs:List UInt8):Ret Tryz.prog 176 [aw key,ai d,.sl 1 (bytesA bs)] (aw (mac key d bs)):=by
 refine Ret.of_val fun w vs hl hr=>?_
 obtain ⟨a,b,c,rfl⟩:=args3 hl rfl
 rw [rep_val (hr 0 a _ rfl rfl),rep_val (hr 1 b _ rfl rfl)]
 exact mac_any key d c bs w (rep_bytes (hr 2 c _ rfl rfl) (fun _ h=>h))
theorem derive_ret (key:UInt64) (s:List UInt8) (n:Int) (hs:s.length≤1000000):Ret Tryz.prog 122 [aw key,as_ s,ai n] (aw (derive key s n)):=by
 refine Ret.of_val fun w vs hl hr=>?_
 obtain ⟨a,b,c,rfl⟩:=args3 hl rfl
 rw [rep_val (hr 0 a _ rfl rfl),rep_val (hr 1 b _ rfl rfl),rep_val (hr 2 c _ rfl rfl)]
 exact derive_any key ⟨s.toArray⟩ n w (by show s.toArray.size≤1000000;simpa using hs)
theorem refwords_ret (l:List UInt64) (hl:l.length≤1000000):Ret Tryz.prog 104 [.sl 1 (wordsA l)] (.own 1 (bytesA (words l))):=by
 refine Ret.of_bytes fun w vs hv hr=>?_
 obtain ⟨a,rfl⟩:=args1 hv rfl
 exact refwords_at a l w (rep_words (hr 0 a _ rfl rfl) (fun _ h=>h)) hl
theorem refhash_ret (d:Int) (bs:List UInt8) (hb:bs.length≤1000000000):Ret Tryz.prog 77 [ai d,.sl 1 (bytesA bs)] (aw (hash d bs)):=by
 refine Ret.of_val fun w vs hl hr=>?_
 obtain ⟨a,b,rfl⟩:=args2 hl rfl
 rw [rep_val (hr 0 a _ rfl rfl)]
 exact refhash_any d b bs w (rep_bytes (hr 1 b _ rfl rfl) (fun _ h=>h)) hb
theorem refmac_ret (key:UInt64) (d:Int) (bs:List UInt8) (hb:bs.length≤1000000000):Ret Tryz.prog 110 [aw key,ai d,.sl 1 (bytesA bs)] (aw (mac key d bs)):=by
 refine Ret.of_val fun w vs hl hr=>?_
 obtain ⟨a,b,c,rfl⟩:=args3 hl rfl
 rw [rep_val (hr 0 a _ rfl rfl),rep_val (hr 1 b _ rfl rfl)]
 exact refmac_any key d c bs w (rep_bytes (hr 2 c _ rfl rfl) (fun _ h=>h)) hb
theorem refderive_ret (key:UInt64) (s:List UInt8) (n:Int) (hs:s.length≤1000000):Ret Tryz.prog 102 [aw key,as_ s,ai n] (aw (derive key s n)):=by
 refine Ret.of_val fun w vs hl hr=>?_
 obtain ⟨a,b,c,rfl⟩:=args3 hl rfl
 rw [rep_val (hr 0 a _ rfl rfl),rep_val (hr 1 b _ rfl rfl),rep_val (hr 2 c _ rfl rfl)]
 exact refderive_any key ⟨s.toArray⟩ n w (by show s.toArray.size≤1000000;simpa using hs)
end Go.Proofs.YtejpabdmiagnnaaGreatDoor
