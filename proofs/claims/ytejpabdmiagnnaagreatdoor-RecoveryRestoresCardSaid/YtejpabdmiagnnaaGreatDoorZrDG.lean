import Derived.Test.YtejpabdmiagnnaaGreatDoorZrRW
import Derived.Test.YtejpabdmiagnnaaGreatDoorRows
import Derived.WalkSpells
import Derived.WalkLawsBesides
import Derived.RegionTactic
import Derived.BigRegion
import Derived.ChangeAlike
import Derived.Test.YtejpabdmiagnnaaGreatDoorZrRC
set_option linter.all false
namespace Go.Proofs.YtejpabdmiagnnaaGreatDoor
structure St where
  v0:UInt64
  v1:UInt64
  v2:UInt64
  v3:UInt64
def rotl (x k:UInt64):UInt64:=x<<<k|||x>>>(64-k)
def rnd (s:St):St :=
  let a0:=s.v0+s.v1
  let a1:=rotl s.v1 13^^^a0
  let b0:=rotl a0 32
  let a2:=s.v2+s.v3
  let a3:=rotl s.v3 16^^^a2
  let c0:=b0+a3
  let b3:=rotl a3 21^^^c0
  let b2:=a2+a1
  let b1:=rotl a1 17^^^b2
  let c2:=rotl b2 32
  ⟨c0,b1,c2,b3⟩
def rnds:Nat->St->St
  | 0,s=>s
  | n+1,s=>rnd (rnds n s)
def xor3 (s:St) (m:UInt64):St:=⟨s.v0,s.v1,s.v2,s.v3^^^m⟩
def xor0 (s:St) (m:UInt64):St:=⟨s.v0^^^m,s.v1,s.v2,s.v3⟩
def xor2 (s:St) (m:UInt64):St:=⟨s.v0,s.v1,s.v2^^^m,s.v3⟩
def absorb (s:St) (m:UInt64):St:=xor0 (rnds 2 (xor3 s m)) m
def start (k0 k1:UInt64):St:=⟨k0^^^8317987319222330741,k1^^^7237128888997146477,k0^^^7816392313619706465,k1^^^8387220255154660723⟩
def le:List UInt8->UInt64
  | []=>0
  | b::bs=>le bs<<<8|||b.toUInt64
def absN (k0 k1:UInt64) (b:List UInt8):Nat->St
  | 0=>start k0 k1
  | i+1=>absorb (absN k0 k1 b i) (le ((b.drop (8*i)).take 8))
def lastWord (b:List UInt8):UInt64:=le (b.drop (8*(b.length/8)))|||UInt64.ofNat b.length<<<56
def finD (s:St):UInt64:=let t:=rnds 4 (xor2 s 255);t.v0^^^t.v1^^^t.v2^^^t.v3
def sum (k0 k1:UInt64) (b:List UInt8):UInt64:=finD (absorb (absN k0 k1 b (b.length/8)) (lastWord b))
attribute [irreducible] sum
def be (x:UInt64):List UInt8:=[(x>>>56).toUInt8,(x>>>48).toUInt8,(x>>>40).toUInt8,(x>>>32).toUInt8,(x>>>24).toUInt8,(x>>>16).toUInt8,(x>>>8).toUInt8,(x>>>0).toUInt8]
def words:List UInt64->List UInt8
  | []=>[]
  | x::l=>be x++words l
theorem words_app (l m:List UInt64):words (l++m)=words l++words m:=by
  induction l with
  | nil=>rfl
  | cons x l ih=>simp [words,ih]
theorem words_len (l:List UInt64):(words l).length=8*l.length:=by
  induction l with
  | nil=>rfl
  | cons x l ih=>simp [words,be,ih];omega
theorem shl_or (a b c:UInt64):(a|||b)<<<c=a<<<c|||b<<<c:=by
  apply UInt64.eq_of_toBitVec_eq;simp [BitVec.shiftLeft_or_distrib]
theorem shl_shl (c:UInt64) (n:Nat) (h:n+8<64):(c<<<UInt64.ofNat n)<<<8=c<<<UInt64.ofNat (n+8):=by
  rw [show UInt64.ofNat (n+8)=UInt64.ofNat n+8 by rw [UInt64.ofNat_add];rfl]
  rw [UInt64.shiftLeft_add (by rw [UInt64.lt_iff_toNat_lt,UInt64.toNat_ofNat_of_lt' (by show n<2^64;omega)];show n<64;omega) (by decide) (by
    rw [UInt64.lt_iff_toNat_lt,UInt64.toNat_add,UInt64.toNat_ofNat_of_lt' (by show n<2^64;omega)];show (n+8)%2^64<64;omega)]
theorem le_snoc (bs:List UInt8) (c:UInt8) (h:bs.length<8):le (bs++ [c])=le bs|||c.toUInt64<<<UInt64.ofNat (8*bs.length):=by
  induction bs with
  | nil=>simp [le]
  | cons b bs ih =>
    simp only [List.length_cons] at h
    simp only [List.cons_append,le,ih (by omega),List.length_cons]
    rw [shl_or,shl_shl _ _ (by omega),UInt64.or_assoc,UInt64.or_comm (c.toUInt64<<<_),←UInt64.or_assoc]
    rfl
theorem le_zero (bs:List UInt8) (k:Nat) (h:bs.length+k≤8):le (bs++List.replicate k 0)=le bs:=by
  induction k with
  | zero=>simp
  | succ k ih =>
    rw [List.replicate_succ',←List.append_assoc,le_snoc _ _ (by simp;omega),ih (by omega)]
    simp
end Go.Proofs.YtejpabdmiagnnaaGreatDoor
namespace Go.Proofs.YtejpabdmiagnnaaGreatDoor
open Go.RowKit
def St.cells (s:St):Array Value:= #[.int .u64 (wv s.v0),.int .u64 (wv s.v1),.int .u64 (wv s.v2),.int .u64 (wv s.v3)]
theorem set4_0 {w:World} {g:Nat} {t:TypeId} {a b c d:Value} (h:Blk w g t #[a,b,c,d]) (u:Value):Blk (w.setCell ⟨g,0,none⟩ u) g t #[u,b,c,d]:=h.set_ 0 u
theorem set4_1 {w:World} {g:Nat} {t:TypeId} {a b c d:Value} (h:Blk w g t #[a,b,c,d]) (u:Value):Blk (w.setCell ⟨g,1,none⟩ u) g t #[a,u,c,d]:=h.set_ 1 u
theorem set4_2 {w:World} {g:Nat} {t:TypeId} {a b c d:Value} (h:Blk w g t #[a,b,c,d]) (u:Value):Blk (w.setCell ⟨g,2,none⟩ u) g t #[a,b,u,d]:=h.set_ 2 u
theorem set4_3 {w:World} {g:Nat} {t:TypeId} {a b c d:Value} (h:Blk w g t #[a,b,c,d]) (u:Value):Blk (w.setCell ⟨g,3,none⟩ u) g t #[a,b,c,u]:=h.set_ 3 u
theorem rot_val (x:UInt64) (k:Nat) (h0:0<k) (h1:k<64):bits .or .u64 (IntKind.u64.wrap (wv x*2^k)) (wv x/2^(64-k))=wv (rotl x (UInt64.ofNat k)):=by
  rw [wv_shl x k h1,wv_shr x (64-k) (by omega),wv_or]
  unfold rotl
  rw [UInt64.ofNat_sub (by omega)]
  rfl
theorem rot_any (x:UInt64) (k:Nat) (hk:k=13∨k=16∨k=17∨k=21∨k=32) (w:World) :
    Calls Tryz.prog 217 #[.int .u64 (wv x),.int .i64 k] w fun e w'=>e= .returned (.int .u64 (wv (rotl x (UInt64.ofNat k))))∧w=w':=by
  have h1:bits BinOp.and IntKind.u64 13 63=13:=by decide
  have h2:bits BinOp.and IntKind.u64 16 63=16:=by decide
  have h3:bits BinOp.and IntKind.u64 17 63=17:=by decide
  have h4:bits BinOp.and IntKind.u64 21 63=21:=by decide
  have h5:bits BinOp.and IntKind.u64 32 63=32:=by decide
  rw [←rot_val x k (by omega) (by omega)]
  rcases hk with rfl|rfl|rfl|rfl|rfl
  all_goals
    go_enter Tryz.func217,Tryz.ntmps217
    go_wp2
    go_ret
    exact ⟨rfl,rfl⟩
set_option maxRecDepth 100000 in
set_option maxHeartbeats 1600000 in
theorem rounds_any (s:St) (g n:Nat) (hn:n≤4) (w:World) (hb:Blk w g 213 s.cells) :
    Calls Tryz.prog 191 #[.pointer (some ⟨g,0,none⟩),.int .i64 n] w fun e w'=>e= .returned (.tuple #[])∧Blk w' g 213 (rnds n s).cells∧w.grownBy w' (some g):=by
  have HB:=Lib.hid hb;clear hb
  go_enter Tryz.func191,Tryz.ntmps191
  go_wp2
  go_loopw [5] (fun i wr=>∃k:Nat,k≤n∧i= .int .i64 k∧Blk wr g 213 (rnds k s).cells∧w.grownBy wr (some g)) (fun i _=>n-(intOf i).toNat)
  case atStart=>exact ⟨0,Nat.zero_le _,rfl,HB.out,World.grownBy.refl w _⟩
  case round =>
    obtain ⟨k,hk,rfl,hb,hg⟩:=hrel
    clear HB
    generalize hs:rnds k s=t at hb
    have HS:=Lib.hid hs;clear hs
    by_cases hlt:k<n
    · obtain ⟨v0,v1,v2,v3⟩:=t
      replace hb:Blk wr g 213 #[.int .u64 (wv v0),.int .u64 (wv v1),.int .u64 (wv v2),.int .u64 (wv v3)]:=hb
      have c0:wr.cell? ⟨g,0,none⟩=some (.int .u64 (wv v0)):=hb.cell 0
      have f0:wr.frozen? ⟨g,0,none⟩=false:=hb.frozen 0
      have c1:wr.cell? ⟨g,1,none⟩=some (.int .u64 (wv v1)):=hb.cell 1
      have f1:wr.frozen? ⟨g,1,none⟩=false:=hb.frozen 1
      have c2:wr.cell? ⟨g,2,none⟩=some (.int .u64 (wv v2)):=hb.cell 2
      have f2:wr.frozen? ⟨g,2,none⟩=false:=hb.frozen 2
      have c3:wr.cell? ⟨g,3,none⟩=some (.int .u64 (wv v3)):=hb.cell 3
      have f3:wr.frozen? ⟨g,3,none⟩=false:=hb.frozen 3
      go_wp2
      go_region
      obtain ⟨x0,H0⟩:∃x,Hid (x=v0+v1):=⟨_,Lib.hid rfl⟩
      replace hb:Blk (wr.setCell ⟨g,0,none⟩ (.int .u64 (IntKind.u64.wrap (wv v0+wv v1)))).drew g 213 #[.int .u64 (wv x0),.int .u64 (wv v1),.int .u64 (wv v2),.int .u64 (wv v3)]:=by rw [H0.out,←wv_add];exact (set4_0 hb _).drew
      replace hg:w.grownBy (wr.setCell ⟨g,0,none⟩ (.int .u64 (IntKind.u64.wrap (wv v0+wv v1)))).drew (some g):=only_drew (only_setCell hg (.inl rfl) _)
      clear c0 c1 c2 c3 f0 f1 f2 f3
      revert hb hg
      generalize (wr.setCell ⟨g,0,none⟩ (.int .u64 (IntKind.u64.wrap (wv v0+wv v1)))).drew=y0
      intro hb hg
      as_aux_lemma =>
       have c0:y0.cell? ⟨g,0,none⟩=some (.int .u64 (wv x0)):=hb.cell 0
       have f0:y0.frozen? ⟨g,0,none⟩=false:=hb.frozen 0
       have c1:y0.cell? ⟨g,1,none⟩=some (.int .u64 (wv v1)):=hb.cell 1
       have f1:y0.frozen? ⟨g,1,none⟩=false:=hb.frozen 1
       have c2:y0.cell? ⟨g,2,none⟩=some (.int .u64 (wv v2)):=hb.cell 2
       have f2:y0.frozen? ⟨g,2,none⟩=false:=hb.frozen 2
       have c3:y0.cell? ⟨g,3,none⟩=some (.int .u64 (wv v3)):=hb.cell 3
       have f3:y0.frozen? ⟨g,3,none⟩=false:=hb.frozen 3
       go_wp2_with (go_at_call 217;refine (rot_any _ 13 (by decide) _).mono ?_;rintro e w1 ⟨rfl,rfl⟩)
       obtain ⟨x1,H1⟩:∃x,Hid (x=rotl v1 13):=⟨_,Lib.hid rfl⟩
       replace hb:Blk (y0.setCell ⟨g,1,none⟩ (.int .u64 (wv (rotl v1 13)))) g 213 #[.int .u64 (wv x0),.int .u64 (wv x1),.int .u64 (wv v2),.int .u64 (wv v3)]:=by rw [H1.out];exact (set4_1 hb _)
       replace hg:w.grownBy (y0.setCell ⟨g,1,none⟩ (.int .u64 (wv (rotl v1 13)))) (some g):=(only_setCell hg (.inl rfl) _)
       clear c0 c1 c2 c3 f0 f1 f2 f3
       revert hb hg
       generalize (y0.setCell ⟨g,1,none⟩ (.int .u64 (wv (rotl v1 13))))=y1
       intro hb hg
       as_aux_lemma =>
        have c0:y1.cell? ⟨g,0,none⟩=some (.int .u64 (wv x0)):=hb.cell 0
        have f0:y1.frozen? ⟨g,0,none⟩=false:=hb.frozen 0
        have c1:y1.cell? ⟨g,1,none⟩=some (.int .u64 (wv x1)):=hb.cell 1
        have f1:y1.frozen? ⟨g,1,none⟩=false:=hb.frozen 1
        have c2:y1.cell? ⟨g,2,none⟩=some (.int .u64 (wv v2)):=hb.cell 2
        have f2:y1.frozen? ⟨g,2,none⟩=false:=hb.frozen 2
        have c3:y1.cell? ⟨g,3,none⟩=some (.int .u64 (wv v3)):=hb.cell 3
        have f3:y1.frozen? ⟨g,3,none⟩=false:=hb.frozen 3
        go_wp2
        go_region
        obtain ⟨x2,H2⟩:∃x,Hid (x=x1^^^x0):=⟨_,Lib.hid rfl⟩
        replace hb:Blk (y1.setCell ⟨g,1,none⟩ (.int .u64 (bits BinOp.xor IntKind.u64 (wv x1) (wv x0)))).drew g 213 #[.int .u64 (wv x0),.int .u64 (wv x2),.int .u64 (wv v2),.int .u64 (wv v3)]:=by rw [H2.out,←wv_xor];exact (set4_1 hb _).drew
        replace hg:w.grownBy (y1.setCell ⟨g,1,none⟩ (.int .u64 (bits BinOp.xor IntKind.u64 (wv x1) (wv x0)))).drew (some g):=only_drew (only_setCell hg (.inl rfl) _)
        clear c0 c1 c2 c3 f0 f1 f2 f3
        revert hb hg
        generalize (y1.setCell ⟨g,1,none⟩ (.int .u64 (bits BinOp.xor IntKind.u64 (wv x1) (wv x0)))).drew=y2
        intro hb hg
        as_aux_lemma =>
         have c0:y2.cell? ⟨g,0,none⟩=some (.int .u64 (wv x0)):=hb.cell 0
         have f0:y2.frozen? ⟨g,0,none⟩=false:=hb.frozen 0
         have c1:y2.cell? ⟨g,1,none⟩=some (.int .u64 (wv x2)):=hb.cell 1
         have f1:y2.frozen? ⟨g,1,none⟩=false:=hb.frozen 1
         have c2:y2.cell? ⟨g,2,none⟩=some (.int .u64 (wv v2)):=hb.cell 2
         have f2:y2.frozen? ⟨g,2,none⟩=false:=hb.frozen 2
         have c3:y2.cell? ⟨g,3,none⟩=some (.int .u64 (wv v3)):=hb.cell 3
         have f3:y2.frozen? ⟨g,3,none⟩=false:=hb.frozen 3
         go_wp2_with (go_at_call 217;refine (rot_any _ 32 (by decide) _).mono ?_;rintro e w1 ⟨rfl,rfl⟩)
         obtain ⟨x3,H3⟩:∃x,Hid (x=rotl x0 32):=⟨_,Lib.hid rfl⟩
         replace hb:Blk (y2.setCell ⟨g,0,none⟩ (.int .u64 (wv (rotl x0 32)))) g 213 #[.int .u64 (wv x3),.int .u64 (wv x2),.int .u64 (wv v2),.int .u64 (wv v3)]:=by rw [H3.out];exact (set4_0 hb _)
         replace hg:w.grownBy (y2.setCell ⟨g,0,none⟩ (.int .u64 (wv (rotl x0 32)))) (some g):=(only_setCell hg (.inl rfl) _)
         clear c0 c1 c2 c3 f0 f1 f2 f3
         revert hb hg
         generalize (y2.setCell ⟨g,0,none⟩ (.int .u64 (wv (rotl x0 32))))=y3
         intro hb hg
         as_aux_lemma =>
          have c0:y3.cell? ⟨g,0,none⟩=some (.int .u64 (wv x3)):=hb.cell 0
          have f0:y3.frozen? ⟨g,0,none⟩=false:=hb.frozen 0
          have c1:y3.cell? ⟨g,1,none⟩=some (.int .u64 (wv x2)):=hb.cell 1
          have f1:y3.frozen? ⟨g,1,none⟩=false:=hb.frozen 1
          have c2:y3.cell? ⟨g,2,none⟩=some (.int .u64 (wv v2)):=hb.cell 2
          have f2:y3.frozen? ⟨g,2,none⟩=false:=hb.frozen 2
          have c3:y3.cell? ⟨g,3,none⟩=some (.int .u64 (wv v3)):=hb.cell 3
          have f3:y3.frozen? ⟨g,3,none⟩=false:=hb.frozen 3
          go_wp2
          go_region
          obtain ⟨x4,H4⟩:∃x,Hid (x=v2+v3):=⟨_,Lib.hid rfl⟩
          replace hb:Blk (y3.setCell ⟨g,2,none⟩ (.int .u64 (IntKind.u64.wrap (wv v2+wv v3)))).drew g 213 #[.int .u64 (wv x3),.int .u64 (wv x2),.int .u64 (wv x4),.int .u64 (wv v3)]:=by rw [H4.out,←wv_add];exact (set4_2 hb _).drew
          replace hg:w.grownBy (y3.setCell ⟨g,2,none⟩ (.int .u64 (IntKind.u64.wrap (wv v2+wv v3)))).drew (some g):=only_drew (only_setCell hg (.inl rfl) _)
          clear c0 c1 c2 c3 f0 f1 f2 f3
          revert hb hg
          generalize (y3.setCell ⟨g,2,none⟩ (.int .u64 (IntKind.u64.wrap (wv v2+wv v3)))).drew=y4
          intro hb hg
          as_aux_lemma =>
           have c0:y4.cell? ⟨g,0,none⟩=some (.int .u64 (wv x3)):=hb.cell 0
           have f0:y4.frozen? ⟨g,0,none⟩=false:=hb.frozen 0
           have c1:y4.cell? ⟨g,1,none⟩=some (.int .u64 (wv x2)):=hb.cell 1
           have f1:y4.frozen? ⟨g,1,none⟩=false:=hb.frozen 1
           have c2:y4.cell? ⟨g,2,none⟩=some (.int .u64 (wv x4)):=hb.cell 2
           have f2:y4.frozen? ⟨g,2,none⟩=false:=hb.frozen 2
           have c3:y4.cell? ⟨g,3,none⟩=some (.int .u64 (wv v3)):=hb.cell 3
           have f3:y4.frozen? ⟨g,3,none⟩=false:=hb.frozen 3
           go_wp2_with (go_at_call 217;refine (rot_any _ 16 (by decide) _).mono ?_;rintro e w1 ⟨rfl,rfl⟩)
           obtain ⟨x5,H5⟩:∃x,Hid (x=rotl v3 16):=⟨_,Lib.hid rfl⟩
           replace hb:Blk (y4.setCell ⟨g,3,none⟩ (.int .u64 (wv (rotl v3 16)))) g 213 #[.int .u64 (wv x3),.int .u64 (wv x2),.int .u64 (wv x4),.int .u64 (wv x5)]:=by rw [H5.out];exact (set4_3 hb _)
           replace hg:w.grownBy (y4.setCell ⟨g,3,none⟩ (.int .u64 (wv (rotl v3 16)))) (some g):=(only_setCell hg (.inl rfl) _)
           clear c0 c1 c2 c3 f0 f1 f2 f3
           revert hb hg
           generalize (y4.setCell ⟨g,3,none⟩ (.int .u64 (wv (rotl v3 16))))=y5
           intro hb hg
           as_aux_lemma =>
            have c0:y5.cell? ⟨g,0,none⟩=some (.int .u64 (wv x3)):=hb.cell 0
            have f0:y5.frozen? ⟨g,0,none⟩=false:=hb.frozen 0
            have c1:y5.cell? ⟨g,1,none⟩=some (.int .u64 (wv x2)):=hb.cell 1
            have f1:y5.frozen? ⟨g,1,none⟩=false:=hb.frozen 1
            have c2:y5.cell? ⟨g,2,none⟩=some (.int .u64 (wv x4)):=hb.cell 2
            have f2:y5.frozen? ⟨g,2,none⟩=false:=hb.frozen 2
            have c3:y5.cell? ⟨g,3,none⟩=some (.int .u64 (wv x5)):=hb.cell 3
            have f3:y5.frozen? ⟨g,3,none⟩=false:=hb.frozen 3
            go_wp2
            go_region
            obtain ⟨x6,H6⟩:∃x,Hid (x=x5^^^x4):=⟨_,Lib.hid rfl⟩
            replace hb:Blk (y5.setCell ⟨g,3,none⟩ (.int .u64 (bits BinOp.xor IntKind.u64 (wv x5) (wv x4)))).drew g 213 #[.int .u64 (wv x3),.int .u64 (wv x2),.int .u64 (wv x4),.int .u64 (wv x6)]:=by rw [H6.out,←wv_xor];exact (set4_3 hb _).drew
            replace hg:w.grownBy (y5.setCell ⟨g,3,none⟩ (.int .u64 (bits BinOp.xor IntKind.u64 (wv x5) (wv x4)))).drew (some g):=only_drew (only_setCell hg (.inl rfl) _)
            clear c0 c1 c2 c3 f0 f1 f2 f3
            revert hb hg
            generalize (y5.setCell ⟨g,3,none⟩ (.int .u64 (bits BinOp.xor IntKind.u64 (wv x5) (wv x4)))).drew=y6
            intro hb hg
            as_aux_lemma =>
             have c0:y6.cell? ⟨g,0,none⟩=some (.int .u64 (wv x3)):=hb.cell 0
             have f0:y6.frozen? ⟨g,0,none⟩=false:=hb.frozen 0
             have c1:y6.cell? ⟨g,1,none⟩=some (.int .u64 (wv x2)):=hb.cell 1
             have f1:y6.frozen? ⟨g,1,none⟩=false:=hb.frozen 1
             have c2:y6.cell? ⟨g,2,none⟩=some (.int .u64 (wv x4)):=hb.cell 2
             have f2:y6.frozen? ⟨g,2,none⟩=false:=hb.frozen 2
             have c3:y6.cell? ⟨g,3,none⟩=some (.int .u64 (wv x6)):=hb.cell 3
             have f3:y6.frozen? ⟨g,3,none⟩=false:=hb.frozen 3
             go_wp2
             go_region
             obtain ⟨x7,H7⟩:∃x,Hid (x=x3+x6):=⟨_,Lib.hid rfl⟩
             replace hb:Blk (y6.setCell ⟨g,0,none⟩ (.int .u64 (IntKind.u64.wrap (wv x3+wv x6)))).drew g 213 #[.int .u64 (wv x7),.int .u64 (wv x2),.int .u64 (wv x4),.int .u64 (wv x6)]:=by rw [H7.out,←wv_add];exact (set4_0 hb _).drew
             replace hg:w.grownBy (y6.setCell ⟨g,0,none⟩ (.int .u64 (IntKind.u64.wrap (wv x3+wv x6)))).drew (some g):=only_drew (only_setCell hg (.inl rfl) _)
             clear c0 c1 c2 c3 f0 f1 f2 f3
             revert hb hg
             generalize (y6.setCell ⟨g,0,none⟩ (.int .u64 (IntKind.u64.wrap (wv x3+wv x6)))).drew=y7
             intro hb hg
             as_aux_lemma =>
              have c0:y7.cell? ⟨g,0,none⟩=some (.int .u64 (wv x7)):=hb.cell 0
              have f0:y7.frozen? ⟨g,0,none⟩=false:=hb.frozen 0
              have c1:y7.cell? ⟨g,1,none⟩=some (.int .u64 (wv x2)):=hb.cell 1
              have f1:y7.frozen? ⟨g,1,none⟩=false:=hb.frozen 1
              have c2:y7.cell? ⟨g,2,none⟩=some (.int .u64 (wv x4)):=hb.cell 2
              have f2:y7.frozen? ⟨g,2,none⟩=false:=hb.frozen 2
              have c3:y7.cell? ⟨g,3,none⟩=some (.int .u64 (wv x6)):=hb.cell 3
              have f3:y7.frozen? ⟨g,3,none⟩=false:=hb.frozen 3
              go_wp2_with (go_at_call 217;refine (rot_any _ 21 (by decide) _).mono ?_;rintro e w1 ⟨rfl,rfl⟩)
              obtain ⟨x8,H8⟩:∃x,Hid (x=rotl x6 21):=⟨_,Lib.hid rfl⟩
              replace hb:Blk (y7.setCell ⟨g,3,none⟩ (.int .u64 (wv (rotl x6 21)))) g 213 #[.int .u64 (wv x7),.int .u64 (wv x2),.int .u64 (wv x4),.int .u64 (wv x8)]:=by rw [H8.out];exact (set4_3 hb _)
              replace hg:w.grownBy (y7.setCell ⟨g,3,none⟩ (.int .u64 (wv (rotl x6 21)))) (some g):=(only_setCell hg (.inl rfl) _)
              clear c0 c1 c2 c3 f0 f1 f2 f3
              revert hb hg
              generalize (y7.setCell ⟨g,3,none⟩ (.int .u64 (wv (rotl x6 21))))=y8
              intro hb hg
              as_aux_lemma =>
               have c0:y8.cell? ⟨g,0,none⟩=some (.int .u64 (wv x7)):=hb.cell 0
               have f0:y8.frozen? ⟨g,0,none⟩=false:=hb.frozen 0
               have c1:y8.cell? ⟨g,1,none⟩=some (.int .u64 (wv x2)):=hb.cell 1
               have f1:y8.frozen? ⟨g,1,none⟩=false:=hb.frozen 1
               have c2:y8.cell? ⟨g,2,none⟩=some (.int .u64 (wv x4)):=hb.cell 2
               have f2:y8.frozen? ⟨g,2,none⟩=false:=hb.frozen 2
               have c3:y8.cell? ⟨g,3,none⟩=some (.int .u64 (wv x8)):=hb.cell 3
               have f3:y8.frozen? ⟨g,3,none⟩=false:=hb.frozen 3
               go_wp2
               go_region
               obtain ⟨x9,H9⟩:∃x,Hid (x=x8^^^x7):=⟨_,Lib.hid rfl⟩
               replace hb:Blk (y8.setCell ⟨g,3,none⟩ (.int .u64 (bits BinOp.xor IntKind.u64 (wv x8) (wv x7)))).drew g 213 #[.int .u64 (wv x7),.int .u64 (wv x2),.int .u64 (wv x4),.int .u64 (wv x9)]:=by rw [H9.out,←wv_xor];exact (set4_3 hb _).drew
               replace hg:w.grownBy (y8.setCell ⟨g,3,none⟩ (.int .u64 (bits BinOp.xor IntKind.u64 (wv x8) (wv x7)))).drew (some g):=only_drew (only_setCell hg (.inl rfl) _)
               clear c0 c1 c2 c3 f0 f1 f2 f3
               revert hb hg
               generalize (y8.setCell ⟨g,3,none⟩ (.int .u64 (bits BinOp.xor IntKind.u64 (wv x8) (wv x7)))).drew=y9
               intro hb hg
               as_aux_lemma =>
                have c0:y9.cell? ⟨g,0,none⟩=some (.int .u64 (wv x7)):=hb.cell 0
                have f0:y9.frozen? ⟨g,0,none⟩=false:=hb.frozen 0
                have c1:y9.cell? ⟨g,1,none⟩=some (.int .u64 (wv x2)):=hb.cell 1
                have f1:y9.frozen? ⟨g,1,none⟩=false:=hb.frozen 1
                have c2:y9.cell? ⟨g,2,none⟩=some (.int .u64 (wv x4)):=hb.cell 2
                have f2:y9.frozen? ⟨g,2,none⟩=false:=hb.frozen 2
                have c3:y9.cell? ⟨g,3,none⟩=some (.int .u64 (wv x9)):=hb.cell 3
                have f3:y9.frozen? ⟨g,3,none⟩=false:=hb.frozen 3
                go_wp2
                go_region
                obtain ⟨x10,H10⟩:∃x,Hid (x=x4+x2):=⟨_,Lib.hid rfl⟩
                replace hb:Blk (y9.setCell ⟨g,2,none⟩ (.int .u64 (IntKind.u64.wrap (wv x4+wv x2)))).drew g 213 #[.int .u64 (wv x7),.int .u64 (wv x2),.int .u64 (wv x10),.int .u64 (wv x9)]:=by rw [H10.out,←wv_add];exact (set4_2 hb _).drew
                replace hg:w.grownBy (y9.setCell ⟨g,2,none⟩ (.int .u64 (IntKind.u64.wrap (wv x4+wv x2)))).drew (some g):=only_drew (only_setCell hg (.inl rfl) _)
                clear c0 c1 c2 c3 f0 f1 f2 f3
                revert hb hg
                generalize (y9.setCell ⟨g,2,none⟩ (.int .u64 (IntKind.u64.wrap (wv x4+wv x2)))).drew=y10
                intro hb hg
                as_aux_lemma =>
                 have c0:y10.cell? ⟨g,0,none⟩=some (.int .u64 (wv x7)):=hb.cell 0
                 have f0:y10.frozen? ⟨g,0,none⟩=false:=hb.frozen 0
                 have c1:y10.cell? ⟨g,1,none⟩=some (.int .u64 (wv x2)):=hb.cell 1
                 have f1:y10.frozen? ⟨g,1,none⟩=false:=hb.frozen 1
                 have c2:y10.cell? ⟨g,2,none⟩=some (.int .u64 (wv x10)):=hb.cell 2
                 have f2:y10.frozen? ⟨g,2,none⟩=false:=hb.frozen 2
                 have c3:y10.cell? ⟨g,3,none⟩=some (.int .u64 (wv x9)):=hb.cell 3
                 have f3:y10.frozen? ⟨g,3,none⟩=false:=hb.frozen 3
                 go_wp2_with (go_at_call 217;refine (rot_any _ 17 (by decide) _).mono ?_;rintro e w1 ⟨rfl,rfl⟩)
                 obtain ⟨x11,H11⟩:∃x,Hid (x=rotl x2 17):=⟨_,Lib.hid rfl⟩
                 replace hb:Blk (y10.setCell ⟨g,1,none⟩ (.int .u64 (wv (rotl x2 17)))) g 213 #[.int .u64 (wv x7),.int .u64 (wv x11),.int .u64 (wv x10),.int .u64 (wv x9)]:=by rw [H11.out];exact (set4_1 hb _)
                 replace hg:w.grownBy (y10.setCell ⟨g,1,none⟩ (.int .u64 (wv (rotl x2 17)))) (some g):=(only_setCell hg (.inl rfl) _)
                 clear c0 c1 c2 c3 f0 f1 f2 f3
                 revert hb hg
                 generalize (y10.setCell ⟨g,1,none⟩ (.int .u64 (wv (rotl x2 17))))=y11
                 intro hb hg
                 as_aux_lemma =>
                  have c0:y11.cell? ⟨g,0,none⟩=some (.int .u64 (wv x7)):=hb.cell 0
                  have f0:y11.frozen? ⟨g,0,none⟩=false:=hb.frozen 0
                  have c1:y11.cell? ⟨g,1,none⟩=some (.int .u64 (wv x11)):=hb.cell 1
                  have f1:y11.frozen? ⟨g,1,none⟩=false:=hb.frozen 1
                  have c2:y11.cell? ⟨g,2,none⟩=some (.int .u64 (wv x10)):=hb.cell 2
                  have f2:y11.frozen? ⟨g,2,none⟩=false:=hb.frozen 2
                  have c3:y11.cell? ⟨g,3,none⟩=some (.int .u64 (wv x9)):=hb.cell 3
                  have f3:y11.frozen? ⟨g,3,none⟩=false:=hb.frozen 3
                  go_wp2
                  go_region
                  obtain ⟨x12,H12⟩:∃x,Hid (x=x11^^^x10):=⟨_,Lib.hid rfl⟩
                  replace hb:Blk (y11.setCell ⟨g,1,none⟩ (.int .u64 (bits BinOp.xor IntKind.u64 (wv x11) (wv x10)))).drew g 213 #[.int .u64 (wv x7),.int .u64 (wv x12),.int .u64 (wv x10),.int .u64 (wv x9)]:=by rw [H12.out,←wv_xor];exact (set4_1 hb _).drew
                  replace hg:w.grownBy (y11.setCell ⟨g,1,none⟩ (.int .u64 (bits BinOp.xor IntKind.u64 (wv x11) (wv x10)))).drew (some g):=only_drew (only_setCell hg (.inl rfl) _)
                  clear c0 c1 c2 c3 f0 f1 f2 f3
                  revert hb hg
                  generalize (y11.setCell ⟨g,1,none⟩ (.int .u64 (bits BinOp.xor IntKind.u64 (wv x11) (wv x10)))).drew=y12
                  intro hb hg
                  as_aux_lemma =>
                   have c0:y12.cell? ⟨g,0,none⟩=some (.int .u64 (wv x7)):=hb.cell 0
                   have f0:y12.frozen? ⟨g,0,none⟩=false:=hb.frozen 0
                   have c1:y12.cell? ⟨g,1,none⟩=some (.int .u64 (wv x12)):=hb.cell 1
                   have f1:y12.frozen? ⟨g,1,none⟩=false:=hb.frozen 1
                   have c2:y12.cell? ⟨g,2,none⟩=some (.int .u64 (wv x10)):=hb.cell 2
                   have f2:y12.frozen? ⟨g,2,none⟩=false:=hb.frozen 2
                   have c3:y12.cell? ⟨g,3,none⟩=some (.int .u64 (wv x9)):=hb.cell 3
                   have f3:y12.frozen? ⟨g,3,none⟩=false:=hb.frozen 3
                   go_wp2_with (go_at_call 217;refine (rot_any _ 32 (by decide) _).mono ?_;rintro e w1 ⟨rfl,rfl⟩)
                   obtain ⟨x13,H13⟩:∃x,Hid (x=rotl x10 32):=⟨_,Lib.hid rfl⟩
                   replace hb:Blk (y12.setCell ⟨g,2,none⟩ (.int .u64 (wv (rotl x10 32)))) g 213 #[.int .u64 (wv x7),.int .u64 (wv x12),.int .u64 (wv x13),.int .u64 (wv x9)]:=by rw [H13.out];exact (set4_2 hb _)
                   replace hg:w.grownBy (y12.setCell ⟨g,2,none⟩ (.int .u64 (wv (rotl x10 32)))) (some g):=(only_setCell hg (.inl rfl) _)
                   clear c0 c1 c2 c3 f0 f1 f2 f3
                   revert hb hg
                   generalize (y12.setCell ⟨g,2,none⟩ (.int .u64 (wv (rotl x10 32))))=y13
                   intro hb hg
                   as_aux_lemma =>
                    have c0:y13.cell? ⟨g,0,none⟩=some (.int .u64 (wv x7)):=hb.cell 0
                    have f0:y13.frozen? ⟨g,0,none⟩=false:=hb.frozen 0
                    have c1:y13.cell? ⟨g,1,none⟩=some (.int .u64 (wv x12)):=hb.cell 1
                    have f1:y13.frozen? ⟨g,1,none⟩=false:=hb.frozen 1
                    have c2:y13.cell? ⟨g,2,none⟩=some (.int .u64 (wv x13)):=hb.cell 2
                    have f2:y13.frozen? ⟨g,2,none⟩=false:=hb.frozen 2
                    have c3:y13.cell? ⟨g,3,none⟩=some (.int .u64 (wv x9)):=hb.cell 3
                    have f3:y13.frozen? ⟨g,3,none⟩=false:=hb.frozen 3
                    go_wp2
                    go_roundw
                    case rel =>
                      refine ⟨k+1,by omega,by go_num,?_,hg⟩
                      show Blk _ _ _ (rnd (rnds k s)).cells
                      rw [HS.out]
                      simp only [rnd,St.cells]
                      simp only [H0.out,H1.out,H2.out,H3.out,H4.out,H5.out,H6.out,H7.out,H8.out,H9.out,H10.out,H11.out,H12.out,H13.out] at hb
                      exact hb
                    case measure=>simp [intOf];omega
    · go_wp2
      go_end0
      obtain rfl:k=n:=by omega
      exact ⟨rfl,by rw [HS.out];exact hb,hg⟩
end Go.Proofs.YtejpabdmiagnnaaGreatDoor
namespace Go.Proofs.YtejpabdmiagnnaaGreatDoor
open Go.RowKit
set_option maxHeartbeats 400000 in
theorem absorb_any (s:St) (g:Nat) (m:UInt64) (w:World) (hb:Blk w g 213 s.cells) :
    Calls Tryz.prog 189 #[.pointer (some ⟨g,0,none⟩),.int .u64 (wv m)] w fun e w'=>e= .returned (.tuple #[])∧Blk w' g 213 (absorb s m).cells∧w.grownBy w' (some g):=by
  obtain ⟨v0,v1,v2,v3⟩:=s
  replace hb:Blk w g 213 #[.int .u64 (wv v0),.int .u64 (wv v1),.int .u64 (wv v2),.int .u64 (wv v3)]:=hb
  have c3:w.cell? ⟨g,3,none⟩=some (.int .u64 (wv v3)):=hb.cell 3
  have f3:w.frozen? ⟨g,3,none⟩=false:=hb.frozen 3
  have hx:=wv_xor v3 m
  go_enter Tryz.func189,Tryz.ntmps189
  go_wp2_with fail
  have h1:Blk (w.setCell ⟨g,3,none⟩ (.int .u64 (wv (v3^^^m)))) g 213 (xor3 ⟨v0,v1,v2,v3⟩ m).cells:=set4_3 hb _
  refine (rounds_any (xor3 ⟨v0,v1,v2,v3⟩ m) g 2 (by decide) _ h1).mono ?_
  rintro e w1 ⟨rfl,h2,h3⟩
  clear hx c3 f3
  obtain ⟨t,ht⟩:∃t,Hid (t=rnds 2 (xor3 ⟨v0,v1,v2,v3⟩ m)):=⟨_,Lib.hid rfl⟩
  rw [←ht.out] at h2
  obtain ⟨u0,u1,u2,u3⟩:=t
  replace h2:Blk w1 g 213 #[.int .u64 (wv u0),.int .u64 (wv u1),.int .u64 (wv u2),.int .u64 (wv u3)]:=h2
  have c0:w1.cell? ⟨g,0,none⟩=some (.int .u64 (wv u0)):=h2.cell 0
  have f0:w1.frozen? ⟨g,0,none⟩=false:=h2.frozen 0
  have hx:=wv_xor u0 m
  have h4:Blk (w1.setCell ⟨g,0,none⟩ (.int .u64 (wv (u0^^^m)))) g 213 (absorb ⟨v0,v1,v2,v3⟩ m).cells:=by
    unfold absorb;rw [←ht.out];exact set4_0 h2 _
  have h5:w.grownBy (w1.setCell ⟨g,0,none⟩ (.int .u64 (wv (u0^^^m)))) (some g) :=
    only_setCell (g:=g) (only_trans (only_setCell (g:=g) (World.grownBy.refl w _) (.inl rfl) _) h3) (.inl rfl) _
  go_wp2
  go_end0
  exact ⟨rfl,h4,h5⟩
theorem Reads.byte {w:World} {B n k:Nat} {A:Option Addr} {bs:List UInt8} (h:Reads w B A n (bvs bs)) (hl:bs.length=n) (hk:k<n) :
    ∃ad x,A=some ad∧Hid (bs.take (k+1)=bs.take k++ [x]∧bs[k]?=some x)∧w.cell? (ad.add k)=some (.int .u8 (bv x)):=by
  obtain ⟨ad,u,e,_,hu,hc⟩:=h.at_ hk
  have hk':k<bs.length:=by omega
  refine ⟨ad,bs[k],e,⟨List.take_succ_eq_append_getElem hk',List.getElem?_eq_getElem hk'⟩,?_⟩
  rw [hc,←hu];simp [bvs,hk']
set_option maxHeartbeats 400000 in
theorem little_any (A:Option Addr) (n c:Nat) (bs:List UInt8) (B:Nat) (w:World) (hr:Reads w B A n (bvs bs)) (hn:n≤8) :
    Calls Tryz.prog 190 #[.slice A n c] w fun e w'=>e= .returned (.int .u64 (wv (le bs)))∧w=w':=by
  have hl:bs.length=n:=by have:=hr.1;rw [bvs_len] at this;exact this
  have HL:=Lib.hid hl;clear hl
  go_enter Tryz.func190,Tryz.ntmps190
  go_wp2
  go_loop [3,4,5,8] (fun m _ _ i=>∃k:Nat,k≤n∧i= .int .i64 k∧m= .int .u64 (wv (le (bs.take k)))) (fun _ _ _ i=>n-(intOf i).toNat)
  case atStart=>exact ⟨0,Nat.zero_le _,rfl,rfl⟩
  case round =>
    obtain ⟨k,hk,rfl,rfl⟩:=hrel
    by_cases hlt:k<n
    · obtain ⟨ad,x,rfl,hx,hc⟩:=hr.byte HL.out hlt
      have hx0:=bv_nn x
      have hx1:=bv_lt x
      clear hr
      go_wp2
      go_round
      case rel =>
        refine ⟨k+1,by omega,by go_num,?_⟩
        rw [hx.out.1,le_snoc _ _ (by simp;omega),←wv_or,←wv_shl _ _ (by simp;omega),←bv_wv,List.length_take,HL.out,Nat.min_eq_left (by omega)]
      case measure=>simp [intOf];omega
    · go_wp2
      go_ret
      exact ⟨by rw [List.take_of_length_le (by have:=HL.out;omega)];rfl,rfl⟩
set_option maxHeartbeats 1600000 in
theorem sum_any (k0 k1:UInt64) (A:Option Addr) (n c:Nat) (bs:List UInt8) (w:World) (hr:Reads w w.heap.size A n (bvs bs)) (hnc:n≤c) (hcm:c≤maxLen) :
    Calls Tryz.prog 142 #[.int .u64 (wv k0),.int .u64 (wv k1),.slice A n c] w fun e w'=>e= .returned (.int .u64 (wv (sum k0 k1 bs)))∧Below w.heap.size w w':=by
  have hl:bs.length=n:=by have:=hr.1;rw [bvs_len] at this;exact this
  have HL:=Lib.hid hl;clear hl
  unfold maxLen at hcm
  have HR:=Lib.hid hr;clear hr
  have e0:bits BinOp.xor IntKind.u64 (wv k0) 8317987319222330741=wv (k0^^^8317987319222330741):=wv_xor k0 8317987319222330741
  have e1:bits BinOp.xor IntKind.u64 (wv k1) 7237128888997146477=wv (k1^^^7237128888997146477):=wv_xor k1 7237128888997146477
  have e2:bits BinOp.xor IntKind.u64 (wv k0) 7816392313619706465=wv (k0^^^7816392313619706465):=wv_xor k0 7816392313619706465
  have e3:bits BinOp.xor IntKind.u64 (wv k1) 8387220255154660723=wv (k1^^^8387220255154660723):=wv_xor k1 8387220255154660723
  go_enter Tryz.func142,Tryz.ntmps142
  go_wp2_with fail
  clear e0 e1 e2 e3
  have hb1:Blk (w.alloc (.cells #[.int .u64 (wv (k0^^^8317987319222330741)),.int .u64 (wv (k1^^^7237128888997146477)),.int .u64 (wv (k0^^^7816392313619706465)),.int .u64 (wv (k1^^^8387220255154660723))] 213)) w.heap.size 213 (absN k0 k1 bs 0).cells:=Blk.new w _ _
  have hw1:Below w.heap.size w (w.alloc (.cells #[.int .u64 (wv (k0^^^8317987319222330741)),.int .u64 (wv (k1^^^7237128888997146477)),.int .u64 (wv (k0^^^7816392313619706465)),.int .u64 (wv (k1^^^8387220255154660723))] 213)):=(Below.refl _ _).alloc (Nat.le_refl _) _
  revert hb1 hw1
  generalize w.alloc (.cells #[.int .u64 (wv (k0^^^8317987319222330741)),.int .u64 (wv (k1^^^7237128888997146477)),.int .u64 (wv (k0^^^7816392313619706465)),.int .u64 (wv (k1^^^8387220255154660723))] 213)=w1
  intro hb1 hw1
  obtain ⟨g,hg⟩:∃g,Hid (g=w.heap.size):=⟨_,Lib.hid rfl⟩
  rw [←hg.out] at hb1 ⊢
  go_loopw [9,23] (fun _ i wr=>∃k:Nat,k≤n/8∧i= .int .i64 k∧Blk wr g 213 (absN k0 k1 bs k).cells∧Below w.heap.size w wr) (fun _ i _=>n/8-(intOf i).toNat)
  case atStart=>exact ⟨0,Nat.zero_le _,rfl,hb1,hw1⟩
  case round =>
    clear hb1 hw1 w1
    obtain ⟨k,hk,rfl,hb,hw⟩:=hrel
    by_cases hlt:k<n/8
    · have hr:=HR.out.below hw
      obtain ⟨ad,rfl,-,-⟩:=hr.2 (by omega)
      have hr2:Reads wr w.heap.size (some (ad.add (8*k))) 8 (bvs ((bs.drop (8*k)).take 8)):=by
        have h1:=(hr.drop (k:=8*k) (by omega) hnc).take (k:=8) (by omega)
        rw [if_neg (by omega)] at h1
        rw [bvs_take,bvs_drop];exact h1
      clear hr
      go_wp2_with fail
      refine (little_any _ _ _ ((bs.drop (8*k)).take 8) _ _ hr2 (by decide)).mono ?_
      rintro e w1 ⟨rfl,rfl⟩
      clear hr2
      go_wp2_with fail
      refine (absorb_any _ _ _ _ hb).mono ?_
      rintro e w1 ⟨rfl,hb2,hg2⟩
      clear hb
      go_wp2_with fail
      go_roundw
      case rel=>exact ⟨k+1,by omega,by go_num,hb2,hw.trans (only_below hg2 (by rw [hg.out];exact Nat.le_refl _) hw.size)⟩
      case measure=>simp [intOf];omega
    · have hr:=HR.out.below hw
      have hd1:c=8*(n/8)->Reads wr w.heap.size A (n-8*(n/8)) (bvs (bs.drop (8*(n/8)))):=fun hc=>by
        have h1:=hr.drop (k:=8*(n/8)) (by omega) hnc
        rw [if_pos hc] at h1
        rw [bvs_drop];exact h1
      have hd2:¬c=8*(n/8)->Reads wr w.heap.size (A.map (·.add (8*(n/8)))) (n-8*(n/8)) (bvs (bs.drop (8*(n/8)))):=fun hc=>by
        have h1:=hr.drop (k:=8*(n/8)) (by omega) hnc
        rw [if_neg hc] at h1
        rw [bvs_drop];exact h1
      have H1:=Lib.hid hd1
      have H2:=Lib.hid hd2
      clear hd1 hd2 hr HR
      obtain rfl:k=n/8:=by omega
      have HLW:Hid (bits BinOp.or IntKind.u64 (wv (le (bs.drop (8*(n/8))))) (IntKind.u64.wrap (↑n*72057594037927936))=wv (lastWord bs)):=by
        have h1:(n:Int)=wv (UInt64.ofNat n):=wv_lit n (by omega)
        have h2:=wv_shl (UInt64.ofNat n) 56 (by decide)
        unfold lastWord
        rw [HL.out,←wv_or,h1]
        exact congrArg _ h2
      go_wp2_with fail
      all_goals
        refine (little_any _ _ _ (bs.drop (8*(n/8))) _ _ (by first|exact H1.out ‹_› |exact H2.out ‹_›) (by omega)).mono ?_
        rintro e w1 ⟨rfl,rfl⟩
        clear H1 H2
        go_wp2_with fail
        rw [HLW.out]
        refine (absorb_any _ _ _ _ hb).mono ?_
        rintro e w1 ⟨rfl,hb2,hg2⟩
        clear hb
        have hw1:Below w.heap.size w w1:=hw.trans (only_below hg2 (by rw [hg.out];exact Nat.le_refl _) hw.size)
        obtain ⟨t,ht⟩:∃t,Hid (t=absorb (absN k0 k1 bs (n/8)) (lastWord bs)):=⟨_,Lib.hid rfl⟩
        rw [←ht.out] at hb2
        obtain ⟨t0,t1,t2,t3⟩:=t
        replace hb2:Blk w1 g 213 #[.int .u64 (wv t0),.int .u64 (wv t1),.int .u64 (wv t2),.int .u64 (wv t3)]:=hb2
        have c2:w1.cell? ⟨g,2,none⟩=some (.int .u64 (wv t2)):=hb2.cell 2
        have f2:w1.frozen? ⟨g,2,none⟩=false:=hb2.frozen 2
        have e2:bits BinOp.xor IntKind.u64 (wv t2) 255=wv (t2^^^255):=wv_xor t2 255
        have hb3:Blk (w1.setCell ⟨g,2,none⟩ (.int .u64 (wv (t2^^^255)))) g 213 (xor2 ⟨t0,t1,t2,t3⟩ 255).cells:=set4_2 hb2 _
        have hw3:Below w.heap.size w (w1.setCell ⟨g,2,none⟩ (.int .u64 (wv (t2^^^255)))):=hw1.setCell (by rw [hg.out];exact Nat.le_refl _) _
        go_wp2_with fail
        clear c2 f2 e2
        refine (rounds_any _ g 4 (by decide) _ hb3).mono ?_
        rintro e w2 ⟨rfl,hb4,hg4⟩
        have hw4:Below w.heap.size w w2:=hw3.trans (only_below hg4 (by rw [hg.out];exact Nat.le_refl _) hw3.size)
        have hfin:Hid (wv (sum k0 k1 bs)=wv (finD ⟨t0,t1,t2,t3⟩)):=by
          unfold sum;rw [HL.out,←ht.out];rfl
        obtain ⟨s,hs⟩:∃s,Hid (s=rnds 4 (xor2 ⟨t0,t1,t2,t3⟩ 255)):=⟨_,Lib.hid rfl⟩
        have hfin2:Hid (finD ⟨t0,t1,t2,t3⟩=s.v0^^^s.v1^^^s.v2^^^s.v3):=by unfold finD;rw [←hs.out];rfl
        rw [←hs.out] at hb4
        obtain ⟨s0,s1,s2,s3⟩:=s
        replace hb4:Blk w2 g 213 #[.int .u64 (wv s0),.int .u64 (wv s1),.int .u64 (wv s2),.int .u64 (wv s3)]:=hb4
        have c0:w2.cell? ⟨g,0,none⟩=some (.int .u64 (wv s0)):=hb4.cell 0
        have c1:w2.cell? ⟨g,1,none⟩=some (.int .u64 (wv s1)):=hb4.cell 1
        have c2:w2.cell? ⟨g,2,none⟩=some (.int .u64 (wv s2)):=hb4.cell 2
        have c3:w2.cell? ⟨g,3,none⟩=some (.int .u64 (wv s3)):=hb4.cell 3
        clear hb2 hb3 hb4
        go_wp2
        go_ret
        exact ⟨ret_int (by rw [wv_xor,wv_xor,wv_xor,hfin.out,hfin2.out]),hw4⟩
end Go.Proofs.YtejpabdmiagnnaaGreatDoor
namespace Go.Proofs.YtejpabdmiagnnaaGreatDoor
open Go.RowKit
theorem info8:(Tryz.prog.info? 5).map (fun i=>(i.zero,i.size,i.bytes))=some (some (.int .u8 0),1,1):=by kernel_rfl
theorem E8:ElemT Tryz.prog 31 5 (.int .u8 0) 1:=by
  obtain ⟨i,h,h1,h2,h3⟩:=info_parts info8
  exact ⟨Tryz.underlying31,⟨i,h,h1,h2,h3⟩,rfl,by decide⟩
theorem Reads.word {w:World} {B n k:Nat} {A:Option Addr} {bs:List UInt64} (h:Reads w B A n (wvs bs)) (hl:bs.length=n) (hk:k<n) :
    ∃ad x,A=some ad∧Hid (bs.take (k+1)=bs.take k++ [x]∧bs[k]?=some x)∧w.cell? (ad.add k)=some (.int .u64 (wv x)):=by
  obtain ⟨ad,u,e,_,hu,hc⟩:=h.at_ hk
  have hk':k<bs.length:=by omega
  refine ⟨ad,bs[k],e,⟨List.take_succ_eq_append_getElem hk',List.getElem?_eq_getElem hk'⟩,?_⟩
  rw [hc,←hu];simp [wvs,hk']
def NewBytes (w:World) (e:Ending) (w':World) (bs:List UInt8):Prop :=
  ∃v,e= .returned v∧Own w' w.heap.size v (bvs bs)∧Below w.heap.size w w'
theorem be_take (x:UInt64) (j:Nat) (h:j<8):(be x).take (j+1)=(be x).take j++ [(x>>>UInt64.ofNat (56-8*j)).toUInt8]:=by
  match j,h with
  | 0,_=>rfl
  | 1,_=>rfl
  | 2,_=>rfl
  | 3,_=>rfl
  | 4,_=>rfl
  | 5,_=>rfl
  | 6,_=>rfl
  | 7,_=>rfl
set_option maxHeartbeats 1600000 in
theorem words_any (A:Option Addr) (n c:Nat) (l:List UInt64) (w:World) (hr:Reads w w.heap.size A n (wvs l)) (hn:n≤1000000) :
    Calls Tryz.prog 125 #[.slice A n c] w fun e w'=>NewBytes w e w' (words l):=by
  have hl:l.length=n:=by have:=hr.1;rw [wvs_len] at this;exact this
  have HL:=Lib.hid hl;clear hl
  have HR:=Lib.hid hr;clear hr
  go_enter Tryz.func125,Tryz.ntmps125
  go_wp2_with (at_make;refine wpList_mk0 _ rfl _ _ 31 rfl E8 w.heap.size _ _ _ (8*n) rfl rfl (by omega) (by omega) (Nat.le_refl _) ?_;intro w1 hown hg1)
  have hw1:Below w.heap.size w w1:=(Below.refl _ _).grown hg1 (Nat.le_refl _) (fun _ h=>by cases h)
  clear hg1
  go_loopw [3,13] (fun v i wr=>∃k:Nat,k≤n∧i= .int .i64 k∧Own wr w.heap.size v (bvs (words (l.take k)))∧Below w.heap.size w wr) (fun _ i _=>n-(intOf i).toNat)
  case atStart=>exact ⟨0,Nat.zero_le _,rfl,hown,hw1⟩
  case round =>
    clear hown hw1 w1
    obtain ⟨k,hk,rfl,hown,hw⟩:=hrel
    by_cases hlt:k<n
    · obtain ⟨ad,x,rfl,hx,hc⟩:=(HR.out.below hw).word HL.out hlt
      go_wp2_with fail
      clear hc
      obtain ⟨wo,rfl⟩:∃wo:World,wo=wr:=⟨_,rfl⟩
      go_loopw [3,17] (fun v i wr=>∃j:Nat,j≤8∧i= .int .i64 j∧Own wr w.heap.size v (bvs (words (l.take k)++(be x).take j))∧Below w.heap.size w wr) (fun _ i _=>8-(intOf i).toNat)
      case atStart=>exact ⟨0,Nat.zero_le _,rfl,by simpa using hown,hw⟩
      case round =>
        clear hown hw
        obtain ⟨j,hj,rfl,hown,hw⟩:=hrel
        by_cases hjl:j<8
        · have hx0:=wv_nn x
          have hz1:w.heap.size≤wr.heap.size+1:=by have:=hw.size;omega
          have hone:∀u∈ [Value.int .u8 (wv x/2^(56-8*j)%256)],u.oneCell'=true:=by simp [Value.oneCell']
          go_wp2_with (at_builtin;refine wpList_app _ rfl _ _ 31 rfl E8 w.heap.size _ _ rfl (hown.alloc _) _ [.int .u8 (wv x/2^(56-8*j)%256)] rfl (SliceAt.one _ _ _) hone (by rw [bvs_len,List.length_append,words_len,List.length_take,List.length_take];simp [be];omega) (by simpa using hz1) ?_;intro v' w2 hown2 hg2 _)
          have hw2:Below w.heap.size w w2:=(hw.alloc hw.size _).grown hg2 (by have:=hw.size;simp;omega) (fun k' h=>(hown.lt k' h).1)
          have hown3:Own w2 w.heap.size v' (bvs (words (l.take k)++(be x).take (j+1))):=by
            have e1:(be x).take (j+1)=(be x).take j++ [(x>>>UInt64.ofNat (56-8*j)).toUInt8]:=be_take x j hjl
            have e2:wv x/2^(56-8*j)%256=bv (x>>>UInt64.ofNat (56-8*j)).toUInt8:=by
              rw [wv_shr x _ (by omega),←wv_byte,IntKind.wrap_u8]
            rw [e2] at hown2
            rw [e1,←List.append_assoc,bvs_app _ [_]]
            exact hown2
          clear hown hown2 hg2 hw hx0
          go_wp2_with fail
          go_roundw
          case rel=>exact ⟨j+1,by omega,by go_num,hown3,hw2⟩
          case measure=>simp [intOf];omega
        · obtain rfl:j=8:=by omega
          have hown3:Own wr w.heap.size u3 (bvs (words (l.take (k+1)))):=by
            rw [hx.out.1,words_app]
            exact hown
          clear hown
          go_wp2_with fail
          go_roundw
          case rel=>exact ⟨k+1,by omega,by go_num,hown3,hw⟩
          case measure=>simp [intOf];omega
    · obtain rfl:k=n:=by omega
      have hown3:Own wr w.heap.size u3 (bvs (words l)):=by
        rw [List.take_of_length_le (by have:=HL.out;omega)] at hown
        exact hown
      clear hown
      go_wp2
      go_ret
      exact ⟨_,rfl,hown3,hw⟩
end Go.Proofs.YtejpabdmiagnnaaGreatDoor
namespace Go.Proofs.YtejpabdmiagnnaaGreatDoor
open Go.RowKit
def hash (d:Int) (b:List UInt8):UInt64:=sum (u64 d) 0 b
def mac (key:UInt64) (d:Int) (b:List UInt8):UInt64:=sum key (1+u64 d) b
def derive (key:UInt64) (label:List UInt8) (n:Int):UInt64:=mac key 4 (label++0::words [u64 n])
theorem sum_at (k0 k1:UInt64) (v:Value) (bs:List UInt8) (w:World) (h:SliceAt w v (bvs bs)) :
    Calls Tryz.prog 142 #[.int .u64 (wv k0),.int .u64 (wv k1),v] w fun e w'=>e= .returned (.int .u64 (wv (sum k0 k1 bs)))∧Below w.heap.size w w':=by
  obtain ⟨A,c,rfl,hc,hm,hr⟩:=h
  exact sum_any k0 k1 A _ c bs w hr hc hm
theorem words_at (v:Value) (l:List UInt64) (w:World) (h:SliceAt w v (wvs l)) (hl:l.length≤1000000) :
    Calls Tryz.prog 125 #[v] w fun e w'=>NewBytes w e w' (words l):=by
  obtain ⟨A,c,rfl,hc,hm,hr⟩:=h
  exact words_any A _ c l w hr (by rw [wvs_len];exact hl)
theorem hash_any (d:Int) (v:Value) (bs:List UInt8) (w:World) (h:SliceAt w v (bvs bs)) :
    Calls Tryz.prog 73 #[.int .i64 d,v] w fun e w'=>e= .returned (.int .u64 (wv (hash d bs)))∧Below w.heap.size w w':=by
  have hd:=wv_ofInt d
  go_enter Tryz.func73,Tryz.ntmps73
  go_wp2_with fail
  refine (sum_at _ 0 _ bs _ h).mono ?_
  rintro e w1 ⟨rfl,hb⟩
  go_wp2
  go_ret
  exact ⟨rfl,hb⟩
theorem mac_any (key:UInt64) (d:Int) (v:Value) (bs:List UInt8) (w:World) (h:SliceAt w v (bvs bs)) :
    Calls Tryz.prog 176 #[.int .u64 (wv key),.int .i64 d,v] w fun e w'=>e= .returned (.int .u64 (wv (mac key d bs)))∧Below w.heap.size w w':=by
  have hd:=wv_ofInt d
  have h1:IntKind.u64.wrap (1+wv (u64 d))=wv (1+u64 d):=wv_add 1 (u64 d)
  go_enter Tryz.func176,Tryz.ntmps176
  go_wp2_with fail
  refine (sum_at _ _ _ bs _ h).mono ?_
  rintro e w1 ⟨rfl,hb⟩
  go_wp2
  go_ret
  exact ⟨rfl,hb⟩
set_option maxHeartbeats 400000 in
theorem derive_any (key:UInt64) (s:ByteArray) (n:Int) (w:World) (hs:s.size≤1000000) :
    Calls Tryz.prog 122 #[.int .u64 (wv key),.string s,.int .i64 n] w fun e w'=>e= .returned (.int .u64 (wv (derive key s.data.toList n)))∧Below w.heap.size w w':=by
  have hd:=wv_ofInt n
  have hsz:(bvs s.data.toList).length=s.size:=by rw [bvs_len];rfl
  have HSZ:=Lib.hid hsz;clear hsz
  go_enter Tryz.func122,Tryz.ntmps122
  go_wp2_with (first
    | (with_reducible refine wpList_bytes _ rfl (.tmp 8) 9 31 rfl 5 s rfl Tryz.underlying9 Tryz.underlying31 Tryz.underlying5 (by unfold maxLen;omega) ?_);intro v1 w1 ho1 hw1
    | (at_builtin;refine wpList_app _ rfl (.tmp 9) (.tmp 10) 31 rfl E8 w.heap.size v1 _ rfl (ho1.alloc _) _ (bvs [0]) rfl (SliceAt.one _ _ _) (bvs_one _) (by rw [HSZ.out];simp [bvs];omega) (hw1.sizeNew _) ?_;intro v2 w2 ho2 hg2 _;have hw2:=(hw1.thenNew _).thenApp (ho1.alloc _) hg2;clear hg2)
    | (go_at_call 125;refine (words_at _ [u64 n] _ (SliceAt.one _ _ _) (by simp)).mono ?_;rintro e w3 ⟨v3,rfl,ho3,hw3⟩)
    | (at_builtin;refine wpList_app _ rfl (.tmp 13) (.tmp 17) 31 rfl E8 w.heap.size v2 _ rfl ((ho2.alloc _).below hw3 (Nat.le_refl _)) _ _ rfl ho3.reads (bvs_one _) (by rw [List.length_append,HSZ.out,bvs_len,bvs_len,words_len];simp;omega) ((hw2.thenNew _).thenCall hw3).size ?_;intro v4 w4 ho4 hg4 _)
    | (go_at_call 176;refine (mac_any _ _ _ _ _ (by rw [←bvs_app,←bvs_app] at ho4;exact ho4.reads)).mono ?_;rintro e w5 ⟨rfl,hw5⟩))
  go_ret
  exact ⟨rfl,(((hw2.thenNew _).thenCall hw3).thenApp ((ho2.alloc _).below hw3 (Nat.le_refl _)) hg4).thenCall hw5⟩
end Go.Proofs.YtejpabdmiagnnaaGreatDoor
