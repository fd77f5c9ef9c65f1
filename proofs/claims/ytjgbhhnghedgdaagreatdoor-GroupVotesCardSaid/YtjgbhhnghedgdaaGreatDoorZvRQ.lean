import Derived.Test.YtjgbhhnghedgdaaGreatDoorZvRF
set_option linter.all false
namespace Go.Proofs.YtjgbhhnghedgdaaGreatDoor
open Go.RowKit
def pZ (id n:Nat):AV->AV
 | .ref i=>match Nat.beq i id with|true=>.dead|false=>.ref i
 | .pre i k=>match Nat.beq i id with|true=>(match Nat.beq k n with|true=>.ref id|false=>.dead)|false=>.pre i k
 | .jE i o k=>match Nat.beq i id with|true=>.dead|false=>.jE i o k
 | .addr i o=>match Nat.beq i id with|true=>.dead|false=>.addr i o
 | .agg _=>.dead
 | .cw _=>.dead
 | x=>x
theorem J9 (id n:Nat):pZ id n (.pre id n)= .ref id:=by
 have h:∀k:Nat,Nat.beq k k=true:=fun k=>Nat.beq_refl k
 simp only [pZ,h]
def L_ (id n:Nat):AV->AV
 | .agg cs=>.agg (cs.map (pZ id n))
 | x=>pZ id n x
def L9 (id n:Nat):AV->AV
 | .cw cs=>.cw (cs.map (L_ id n))
 | x=>L_ id n x
def lq (id n:Nat) (r:Row):Row:=match r.pure with|true=>r|false=>⟨r.e,false,r.full,r.cells.map (pZ id n)⟩
theorem wy (id n:Nat) (r:Row):(lq id n r).e=r.e∧(lq id n r).cells.length=r.cells.length∧(lq id n r).pure=r.pure∧(lq id n r).full=r.full:=by
 unfold lq;cases h:r.pure<;>simp [h]
def J8 (id n:Nat) (r:Row) (s:AS):AS:=⟨eD (L9 id n) s.F,(id,⟨r.e,true,false,r.cells.take n⟩)::eD (lq id n) (cR s.H id)⟩
theorem Eb (id n:Nat) (y:AV) (h:∀cs,y≠ .agg cs):L_ id n y=pZ id n y:=by
 cases y with
 | agg cs=>exact absurd rfl (h cs)
 | _=>rfl
theorem Ea (id n:Nat) (y:AV) (h:∀cs,y≠ .cw cs):L9 id n y=L_ id n y:=by
 cases y with
 | cw cs=>exact absurd rfl (h cs)
 | _=>rfl
section
variable {I I':Info} {S:Nat->Prop} {w:World}
theorem Fy (id n:Nat) (hI:∀i x,i≠id->I i=some x->I' i=some x) (hc:∀e m b,I id=some (e,m,b)->n≤m->I' id=some (e,n,b)):kg I I' S S w (pZ id n) where
 agg:=fun _=>rfl
 cw:=fun _=>rfl
 leaf:=fun v x hx h1 h2=>by
  cases hx with
  | rep h=>cases h with
   | val v=>exact .rep (.val v)
   | nil=>exact .rep .nil
   | agg vs cs _ _=>exact absurd rfl (h1 cs)
   | cw vs cs _ _=>exact absurd rfl (h2 cs)
   | arr vs cs hl h=>exact .rep (.arr vs cs hl h)
   | sl A n c e us row hl hn hc hm ha h=>exact .rep (.sl A n c e us row hl hn hc hm ha h)
   | sg A n e us row hl hn hm ha h=>exact .rep (.sg A n e us row hl hn hm ha h)
   | ptr ad us row off hl hs ha h=>exact .rep (.ptr ad us row off hl hs ha h)
   | mI f vs cs hl h=>exact .rep (.mI f vs cs hl h)
  | agg vs cs _ _=>exact absurd rfl (h1 cs)
  | cw vs cs _ _=>exact absurd rfl (h2 cs)
  | ref i e m g l c hi hm hc hx hs =>
   rcases bI i id with ⟨h,e⟩|⟨h,e⟩<;>simp only [pZ,h]
   ·exact .dead _
   ·exact .ref i _ m g l c (hI _ _ e hi) hm hc hx hs
  | cm i e hi =>
   rcases bI i id with ⟨h,e⟩|⟨h,e⟩<;>simp only [pZ,h]
   ·exact .dead _
   ·exact .cm i _ (hI _ _ e hi)
  | pre i k e m g l c hi hn hm Pk hx hs =>
   rcases bI i id with ⟨h,e⟩|⟨h,e⟩<;>simp only [pZ,h]
   ·rcases bI k n with ⟨h3,e3⟩|⟨h3,e3⟩<;>simp only [h3]
    ·subst e;subst e3
     exact .ref i _ k g l c (hc _ _ _ hi hm) hn Pk hx hs
    ·exact .dead _
   ·exact .pre i k _ m g l c (hI _ _ e hi) hn hm Pk hx hs
  | dP i e hi =>
   rcases bI i id with ⟨h,e⟩|⟨h,e⟩<;>simp only [pZ,h]
   ·rcases bI 0 n with ⟨h3,e3⟩|⟨h3,e3⟩<;>simp only [h3]
    ·subst e;subst e3
     exact .cm i _ (hc _ _ _ hi (Nat.le_refl _))
    ·exact .dead _
   ·exact .dP i _ (hI _ _ e hi)
  | jE i off k e m l c g A hi hn hm hc hx ha =>
   rcases bI i id with ⟨h,e⟩|⟨h,e⟩<;>simp only [pZ,h]
   ·exact .dead _
   ·exact .jE i off k _ m l c g A (hI _ _ e hi) hn hm hc hx ha
  | addr i off e m g hi =>
   rcases bI i id with ⟨h,e⟩|⟨h,e⟩<;>simp only [pZ,h]
   ·exact .dead _
   ·exact .addr i off _ m g (hI _ _ e hi)
  | dead v=>exact .dead _
theorem Den.cut (id n:Nat) (hI:∀i x,i≠id->I i=some x->I' i=some x) (hc:∀e m b,I id=some (e,m,b)->n≤m->I' id=some (e,n,b)) {v:Value} {x:AV} (h:Den I S w v x):Den I' S w v (L9 id n x) :=
 (Fy id n hI hc).two h (fun _=>rfl) (Eb id n) (fun _=>rfl) (Ea id n)
end
theorem bQ.cut {s:AS} (id n:Nat) {r:Row} (hr:look s.H id=some r) (hp:r.pure=true) (hn:n≤r.cells.length):bQ s (J8 id n r s):=by
 intro S0 w0 N a w ⟨φ,hs⟩
 have l3:∀i,look (J8 id n r s).H i=if id=i then some ⟨r.e,true,false,r.cells.take n⟩ else (look s.H i).map (lq id n):=by
  intro i
  unfold J8
  simp only
  rw [aD,cy,bH]
  by_cases e:id=i<;>simp [e]
 have hI:∀i x,i≠id->az s.H φ i=some x->az (J8 id n r s).H φ i=some x:=by
  intro i x hi hx
  unfold az at hx ⊢
  rw [l3,if_neg (Ne.symm hi)]
  cases hl:look s.H i with
  | none=>rw [hl] at hx;cases hx
  | some q =>
   rw [hl] at hx
   obtain ⟨m1,m2,-,-⟩:=wy id n q
   simpa [m1,m2] using hx
 have hc:∀e m b,az s.H φ id=some (e,m,b)->n≤m->az (J8 id n r s).H φ id=some (e,n,b):=by
  intro e m b hx _
  unfold az at hx ⊢
  rw [l3,if_pos rfl]
  rw [hr] at hx
  simp only [Option.map_some,Option.some.injEq,Prod.mk.injEq] at hx ⊢
  obtain ⟨h1,-,h3⟩:=hx
  exact ⟨h1,by rw [List.length_take];omega,h3⟩
 refine ⟨φ,hs.j8,hs.ke,hs.da,fun i av hi=>?_,fun i q hq=>?_,fun i hi=>?_,hs.inj,hs.cY,hs.apart,hs.new⟩
 ·have hi:look (eD (L9 id n) s.F) i=some av:=hi
  rw [cy] at hi
  cases hl:look s.F i with
  | none=>rw [hl] at hi;cases hi
  | some x =>
   rw [hl] at hi;injection hi with hi;subst hi
   exact (hs.cC i x hl).cut id n hI hc
 ·rw [l3] at hq
  by_cases e:id=i
  ·subst e
   rw [if_pos rfl] at hq;injection hq with hq;subst hq
   have aQ:=hs.rows id r hr
   unfold bJ at aQ ⊢
   cases hg:φ id with
   | none=>rw [hg] at aQ;simp only at aQ ⊢;rw [aQ];simp
   | some g =>
    rw [hg] at aQ
    obtain ⟨cur,te,fr,u1,u2,u3,u4,u5⟩:=aQ
    refine ⟨cur,te,fr,u1,u2,by simp only [List.length_take];omega,fun h=>(by cases h),fun k u x hu hx=>?_⟩
    simp only [List.getElem?_take] at hx
    split at hx
    ·have:=u5 k u x hu hx
     unfold bh at this ⊢
     rw [hp] at this
     exact this
    ·cases hx
  ·rw [if_neg e] at hq
   cases hl:look s.H i with
   | none=>rw [hl] at hq;cases hq
   | some q0 =>
    rw [hl] at hq;injection hq with hq;subst hq
    obtain ⟨m1,m2,m3,m4⟩:=wy id n q0
    have aQ:=hs.rows i q0 hl
    unfold bJ at aQ ⊢
    cases hg:φ i with
    | none =>
     rw [hg] at aQ
     simp only at aQ ⊢
     exact List.eq_nil_of_length_eq_zero (by rw [m2,aQ];rfl)
    | some g =>
     rw [hg] at aQ
     obtain ⟨cur,te,fr,u1,u2,u3,u4,u5⟩:=aQ
     refine ⟨cur,te,fr,u1,u2,by rw [m2];exact u3,fun h=>by rw [m2];exact u4 (by rw [←m4];exact h),fun k u x hu hx=>?_⟩
     unfold bh
     cases I6:q0.pure with
     | true =>
      have e1:lq id n q0=q0:=by unfold lq;rw [I6]
      rw [e1] at hx ⊢
      have:=u5 k u x hu hx
      unfold bh at this
      rw [I6] at this ⊢
      exact this
     | false =>
      have e1:(lq id n q0).cells=q0.cells.map (pZ id n):=by unfold lq;rw [I6]
      rw [m3,I6]
      rw [e1,List.getElem?_map] at hx
      cases hj:q0.cells[k]? with
      | none=>rw [hj] at hx;cases hx
      | some y =>
       rw [hj] at hx;injection hx with hx;subst hx
       have:=u5 k u y hu hj
       unfold bh at this
       rw [I6] at this
       exact (Fy id n hI hc).all this
 ·rw [l3] at hi
  by_cases e:id=i
  ·subst e;rw [if_pos rfl] at hi;cases hi
  ·rw [if_neg e] at hi
   exact hs.only i (by simpa using hi)
theorem bQ.add {s:AS} (new e:Nat) (hn:look s.H new=none):bQ s ⟨s.F,(new,⟨e,true,false,[]⟩)::s.H⟩:=by
 intro S0 w0 n a w ⟨φ,hs⟩
 have bW:φ new=none:=hs.only new hn
 have hI:∀i x,az s.H φ i=some x->az ((new,(⟨e,true,false,[]⟩:Row))::s.H) φ i=some x:=by
  intro i x hx
  unfold az at hx ⊢
  rw [aD]
  by_cases e1:new=i
  ·subst e1;rw [hn] at hx;cases hx
  ·rw [if_neg e1];exact hx
 refine ⟨φ,hs.j8,hs.ke,hs.da,fun i av hi=>(hs.cC i av hi).mono hI (fun b hb=>⟨hb,rfl⟩) (fun _ _ _ _ _=>rfl),fun i q hq=>?_,fun i hi=>?_,hs.inj,hs.cY,hs.apart,hs.new⟩
 ·rw [aD] at hq
  by_cases e1:new=i
  ·subst e1
   rw [if_pos rfl] at hq;injection hq with hq;subst hq
   unfold bJ;rw [bW]
  ·rw [if_neg e1] at hq
   have aQ:=hs.rows i q hq
   unfold bJ at aQ ⊢
   cases hg:φ i with
   | none=>rw [hg] at aQ;exact aQ
   | some g =>
    rw [hg] at aQ
    obtain ⟨cur,te,fr,u1,u2,u3,u4,u5⟩:=aQ
    refine ⟨cur,te,fr,u1,u2,u3,u4,fun k u x hu hx=>?_⟩
    have:=u5 k u x hu hx
    unfold bh at this ⊢
    cases I6:q.pure with
    | true=>rw [I6] at this;exact this
    | false=>rw [I6] at this;exact this.mono hI (fun b hb=>⟨hb,rfl⟩) (fun _ _ _ _ _=>rfl)
 ·rw [aD] at hi
  by_cases e1:new=i
  ·subst e1;rw [if_pos rfl] at hi;cases hi
  ·rw [if_neg e1] at hi;exact hs.only i hi
structure St where
 v0:UInt64
 v1:UInt64
 v2:UInt64
 v3:UInt64
def rotl (x k:UInt64):UInt64:=x<<<k|||x>>>(64-k)
def aY (s:St):St :=
 let a0:=s.v0+s.v1
 let a1:=rotl s.v1 13^^^a0
 let b0:=rotl a0 32
 let a2:=s.v2+s.v3
 let a3:=rotl s.v3 16^^^a2
 let c0:=b0+a3
 let b3:=rotl a3 21^^^c0
 let b2:=a2+a1
 let b1:=rotl a1 17^^^b2
 let c2:=rotl b2 32
 ⟨c0,b1,c2,b3⟩
def kV:Nat->St->St
 | 0,s=>s
 | n+1,s=>aY (kV n s)
def jR (s:St) (m:UInt64):St:=⟨s.v0,s.v1,s.v2,s.v3^^^m⟩
def KO (s:St) (m:UInt64):St:=⟨s.v0^^^m,s.v1,s.v2,s.v3⟩
def cT (s:St) (m:UInt64):St:=⟨s.v0,s.v1,s.v2^^^m,s.v3⟩
def l9 (s:St) (m:UInt64):St:=KO (kV 2 (jR s m)) m
def start (k0 k1:UInt64):St:=⟨k0^^^8317987319222330741,k1^^^7237128888997146477,k0^^^7816392313619706465,k1^^^8387220255154660723⟩
def le:List UInt8->UInt64
 | []=>0
 | b::bs=>le bs<<<8|||b.toUInt64
def oD (k0 k1:UInt64) (b:List UInt8):Nat->St
 | 0=>start k0 k1
 | i+1=>l9 (oD k0 k1 b i) (le ((b.drop (8*i)).take 8))
def jf (b:List UInt8):UInt64:=le (b.drop (8*(b.length/8)))|||UInt64.ofNat b.length<<<56
def LY (s:St):UInt64:=let t:=kV 4 (cT s 255);t.v0^^^t.v1^^^t.v2^^^t.v3
def sum (k0 k1:UInt64) (b:List UInt8):UInt64:=LY (l9 (oD k0 k1 b (b.length/8)) (jf b))
attribute [irreducible] sum
def be (x:UInt64):List UInt8:=[(x>>>56).toUInt8,(x>>>48).toUInt8,(x>>>40).toUInt8,(x>>>32).toUInt8,(x>>>24).toUInt8,(x>>>16).toUInt8,(x>>>8).toUInt8,(x>>>0).toUInt8]
def words:List UInt64->List UInt8
 | []=>[]
 | x::l=>be x++words l
theorem xg (l m:List UInt64):words (l++m)=words l++words m:=by
 induction l with
 | nil=>rfl
 | cons x l ih=>simp [words,ih]
theorem eu (l:List UInt64):(words l).length=8*l.length:=by
 induction l with
 | nil=>rfl
 | cons x l ih=>simp [words,be,ih];omega
theorem Nj (a b c:UInt64):(a|||b)<<<c=a<<<c|||b<<<c:=by
 apply UInt64.eq_of_toBitVec_eq;simp [BitVec.shiftLeft_or_distrib]
theorem K1 (c:UInt64) (n:Nat) (h:n+8<64):(c<<<UInt64.ofNat n)<<<8=c<<<UInt64.ofNat (n+8):=by
 rw [show UInt64.ofNat (n+8)=UInt64.ofNat n+8 by rw [UInt64.ofNat_add];rfl]
 rw [UInt64.shiftLeft_add (by rw [UInt64.lt_iff_toNat_lt,UInt64.toNat_ofNat_of_lt' (by show n<2^64;omega)];show n<64;omega) (by decide) (by
  rw [UInt64.lt_iff_toNat_lt,UInt64.toNat_add,UInt64.toNat_ofNat_of_lt' (by show n<2^64;omega)];show (n+8)%2^64<64;omega)]
theorem zd (bs:List UInt8) (c:UInt8) (h:bs.length<8):le (bs++ [c])=le bs|||c.toUInt64<<<UInt64.ofNat (8*bs.length):=by
 induction bs with
 | nil=>simp [le]
 | cons b bs ih =>
  simp only [List.length_cons] at h
  simp only [List.cons_append,le,ih ag,List.length_cons]
  rw [Nj,K1 _ _ ag,UInt64.or_assoc,UInt64.or_comm (c.toUInt64<<<_),←UInt64.or_assoc]
  rfl
theorem le_zero (bs:List UInt8) (k:Nat) (h:bs.length+k≤8):le (bs++List.replicate k 0)=le bs:=by
 induction k with
 | zero=>simp
 | succ k ih =>
  rw [List.replicate_succ',←List.append_assoc,zd _ _ (by simp;omega),ih ag]
  simp
theorem FA (x:UInt64) (j:Nat) (h:j<8):(be x).take (j+1)=(be x).take j++ [(x>>>UInt64.ofNat (56-8*j)).toUInt8]:=by
 match j,h with
 | 0,_=>rfl
 | 1,_=>rfl
 | 2,_=>rfl
 | 3,_=>rfl
 | 4,_=>rfl
 | 5,_=>rfl
 | 6,_=>rfl
 | 7,_=>rfl
set_option maxHeartbeats 1600000 in
def hash (d:Int) (b:List UInt8):UInt64:=sum (u64 d) 0 b
def Ar (key:UInt64) (d:Int) (b:List UInt8):UInt64:=sum key (1+u64 d) b
def derive (key:UInt64) (label:List UInt8) (n:Int):UInt64:=Ar key 4 (label++0::words [u64 n])
def eX (f:Nat->UInt8):Nat->UInt64
 | 0=>0
 | t+1=>eX f t<<<8|||(f (7-t)).toUInt64
theorem ti (f:Nat->UInt8):eX f 8=le [f 0,f 1,f 2,f 3,f 4,f 5,f 6,f 7]:=rfl
def dD (b:List UInt8) (j k:Nat):UInt8:=if 8*j+k<b.length then b.getD (8*j+k) 0 else if k=7 then UInt8.ofNat b.length else 0
theorem Mv (f:Nat->UInt8):[f 0,f 1,f 2,f 3,f 4,f 5,f 6,f 7]=(List.range 8).map f:=rfl
theorem FN (b:List UInt8) (j:Nat) (h:8*j+8≤b.length):eX (dD b j) 8=le ((b.drop (8*j)).take 8):=by
 rw [ti,Mv]
 congr 1
 apply List.ext_getElem?
 intro i
 by_cases hi:i<8
 ·rw [List.getElem?_map,List.getElem?_range hi,List.getElem?_take,if_pos hi,List.getElem?_drop]
  simp [dD,show 8*j+i<b.length by omega]
 ·rw [List.getElem?_eq_none (by simp;omega),List.getElem?_eq_none (by simp;omega)]
theorem IF (n:Nat):(UInt8.ofNat n).toUInt64<<<56=UInt64.ofNat n<<<56:=by
 apply UInt64.toNat_inj.1
 rw [UInt64.toNat_shiftLeft,UInt64.toNat_shiftLeft,UInt8.toNat_toUInt64]
 simp only [UInt8.toNat_ofNat',UInt64.toNat_ofNat',Nat.shiftLeft_eq]
 show n%256*72057594037927936%18446744073709551616=n%18446744073709551616*72057594037927936%18446744073709551616
 omega
theorem FM (b:List UInt8):eX (dD b (b.length/8)) 8=jf b:=by
 have NK:(List.range 8).map (dD b (b.length/8))=(b.drop (8*(b.length/8))++List.replicate (7-b.length%8) 0)++ [UInt8.ofNat b.length]:=by
  apply List.ext_getElem?
  intro i
  by_cases hi:i<8
  ·rw [List.getElem?_map,List.getElem?_range hi,List.getElem?_append,List.getElem?_append]
   have hl:(b.drop (8*(b.length/8))).length=b.length%8:=by simp;omega
   simp only [List.length_append,hl,List.length_replicate,Option.map_some]
   by_cases h1:i<b.length%8
   ·rw [if_pos ag,if_pos h1,List.getElem?_drop]
    simp [dD,show 8*(b.length/8)+i<b.length by omega]
   ·by_cases h2:i<7
    ·rw [if_pos ag,if_neg h1,List.getElem?_replicate,if_pos ag]
     simp [dD,show ¬8*(b.length/8)+i<b.length by omega,show i≠7 by omega]
    ·obtain rfl:i=7:=ag
     rw [if_neg ag]
     simp [dD,show ¬8*(b.length/8)+7<b.length by omega,show 7-(b.length%8+(7-b.length%8))=0 by omega]
  ·rw [List.getElem?_eq_none (by simp;omega),List.getElem?_eq_none (by simp;omega)]
 rw [ti,Mv,NK,zd _ _ (by simp;omega),le_zero _ _ (by simp;omega)]
 have WU:8*(b.drop (8*(b.length/8))++List.replicate (7-b.length%8) (0:UInt8)).length=56:=by simp;omega
 rw [WU]
 unfold jf
 rw [←IF]
 rfl
def xd (k0 k1:UInt64) (b:List UInt8) (j:Nat):St:=if j≤b.length/8 then oD k0 k1 b j else l9 (oD k0 k1 b (b.length/8)) (jf b)
theorem G_ (k0 k1:UInt64) (b:List UInt8) (j:Nat) (h:j≤b.length/8):xd k0 k1 b (j+1)=l9 (xd k0 k1 b j) (eX (dD b j) 8):=by
 unfold xd
 rw [if_pos h]
 by_cases h2:j+1≤b.length/8
 ·rw [if_pos h2,FN b j ag];rfl
 ·obtain rfl:j=b.length/8:=ag
  rw [if_neg h2,FM]
theorem Ha (k0 k1:UInt64) (b:List UInt8):LY (xd k0 k1 b (b.length/8+1))=sum k0 k1 b:=by
 unfold xd sum;rw [if_neg ag]
theorem Mx:(Tryz.prog.info? 5).map (fun i=>(i.zero,i.size,i.bytes))=some (some (.int .u8 0),1,1):=by kernel_rfl
theorem E8:Cs Tryz.prog 25 5 (.int .u8 0) 1:=by
 obtain ⟨i,h,h1,h2,h3⟩:=info_parts Mx
 exact ⟨Tryz.underlying25,⟨i,h,h1,h2,h3⟩,rfl,by decide⟩
def rv (w:World) (e:Ending) (w':World) (bs:List UInt8):Prop :=
 ∃v,e= .returned v∧xe w' w.heap.size v (tw bs)∧Below w.heap.size w w'
theorem K7 {S:Nat->Prop} {w:World} {v u:Value} (h:cz S w v (.val u)):v=u:=by cases h;rfl
theorem bG.Bn {P:Program} {f:FuncId} {args:List AV} {bs:List UInt8} (h:∀(w:World) (vs:List Value),vs.length=args.length->(∀(j:Nat) v x,vs[j]?=some v->args[j]?=some x->cz (fun b=>b<w.heap.size) w v x) ->
  Calls P f vs.toArray w fun e w'=>rv w e w' bs):bG P f args (.own 1 (aj bs)):=by
 intro w S vs _ hS hl hr
 refine (h w vs hl fun j v x hv hx=>(hr j v x hv hx).mono fun b hb=>⟨hS b hb,rfl⟩).mono fun e w' ⟨v,he,ho,hb⟩=>?_
 rcases ho with ⟨rfl,hn⟩|⟨g,cap,cur,te,fr,rfl,BL,hg,Gr,ug,uf,MB,gu⟩
 ·have:bs= []:=by cases bs with
   | nil=>rfl
   | cons a l=>simp [tw] at hn
  subst this
  exact ⟨_,[],he,hb,List.nodup_nil,by simp,.inl (.inl (.nil 1))⟩
 ·have cW:g<w'.heap.size:=by
   rcases Nat.lt_or_ge g w'.heap.size with h|h
   ·exact h
   ·rw [Array.getElem?_eq_none h] at hg;cases hg
  refine ⟨_,[g],he,hb,by simp,by simp [BL,cW],.inl (.inl (.own g _ cap 1 (aj bs) cur te fr hg (fun j hj=>gu j ag) (by rw [aB,gA,Nat.one_mul]) Gr ug ag ?_))⟩
  intro j u x hu hx
  have hj:j<bs.length:=by have:=(List.getElem?_eq_some_iff.1 hx).1;rwa [aB] at this
  have KC:x= .val (.int .u8 (bv bs[j])):=by simp [aj,hj] at hx;exact hx.symm
  subst KC
  have I0:(tw bs)[j]?=some u:=by
   rw [←MB,List.getElem?_take_of_lt (by rw [gA];exact hj)];simpa using hu
  have:u= .int .u8 (bv bs[j]):=by simp [tw,hj] at I0;exact I0.symm
  subst this
  exact .val _
theorem FC {vs:List Value} {xs:List AV} (h:vs.length=xs.length) (hx:xs.length=1):∃v,vs= [v]:=by
 match vs,h with
 | [v],_=>exact ⟨v,rfl⟩
 | [],h=>simp at h;omega
 | _::_::_,h=>simp at h;omega
theorem Rj {vs:List Value} {xs:List AV} (h:vs.length=xs.length) (hx:xs.length=2):∃v u,vs= [v,u]:=by
 match vs,h with
 | [v,u],_=>exact ⟨v,u,rfl⟩
 | [],h=>simp at h;omega
 | [_],h=>simp at h;omega
 | _::_::_::_,h=>simp at h;omega
theorem MV {vs:List Value} {xs:List AV} (h:vs.length=xs.length) (hx:xs.length=3):∃v u t,vs= [v,u,t]:=by
 match vs,h with
 | [v,u,t],_=>exact ⟨v,u,t,rfl⟩
 | [],h=>simp at h;omega
 | [_],h=>simp at h;omega
 | [_,_],h=>simp at h;omega
 | _::_::_::_::_,h=>simp at h;omega
end Go.Proofs.YtjgbhhnghedgdaaGreatDoor
