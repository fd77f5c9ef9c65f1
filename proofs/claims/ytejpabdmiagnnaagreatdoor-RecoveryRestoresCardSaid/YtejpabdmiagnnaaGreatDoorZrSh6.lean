import Derived.Test.YtejpabdmiagnnaaGreatDoorZrV8
import Derived.Test.YtejpabdmiagnnaaGreatDoorZrSh5
import Derived.Test.YtejpabdmiagnnaaGreatDoorZrRJ
import Derived.RangeFuncRecord
import Derived.OrdersIn
import Derived.TacticsIn
set_option linter.all false
namespace Go.Proofs.YtejpabdmiagnnaaGreatDoor
open Go.RowKit
set_option maxRecDepth 100000
set_option maxHeartbeats 4000000
set_option linter.unusedVariables false
theorem join_ret (l:List Sh):Ret Tryz.prog 56 [.sl 2 (encA shareC l)] (.tup [.own 1 (bytesA (atD l 0)),ai (atE l 0)]):=by
 refine zO Tryz.func56 8 ?_
 refine zP 2 [{},yH [(1,yV (AV.tup [AV.own 1 (bytesA (atD l (0:Int))),ai (atE l (0:Int))]))]] [.keep [3,2,0] [1005]] [yI (at_ret l ((0:Int))),yI (valR_bytes (atD l (0:Int)))] ?_
 refine zR ?_
 refine zV [yR (bytesA (atD l (0:Int))),yR (Value.int .i64 (atE l (0:Int)))]
def pst (rnd:List UInt8) (L j:Nat) (x c:UInt8):Nat->UInt8×UInt8
 | 0=>(c,1)
 | d+1=>((pst rnd L j x c d).1^^^rgmul (rnd.getD (d*L+j) 0) (rgmul (pst rnd L j x c d).2 x),rgmul (pst rnd L j x c d).2 x)
def rsplitB (secret rnd:List UInt8) (need:Nat) (x:UInt8) (j:Nat):UInt8:=(pst rnd secret.length j x (secret.getD j 0) (need-1)).1
def rsplitD (secret rnd:List UInt8) (need:Nat) (x:UInt8):List UInt8:=(List.range secret.length).map (rsplitB secret rnd need x)
def rsplitS (secret rnd:List UInt8) (need:Nat) (i:Nat):Sh:=((i:Int)+1,rsplitD secret rnd need (u8 ((i:Int)+1)))
def rsplitL (secret rnd:List UInt8) (need n:Int):List Sh:=if splitE secret rnd need n=0 then (List.range n.toNat).map (rsplitS secret rnd need.toNat) else []
end Go.Proofs.YtejpabdmiagnnaaGreatDoor
namespace Go.Proofs.YtejpabdmiagnnaaGreatDoor
open Go.RowKit
set_option linter.unusedVariables false
section
variable {Z Z':Zone} {w0 w w':World} {n:Nat} {O:List Nat} {s:AS} {a a':Act} {φ:Nat->Option Nat}
theorem SimO.rebase (h:SimO Z w0 n O s a w φ) (hsz:w.heap.size≤w'.heap.size) (hb:∀b,Z.S b->b<w.heap.size->w'.heap[b]?=w.heap[b]?) (hS:∀b,Z.S b->b<w.heap.size->Z'.S b) (hnew:∀b,(w'.heap.size≤b∨Z'.X b)->Z'.S b) (hX:∀id g,φ id=some g->Z'.X g)
  (hfix:∀id g,φ id=some g->id<1000000000000∨Z'.fix id=some g) (ht:a'.tmps=a.tmps) (hd:a'.defers=Z'.dfs) (hgw:Good w') (hgx:∀b,TB b-> ¬Z'.X b):SimO Z' w' n O s a' w' φ:=by
 have hF:∀b,Free Z w φ O b->Free Z' w' φ O b∧w'.heap[b]?=w.heap[b]?:=fun b hb'=>⟨⟨Nat.lt_of_lt_of_le hb'.1 hsz,hb'.2.1,hb'.2.2.1,hS b hb'.2.2.2 hb'.1⟩,hb b hb'.2.2.2 hb'.1⟩
 have hφ:∀id g,φ id=some g->w'.heap[g]?=w.heap[g]?:=fun id g hg=>hb g (h.new g (h.rng id g hg).1.2) (h.rng id g hg).2
 have hL:∀id e m g,infoOf s.H φ id=some (e,m,some g)->cellsLen w' g=cellsLen w g:=fun id e m g hi=>by
  obtain ⟨_,-,-,-,hg⟩:=info_some hi
  unfold cellsLen;rw [hφ id g hg]
 refine ⟨by rw [ht];exact h.tsz,hd,⟨rfl,rfl,rfl,Nat.le_refl _,fun _ _ _=>rfl,hgw,hgx⟩,fun i av hi=>?_,fun id r hr=>?_,h.only,h.inj,fun id g hg=>⟨⟨hfix id g hg,.inr (hX id g hg)⟩,Nat.lt_of_lt_of_le (h.rng id g hg).2 hsz⟩,h.apart,hnew⟩
 ·rw [ht];exact (h.slots i av hi).mono (fun _ _ h=>h) hF hL
 ·have hrow:=h.rows id r hr
  unfold RowDen at hrow ⊢
  cases hg:φ id with
  | none=>rw [hg] at hrow;exact hrow
  | some g =>
   rw [hg] at hrow
   obtain ⟨cur,te,fr,u1,u2,u3,u4,u5⟩:=hrow
   refine ⟨cur,te,fr,(hφ id g hg).trans u1,u2,u3,u4,fun j u x hu hx=>?_⟩
   have:=u5 j u x hu hx
   unfold CellDen at this ⊢
   cases hp:r.pure with
   | true=>rw [hp] at this;exact this.mono hF
   | false=>rw [hp] at this;exact this.mono (fun _ _ h=>h) hF hL
end
theorem Weaks.cnil {s:AS} (id j new e:Nat) {r:Row} (hr:look s.H id=some r) (hp:r.pure=false) (hj:r.cells[j]?=some .nil) (hn:look s.H new=none):Weaks s ⟨s.F,(new,⟨e,true,false,[]⟩)::(id,⟨r.e,false,r.full,r.cells.set j (.ref new)⟩)::drop_ s.H id⟩:=by
 intro S0 w0 n a w ⟨φ,hs⟩
 have hne:id≠new:=fun h=>by rw [h,hn] at hr;cases hr
 have hφ:φ new=none:=hs.only new hn
 have hlk:∀i,look ((new,(⟨e,true,false,[]⟩:Row))::(id,(⟨r.e,false,r.full,r.cells.set j (.ref new)⟩:Row))::drop_ s.H id) i=if new=i then some ⟨e,true,false,[]⟩ else if id=i then some ⟨r.e,false,r.full,r.cells.set j (.ref new)⟩ else look s.H i:=by
  intro i
  rw [look_cons,look_cons,look_drop]
  by_cases e1:new=i<;>by_cases e2:id=i<;>simp [e1,e2]
 have hI:∀i x,infoOf s.H φ i=some x->infoOf ((new,(⟨e,true,false,[]⟩:Row))::(id,(⟨r.e,false,r.full,r.cells.set j (.ref new)⟩:Row))::drop_ s.H id) φ i=some x:=by
  intro i x hx
  unfold infoOf at hx ⊢
  rw [hlk]
  by_cases e1:new=i
  ·subst e1;rw [hn] at hx;cases hx
  ·rw [if_neg e1]
   by_cases e2:id=i
   ·subst e2;rw [if_pos rfl];rw [hr] at hx;simpa using hx
   ·rw [if_neg e2];exact hx
 have hnew:infoOf ((new,(⟨e,true,false,[]⟩:Row))::(id,(⟨r.e,false,r.full,r.cells.set j (.ref new)⟩:Row))::drop_ s.H id) φ new=some (e,0,none):=by
  unfold infoOf;rw [hlk,if_pos rfl,hφ];rfl
 have mono:∀v x,Den (infoOf s.H φ) (Free S0 w φ []) w v x->Den (infoOf ((new,(⟨e,true,false,[]⟩:Row))::(id,(⟨r.e,false,r.full,r.cells.set j (.ref new)⟩:Row))::drop_ s.H id) φ) (Free S0 w φ []) w v x:=fun v x h=>h.mono hI (fun b hb=>⟨hb,rfl⟩) (fun _ _ _ _ _=>rfl)
 refine ⟨φ,hs.tsz,hs.dfr,hs.bel,fun i av hi=>mono _ _ (hs.slots i av hi),fun i q hq=>?_,fun i hi=>?_,hs.inj,hs.rng,hs.apart,hs.new⟩
 ·simp only [hlk] at hq
  by_cases e1:new=i
  ·subst e1
   rw [if_pos rfl] at hq;injection hq with hq;subst hq
   unfold RowDen;rw [hφ]
  ·rw [if_neg e1] at hq
   by_cases e2:id=i
   ·subst e2
    rw [if_pos rfl] at hq;injection hq with hq;subst hq
    have hrow:=hs.rows id r hr
    unfold RowDen at hrow ⊢
    cases hg:φ id with
    | none=>rw [hg] at hrow;simp only at hrow;rw [hrow] at hj;cases hj
    | some g =>
     rw [hg] at hrow
     obtain ⟨cur,te,fr,u1,u2,u3,u4,u5⟩:=hrow
     refine ⟨cur,te,fr,u1,u2,by simpa using u3,fun h=>by simpa using u4 h,fun k u x hu hx=>?_⟩
     unfold CellDen
     simp only at hx ⊢
     rw [List.getElem?_set] at hx
     by_cases hk:j=k
     ·subst hk
      have hlt:j<r.cells.length:=(List.getElem?_eq_some_iff.1 hj).1
      simp [hlt] at hx
      subst hx
      have:=u5 j u .nil hu hj
      unfold CellDen at this
      rw [hp] at this
      rw [den_nil this]
      exact .refnil new e hnew
     ·rw [if_neg hk] at hx
      have:=u5 k u x hu hx
      unfold CellDen at this
      rw [hp] at this
      exact mono u x this
   ·rw [if_neg e2] at hq
    have hrow:=hs.rows i q hq
    unfold RowDen at hrow ⊢
    cases hg:φ i with
    | none=>rw [hg] at hrow;exact hrow
    | some g =>
     rw [hg] at hrow
     obtain ⟨cur,te,fr,u1,u2,u3,u4,u5⟩:=hrow
     refine ⟨cur,te,fr,u1,u2,u3,u4,fun k u x hu hx=>?_⟩
     have:=u5 k u x hu hx
     unfold CellDen at this ⊢
     cases hpq:q.pure with
     | true=>rw [hpq] at this;exact this
     | false=>rw [hpq] at this;exact mono u x this
 ·simp only [hlk] at hi
  by_cases e1:new=i
  ·rw [if_pos e1] at hi;cases hi
  ·rw [if_neg e1] at hi
   by_cases e2:id=i
   ·rw [if_pos e2] at hi;cases hi
   ·rw [if_neg e2] at hi;exact hs.only i hi
end Go.Proofs.YtejpabdmiagnnaaGreatDoor
