import Derived.Test.YtjgbhhnghedgdaaGreatDoorZmCast
set_option linter.all false
namespace Go.Proofs.YtjgbhhnghedgdaaGreatDoor
open Go.RowKit
set_option maxRecDepth 100000
set_option maxHeartbeats 4000000
def Jp (s:UInt64):UInt64:=2+s%2305843009213693948
theorem xX (s:UInt64):bC Tryz.prog 160 [aw s] (aw (Jp s)):=by
 refine zO Tryz.func160 6<|zP 2 [{},yH [(1,yV (aw (s%2305843009213693948))),(2,yV (aw (2+s%2305843009213693948)))]] [.aa [2,0] []] [yR (aw (s%2305843009213693948)),yO ((2305843009213693948:Int)≠(0:Int)),yR (aw (2+s%2305843009213693948))]<|zR (bL)
def A2 (s:UInt64):UInt64:=mq (37^(Jp s).toNat)
theorem AO (s:UInt64):bC Tryz.prog 120 [aw s] (aw (A2 s)):=by
 refine zO Tryz.func120 6<|zP 2 [{},yH [(1,yV (aw (Jp s))),(2,yV (aw (mq (UInt64.toNat 37^(Jp s).toNat))))]] [.aa [2,0] []] [yI (xX s),yI (AP 37 (Jp s))]<|zR (bL)
def Tl (p:UInt64):Prop:=wv p<2∨wv p>2305843009213693949
instance (p:UInt64):Decidable (Tl p):=inferInstanceAs (Decidable (_∨_))
theorem CK {α:Type} (g:Nat->α) (d:α) {j n:Nat} (h:j<n):((List.range n).map g).getD j d=g j:=by
 rw [List.getD_eq_getElem?_getD,List.getElem?_map,List.getElem?_range h];rfl
def uq (aV:List UInt8) (L j:Nat) (x c:UInt8):Nat->UInt8×UInt8
 | 0=>(c,1)
 | d+1=>((uq aV L j x c d).1^^^kI (aV.getD (d*L+j) 0) (kI (uq aV L j x c d).2 x),kI (uq aV L j x c d).2 x)
def gG (ar aV:List UInt8) (need:Nat) (x:UInt8) (j:Nat):UInt8:=(uq aV ar.length j x (ar.getD j 0) (need-1)).1
def Ez (ar aV:List UInt8) (need:Nat) (x:UInt8):List UInt8:=(List.range ar.length).map (gG ar aV need x)
def jw (ar aV:List UInt8) (need:Nat) (i:Nat):Sh:=((i:Int)+1,Ez ar aV need (u8 ((i:Int)+1)))
def fU (ar aV:List UInt8) (need n:Int):List Sh:=if dr ar aV need n=0 then (List.range n.toNat).map (jw ar aV need.toNat) else []
end Go.Proofs.YtjgbhhnghedgdaaGreatDoor
