import Derived.Test.YtjgbhhnghedgdaaGreatDoorZsCast
set_option linter.all false
namespace Go.Proofs.YtjgbhhnghedgdaaGreatDoor
open Go.RowKit
set_option maxRecDepth 100000
set_option maxHeartbeats 4000000
def Ij (s:UInt64):UInt64:=2+s%2305843009213693948
theorem wZ (s:UInt64):bK Tryz.prog 160 [aw s] (aw (Ij s)):=by
 refine zO Tryz.func160 6<|zP 2 [{},yH [(1,yV (aw (s%2305843009213693948))),(2,yV (aw (2+s%2305843009213693948)))]] [.aa [2,0] []] [yR (aw (s%2305843009213693948)),yO ((2305843009213693948:Int)≠(0:Int)),yR (aw (2+s%2305843009213693948))]<|zR (cE)
def zr (s:UInt64):UInt64:=mq (37^(Ij s).toNat)
theorem zf (s:UInt64):bK Tryz.prog 120 [aw s] (aw (zr s)):=by
 refine zO Tryz.func120 6<|zP 2 [{},yH [(1,yV (aw (Ij s))),(2,yV (aw (mq (UInt64.toNat 37^(Ij s).toNat))))]] [.aa [2,0] []] [yI (wZ s),yI (zg 37 (Ij s))]<|zR (cE)
def Sy (p:UInt64):Prop:=wv p<2∨wv p>2305843009213693949
instance (p:UInt64):Decidable (Sy p):=inferInstanceAs (Decidable (_∨_))
theorem BA {α:Type} (g:Nat->α) (d:α) {j n:Nat} (h:j<n):((List.range n).map g).getD j d=g j:=by
 rw [List.getD_eq_getElem?_getD,List.getElem?_map,List.getElem?_range h];rfl
def tK (aO:List UInt8) (L j:Nat) (x c:UInt8):Nat->UInt8×UInt8
 | 0=>(c,1)
 | d+1=>((tK aO L j x c d).1^^^kx (aO.getD (d*L+j) 0) (kx (tK aO L j x c d).2 x),kx (tK aO L j x c d).2 x)
def gq (aq aO:List UInt8) (need:Nat) (x:UInt8) (j:Nat):UInt8:=(tK aO aq.length j x (aq.getD j 0) (need-1)).1
def Dp (aq aO:List UInt8) (need:Nat) (x:UInt8):List UInt8:=(List.range aq.length).map (gq aq aO need x)
def jj (aq aO:List UInt8) (need:Nat) (i:Nat):Sh:=((i:Int)+1,Dp aq aO need (u8 ((i:Int)+1)))
def fC (aq aO:List UInt8) (need n:Int):List Sh:=if c_ aq aO need n=0 then (List.range n.toNat).map (jj aq aO need.toNat) else []
end Go.Proofs.YtjgbhhnghedgdaaGreatDoor
