import Derived.Test.YtjgbhhnghedgdaaGreatDoorZaCast
set_option linter.all false
namespace Go.Proofs.YtjgbhhnghedgdaaGreatDoor
open Go.RowKit
set_option maxRecDepth 100000
set_option maxHeartbeats 4000000
def IZ (s:UInt64):UInt64:=2+s%2305843009213693948
theorem xr (s:UInt64):bK Tryz.prog 160 [aw s] (aw (IZ s)):=by
 refine zO Tryz.func160 6<|zP 2 [{},yH [(1,yV (aw (s%2305843009213693948))),(2,yV (aw (2+s%2305843009213693948)))]] [.ae [2,0] []] [yR (aw (s%2305843009213693948)),yO ((2305843009213693948:Int)≠(0:Int)),yR (aw (2+s%2305843009213693948))]<|zR (bV)
def Ap (s:UInt64):UInt64:=mq (37^(IZ s).toNat)
theorem Af (s:UInt64):bK Tryz.prog 120 [aw s] (aw (Ap s)):=by
 refine zO Tryz.func120 6<|zP 2 [{},yH [(1,yV (aw (IZ s))),(2,yV (aw (mq (UInt64.toNat 37^(IZ s).toNat))))]] [.ae [2,0] []] [yI (xr s),yI (Ag 37 (IZ s))]<|zR (bV)
def SQ (p:UInt64):Prop:=wv p<2∨wv p>2305843009213693949
instance (p:UInt64):Decidable (SQ p):=inferInstanceAs (Decidable (_∨_))
theorem B8 {α:Type} (g:Nat->α) (d:α) {j n:Nat} (h:j<n):((List.range n).map g).getD j d=g j:=by
 rw [List.getD_eq_getElem?_getD,List.getElem?_map,List.getElem?_range h];rfl
def tY (aS:List UInt8) (L j:Nat) (x c:UInt8):Nat->UInt8×UInt8
 | 0=>(c,1)
 | d+1=>((tY aS L j x c d).1^^^kC (aS.getD (d*L+j) 0) (kC (tY aS L j x c d).2 x),kC (tY aS L j x c d).2 x)
def gC (ar aS:List UInt8) (need:Nat) (x:UInt8) (j:Nat):UInt8:=(tY aS ar.length j x (ar.getD j 0) (need-1)).1
def D6 (ar aS:List UInt8) (need:Nat) (x:UInt8):List UInt8:=(List.range ar.length).map (gC ar aS need x)
def jv (ar aS:List UInt8) (need:Nat) (i:Nat):Sh:=((i:Int)+1,D6 ar aS need (u8 ((i:Int)+1)))
def fM (ar aS:List UInt8) (need n:Int):List Sh:=if dq ar aS need n=0 then (List.range n.toNat).map (jv ar aS need.toNat) else []
end Go.Proofs.YtjgbhhnghedgdaaGreatDoor
