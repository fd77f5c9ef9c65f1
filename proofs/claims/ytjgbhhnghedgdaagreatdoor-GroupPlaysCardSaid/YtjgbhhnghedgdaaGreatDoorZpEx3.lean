import Derived.Test.YtjgbhhnghedgdaaGreatDoorZpCast
set_option linter.all false
namespace Go.Proofs.YtjgbhhnghedgdaaGreatDoor
open Go.RowKit
set_option maxRecDepth 100000
set_option maxHeartbeats 4000000
def Iy (s:UInt64):UInt64:=2+s%2305843009213693948
theorem xi (s:UInt64):bK Tryz.prog 160 [aw s] (aw (Iy s)):=by
 refine zO Tryz.func160 6<|zP 2 [{},yH [(1,yV (aw (s%2305843009213693948))),(2,yV (aw (2+s%2305843009213693948)))]] [.aa [2,0] []] [yR (aw (s%2305843009213693948)),yO ((2305843009213693948:Int)≠(0:Int)),yR (aw (2+s%2305843009213693948))]<|zR (bU)
def Aa (s:UInt64):UInt64:=mq (37^(Iy s).toNat)
theorem zM (s:UInt64):bK Tryz.prog 120 [aw s] (aw (Aa s)):=by
 refine zO Tryz.func120 6<|zP 2 [{},yH [(1,yV (aw (Iy s))),(2,yV (aw (mq (UInt64.toNat 37^(Iy s).toNat))))]] [.aa [2,0] []] [yI (xi s),yI (zU 37 (Iy s))]<|zR (bU)
def Sv (p:UInt64):Prop:=wv p<2∨wv p>2305843009213693949
instance (p:UInt64):Decidable (Sv p):=inferInstanceAs (Decidable (_∨_))
theorem BT {α:Type} (g:Nat->α) (d:α) {j n:Nat} (h:j<n):((List.range n).map g).getD j d=g j:=by
 rw [List.getD_eq_getElem?_getD,List.getElem?_map,List.getElem?_range h];rfl
def tQ (aS:List UInt8) (L j:Nat) (x c:UInt8):Nat->UInt8×UInt8
 | 0=>(c,1)
 | d+1=>((tQ aS L j x c d).1^^^ky (aS.getD (d*L+j) 0) (ky (tQ aS L j x c d).2 x),ky (tQ aS L j x c d).2 x)
def gE (ar aS:List UInt8) (need:Nat) (x:UInt8) (j:Nat):UInt8:=(tQ aS ar.length j x (ar.getD j 0) (need-1)).1
def DI (ar aS:List UInt8) (need:Nat) (x:UInt8):List UInt8:=(List.range ar.length).map (gE ar aS need x)
def jr (ar aS:List UInt8) (need:Nat) (i:Nat):Sh:=((i:Int)+1,DI ar aS need (u8 ((i:Int)+1)))
def fO (ar aS:List UInt8) (need n:Int):List Sh:=if dj ar aS need n=0 then (List.range n.toNat).map (jr ar aS need.toNat) else []
end Go.Proofs.YtjgbhhnghedgdaaGreatDoor
