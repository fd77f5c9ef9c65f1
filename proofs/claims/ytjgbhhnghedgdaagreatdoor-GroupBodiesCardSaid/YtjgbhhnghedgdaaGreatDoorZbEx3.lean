import Derived.Test.YtjgbhhnghedgdaaGreatDoorZbCast
set_option linter.all false
namespace Go.Proofs.YtjgbhhnghedgdaaGreatDoor
open Go.RowKit
set_option maxRecDepth 100000
set_option maxHeartbeats 4000000
def IP (s:UInt64):UInt64:=2+s%2305843009213693948
theorem xn (s:UInt64):bL Tryz.prog 160 [aw s] (aw (IP s)):=by
 refine zO Tryz.func160 6<|zP 2 [{},yH [(1,yV (aw (s%2305843009213693948))),(2,yV (aw (2+s%2305843009213693948)))]] [.aa [2,0] []] [yR (aw (s%2305843009213693948)),yO ((2305843009213693948:Int)≠(0:Int)),yR (aw (2+s%2305843009213693948))]<|zR (bR)
def Ae (s:UInt64):UInt64:=mq (37^(IP s).toNat)
theorem zZ (s:UInt64):bL Tryz.prog 120 [aw s] (aw (Ae s)):=by
 refine zO Tryz.func120 6<|zP 2 [{},yH [(1,yV (aw (IP s))),(2,yV (aw (mq (UInt64.toNat 37^(IP s).toNat))))]] [.aa [2,0] []] [yI (xn s),yI (z1 37 (IP s))]<|zR (bR)
def SC (p:UInt64):Prop:=wv p<2∨wv p>2305843009213693949
instance (p:UInt64):Decidable (SC p):=inferInstanceAs (Decidable (_∨_))
theorem B1 {α:Type} (g:Nat->α) (d:α) {j n:Nat} (h:j<n):((List.range n).map g).getD j d=g j:=by
 rw [List.getD_eq_getElem?_getD,List.getElem?_map,List.getElem?_range h];rfl
def tZ (aU:List UInt8) (L j:Nat) (x c:UInt8):Nat->UInt8×UInt8
 | 0=>(c,1)
 | d+1=>((tZ aU L j x c d).1^^^kF (aU.getD (d*L+j) 0) (kF (tZ aU L j x c d).2 x),kF (tZ aU L j x c d).2 x)
def gE (ar aU:List UInt8) (need:Nat) (x:UInt8) (j:Nat):UInt8:=(tZ aU ar.length j x (ar.getD j 0) (need-1)).1
def DU (ar aU:List UInt8) (need:Nat) (x:UInt8):List UInt8:=(List.range ar.length).map (gE ar aU need x)
def jv (ar aU:List UInt8) (need:Nat) (i:Nat):Sh:=((i:Int)+1,DU ar aU need (u8 ((i:Int)+1)))
def fO (ar aU:List UInt8) (need n:Int):List Sh:=if du ar aU need n=0 then (List.range n.toNat).map (jv ar aU need.toNat) else []
end Go.Proofs.YtjgbhhnghedgdaaGreatDoor
