import Derived.Test.YtjgbhhnghedgdaaGreatDoorZfCast
set_option linter.all false
namespace Go.Proofs.YtjgbhhnghedgdaaGreatDoor
open Go.RowKit
set_option maxRecDepth 100000
set_option maxHeartbeats 4000000
def Kj (s:UInt64):UInt64:=2+s%2305843009213693948
theorem y7 (s:UInt64):bA Tryz.prog 160 [aw s] (aw (Kj s)):=by
 refine zO Tryz.func160 6<|zP 2 [{},yH [(1,yV (aw (s%2305843009213693948))),(2,yV (aw (2+s%2305843009213693948)))]] [.aa [2,0] []] [yR (aw (s%2305843009213693948)),yO ((2305843009213693948:Int)≠(0:Int)),yR (aw (2+s%2305843009213693948))]<|zR (bL)
def Bx (s:UInt64):UInt64:=mq (37^(Kj s).toNat)
theorem Br (s:UInt64):bA Tryz.prog 120 [aw s] (aw (Bx s)):=by
 refine zO Tryz.func120 6<|zP 2 [{},yH [(1,yV (aw (Kj s))),(2,yC (sY (37) (Kj s)))]] [.aa [2,0] []] [yI (y7 s),yI (sY 37 (Kj s))]<|zR (bL)
def Uw (p:UInt64):Prop:=wv p<2∨wv p>2305843009213693949
instance (p:UInt64):Decidable (Uw p):=inferInstanceAs (Decidable (_∨_))
theorem Ds {α:Type} (g:Nat->α) (d:α) {j n:Nat} (h:j<n):((List.range n).map g).getD j d=g j:=by
 rw [List.getD_eq_getElem?_getD,List.getElem?_map,List.getElem?_range h];rfl
def u_ (aU:List UInt8) (L j:Nat) (x c:UInt8):Nat->UInt8×UInt8
 | 0=>(c,1)
 | d+1=>((u_ aU L j x c d).1^^^kU (aU.getD (d*L+j) 0) (kU (u_ aU L j x c d).2 x),kU (u_ aU L j x c d).2 x)
def gY (ar aU:List UInt8) (need:Nat) (x:UInt8) (j:Nat):UInt8:=(u_ aU ar.length j x (ar.getD j 0) (need-1)).1
def Fk (ar aU:List UInt8) (need:Nat) (x:UInt8):List UInt8:=(List.range ar.length).map (gY ar aU need x)
def jI (ar aU:List UInt8) (need:Nat) (i:Nat):Sh:=((i:Int)+1,Fk ar aU need (u8 ((i:Int)+1)))
def gj (ar aU:List UInt8) (need n:Int):List Sh:=if dF ar aU need n=0 then (List.range n.toNat).map (jI ar aU need.toNat) else []
end Go.Proofs.YtjgbhhnghedgdaaGreatDoor
