import Derived.Test.YtjgbhhnghedgdaaGreatDoorZvCast
set_option linter.all false
namespace Go.Proofs.YtjgbhhnghedgdaaGreatDoor
open Go.RowKit
set_option maxRecDepth 100000
set_option maxHeartbeats 4000000
def JC (s:UInt64):UInt64:=2+s%2305843009213693948
theorem yG (s:UInt64):bG Tryz.prog 160 [aw s] (aw (JC s)):=by
 refine zO Tryz.func160 6<|zP 2 [{},yH [(1,yV (aw (s%2305843009213693948))),(2,yV (aw (2+s%2305843009213693948)))]] [.aa [2,0] []] [yR (aw (s%2305843009213693948)),yO ((2305843009213693948:Int)≠(0:Int)),yR (aw (2+s%2305843009213693948))]<|zR (bP)
def Bj (s:UInt64):UInt64:=mq (37^(JC s).toNat)
theorem Bc (s:UInt64):bG Tryz.prog 120 [aw s] (aw (Bj s)):=by
 refine zO Tryz.func120 6<|zP 2 [{},yH [(1,yV (aw (JC s))),(2,yC (sU (37) (JC s)))]] [.aa [2,0] []] [yI (yG s),yI (sU 37 (JC s))]<|zR (bP)
def Ud (p:UInt64):Prop:=wv p<2∨wv p>2305843009213693949
instance (p:UInt64):Decidable (Ud p):=inferInstanceAs (Decidable (_∨_))
theorem CU {α:Type} (g:Nat->α) (d:α) {j n:Nat} (h:j<n):((List.range n).map g).getD j d=g j:=by
 rw [List.getD_eq_getElem?_getD,List.getElem?_map,List.getElem?_range h];rfl
def u_ (aY:List UInt8) (L j:Nat) (x c:UInt8):Nat->UInt8×UInt8
 | 0=>(c,1)
 | d+1=>((u_ aY L j x c d).1^^^kW (aY.getD (d*L+j) 0) (kW (u_ aY L j x c d).2 x),kW (u_ aY L j x c d).2 x)
def gS (ar aY:List UInt8) (need:Nat) (x:UInt8) (j:Nat):UInt8:=(u_ aY ar.length j x (ar.getD j 0) (need-1)).1
def EG (ar aY:List UInt8) (need:Nat) (x:UInt8):List UInt8:=(List.range ar.length).map (gS ar aY need x)
def jI (ar aY:List UInt8) (need:Nat) (i:Nat):Sh:=((i:Int)+1,EG ar aY need (u8 ((i:Int)+1)))
def gg (ar aY:List UInt8) (need n:Int):List Sh:=if dM ar aY need n=0 then (List.range n.toNat).map (jI ar aY need.toNat) else []
end Go.Proofs.YtjgbhhnghedgdaaGreatDoor
