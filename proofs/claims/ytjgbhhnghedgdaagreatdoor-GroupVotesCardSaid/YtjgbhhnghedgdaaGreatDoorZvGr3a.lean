import Derived.Test.YtjgbhhnghedgdaaGreatDoorZvRY
import Derived.Test.YtjgbhhnghedgdaaGreatDoorZvTk2
set_option linter.all false
namespace Go.Proofs.YtjgbhhnghedgdaaGreatDoor
open Go.RowKit
set_option maxRecDepth 100000
set_option maxHeartbeats 4000000
theorem mQ (l:List UInt64) (hl:l.length≤1000000):bG Tryz.prog 52 [.sl 1 (ah l)] (.own 1 (ah l)):=by
 have ud:(ah l).length=l.length:=aA l
 refine zO Tryz.func52 8<|zq<|zS<|zS<|bg.isNil (t:=27) (el:=22) (x:=.tmp 0) (d1:=3) (d2:=4) (e:=1) (row:=ah l) bu bu bu bu bu bu bu Tryz.underlying27 bu bu bu fun b hb=>al ?_
 cases b with
 | true =>
  have e:=hb rfl
  refine zT 4<|zq<|dC (zV [yI e])
 | false =>
  refine zF 4<|a_<|zP 1 [yH [(2,{b:=false})]] [.aa [2,4,0] [7]] [yB (cp (ah l)) (qw _),yO ((0+(ah l).length)*8≤140737488355328)]<|zR (bP)
theorem vo (l:List Mem) (hl:l.length≤1000000):bG Tryz.prog 60 [.sl 4 (af aT l)] (.own 4 (af aT l)):=by
 have ud:(af aT l).length=l.length*4:=aE (e:=4) (fun _=>rfl) ..
 refine zO Tryz.func60 8<|zq<|zS<|zS<|bg.isNil (t:=38) (el:=51) (x:=.tmp 0) (d1:=3) (d2:=4) (e:=4) (row:=af aT l) bu bu bu bu bu bu bu Tryz.underlying38 bu bu bu fun b hb=>al ?_
 cases b with
 | true =>
  have e:=hb rfl
  refine zT 4<|zq<|dC (zV [yI e])
 | false =>
  refine zF 4<|a_<|zP 1 [yH [(2,{b:=false})]] [.aa [2,4,0] [7]] [yB (cp (af aT l)) (dm (fun x=>dr rfl) _),yO ((0+(af aT l).length)*40≤562949953421312)]<|zR (bP)
theorem oz (d:nH) (h1:d.box.length≤1000000) (h2:d.ae.length≤1000000) (h3:d.ax.length≤1000000):bG Tryz.prog 54 [.agg (bj d)] (.agg (Ra d)):=by
 have hc:=CJ d.ae h2
 refine zO Tryz.func54 16<|zP 5 [{},yH [(2,yV (AV.own 1 (aj d.box)))],yH [(2,yD hc)],yH [(2,yC (mQ (d.ax) h3))],{}] [.aa [2,1,0] [2,1,13,9,5]] [yI (G0 d.box ag),yI (aV d.box),yL 3 7,yI hc,yL 4 7,yI (mQ d.ax h3),yB (kP (ah d.ax)) (fE _),yL 5 7,yL 7 7]<|zR (bP)
theorem tf (l:List ic) (v:ic) (hl:l.length≤1000):gn Tryz.prog 53 [.ref 5,ai l.length,.sl 4 (af aL [v])] [(5,⟨4,true,false,af aL l⟩)] (.own 4 (af aL (l++ [v]))) [(5,⟨4,true,false,af aL []⟩)]:=by
 have ud:(af aL l).length=l.length*4:=aE (e:=4) (fun _=>rfl) ..
 have Xx:(af aL [v]).length=4:=rfl
 refine nC Tryz.func53 95<|bg.rz [.uX 5 77] bu<|bg.nL (bQ.add 5 4 bu)<|zP 3 [{},yH [(2,{k:=l.length})],yH [(1,{k:=1})]] [.aa [7,6,0,1,2] [5,77]] [yR (↑l.length:Int),yO (l.length*4≤(af aL l).length),yR (1*4)]<|zS<|zq<|bk 16 ((↑(1:Nat):Int) == (0:Int)) bD<|a_<|zP 1 [yH [(1,{k:=l.length})]] [.aa [8,16,7,6,0,1,2] [5,77]] [yI ud]<|zS<|zP 1 [{}] [.aa [22,8,16,7,6,0,1,2] [5,77]] []<|dB 22 ((↑l.length:Int) == (↑l.length:Int)) eJ<|zQ 1 [{}] [yO (((af aL l).length+4)*72≤562949953421312)]<|dC (zG [] [yB (af aL l++af aL [v]=af aL (l++ [v])) (fb _ _),yB ([]=af aL []) rfl])
end Go.Proofs.YtjgbhhnghedgdaaGreatDoor
