import Derived.Test.YtjgbhhnghedgdaaGreatDoorZaRec3
set_option linter.all false
namespace Go.Proofs.YtjgbhhnghedgdaaGreatDoor
open Go.RowKit
set_option maxRecDepth 100000
set_option maxHeartbeats 4000000
theorem e_ {n:Int} (h0:0≤n) (h1:n≤9223372036854775807):IntKind.i64.wrap n=n:=by
 have:=dG (n:=n) ah h1
 injection this with this;injection this
theorem vb (m:UInt64):bK Tryz.prog 139 [aw m] (.arr (ax (b7 m))):=by
 refine zO Tryz.func139 32<|zQ 3 [yH [(0,yV (AV.arr (ax (List.replicate 18 (0:Int)))))],yH [(0,yV (AV.arr (ax (List.replicate 18 (0:Int)))))],{}] (yM 2 (yR (ax (List.replicate 18 (0:Int)))))<|zS<|zq<|zB 0 (zL (fun (k:Nat)=>(⟨[(3,AV.addr 3 0),(2,AV.addr 2 0),(0,aw m),(6,ai k),(4,ai (bl m k))],[(2,⟨1,true,true,ax (List.replicate 18 (0:Int))⟩),(3,⟨1,true,false,ax (i5 m k)⟩)]⟩:AS)) (fun k=>(k≤16)) (fun k=>(16-k)) (0) ?_ (zW [.loose 3,.ae [3,2,0,6,4] [2,3]]) ?_)
 ·omega
 intro k hk
 have hs:=qZ m k
 refine zq<|zS (zD 7 ((↑k:Int)<16) (fun h=>?_) (fun h=>?_))
 ·have hn:=Cj m k
  have e1:IntKind.i64.wrap (wv ((m>>>UInt64.ofNat (60-4*(k:Int)).toNat)&&&15))=(m6 m k:Int):=by
   rw [show (60-4*(k:Int)).toNat=60-4*k by omega,Ef m k ah];exact e_ ah ah
  have e2:=Jn m k
  have e3:(i5 m (k+1)).getD k 0=(m6 m k:Int):=by rw [Lu m _ k ah,if_pos ah]
  have e4:IntKind.i64.wrap ((bl m k:Int)+IntKind.i64.wrap (15-((i5 m k).set k (m6 m k:Int)).getD k 0))=(bl m (k+1):Int):=by
   rw [e2,e3,e_ (n:=15-_) ah ah,e_ ah ah];simp only [bl];omega
  refine a_<|zS<|zB 1<|zP 2 [{},yH [(3,yV (ai ((4:Int)*(↑k:Int)))),(4,yV (ai ((60:Int)-4*(↑k:Int)))),(5,yV (aw (m>>>UInt64.ofNat ((60:Int)-4*(↑k:Int)).toNat))),(6,yV (aw (m>>>UInt64.ofNat ((60:Int)-4*(↑k:Int)).toNat&&&(15:UInt64)))),(7,yV (ai (↑(m6 m k):Int))),(8,{k:=k}),(9,yV (AV.arr (ax ((i5 m k).set k (↑(m6 m k):Int)))))]] [.ae [5,7,3,2,0,6,4] [3,2]] [yN ((4:Int)*(↑k:Int)),yN ((60:Int)-4*(↑k:Int)),yI (fj m ((60:Int)-4*(↑k:Int)) ah ah),yO ((0:Int)≤60-4*(↑k:Int)),yI (iY (m>>>UInt64.ofNat ((60:Int)-4*(↑k:Int)).toNat) 15),yI (yc e1),yR (↑k:Int),yO (k<18),yB ((ax (i5 m k)).set k (ai (↑(m6 m k):Int))=ax ((i5 m k).set k (↑(m6 m k):Int))) (FC _ _ _),yO (k+1≤18)]<|zX (yH [(2,{k:=k}),(3,yV (ai (((i5 m k).set k (↑(m6 m k):Int)).getD k (0:Int))))]) [yR (↑k:Int),yO (k<18),yB ((ax ((i5 m k).set k (↑(m6 m k):Int)))[k]?=some (ai (((i5 m k).set k (↑(m6 m k):Int)).getD k (0:Int)))) (lX (by simp only [List.length_set,Jo];omega))]<|aM<|ak<|zX (yH [(0,yV (ai ((↑k:Int)+1)))]) [yN ((↑k:Int)+1)] (aJ (k+1) ah ah (eK [.ae [3,2,0,6,4] [2,3]] [4] [3] [yI (yc e4),yB (ax ((i5 m k).set k (↑(m6 m k):Int))=ax (i5 m (k+1))) (congrArg ax e2)]))
 ·have e:k=16:=ah
  subst e
  have e1:IntKind.i64.wrap (((bl m 16:Nat):Int).tdiv 16)=((bl m 16/16:Nat):Int):=by
   rw [Int.tdiv_eq_ediv_of_nonneg ah];rw [e_ ah ah];omega
  have e2:((bl m 16:Nat):Int)%16=((bl m 16%16:Nat):Int):=ah
  have e3:=Jp m
  refine zE 0<|a7<|aO<|bn<|ak<|bf.tQ 3 [{hs:=[(1,{av:=some (ai (↑(bl m 16/16):Int))}),(2,{k:=16}),(3,{av:=some (AV.arr (ax ((i5 m 16).set 16 (↑(bl m 16/16):Int))))})]},{hs:=[(1,{av:=some (ai ((↑(bl m 16):Int)%(16:Int)))}),(2,{av:=some (ai (↑(bl m 16%16):Int)),k:=17}),(3,{av:=some (AV.arr (ax (((i5 m 16).set 16 (↑(bl m 16/16):Int)).set 17 ((↑(bl m 16):Int)%(16:Int)))))})]},{hs:=[(0,{av:=some (AV.arr (ax (b7 m)))}),(1,{av:=some (AV.arr (ax (b7 m))),k:=1})]}] [.ae [7,3,2,0,6,4] [2,3]] bh (C:=[ai (IntKind.i64.wrap ((↑(bl m 16):Int).tdiv (16:Int)))=ai (↑(bl m 16/16):Int),(16:Int)≠(0:Int),(16:Int)=(↑(16:Nat):Int),16<18,(ax (i5 m 16)).set 16 (ai (↑(bl m 16/16):Int))=ax ((i5 m 16).set 16 (↑(bl m 16/16):Int)),17≤18,ai ((↑(bl m 16):Int).tmod (16:Int))=ai ((↑(bl m 16):Int)%(16:Int)),(16:Int)≠(0:Int),(17:Int)=(↑(17:Nat):Int),17<18,(ax ((i5 m 16).set 16 (↑(bl m 16/16):Int))).set 17 (ai ((↑(bl m 16):Int)%(16:Int)))=ax (((i5 m 16).set 16 (↑(bl m 16/16):Int)).set 17 ((↑(bl m 16):Int)%(16:Int))),18≤18,List.take 18 (List.drop 0 (ax (((i5 m 16).set 16 (↑(bl m 16/16):Int)).set 17 ((↑(bl m 16):Int)%(16:Int)))))=ax (b7 m),(ax (b7 m)).length=18,List.take 0 (ax (List.replicate 18 (0:Int)))++ax (b7 m)++List.drop 18 (ax (List.replicate 18 (0:Int)))=ax (b7 m),(ax (b7 m)).length=18,∀(x:AV),x∈ax (b7 m)->ic x=true,18≤18]) bh ⟨(yY ah ah ah),ah,rfl,ah,rfl,ah,rfl,ah,rfl,ah,rfl,ah,rfl,rfl,rfl,rfl,(Au _),ah,trivial⟩<|zR (zV [yR 18,yR (ax (b7 m))])
theorem xj (leaf chain src dst:Int) (x:UInt64):bK Tryz.prog 140 [ai leaf,ai chain,ai src,ai dst,aw x] (aw (run leaf chain src dst x)):=by
 unfold run
 have hp:(if 0>src then 0 else src)=max src 0:=by split<;>omega
 have he:(if 15<dst then 15 else dst)=min dst 15:=by split<;>omega
 generalize UF:max src 0=p at *
 generalize Sa:min dst 15=e at *
 refine zO Tryz.func140 33<|zP 2 [{},yH [(1,yV (ai e))]] [.ae [11,10,0,1,2,3,4] []] [yI (yc he)]<|zS<|zP 1 [yH [(1,yV (ai p))]] [.ae [12,11,10,0,1,2,3,4] []] [yI (yc hp)]<|zB 0 (zL (fun (k:Nat)=>(⟨[(11,ai e),(10,AV.val (Value.int .u64 0)),(0,ai leaf),(1,ai chain),(2,ai src),(3,ai dst),(12,ai (p+k)),(4,aw (jG leaf chain p x k))],[]⟩:AS)) (fun k=>(k≤(e-p).toNat)) (fun k=>((e-p).toNat-k)) (0) ?_ (eK [.ae [11,10,0,1,2,3,12,4] []] [12] [] [yB (ai p=ai (p+(↑(0:Nat):Int))) (congrArg (fun n=>AV.val (.int .i64 n)) ah)]) ?_)
 ·omega
 intro k hk
 refine zS<|zP 1 [{}] [.ae [19,11,10,0,1,2,3,12,4] []] [] (zD 19 (p+(↑k:Int)<e) (fun h=>?_) (fun h=>?_))
 ·have hw:(words [u64 leaf,u64 chain,u64 (p+k),jG leaf chain p x k]).length=32:=by rw [dV];rfl
  refine a_<|zS<|zB 1<|zX (yH [(1,yV (aw (u64 leaf))),(3,yV (aw (u64 chain))),(5,yV (aw (u64 (p+(↑k:Int))))),(7,yV (AV.arr (aj [u64 leaf,u64 chain,u64 (p+(↑k:Int)),jG leaf chain p x k]))),(8,yV (AV.own 1 (ag (words [u64 leaf,u64 chain,u64 (p+(↑k:Int)),jG leaf chain p x k])))),(9,yV (aw (hash (1:Int) (words [u64 leaf,u64 chain,u64 (p+(↑k:Int)),jG leaf chain p x k]))))]) [yI (a6 leaf),yI (a6 chain),yI (a6 (p+(↑k:Int))),yR (aj [u64 leaf,u64 chain,u64 (p+(↑k:Int)),jG leaf chain p x k]),yI (lK [u64 leaf,u64 chain,u64 (p+(↑k:Int)),jG leaf chain p x k] (by simp only [List.length_cons,List.length_nil];omega)),yI (aR (words [u64 leaf,u64 chain,u64 (p+(↑k:Int)),jG leaf chain p x k])),yI (nH ((1:Int)) (words [u64 leaf,u64 chain,u64 (p+(↑k:Int)),jG leaf chain p x k]))]<|aM<|ak<|zX (yH [(1,yV (ai (p+(↑k:Int)+1)))]) [yN (p+(↑k:Int)+1)] (aJ (k+1) ah ah (eK [.ae [11,10,0,1,2,3,12,4] []] [12] [] [yB (ai (p+(↑k:Int)+1)=ai (p+(↑(k+1):Int))) (congrArg (fun n=>AV.val (.int .i64 n)) ah)]))
 ·have e1:k=(e-p).toNat:=ah
  subst e1
  refine zE 0<|a7<|aO<|bn<|ak<|zP 1 [{}] [.ae [10,19,11,0,1,2,3,12,4] []] []<|zR (bV)
theorem o7 (leaf chain src dst:Int) (x:UInt64):bK Tryz.prog 147 [ai leaf,ai chain,ai src,ai dst,aw x] (aw (run leaf chain src dst x)):=by
 unfold run
 have hp:(if 0>src then 0 else src)=max src 0:=by split<;>omega
 have he:(if 15<dst then 15 else dst)=min dst 15:=by split<;>omega
 generalize UF:max src 0=p at *
 generalize Sa:min dst 15=e at *
 refine zO Tryz.func147 31<|zq<|zS<|zP 1 [yH [(1,yV (ai p))]] [.ae [11,10,0,1,2,3,4] []] [yI (yc hp)]<|zB 0 (zL (fun (k:Nat)=>(⟨[(10,AV.val (Value.int .u64 0)),(0,ai leaf),(1,ai chain),(2,ai src),(3,ai dst),(11,ai (p+k)),(4,aw (jG leaf chain p x k))],[]⟩:AS)) (fun k=>(k≤(e-p).toNat)) (fun k=>((e-p).toNat-k)) (0) ?_ (eK [.ae [10,0,1,2,3,11,4] []] [11] [] [yB (ai p=ai (p+(↑(0:Nat):Int))) (congrArg (fun n=>AV.val (.int .i64 n)) ah)]) ?_)
 ·omega
 intro k hk
 refine zS<|zP 1 [yH [(2,yV (ai e))]] [.ae [17,10,0,1,2,3,11,4] []] [yI (yc he)] (zD 17 (p+(↑k:Int)<e) (fun h=>?_) (fun h=>?_))
 ·have hw:(words [u64 leaf,u64 chain,u64 (p+k),jG leaf chain p x k]).length=32:=by rw [dV];rfl
  refine a_<|zS<|zB 1<|zX (yH [(1,yV (aw (u64 leaf))),(3,yV (aw (u64 chain))),(5,yV (aw (u64 (p+(↑k:Int))))),(7,yV (AV.arr (aj [u64 leaf,u64 chain,u64 (p+(↑k:Int)),jG leaf chain p x k]))),(8,yV (AV.own 1 (ag (words [u64 leaf,u64 chain,u64 (p+(↑k:Int)),jG leaf chain p x k])))),(9,yV (aw (hash (1:Int) (words [u64 leaf,u64 chain,u64 (p+(↑k:Int)),jG leaf chain p x k]))))]) [yI (a6 leaf),yI (a6 chain),yI (a6 (p+(↑k:Int))),yR (aj [u64 leaf,u64 chain,u64 (p+(↑k:Int)),jG leaf chain p x k]),yI (dB [u64 leaf,u64 chain,u64 (p+(↑k:Int)),jG leaf chain p x k] (by simp only [List.length_cons,List.length_nil];omega)),yI (aR (words [u64 leaf,u64 chain,u64 (p+(↑k:Int)),jG leaf chain p x k])),yI (ix ((1:Int)) (words [u64 leaf,u64 chain,u64 (p+(↑k:Int)),jG leaf chain p x k]) ah)]<|aM<|ak<|zX (yH [(1,yV (ai (p+(↑k:Int)+1)))]) [yN (p+(↑k:Int)+1)] (aJ (k+1) ah ah (eK [.ae [10,0,1,2,3,11,4] []] [11] [] [yB (ai (p+(↑k:Int)+1)=ai (p+(↑(k+1):Int))) (congrArg (fun n=>AV.val (.int .i64 n)) ah)]))
 ·have e1:k=(e-p).toNat:=ah
  subst e1
  refine zE 0<|a7<|aO<|bn<|ak<|zP 1 [{}] [.ae [10,17,0,1,2,3,11,4] []] []<|zR (bV)
theorem tL (seed:UInt64) (leaf c:Int):bK Tryz.prog 141 [aw seed,ai leaf,ai c] (aw (ar seed leaf c)):=by
 refine zO Tryz.func141 15<|zP 2 [{},yH [(2,yV (aw (u64 leaf))),(4,yV (aw (u64 c))),(5,yV (AV.arr (aj [u64 leaf,u64 c]))),(6,yV (AV.own 1 (ag (words [u64 leaf,u64 c])))),(7,yV (aw (y_ seed (1:Int) (words [u64 leaf,u64 c]))))]] [.ae [6,0,1,2] []] [yI (a6 leaf),yI (a6 c),yR (aj [u64 leaf,u64 c]),yI (lK [u64 leaf,u64 c] (by simp only [List.length_cons,List.length_nil];omega)),yI (aR (words [u64 leaf,u64 c])),yI (KJ seed ((1:Int)) (words [u64 leaf,u64 c]))]<|zR (bV)
theorem oJ (seed:UInt64) (leaf c:Int):bK Tryz.prog 148 [aw seed,ai leaf,ai c] (aw (ar seed leaf c)):=by
 have hw:(words [u64 leaf,u64 c]).length=16:=by rw [dV];rfl
 refine zO Tryz.func148 15<|zP 2 [{},yH [(2,yV (aw (u64 leaf))),(4,yV (aw (u64 c))),(5,yV (AV.arr (aj [u64 leaf,u64 c]))),(6,yV (AV.own 1 (ag (words [u64 leaf,u64 c])))),(7,yV (aw (y_ seed (1:Int) (words [u64 leaf,u64 c]))))]] [.ae [6,0,1,2] []] [yI (a6 leaf),yI (a6 c),yR (aj [u64 leaf,u64 c]),yI (dB [u64 leaf,u64 c] (by simp only [List.length_cons,List.length_nil];omega)),yI (aR (words [u64 leaf,u64 c])),yI (o8 seed ((1:Int)) (words [u64 leaf,u64 c]) ah)]<|zR (bV)
theorem Gi (c:UInt64) (l:List UInt64) (hl:l.length=18):setCells (aj ((List.replicate 19 0).set 0 c)) 1 ((aj l).take (cU 18 1))=aj (c::l):=by
 have h1:(aj l).take (cU 18 1)=aj l:=List.take_of_length_le (by rw [bw,aA];omega)
 rw [h1,ni _ _ _ (by rw [aA,aA,List.length_set,List.length_replicate];omega),aA,hl]
 simp [aj,List.replicate_succ]
theorem sm (leaf:Int) (l:List UInt64) (hl:l.length=18):bK Tryz.prog 168 [ai leaf,.arr (aj l)] (aw (combine leaf l)):=by
 have hc:(u64 leaf::l).length=19:=by simp [hl]
 have h0:(aj l).length=18:=by rw [aA,hl]
 refine zO Tryz.func168 15<|zP 5 [{},yH [(0,yV (AV.arr (aj (List.replicate 19 0))))],yH [(1,yV (aw (u64 leaf))),(2,{k:=0}),(3,yV (AV.arr (aj ((List.replicate 19 0).set 0 (u64 leaf)))))],{hs:=[(0,{k:=1}),(2,{av:=some (AV.arr (aj (u64 leaf::l))),k:=18,b:=false})],T:=2},yH [(1,yV (AV.own 1 (ag (words (u64 leaf::l))))),(2,yV (aw (hash (2:Int) (words (u64 leaf::l)))))]] [.ae [4,5,3,0,1] [5,3]] [yR (aj (List.replicate 19 0)),yI (a6 leaf),yR (0:Int),yO (0<19),yR (aj ((List.replicate 19 0).set 0 (u64 leaf))),yL 1 19,yR (1:Int),yL 1 19,yR 19,yB (19≤maxLen) (by decide),yI h0,yB (18≤maxLen) (by decide),yB ((match List.take 18 (aj l) with| [x]=>(aj ((List.replicate 19 0).set 0 (u64 leaf))).set 1 x|l=>List.take 1 (aj ((List.replicate 19 0).set 0 (u64 leaf)))++l++List.drop (1+l.length) (aj ((List.replicate 19 0).set 0 (u64 leaf))))=aj (u64 leaf::l)) (Gi _ l hl),yB (cE (aj l)) (pT _),yO (min (aj l).length (19-1)=18),yO (0<19-1),yB ((aj (u64 leaf::l)).length=19) (by simp only [aA];omega),yB (19≤maxLen) (by decide),yI (lK (u64 leaf::l) ah),yI (aR (words (u64 leaf::l))),yI (nH ((2:Int)) (words (u64 leaf::l)))]<|zR (bV)
theorem Ao (seed:UInt64) (leaf:Int):bK Tryz.prog 143 [aw seed,ai leaf] (aw (combine leaf (bG seed leaf 18))):=by
 have hl:=rW seed leaf 18
 refine zO Tryz.func143 23<|zQ 2 [{},yH [(0,yV (AV.arr (aj (List.replicate 18 0))))]] [yR (aj (List.replicate 18 0))]<|zS<|zq<|zB 0 (zL (fun (k:Nat)=>(⟨[(5,AV.addr 5 0),(4,AV.val (Value.int .u64 0)),(0,aw seed),(1,ai leaf),(7,ai k)],[(5,⟨1,true,false,aj (cR 18 (bG seed leaf 18) k)⟩)]⟩:AS)) (fun k=>(k≤18)) (fun k=>(18-k)) (0) ?_ (zW [.loose 5,.ae [5,4,0,1,7] [5]]) ?_)
 ·omega
 intro k hk
 have hf:=kq hl hk
 refine zq<|zS (zD 8 ((↑k:Int)<18) (fun h=>?_) (fun h=>?_))
 ·have e1:=l4 hl (ah:k<18)
  have e2:=Cb seed leaf k ah
  refine a_<|zS<|zB 1<|zq<|zX (yH [(6,yV (aw (ar seed leaf (↑k:Int)))),(7,yV (aw (run leaf (↑k:Int) (0:Int) (15:Int) (ar seed leaf (↑k:Int))))),(8,{k:=k}),(9,yV (AV.arr (aj ((cR 18 (bG seed leaf 18) k).set k (run leaf (↑k:Int) (0:Int) (15:Int) (ar seed leaf (↑k:Int)))))))]) [yI (tL seed leaf ((↑k:Int))),yI (xj leaf ((↑k:Int)) ((0:Int)) ((15:Int)) (ar seed leaf (↑k:Int))),yR (↑k:Int),yO (k<18),yB ((aj (cR 18 (bG seed leaf 18) k)).set k (aw (run leaf (↑k:Int) (0:Int) (15:Int) (ar seed leaf (↑k:Int))))=aj ((cR 18 (bG seed leaf 18) k).set k (run leaf (↑k:Int) (0:Int) (15:Int) (ar seed leaf (↑k:Int))))) (kt _ _ _),yB (k+1≤(aj (cR 18 (bG seed leaf 18) k)).length) (by simp only [aA];omega)]<|aM<|ak<|zX (yH [(0,yV (ai ((↑k:Int)+1)))]) [yN ((↑k:Int)+1)] (aJ (k+1) ah ah (eK [.ae [5,4,0,1,7] [5]] [] [5] [yB (aj ((cR 18 (bG seed leaf 18) k).set k (run leaf (↑k:Int) (0:Int) (15:Int) (ar seed leaf (↑k:Int))))=aj (cR 18 (bG seed leaf 18) (k+1))) (congrArg aj (by rw [←e2];exact e1))]))
 ·have e:k=18:=ah
  subst e
  have e1:=kN hl
  refine zE 0<|a7<|aO<|bn<|ak<|zP 1 [yH [(1,yV (AV.arr (aj (bG seed leaf 18)))),(2,yV (aw (combine leaf (bG seed leaf 18))))]] [.ae [4,8,5,0,1,7] [5]] [yR (aj (bG seed leaf 18)),yR 18,yI (sm leaf (bG seed leaf 18) rfl)]<|zR (bV)
theorem wh (seed:UInt64) (leaf:Int) (m:UInt64):bK Tryz.prog 96 [aw seed,ai leaf,aw m] (.own 1 (aj (bU seed leaf m 18))):=by
 have hl:=qM seed leaf m 18
 have hd:=nN m
 refine zO Tryz.func96 28<|zQ 2 [{},yH [(0,yV (AV.arr (aj (List.replicate 18 0))))]] [yR (aj (List.replicate 18 0))]<|zS<|zQ 1 [yH [(1,{av:=some (AV.arr (ax (b7 m))),b:=false})]] [yI (vb m)]<|zB 0 (zL (fun (k:Nat)=>(⟨[(11,AV.arr (ax (b7 m))),(7,AV.addr 7 0),(6,AV.nil),(0,aw seed),(1,ai leaf),(2,aw m),(12,ai k)],[(7,⟨1,true,true,aj (cR 18 (bU seed leaf m 18) k)⟩)]⟩:AS)) (fun k=>(k≤18)) (fun k=>(18-k)) (0) ?_ (zW [.ae [11,7,6,0,1,2,12] [7]]) ?_)
 ·omega
 intro k hk
 have hf:=kq hl hk
 refine zq<|zS (zD 13 ((↑k:Int)<18) (fun h=>?_) (fun h=>?_))
 ·have e1:=l4 hl (ah:k<18)
  have e2:=G_ seed leaf m k ah
  refine a_<|zS<|zB 1<|zP 1 [yH [(1,{av:=some (ai ((b7 m).getD k (0:Int))),k:=k})]] [.ae [9,8,13,11,7,6,0,1,2,12] [7]] [yR (↑k:Int),yO (k<18),yB ((ax (b7 m))[k]?=some (ai ((b7 m).getD k (0:Int)))) (lX ah)]<|zX (yH [(7,yV (aw (ar seed leaf (↑k:Int)))),(8,yV (aw (run leaf (↑k:Int) (0:Int) ((b7 m).getD k (0:Int)) (ar seed leaf (↑k:Int))))),(9,{k:=k}),(10,yV (AV.arr (aj ((cR 18 (bU seed leaf m 18) k).set k (run leaf (↑k:Int) (0:Int) ((b7 m).getD k (0:Int)) (ar seed leaf (↑k:Int)))))))]) [yI (tL seed leaf ((↑k:Int))),yI (xj leaf ((↑k:Int)) ((0:Int)) ((b7 m).getD k (0:Int)) (ar seed leaf (↑k:Int))),yR (↑k:Int),yO (k<18),yB ((aj (cR 18 (bU seed leaf m 18) k)).set k (aw (run leaf (↑k:Int) (0:Int) ((b7 m).getD k (0:Int)) (ar seed leaf (↑k:Int))))=aj ((cR 18 (bU seed leaf m 18) k).set k (run leaf (↑k:Int) (0:Int) ((b7 m).getD k (0:Int)) (ar seed leaf (↑k:Int))))) (kt _ _ _),yB (k+1≤(aj (cR 18 (bU seed leaf m 18) k)).length) (by simp only [aA];omega)]<|aM<|ak<|zX (yH [(0,yV (ai ((↑k:Int)+1)))]) [yN ((↑k:Int)+1)] (aJ (k+1) ah ah (eK [.ae [11,7,6,0,1,2,12] [7]] [] [7] [yB (aj ((cR 18 (bU seed leaf m 18) k).set k (run leaf (↑k:Int) (0:Int) ((b7 m).getD k (0:Int)) (ar seed leaf (↑k:Int))))=aj (cR 18 (bU seed leaf m 18) (k+1))) (congrArg aj (by rw [←e2];exact e1))]))
 ·have e:k=18:=ah
  subst e
  have e1:=kN hl
  refine zE 0<|a7<|aO<|bn<|ak<|zQ 1 [{}] [yR 18,yB (18≤maxLen) (by decide)]<|zR (bV)
def oz (leaf:Int) (m:UInt64) (s:List UInt64):UInt64:=if s.length=18 then combine leaf (cM leaf m s 18) else 0
def lx (s:List UInt64):Int:=if s.length=18 then 0 else 4
theorem Al (leaf:Int) (m:UInt64) (s:List UInt64):bK Tryz.prog 150 [ai leaf,aw m,.sl 1 (aj s)] (.bq [aw (oz leaf m s),ai (lx s)]):=by
 by_cases hs:s.length=18
 case neg =>
  have e1:oz leaf m s=0:=if_neg hs
  have e2:lx s=4:=if_neg hs
  refine zO Tryz.func150 34<|zq<|zS<|zP 1 [yH [(1,{k:=s.length})]] [.ae [13,7,6,0,1,2] []] [yI (aA s)]<|du 13 ((↑s.length:Int) != (18:Int)) (by simp;omega)<|zq<|dk (zV [yK 0 (wv (oz leaf m s)) (by rw [e1];rfl),yJ 4 (lx s) (by rw [e2])])
 have e1:oz leaf m s=combine leaf (cM leaf m s 18):=if_pos hs
 have e2:lx s=0:=if_pos hs
 have hl:=Am leaf m s 18
 have hd:=nN m
 refine zO Tryz.func150 34<|zq<|zS<|zP 1 [yH [(1,{k:=s.length})]] [.ae [13,7,6,0,1,2] []] [yI (aA s)]<|bj 13 ((↑s.length:Int) != (18:Int)) (by simp_all)<|a_<|zQ 1 [yH [(0,yV (AV.arr (aj (List.replicate 18 0))))]] [yR (aj (List.replicate 18 0))]<|zS<|zQ 1 [yH [(1,{av:=some (AV.arr (ax (b7 m))),b:=false})]] [yI (vb m)]<|zB 0 (zL (fun (k:Nat)=>(⟨[(15,AV.arr (ax (b7 m))),(8,AV.addr 8 0),(13,ao ((↑s.length:Int) != (18:Int))),(7,ai 0),(6,AV.val (Value.int .u64 0)),(0,ai leaf),(1,aw m),(2,AV.sl 1 (aj s)),(16,ai k)],[(8,⟨1,true,false,aj (cR 18 (cM leaf m s 18) k)⟩)]⟩:AS)) (fun k=>(k≤18)) (fun k=>(18-k)) (0) ?_ (zW [.loose 8,.ae [15,8,13,7,6,0,1,2,16] [8]]) ?_)
 ·omega
 intro k hk
 have hf:=kq hl hk
 refine zq<|zS (zD 17 ((↑k:Int)<18) (fun h=>?_) (fun h=>?_))
 ·have e3:=l4 hl (ah:k<18)
  have e4:=Kz leaf m s k ah
  refine a_<|zS<|zB 1<|zP 1 [yH [(1,{av:=some (ai ((b7 m).getD k (0:Int))),k:=k})]] [.ae [10,9,17,15,8,13,7,6,0,1,2,16] [8]] [yR (↑k:Int),yO (k<18),yB ((ax (b7 m))[k]?=some (ai ((b7 m).getD k (0:Int)))) (lX ah)]<|zX (yH [(6,{k:=k}),(7,yV (aw (s.getD k 0))),(8,yV (aw (run leaf (↑k:Int) ((b7 m).getD k (0:Int)) (15:Int) (s.getD k 0)))),(9,{k:=k}),(10,yV (AV.arr (aj ((cR 18 (cM leaf m s 18) k).set k (run leaf (↑k:Int) ((b7 m).getD k (0:Int)) (15:Int) (s.getD k 0))))))]) [yR (↑k:Int),yB (k<(aj s).length) (by simp only [aA];omega),yB ((aj s)[k]?=some (aw (s.getD k 0))) (dI ah),yI (xj leaf ((↑k:Int)) ((b7 m).getD k (0:Int)) ((15:Int)) (s.getD k 0)),yR (↑k:Int),yO (k<18),yB ((aj (cR 18 (cM leaf m s 18) k)).set k (aw (run leaf (↑k:Int) ((b7 m).getD k (0:Int)) (15:Int) (s.getD k 0)))=aj ((cR 18 (cM leaf m s 18) k).set k (run leaf (↑k:Int) ((b7 m).getD k (0:Int)) (15:Int) (s.getD k 0)))) (kt _ _ _),yB (k+1≤(aj (cR 18 (cM leaf m s 18) k)).length) (by simp only [aA];omega)]<|aM<|ak<|zX (yH [(0,yV (ai ((↑k:Int)+1)))]) [yN ((↑k:Int)+1)] (aJ (k+1) ah ah (eK [.ae [15,8,13,7,6,0,1,2,16] [8]] [] [8] [yB (aj ((cR 18 (cM leaf m s 18) k).set k (run leaf (↑k:Int) ((b7 m).getD k (0:Int)) (15:Int) (s.getD k 0)))=aj (cR 18 (cM leaf m s 18) (k+1))) (congrArg aj (by rw [←e4];exact e3))]))
 ·have e:k=18:=ah
  subst e
  have e3:=kN hl
  refine zE 0<|a7<|aO<|bn<|ak<|zP 1 [yH [(1,yV (AV.arr (aj (cM leaf m s 18)))),(2,yV (aw (combine leaf (cM leaf m s 18))))]] [.ae [7,6,17,15,8,13,0,1,2,16] [8]] [yR (aj (cM leaf m s 18)),yR 18,yI (sm leaf (cM leaf m s 18) rfl)]<|zR (zV [yK (wv (combine leaf (cM leaf m s 18))) (wv (oz leaf m s)) (by rw [e1]),yJ 0 (lx s) (by rw [e2])])
theorem mP (m:UInt64):bK Tryz.prog 146 [aw m] (.own 1 (ax (b7 m))):=by
 refine zO Tryz.func146 33<|zQ 3 [{},{},{}] []<|zS<|zq<|zB 0 (zL (fun (k:Nat)=>(⟨[(2,AV.nil),(0,aw m),(5,ai (15-k)),(4,ai (bl m k)),(3,AV.ref 21)],[(21,⟨1,true,false,ax (im m k)⟩)]⟩:AS)) (fun k=>(k≤16)) (fun k=>(16-k)) (0) ?_ (zW [.nil 3 21 1,.ae [2,0,5,4,3] [21]]) ?_)
 ·omega
 intro k hk
 have hs:=qZ m k
 have hl:=Dm m k
 refine zS<|zq (zD 8 ((15:Int)-(↑k:Int)≥0) (fun h=>?_) (fun h=>?_))
 ·have hn:=Cj m k
  have e0:IntKind.u64.wrap (4*(15-(k:Int)))=((60-4*k:Nat):Int):=by rw [IntKind.wrap_u64];omega
  have e1:IntKind.i64.wrap (wv ((m>>>UInt64.ofNat (((60-4*k:Nat):Int)).toNat)&&&15))=(m6 m k:Int):=by
   rw [show (((60-4*k:Nat):Int)).toNat=60-4*k by omega,Ef m k ah];exact e_ ah ah
  have e4:(bl m k:Int)+(15-(m6 m k:Int))=(bl m (k+1):Int):=by simp only [bl];omega
  refine a_<|zS<|zB 1<|zP 2 [yH [(2,yV (ai ((4:Int)*((15:Int)-(↑k:Int))))),(3,yV (AV.val (Value.int .u64 (↑(60-4*k):Int)))),(4,yV (aw (m>>>UInt64.ofNat (↑(60-4*k):Int).toNat))),(5,yV (aw (m>>>UInt64.ofNat (↑(60-4*k):Int).toNat&&&(15:UInt64)))),(6,yV (ai (↑(m6 m k):Int)))],yH [(2,yV (AV.arr (ax [(↑(m6 m k):Int)]))),(3,yV (AV.arr (ax (im m k++ [(↑(m6 m k):Int)]))))]] [.ae [3,6,8,2,0,5,4] [21]] [yN ((4:Int)*((15:Int)-(↑k:Int))),yI (yd e0),yI (fj m ((↑(60-4*k):Int)) ah ah),yO ((0:Int)≤(↑(60-4*k):Int)),yI (iY (m>>>UInt64.ofNat (↑(60-4*k):Int).toNat) 15),yI (yc e1),yR [ai (↑(m6 m k):Int)],yB (ax (im m k)++ax [(↑(m6 m k):Int)]=ax (im m k++ [(↑(m6 m k):Int)])) (FD _ _),yB (((ax (im m k)).length+1)*8≤140737488355328) (by simp only [km];omega)]<|zX (yH [(2,yV (ai ((15:Int)-(↑(m6 m k):Int)))),(3,yV (ai ((↑(bl m k):Int)+((15:Int)-(↑(m6 m k):Int)))))]) [yN ((15:Int)-(↑(m6 m k):Int)),yN ((↑(bl m k):Int)+((15:Int)-(↑(m6 m k):Int)))]<|aM<|ak<|zX (yH [(1,yV (ai ((15:Int)-(↑k:Int)-1)))]) [yN ((15:Int)-(↑k:Int)-1)] (aJ (k+1) ah ah (eK [.ae [2,0,5,4,3] [21]] [5,4] [21] [yB (ai ((15:Int)-(↑k:Int)-1)=ai ((15:Int)-(↑(k+1):Int))) (congrArg (fun n=>AV.val (.int .i64 n)) ah),yB (ai ((↑(bl m k):Int)+((15:Int)-(↑(m6 m k):Int)))=ai (↑(bl m (k+1)):Int)) (congrArg (fun n=>AV.val (.int .i64 n)) ah),yB (ax (im m k++ [(↑(m6 m k):Int)])=ax (im m (k+1))) (congrArg ax (Bm m k).symm)]))
 ·have e:k=16:=ah
  subst e
  have e1:IntKind.i64.wrap (((bl m 16:Nat):Int).tdiv 16)=((bl m 16/16:Nat):Int):=by
   rw [Int.tdiv_eq_ediv_of_nonneg ah];rw [e_ ah ah];omega
  have e2:((bl m 16:Nat):Int)%16=((bl m 16%16:Nat):Int):=ah
  have e3:=Ls m
  refine zE 0<|a7<|aO<|bn<|ak<|zP 1 [yH [(2,yV (ai (↑(bl m 16/16):Int))),(4,yV (ai (↑(bl m 16%16):Int))),(5,yV (AV.arr (ax [(↑(bl m 16/16):Int),(↑(bl m 16%16):Int)]))),(6,yV (AV.arr (ax (im m 16++ [(↑(bl m 16/16):Int),(↑(bl m 16%16):Int)]))))]] [.ae [2,8,0,5,4] [32]] [yB (ai (IntKind.i64.wrap ((↑(bl m 16):Int).tdiv (16:Int)))=ai (↑(bl m 16/16):Int)) (yY ah ah ah),yO ((16:Int)≠(0:Int)),yR (ai (↑(bl m 16%16):Int)),yO ((16:Int)≠(0:Int)),yR [ai (↑(bl m 16/16):Int),ai (↑(bl m 16%16):Int)],yR (ax (im m 16++ [(↑(bl m 16/16):Int),(↑(bl m 16%16):Int)])),yL 144 140737488355328]<|zR (bV)
theorem rV (leaf:Int) (l:List UInt64) (hl:l.length≤18):bK Tryz.prog 156 [ai leaf,.sl 1 (aj l)] (aw (combine leaf l)):=by
 have h1:(words [u64 leaf]).length=8:=by rw [dV];rfl
 have h2:(words l).length=8*l.length:=dV l
 have e:words [u64 leaf]++words l=words (u64 leaf::l):=by rw [←vP];rfl
 refine zO Tryz.func156 13<|zP 2 [{},yH [(1,yV (aw (u64 leaf))),(2,yV (AV.arr (aj [u64 leaf]))),(3,yV (AV.own 1 (ag (words [u64 leaf])))),(5,yV (AV.own 1 (ag (words l)))),(6,{av:=some (AV.arr (ag (words [u64 leaf]++words l))),b:=false}),(7,yV (aw (hash (2:Int) (words [u64 leaf]++words l))))]] [.ae [4,0,1] []] [yI (a6 leaf),yR [aw (u64 leaf)],yI (dB [u64 leaf] (by simp only [List.length_cons,List.length_nil];omega)),yI (aR (words [u64 leaf])),yI (dB l ah),yI (aR (words l)),yR (ag (words [u64 leaf]++words l)),yB (cE (ag (words l))) (fO _),yB ((8+(ag (words l)).length)*1≤140737488355328) (by simp only [aC];omega),yI (ix ((2:Int)) (words [u64 leaf]++words l) (by simp only [List.length_append];omega))]<|zR (bV)
theorem Ah (seed:UInt64) (leaf:Int):bK Tryz.prog 149 [aw seed,ai leaf] (aw (combine leaf (bG seed leaf 18))):=by
 refine zO Tryz.func149 24<|zQ 2 [{},{}] []<|zS<|zq<|zB 0 (zL (fun (k:Nat)=>(⟨[(4,AV.val (Value.int .u64 0)),(0,aw seed),(1,ai leaf),(6,ai k),(5,AV.ref 23)],[(23,⟨1,true,false,aj (bG seed leaf k)⟩)]⟩:AS)) (fun k=>(k≤18)) (fun k=>(18-k)) (0) ?_ (zW [.nil 5 23 1,.ae [4,0,1,6,5] [23]]) ?_)
 ·omega
 intro k hk
 have hl:=rW seed leaf k
 refine zS<|zq (zD 8 ((↑k:Int)<18) (fun h=>?_) (fun h=>?_))
 ·skip
  refine a_<|zS<|zB 1<|zX (yH [(6,yV (aw (ar seed leaf (↑k:Int)))),(7,yV (aw (run leaf (↑k:Int) (0:Int) (15:Int) (ar seed leaf (↑k:Int))))),(8,yV (AV.arr (aj [run leaf (↑k:Int) (0:Int) (15:Int) (ar seed leaf (↑k:Int))]))),(9,yV (AV.arr (aj (bG seed leaf k++ [run leaf (↑k:Int) (0:Int) (15:Int) (ar seed leaf (↑k:Int))]))))]) [yI (oJ seed leaf ((↑k:Int))),yI (o7 leaf ((↑k:Int)) ((0:Int)) ((15:Int)) (ar seed leaf (↑k:Int))),yR [aw (run leaf (↑k:Int) (0:Int) (15:Int) (ar seed leaf (↑k:Int)))],yB (aj (bG seed leaf k)++aj [run leaf (↑k:Int) (0:Int) (15:Int) (ar seed leaf (↑k:Int))]=aj (bG seed leaf k++ [run leaf (↑k:Int) (0:Int) (15:Int) (ar seed leaf (↑k:Int))])) (je _ _),yB (((aj (bG seed leaf k)).length+1)*8≤140737488355328) (by simp only [aA];omega)]<|aM<|ak<|zX (yH [(1,yV (ai ((↑k:Int)+1)))]) [yN ((↑k:Int)+1)] (aJ (k+1) ah ah (eK [.vo 20 23,.ae [4,0,1,6,5] [23]] [] [23] [yB (aj (bG seed leaf k++ [run leaf (↑k:Int) (0:Int) (15:Int) (ar seed leaf (↑k:Int))])=aj (bG seed leaf (k+1))) (congrArg aj (xA seed leaf k).symm)]))
 ·have e:k=18:=ah
  subst e
  refine zE 0<|a7<|aO<|bn<|ak<|zP 1 [yH [(2,yV (aw (combine leaf (bG seed leaf 18))))]] [.ae [4,8,0,1,6,5] [23]] [yI (rV leaf (bG seed leaf 18) (by assumption))]<|zR (bV)
theorem xq (seed:UInt64) (leaf:Int) (m:UInt64):bK Tryz.prog 102 [aw seed,ai leaf,aw m] (.own 1 (aj (bU seed leaf m 18))):=by
 have hd:=nN m
 refine zO Tryz.func102 31<|zQ 3 [{},yH [(1,yV (AV.own 1 (ax (b7 m))))],{}] [yI (mP m),yB (lj (ax (b7 m))) (vV _)]<|zS<|zq<|zB 0 (zL (fun (k:Nat)=>(⟨[(7,AV.ref 11),(6,AV.nil),(0,aw seed),(1,ai leaf),(2,aw m),(9,ai k),(8,AV.ref 29)],[(11,⟨1,true,false,ax (b7 m)⟩),(29,⟨1,true,false,aj (bU seed leaf m k)⟩)]⟩:AS)) (fun k=>(k≤18)) (fun k=>(18-k)) (0) ?_ (zW [.nil 8 29 1,.ae [7,6,0,1,2,9,8] [11,29]]) ?_)
 ·omega
 intro k hk
 have hl:=qM seed leaf m k
 refine zS<|zq (zD 13 ((↑k:Int)<18) (fun h=>?_) (fun h=>?_))
 ·skip
  refine a_<|zS<|zB 1<|zX ({hs:=[(5,{k:=k}),(6,yV (ai ((b7 m).getD k (0:Int)))),(10,yV (aw (ar seed leaf (↑k:Int)))),(11,yV (aw (run leaf (↑k:Int) (0:Int) ((b7 m).getD k (0:Int)) (ar seed leaf (↑k:Int))))),(12,yV (AV.arr (aj [run leaf (↑k:Int) (0:Int) ((b7 m).getD k (0:Int)) (ar seed leaf (↑k:Int))]))),(13,yV (AV.arr (aj (bU seed leaf m k++ [run leaf (↑k:Int) (0:Int) ((b7 m).getD k (0:Int)) (ar seed leaf (↑k:Int))]))))],T:=13}) [yR (↑k:Int),yO (k<18),yB ((ax (b7 m))[k]?=some (ai ((b7 m).getD k (0:Int)))) (lX ah),yI (oJ seed leaf ((↑k:Int))),yI (o7 leaf ((↑k:Int)) ((0:Int)) ((b7 m).getD k (0:Int)) (ar seed leaf (↑k:Int))),yR [aw (run leaf (↑k:Int) (0:Int) ((b7 m).getD k (0:Int)) (ar seed leaf (↑k:Int)))],yB (aj (bU seed leaf m k)++aj [run leaf (↑k:Int) (0:Int) ((b7 m).getD k (0:Int)) (ar seed leaf (↑k:Int))]=aj (bU seed leaf m k++ [run leaf (↑k:Int) (0:Int) ((b7 m).getD k (0:Int)) (ar seed leaf (↑k:Int))])) (je _ _),yB (((aj (bU seed leaf m k)).length+1)*8≤140737488355328) (by simp only [aA];omega)]<|aM<|ak<|zX (yH [(1,yV (ai ((↑k:Int)+1)))]) [yN ((↑k:Int)+1)] (aJ (k+1) ah ah (eK [.ae [7,6,0,1,2,9,8] [11,29]] [] [29] [yB (aj (bU seed leaf m k++ [run leaf (↑k:Int) (0:Int) ((b7 m).getD k (0:Int)) (ar seed leaf (↑k:Int))])=aj (bU seed leaf m (k+1))) (congrArg aj (BS seed leaf m k).symm)]))
 ·have e:k=18:=ah
  subst e
  refine zE 0<|a7<|aO<|bn<|ak<|zP 1 [{}] [.ae [6,13,7,0,1,2,9,8] [11,29]] []<|zR (bV)
theorem xi (a b:List UInt64) (k:Nat) (hl:a.length=b.length) (h:a.take k=b.take k) (hk:k<a.length) (hn:a.getD k 0≠b.getD k 0):(a == b)=false:=by
 rw [beq_eq_false_iff_ne]
 intro e;subst e;exact hn rfl
theorem xc {a b:List UInt64} {k:Nat} (hl:a.length=b.length) (h:a.take k=b.take k) (hk:k<a.length) (hn:a.getD k 0=b.getD k 0):a.take (k+1)=b.take (k+1):=by
 rw [List.take_add_one,List.take_add_one,h]
 rw [List.getD_eq_getElem?_getD,List.getD_eq_getElem?_getD,List.getElem?_eq_getElem hk,List.getElem?_eq_getElem ah] at hn
 rw [List.getElem?_eq_getElem hk,List.getElem?_eq_getElem ah]
 simp only [Option.getD_some] at hn
 rw [hn]
theorem vv (a b:List UInt64):bK Tryz.prog 94 [.sl 1 (aj a),.sl 1 (aj b)] (ao (a == b)):=by
 refine bK.len 0 rfl fun UR=>?_
 rw [aA] at UR
 by_cases hl:a.length=b.length
 case neg =>
  have e:(a == b)=false:=by rw [beq_eq_false_iff_ne];intro e;exact hl (by rw [e])
  refine zO Tryz.func94 26<|zq<|zS<|zP 1 [yH [(1,{k:=a.length}),(3,{k:=b.length})]] [.ae [10,4,0,1] []] [yI (aA a),yI (aA b)]<|du 10 ((↑a.length:Int) != (↑b.length:Int)) (by simp;omega)<|zq<|dk (zV [yB (Value.bool false=Value.bool (a == b)) (by rw [e])])
 refine zO Tryz.func94 26<|zq<|zS<|zP 1 [yH [(1,{k:=a.length}),(3,{k:=b.length})]] [.ae [10,4,0,1] []] [yI (aA a),yI (aA b)]<|bj 10 ((↑a.length:Int) != (↑b.length:Int)) (by simp_all)<|a_<|zS<|zq<|zB 0 (zL (fun (k:Nat)=>(⟨[(10,ao ((↑a.length:Int) != (↑b.length:Int))),(0,AV.sl 1 (aj a)),(1,AV.sl 1 (aj b)),(5,ai k)],[]⟩:AS)) (fun k=>(k≤a.length∧a.take k=b.take k)) (fun k=>(a.length-k)) (0) ?_ (zW [.ae [10,0,1,5] []]) ?_)
 ·exact ⟨ah,by simp⟩
 rintro k ⟨hk,he⟩
 refine zS<|zP 1 [yH [(2,{k:=a.length})]] [.ae [14,10,0,1,5] []] [yI (aA a)] (zD 14 ((↑k:Int)<(↑a.length:Int)) (fun h=>?_) (fun h=>?_))
 ·skip
  refine a_<|zS<|zB 1<|zP 1 [{hs:=[(2,{k:=k}),(3,yV (aw (a.getD k 0))),(6,{k:=k}),(7,yV (aw (b.getD k 0))),(8,yV (ao (a.getD k 0 != b.getD k 0)))],T:=8}] [.ae [25,14,10,0,1,5] []] [yR (↑k:Int),yB (k<(aj a).length) (by simp only [aA];omega),yB ((aj a)[k]?=some (aw (a.getD k 0))) (dI ah),yR (↑k:Int),yB (k<(aj b).length) (by simp only [aA];omega),yB ((aj b)[k]?=some (aw (b.getD k 0))) (dI ah),yI (cJ (a.getD k 0) (b.getD k 0))] (zN 25 (a.getD k 0) (b.getD k 0) (fun h2=>?_) (fun h2=>?_))
  ·have e:=xi a b k hl he ah h2
   refine zq<|zR<|aY<|aI<|c_<|aY<|aI (zV [yB (Value.bool false=Value.bool (a == b)) (by rw [e])])
  ·skip
   refine zK<|aM<|ak<|zX (yH [(1,yV (ai ((↑k:Int)+1)))]) [yN ((↑k:Int)+1)] (aJ (k+1) ⟨ah,xc hl he ah h2⟩ ah (zW [.ae [10,0,1,5] []]))
 ·have e:k=a.length:=ah
  subst e
  have e:(a == b)=true:=by
   rw [beq_iff_eq];rw [List.take_of_length_le (Nat.le_refl _),List.take_of_length_le ah] at he;exact he
  refine zE 0<|a7<|aO<|bn<|ak<|zq<|zR (zV [yB (Value.bool true=Value.bool (a == b)) (by rw [e])])
end Go.Proofs.YtjgbhhnghedgdaaGreatDoor
