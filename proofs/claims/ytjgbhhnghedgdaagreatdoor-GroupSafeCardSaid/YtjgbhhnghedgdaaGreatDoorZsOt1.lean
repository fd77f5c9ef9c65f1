import Derived.Test.YtjgbhhnghedgdaaGreatDoorZsRec3
set_option linter.all false
namespace Go.Proofs.YtjgbhhnghedgdaaGreatDoor
open Go.RowKit
set_option maxRecDepth 100000
set_option maxHeartbeats 4000000
theorem fj {n:Int} (h0:0≤n) (h1:n≤9223372036854775807):IntKind.i64.wrap n=n:=by
 have:=eZ (n:=n) ah h1
 injection this with this;injection this
theorem uP (m:UInt64):bK Tryz.prog 139 [aw m] (.arr (ax (cP m))):=by
 refine zO Tryz.func139 32<|zQ 3 [yH [(0,yV (AV.arr (ax (List.replicate 18 (0:Int)))))],yH [(0,yV (AV.arr (ax (List.replicate 18 (0:Int)))))],{}] (yM 2 (yR (ax (List.replicate 18 (0:Int)))))<|zS<|zq<|zB 0 (zL (fun (k:Nat)=>(⟨[(3,AV.addr 3 0),(2,AV.addr 2 0),(0,aw m),(6,ai k),(4,ai (bc m k))],[(2,⟨1,true,true,ax (List.replicate 18 (0:Int))⟩),(3,⟨1,true,false,ax (iT m k)⟩)]⟩:AS)) (fun k=>(k≤16)) (fun k=>(16-k)) (0) ?_ (zW [.loose 3,.aa [3,2,0,6,4] [2,3]]) ?_)
 ·omega
 intro k hk
 have hs:=qH m k
 refine zq<|zS (zD 7 ((↑k:Int)<16) (fun h=>?_) (fun h=>?_))
 ·have hn:=BK m k
  have e1:IntKind.i64.wrap (wv ((m>>>UInt64.ofNat (60-4*(k:Int)).toNat)&&&15))=(mM m k:Int):=by
   rw [show (60-4*(k:Int)).toNat=60-4*k by omega,Dz m k ah];exact fj ah ah
  have e2:=IJ m k
  have e3:(iT m (k+1)).getD k 0=(mM m k:Int):=by rw [K2 m _ k ah,if_pos ah]
  have e4:IntKind.i64.wrap ((bc m k:Int)+IntKind.i64.wrap (15-((iT m k).set k (mM m k:Int)).getD k 0))=(bc m (k+1):Int):=by
   rw [e2,e3,fj (n:=15-_) ah ah,fj ah ah];simp only [bc];omega
  refine a8<|zS<|zB 1<|zP 2 [{},yH [(3,yV (ai ((4:Int)*(↑k:Int)))),(4,yV (ai ((60:Int)-4*(↑k:Int)))),(5,yV (aw (m>>>UInt64.ofNat ((60:Int)-4*(↑k:Int)).toNat))),(6,yV (aw (m>>>UInt64.ofNat ((60:Int)-4*(↑k:Int)).toNat&&&(15:UInt64)))),(7,yV (ai (↑(mM m k):Int))),(8,{k:=k}),(9,yV (AV.arr (ax ((iT m k).set k (↑(mM m k):Int)))))]] [.aa [5,7,3,2,0,6,4] [3,2]] [yN ((4:Int)*(↑k:Int)),yN ((60:Int)-4*(↑k:Int)),yI (fK m ((60:Int)-4*(↑k:Int)) ah ah),yO ((0:Int)≤60-4*(↑k:Int)),yI (iN (m>>>UInt64.ofNat ((60:Int)-4*(↑k:Int)).toNat) 15),yI (yc e1),yR (↑k:Int),yO (k<18),yB ((ax (iT m k)).set k (ai (↑(mM m k):Int))=ax ((iT m k).set k (↑(mM m k):Int))) (EZ _ _ _),yO (k+1≤18)]<|zX (yH [(2,{k:=k}),(3,yV (ai (((iT m k).set k (↑(mM m k):Int)).getD k (0:Int))))]) [yR (↑k:Int),yO (k<18),yB ((ax ((iT m k).set k (↑(mM m k):Int)))[k]?=some (ai (((iT m k).set k (↑(mM m k):Int)).getD k (0:Int)))) (nf (by simp only [List.length_set,IK];omega))]<|aM<|ak<|zX (yH [(0,yV (ai ((↑k:Int)+1)))]) [yN ((↑k:Int)+1)] (aI (k+1) ah ah (e_ [.aa [3,2,0,6,4] [2,3]] [4] [3] [yI (yc e4),yB (ax ((iT m k).set k (↑(mM m k):Int))=ax (iT m (k+1))) (congrArg ax e2)]))
 ·have e:k=16:=ah
  subst e
  have e1:IntKind.i64.wrap (((bc m 16:Nat):Int).tdiv 16)=((bc m 16/16:Nat):Int):=by
   rw [Int.tdiv_eq_ediv_of_nonneg ah];rw [fj ah ah];omega
  have e2:((bc m 16:Nat):Int)%16=((bc m 16%16:Nat):Int):=ah
  have e3:=IL m
  refine zE 0<|aY<|aN<|bm<|ak<|a7.tC 3 [{hs:=[(1,{av:=some (ai (↑(bc m 16/16):Int))}),(2,{k:=16}),(3,{av:=some (AV.arr (ax ((iT m 16).set 16 (↑(bc m 16/16):Int))))})]},{hs:=[(1,{av:=some (ai ((↑(bc m 16):Int)%(16:Int)))}),(2,{av:=some (ai (↑(bc m 16%16):Int)),k:=17}),(3,{av:=some (AV.arr (ax (((iT m 16).set 16 (↑(bc m 16/16):Int)).set 17 ((↑(bc m 16):Int)%(16:Int)))))})]},{hs:=[(0,{av:=some (AV.arr (ax (cP m)))}),(1,{av:=some (AV.arr (ax (cP m))),k:=1})]}] [.aa [7,3,2,0,6,4] [2,3]] bH (C:=[ai (IntKind.i64.wrap ((↑(bc m 16):Int).tdiv (16:Int)))=ai (↑(bc m 16/16):Int),(16:Int)≠(0:Int),(16:Int)=(↑(16:Nat):Int),16<18,(ax (iT m 16)).set 16 (ai (↑(bc m 16/16):Int))=ax ((iT m 16).set 16 (↑(bc m 16/16):Int)),17≤18,ai ((↑(bc m 16):Int).tmod (16:Int))=ai ((↑(bc m 16):Int)%(16:Int)),(16:Int)≠(0:Int),(17:Int)=(↑(17:Nat):Int),17<18,(ax ((iT m 16).set 16 (↑(bc m 16/16):Int))).set 17 (ai ((↑(bc m 16):Int)%(16:Int)))=ax (((iT m 16).set 16 (↑(bc m 16/16):Int)).set 17 ((↑(bc m 16):Int)%(16:Int))),18≤18,List.take 18 (List.drop 0 (ax (((iT m 16).set 16 (↑(bc m 16/16):Int)).set 17 ((↑(bc m 16):Int)%(16:Int)))))=ax (cP m),(ax (cP m)).length=18,List.take 0 (ax (List.replicate 18 (0:Int)))++ax (cP m)++List.drop 18 (ax (List.replicate 18 (0:Int)))=ax (cP m),(ax (cP m)).length=18,∀(x:AV),x∈ax (cP m)->gV x=true,18≤18]) bH ⟨(x8 ah ah ah),ah,rfl,ah,rfl,ah,rfl,ah,rfl,ah,rfl,ah,rfl,rfl,rfl,rfl,(zw _),ah,trivial⟩<|zR (zV [yR 18,yR (ax (cP m))])
theorem wS (leaf chain src dst:Int) (x:UInt64):bK Tryz.prog 140 [ai leaf,ai chain,ai src,ai dst,aw x] (aw (run leaf chain src dst x)):=by
 unfold run
 have hp:(if 0>src then 0 else src)=max src 0:=by split<;>omega
 have he:(if 15<dst then 15 else dst)=min dst 15:=by split<;>omega
 generalize Up:max src 0=p at *
 generalize RU:min dst 15=e at *
 refine zO Tryz.func140 33<|zP 2 [{},yH [(1,yV (ai e))]] [.aa [11,10,0,1,2,3,4] []] [yI (yc he)]<|zS<|zP 1 [yH [(1,yV (ai p))]] [.aa [12,11,10,0,1,2,3,4] []] [yI (yc hp)]<|zB 0 (zL (fun (k:Nat)=>(⟨[(11,ai e),(10,AV.val (Value.int .u64 0)),(0,ai leaf),(1,ai chain),(2,ai src),(3,ai dst),(12,ai (p+k)),(4,aw (jw leaf chain p x k))],[]⟩:AS)) (fun k=>(k≤(e-p).toNat)) (fun k=>((e-p).toNat-k)) (0) ?_ (e_ [.aa [11,10,0,1,2,3,12,4] []] [12] [] [yB (ai p=ai (p+(↑(0:Nat):Int))) (congrArg (fun n=>AV.val (.int .i64 n)) ah)]) ?_)
 ·omega
 intro k hk
 refine zS<|zP 1 [{}] [.aa [19,11,10,0,1,2,3,12,4] []] [] (zD 19 (p+(↑k:Int)<e) (fun h=>?_) (fun h=>?_))
 ·have hw:(words [u64 leaf,u64 chain,u64 (p+k),jw leaf chain p x k]).length=32:=by rw [dA];rfl
  refine a8<|zS<|zB 1<|zX (yH [(1,yV (aw (u64 leaf))),(3,yV (aw (u64 chain))),(5,yV (aw (u64 (p+(↑k:Int))))),(7,yV (AV.arr (aj [u64 leaf,u64 chain,u64 (p+(↑k:Int)),jw leaf chain p x k]))),(8,yV (AV.own 1 (ag (words [u64 leaf,u64 chain,u64 (p+(↑k:Int)),jw leaf chain p x k])))),(9,yV (aw (hash (1:Int) (words [u64 leaf,u64 chain,u64 (p+(↑k:Int)),jw leaf chain p x k]))))]) [yI (a6 leaf),yI (a6 chain),yI (a6 (p+(↑k:Int))),yR (aj [u64 leaf,u64 chain,u64 (p+(↑k:Int)),jw leaf chain p x k]),yI (ly [u64 leaf,u64 chain,u64 (p+(↑k:Int)),jw leaf chain p x k] (by simp only [List.length_cons,List.length_nil];omega)),yI (aV (words [u64 leaf,u64 chain,u64 (p+(↑k:Int)),jw leaf chain p x k])),yI (np ((1:Int)) (words [u64 leaf,u64 chain,u64 (p+(↑k:Int)),jw leaf chain p x k]))]<|aM<|ak<|zX (yH [(1,yV (ai (p+(↑k:Int)+1)))]) [yN (p+(↑k:Int)+1)] (aI (k+1) ah ah (e_ [.aa [11,10,0,1,2,3,12,4] []] [12] [] [yB (ai (p+(↑k:Int)+1)=ai (p+(↑(k+1):Int))) (congrArg (fun n=>AV.val (.int .i64 n)) ah)]))
 ·have e1:k=(e-p).toNat:=ah
  subst e1
  refine zE 0<|aY<|aN<|bm<|ak<|zP 1 [{}] [.aa [10,19,11,0,1,2,3,12,4] []] []<|zR (cE)
theorem tE (leaf chain src dst:Int) (x:UInt64):bK Tryz.prog 147 [ai leaf,ai chain,ai src,ai dst,aw x] (aw (run leaf chain src dst x)):=by
 unfold run
 have hp:(if 0>src then 0 else src)=max src 0:=by split<;>omega
 have he:(if 15<dst then 15 else dst)=min dst 15:=by split<;>omega
 generalize Up:max src 0=p at *
 generalize RU:min dst 15=e at *
 refine zO Tryz.func147 31<|zq<|zS<|zP 1 [yH [(1,yV (ai p))]] [.aa [11,10,0,1,2,3,4] []] [yI (yc hp)]<|zB 0 (zL (fun (k:Nat)=>(⟨[(10,AV.val (Value.int .u64 0)),(0,ai leaf),(1,ai chain),(2,ai src),(3,ai dst),(11,ai (p+k)),(4,aw (jw leaf chain p x k))],[]⟩:AS)) (fun k=>(k≤(e-p).toNat)) (fun k=>((e-p).toNat-k)) (0) ?_ (e_ [.aa [10,0,1,2,3,11,4] []] [11] [] [yB (ai p=ai (p+(↑(0:Nat):Int))) (congrArg (fun n=>AV.val (.int .i64 n)) ah)]) ?_)
 ·omega
 intro k hk
 refine zS<|zP 1 [yH [(2,yV (ai e))]] [.aa [17,10,0,1,2,3,11,4] []] [yI (yc he)] (zD 17 (p+(↑k:Int)<e) (fun h=>?_) (fun h=>?_))
 ·have hw:(words [u64 leaf,u64 chain,u64 (p+k),jw leaf chain p x k]).length=32:=by rw [dA];rfl
  refine a8<|zS<|zB 1<|zX (yH [(1,yV (aw (u64 leaf))),(3,yV (aw (u64 chain))),(5,yV (aw (u64 (p+(↑k:Int))))),(7,yV (AV.arr (aj [u64 leaf,u64 chain,u64 (p+(↑k:Int)),jw leaf chain p x k]))),(8,yV (AV.own 1 (ag (words [u64 leaf,u64 chain,u64 (p+(↑k:Int)),jw leaf chain p x k])))),(9,yV (aw (hash (1:Int) (words [u64 leaf,u64 chain,u64 (p+(↑k:Int)),jw leaf chain p x k]))))]) [yI (a6 leaf),yI (a6 chain),yI (a6 (p+(↑k:Int))),yR (aj [u64 leaf,u64 chain,u64 (p+(↑k:Int)),jw leaf chain p x k]),yI (de [u64 leaf,u64 chain,u64 (p+(↑k:Int)),jw leaf chain p x k] (by simp only [List.length_cons,List.length_nil];omega)),yI (aV (words [u64 leaf,u64 chain,u64 (p+(↑k:Int)),jw leaf chain p x k])),yI (ig ((1:Int)) (words [u64 leaf,u64 chain,u64 (p+(↑k:Int)),jw leaf chain p x k]) ah)]<|aM<|ak<|zX (yH [(1,yV (ai (p+(↑k:Int)+1)))]) [yN (p+(↑k:Int)+1)] (aI (k+1) ah ah (e_ [.aa [10,0,1,2,3,11,4] []] [11] [] [yB (ai (p+(↑k:Int)+1)=ai (p+(↑(k+1):Int))) (congrArg (fun n=>AV.val (.int .i64 n)) ah)]))
 ·have e1:k=(e-p).toNat:=ah
  subst e1
  refine zE 0<|aY<|aN<|bm<|ak<|zP 1 [{}] [.aa [10,17,0,1,2,3,11,4] []] []<|zR (cE)
theorem tw (seed:UInt64) (leaf c:Int):bK Tryz.prog 141 [aw seed,ai leaf,ai c] (aw (aq seed leaf c)):=by
 refine zO Tryz.func141 15<|zP 2 [{},yH [(2,yV (aw (u64 leaf))),(4,yV (aw (u64 c))),(5,yV (AV.arr (aj [u64 leaf,u64 c]))),(6,yV (AV.own 1 (ag (words [u64 leaf,u64 c])))),(7,yV (aw (yi seed (1:Int) (words [u64 leaf,u64 c]))))]] [.aa [6,0,1,2] []] [yI (a6 leaf),yI (a6 c),yR (aj [u64 leaf,u64 c]),yI (ly [u64 leaf,u64 c] (by simp only [List.length_cons,List.length_nil];omega)),yI (aV (words [u64 leaf,u64 c])),yI (Kd seed ((1:Int)) (words [u64 leaf,u64 c]))]<|zR (cE)
theorem oi (seed:UInt64) (leaf c:Int):bK Tryz.prog 148 [aw seed,ai leaf,ai c] (aw (aq seed leaf c)):=by
 have hw:(words [u64 leaf,u64 c]).length=16:=by rw [dA];rfl
 refine zO Tryz.func148 15<|zP 2 [{},yH [(2,yV (aw (u64 leaf))),(4,yV (aw (u64 c))),(5,yV (AV.arr (aj [u64 leaf,u64 c]))),(6,yV (AV.own 1 (ag (words [u64 leaf,u64 c])))),(7,yV (aw (yi seed (1:Int) (words [u64 leaf,u64 c]))))]] [.aa [6,0,1,2] []] [yI (a6 leaf),yI (a6 c),yR (aj [u64 leaf,u64 c]),yI (de [u64 leaf,u64 c] (by simp only [List.length_cons,List.length_nil];omega)),yI (aV (words [u64 leaf,u64 c])),yI (oG seed ((1:Int)) (words [u64 leaf,u64 c]) ah)]<|zR (cE)
theorem FB (c:UInt64) (l:List UInt64) (hl:l.length=18):setCells (aj ((List.replicate 19 0).set 0 c)) 1 ((aj l).take (cJ 18 1))=aj (c::l):=by
 have h1:(aj l).take (cJ 18 1)=aj l:=List.take_of_length_le (by rw [bt,aD];omega)
 rw [h1,mT _ _ _ (by rw [aD,aD,List.length_set,List.length_replicate];omega),aD,hl]
 simp [aj,List.replicate_succ]
theorem rY (leaf:Int) (l:List UInt64) (hl:l.length=18):bK Tryz.prog 168 [ai leaf,.arr (aj l)] (aw (combine leaf l)):=by
 have hc:(u64 leaf::l).length=19:=by simp [hl]
 have h0:(aj l).length=18:=by rw [aD,hl]
 refine zO Tryz.func168 15<|zP 5 [{},yH [(0,yV (AV.arr (aj (List.replicate 19 0))))],yH [(1,yV (aw (u64 leaf))),(2,{k:=0}),(3,yV (AV.arr (aj ((List.replicate 19 0).set 0 (u64 leaf)))))],{hs:=[(0,{k:=1}),(2,{av:=some (AV.arr (aj (u64 leaf::l))),k:=18,b:=false})],T:=2},yH [(1,yV (AV.own 1 (ag (words (u64 leaf::l))))),(2,yV (aw (hash (2:Int) (words (u64 leaf::l)))))]] [.aa [4,5,3,0,1] [5,3]] [yR (aj (List.replicate 19 0)),yI (a6 leaf),yR (0:Int),yO (0<19),yR (aj ((List.replicate 19 0).set 0 (u64 leaf))),yL 1 19,yR (1:Int),yL 1 19,yR 19,yB (19≤maxLen) (by decide),yI h0,yB (18≤maxLen) (by decide),yB ((match List.take 18 (aj l) with| [x]=>(aj ((List.replicate 19 0).set 0 (u64 leaf))).set 1 x|l=>List.take 1 (aj ((List.replicate 19 0).set 0 (u64 leaf)))++l++List.drop (1+l.length) (aj ((List.replicate 19 0).set 0 (u64 leaf))))=aj (u64 leaf::l)) (FB _ l hl),yB (dh (aj l)) (pr _),yO (min (aj l).length (19-1)=18),yO (0<19-1),yB ((aj (u64 leaf::l)).length=19) (by simp only [aD];omega),yB (19≤maxLen) (by decide),yI (ly (u64 leaf::l) ah),yI (aV (words (u64 leaf::l))),yI (np ((2:Int)) (words (u64 leaf::l)))]<|zR (cE)
theorem zp (seed:UInt64) (leaf:Int):bK Tryz.prog 143 [aw seed,ai leaf] (aw (combine leaf (bA seed leaf 18))):=by
 have hl:=rH seed leaf 18
 refine zO Tryz.func143 23<|zQ 2 [{},yH [(0,yV (AV.arr (aj (List.replicate 18 0))))]] [yR (aj (List.replicate 18 0))]<|zS<|zq<|zB 0 (zL (fun (k:Nat)=>(⟨[(5,AV.addr 5 0),(4,AV.val (Value.int .u64 0)),(0,aw seed),(1,ai leaf),(7,ai k)],[(5,⟨1,true,false,aj (cH 18 (bA seed leaf 18) k)⟩)]⟩:AS)) (fun k=>(k≤18)) (fun k=>(18-k)) (0) ?_ (zW [.loose 5,.aa [5,4,0,1,7] [5]]) ?_)
 ·omega
 intro k hk
 have hf:=ki hl hk
 refine zq<|zS (zD 8 ((↑k:Int)<18) (fun h=>?_) (fun h=>?_))
 ·have e1:=lP hl (ah:k<18)
  have e2:=BE seed leaf k ah
  refine a8<|zS<|zB 1<|zq<|zX (yH [(6,yV (aw (aq seed leaf (↑k:Int)))),(7,yV (aw (run leaf (↑k:Int) (0:Int) (15:Int) (aq seed leaf (↑k:Int))))),(8,{k:=k}),(9,yV (AV.arr (aj ((cH 18 (bA seed leaf 18) k).set k (run leaf (↑k:Int) (0:Int) (15:Int) (aq seed leaf (↑k:Int)))))))]) [yI (tw seed leaf ((↑k:Int))),yI (wS leaf ((↑k:Int)) ((0:Int)) ((15:Int)) (aq seed leaf (↑k:Int))),yR (↑k:Int),yO (k<18),yB ((aj (cH 18 (bA seed leaf 18) k)).set k (aw (run leaf (↑k:Int) (0:Int) (15:Int) (aq seed leaf (↑k:Int))))=aj ((cH 18 (bA seed leaf 18) k).set k (run leaf (↑k:Int) (0:Int) (15:Int) (aq seed leaf (↑k:Int))))) (km _ _ _),yB (k+1≤(aj (cH 18 (bA seed leaf 18) k)).length) (by simp only [aD];omega)]<|aM<|ak<|zX (yH [(0,yV (ai ((↑k:Int)+1)))]) [yN ((↑k:Int)+1)] (aI (k+1) ah ah (e_ [.aa [5,4,0,1,7] [5]] [] [5] [yB (aj ((cH 18 (bA seed leaf 18) k).set k (run leaf (↑k:Int) (0:Int) (15:Int) (aq seed leaf (↑k:Int))))=aj (cH 18 (bA seed leaf 18) (k+1))) (congrArg aj (by rw [←e2];exact e1))]))
 ·have e:k=18:=ah
  subst e
  have e1:=kG hl
  refine zE 0<|aY<|aN<|bm<|ak<|zP 1 [yH [(1,yV (AV.arr (aj (bA seed leaf 18)))),(2,yV (aw (combine leaf (bA seed leaf 18))))]] [.aa [4,8,5,0,1,7] [5]] [yR (aj (bA seed leaf 18)),yR 18,yI (rY leaf (bA seed leaf 18) rfl)]<|zR (cE)
theorem vL (seed:UInt64) (leaf:Int) (m:UInt64):bK Tryz.prog 96 [aw seed,ai leaf,aw m] (.own 1 (aj (bP seed leaf m 18))):=by
 have hl:=qs seed leaf m 18
 have hd:=pX m
 refine zO Tryz.func96 28<|zQ 2 [{},yH [(0,yV (AV.arr (aj (List.replicate 18 0))))]] [yR (aj (List.replicate 18 0))]<|zS<|zQ 1 [yH [(1,{av:=some (AV.arr (ax (cP m))),b:=false})]] [yI (uP m)]<|zB 0 (zL (fun (k:Nat)=>(⟨[(11,AV.arr (ax (cP m))),(7,AV.addr 7 0),(6,AV.nil),(0,aw seed),(1,ai leaf),(2,aw m),(12,ai k)],[(7,⟨1,true,true,aj (cH 18 (bP seed leaf m 18) k)⟩)]⟩:AS)) (fun k=>(k≤18)) (fun k=>(18-k)) (0) ?_ (zW [.aa [11,7,6,0,1,2,12] [7]]) ?_)
 ·omega
 intro k hk
 have hf:=ki hl hk
 refine zq<|zS (zD 13 ((↑k:Int)<18) (fun h=>?_) (fun h=>?_))
 ·have e1:=lP hl (ah:k<18)
  have e2:=Gr seed leaf m k ah
  refine a8<|zS<|zB 1<|zP 1 [yH [(1,{av:=some (ai ((cP m).getD k (0:Int))),k:=k})]] [.aa [9,8,13,11,7,6,0,1,2,12] [7]] [yR (↑k:Int),yO (k<18),yB ((ax (cP m))[k]?=some (ai ((cP m).getD k (0:Int)))) (nf ah)]<|zX (yH [(7,yV (aw (aq seed leaf (↑k:Int)))),(8,yV (aw (run leaf (↑k:Int) (0:Int) ((cP m).getD k (0:Int)) (aq seed leaf (↑k:Int))))),(9,{k:=k}),(10,yV (AV.arr (aj ((cH 18 (bP seed leaf m 18) k).set k (run leaf (↑k:Int) (0:Int) ((cP m).getD k (0:Int)) (aq seed leaf (↑k:Int)))))))]) [yI (tw seed leaf ((↑k:Int))),yI (wS leaf ((↑k:Int)) ((0:Int)) ((cP m).getD k (0:Int)) (aq seed leaf (↑k:Int))),yR (↑k:Int),yO (k<18),yB ((aj (cH 18 (bP seed leaf m 18) k)).set k (aw (run leaf (↑k:Int) (0:Int) ((cP m).getD k (0:Int)) (aq seed leaf (↑k:Int))))=aj ((cH 18 (bP seed leaf m 18) k).set k (run leaf (↑k:Int) (0:Int) ((cP m).getD k (0:Int)) (aq seed leaf (↑k:Int))))) (km _ _ _),yB (k+1≤(aj (cH 18 (bP seed leaf m 18) k)).length) (by simp only [aD];omega)]<|aM<|ak<|zX (yH [(0,yV (ai ((↑k:Int)+1)))]) [yN ((↑k:Int)+1)] (aI (k+1) ah ah (e_ [.aa [11,7,6,0,1,2,12] [7]] [] [7] [yB (aj ((cH 18 (bP seed leaf m 18) k).set k (run leaf (↑k:Int) (0:Int) ((cP m).getD k (0:Int)) (aq seed leaf (↑k:Int))))=aj (cH 18 (bP seed leaf m 18) (k+1))) (congrArg aj (by rw [←e2];exact e1))]))
 ·have e:k=18:=ah
  subst e
  have e1:=kG hl
  refine zE 0<|aY<|aN<|bm<|ak<|zQ 1 [{}] [yR 18,yB (18≤maxLen) (by decide)]<|zR (cE)
def zo (leaf:Int) (m:UInt64) (s:List UInt64):UInt64:=if s.length=18 then combine leaf (fp leaf m s 18) else 0
def ph (s:List UInt64):Int:=if s.length=18 then 0 else 4
theorem zn (leaf:Int) (m:UInt64) (s:List UInt64):bK Tryz.prog 150 [ai leaf,aw m,.sl 1 (aj s)] (.br [aw (zo leaf m s),ai (ph s)]):=by
 by_cases hs:s.length=18
 case neg =>
  have e1:zo leaf m s=0:=if_neg hs
  have e2:ph s=4:=if_neg hs
  refine zO Tryz.func150 34<|zq<|zS<|zP 1 [yH [(1,{k:=s.length})]] [.aa [13,7,6,0,1,2] []] [yI (aD s)]<|dQ 13 ((↑s.length:Int) != (18:Int)) (by simp;omega)<|zq<|dW (zV [yK 0 (wv (zo leaf m s)) (by rw [e1];rfl),yJ 4 (ph s) (by rw [e2])])
 have e1:zo leaf m s=combine leaf (fp leaf m s 18):=if_pos hs
 have e2:ph s=0:=if_pos hs
 have hl:=GO leaf m s 18
 have hd:=pX m
 refine zO Tryz.func150 34<|zq<|zS<|zP 1 [yH [(1,{k:=s.length})]] [.aa [13,7,6,0,1,2] []] [yI (aD s)]<|bo 13 ((↑s.length:Int) != (18:Int)) (by simp_all)<|a8<|zQ 1 [yH [(0,yV (AV.arr (aj (List.replicate 18 0))))]] [yR (aj (List.replicate 18 0))]<|zS<|zQ 1 [yH [(1,{av:=some (AV.arr (ax (cP m))),b:=false})]] [yI (uP m)]<|zB 0 (zL (fun (k:Nat)=>(⟨[(15,AV.arr (ax (cP m))),(8,AV.addr 8 0),(13,ao ((↑s.length:Int) != (18:Int))),(7,ai 0),(6,AV.val (Value.int .u64 0)),(0,ai leaf),(1,aw m),(2,AV.sl 1 (aj s)),(16,ai k)],[(8,⟨1,true,false,aj (cH 18 (fp leaf m s 18) k)⟩)]⟩:AS)) (fun k=>(k≤18)) (fun k=>(18-k)) (0) ?_ (zW [.loose 8,.aa [15,8,13,7,6,0,1,2,16] [8]]) ?_)
 ·omega
 intro k hk
 have hf:=ki hl hk
 refine zq<|zS (zD 17 ((↑k:Int)<18) (fun h=>?_) (fun h=>?_))
 ·have e3:=lP hl (ah:k<18)
  have e4:=J2 leaf m s k ah
  refine a8<|zS<|zB 1<|zP 1 [yH [(1,{av:=some (ai ((cP m).getD k (0:Int))),k:=k})]] [.aa [10,9,17,15,8,13,7,6,0,1,2,16] [8]] [yR (↑k:Int),yO (k<18),yB ((ax (cP m))[k]?=some (ai ((cP m).getD k (0:Int)))) (nf ah)]<|zX (yH [(6,{k:=k}),(7,yV (aw (s.getD k 0))),(8,yV (aw (run leaf (↑k:Int) ((cP m).getD k (0:Int)) (15:Int) (s.getD k 0)))),(9,{k:=k}),(10,yV (AV.arr (aj ((cH 18 (fp leaf m s 18) k).set k (run leaf (↑k:Int) ((cP m).getD k (0:Int)) (15:Int) (s.getD k 0))))))]) [yR (↑k:Int),yB (k<(aj s).length) (by simp only [aD];omega),yB ((aj s)[k]?=some (aw (s.getD k 0))) (eG ah),yI (wS leaf ((↑k:Int)) ((cP m).getD k (0:Int)) ((15:Int)) (s.getD k 0)),yR (↑k:Int),yO (k<18),yB ((aj (cH 18 (fp leaf m s 18) k)).set k (aw (run leaf (↑k:Int) ((cP m).getD k (0:Int)) (15:Int) (s.getD k 0)))=aj ((cH 18 (fp leaf m s 18) k).set k (run leaf (↑k:Int) ((cP m).getD k (0:Int)) (15:Int) (s.getD k 0)))) (km _ _ _),yB (k+1≤(aj (cH 18 (fp leaf m s 18) k)).length) (by simp only [aD];omega)]<|aM<|ak<|zX (yH [(0,yV (ai ((↑k:Int)+1)))]) [yN ((↑k:Int)+1)] (aI (k+1) ah ah (e_ [.aa [15,8,13,7,6,0,1,2,16] [8]] [] [8] [yB (aj ((cH 18 (fp leaf m s 18) k).set k (run leaf (↑k:Int) ((cP m).getD k (0:Int)) (15:Int) (s.getD k 0)))=aj (cH 18 (fp leaf m s 18) (k+1))) (congrArg aj (by rw [←e4];exact e3))]))
 ·have e:k=18:=ah
  subst e
  have e3:=kG hl
  refine zE 0<|aY<|aN<|bm<|ak<|zP 1 [yH [(1,yV (AV.arr (aj (fp leaf m s 18)))),(2,yV (aw (combine leaf (fp leaf m s 18))))]] [.aa [7,6,17,15,8,13,0,1,2,16] [8]] [yR (aj (fp leaf m s 18)),yR 18,yI (rY leaf (fp leaf m s 18) rfl)]<|zR (zV [yK (wv (combine leaf (fp leaf m s 18))) (wv (zo leaf m s)) (by rw [e1]),yJ 0 (ph s) (by rw [e2])])
theorem sc (m:UInt64):bK Tryz.prog 146 [aw m] (.own 1 (ax (cP m))):=by
 refine zO Tryz.func146 33<|zQ 3 [{},{},{}] []<|zS<|zq<|zB 0 (zL (fun (k:Nat)=>(⟨[(2,AV.nil),(0,aw m),(5,ai (15-k)),(4,ai (bc m k)),(3,AV.ref 21)],[(21,⟨1,true,false,ax (h_ m k)⟩)]⟩:AS)) (fun k=>(k≤16)) (fun k=>(16-k)) (0) ?_ (zW [.nil 3 21 1,.aa [2,0,5,4,3] [21]]) ?_)
 ·omega
 intro k hk
 have hs:=qH m k
 have hl:=CF m k
 refine zS<|zq (zD 8 ((15:Int)-(↑k:Int)≥0) (fun h=>?_) (fun h=>?_))
 ·have hn:=BK m k
  have e0:IntKind.u64.wrap (4*(15-(k:Int)))=((60-4*k:Nat):Int):=by rw [IntKind.wrap_u64];omega
  have e1:IntKind.i64.wrap (wv ((m>>>UInt64.ofNat (((60-4*k:Nat):Int)).toNat)&&&15))=(mM m k:Int):=by
   rw [show (((60-4*k:Nat):Int)).toNat=60-4*k by omega,Dz m k ah];exact fj ah ah
  have e4:(bc m k:Int)+(15-(mM m k:Int))=(bc m (k+1):Int):=by simp only [bc];omega
  refine a8<|zS<|zB 1<|zP 2 [yH [(2,yV (ai ((4:Int)*((15:Int)-(↑k:Int))))),(3,yV (AV.val (Value.int .u64 (↑(60-4*k):Int)))),(4,yV (aw (m>>>UInt64.ofNat (↑(60-4*k):Int).toNat))),(5,yV (aw (m>>>UInt64.ofNat (↑(60-4*k):Int).toNat&&&(15:UInt64)))),(6,yV (ai (↑(mM m k):Int)))],yH [(2,yV (AV.arr (ax [(↑(mM m k):Int)]))),(3,yV (AV.arr (ax (h_ m k++ [(↑(mM m k):Int)]))))]] [.aa [3,6,8,2,0,5,4] [21]] [yN ((4:Int)*((15:Int)-(↑k:Int))),yI (yd e0),yI (fK m ((↑(60-4*k):Int)) ah ah),yO ((0:Int)≤(↑(60-4*k):Int)),yI (iN (m>>>UInt64.ofNat (↑(60-4*k):Int).toNat) 15),yI (yc e1),yR [ai (↑(mM m k):Int)],yB (ax (h_ m k)++ax [(↑(mM m k):Int)]=ax (h_ m k++ [(↑(mM m k):Int)])) (E0 _ _),yB (((ax (h_ m k)).length+1)*8≤140737488355328) (by simp only [kb];omega)]<|zX (yH [(2,yV (ai ((15:Int)-(↑(mM m k):Int)))),(3,yV (ai ((↑(bc m k):Int)+((15:Int)-(↑(mM m k):Int)))))]) [yN ((15:Int)-(↑(mM m k):Int)),yN ((↑(bc m k):Int)+((15:Int)-(↑(mM m k):Int)))]<|aM<|ak<|zX (yH [(1,yV (ai ((15:Int)-(↑k:Int)-1)))]) [yN ((15:Int)-(↑k:Int)-1)] (aI (k+1) ah ah (e_ [.aa [2,0,5,4,3] [21]] [5,4] [21] [yB (ai ((15:Int)-(↑k:Int)-1)=ai ((15:Int)-(↑(k+1):Int))) (congrArg (fun n=>AV.val (.int .i64 n)) ah),yB (ai ((↑(bc m k):Int)+((15:Int)-(↑(mM m k):Int)))=ai (↑(bc m (k+1)):Int)) (congrArg (fun n=>AV.val (.int .i64 n)) ah),yB (ax (h_ m k++ [(↑(mM m k):Int)])=ax (h_ m (k+1))) (congrArg ax (AM m k).symm)]))
 ·have e:k=16:=ah
  subst e
  have e1:IntKind.i64.wrap (((bc m 16:Nat):Int).tdiv 16)=((bc m 16/16:Nat):Int):=by
   rw [Int.tdiv_eq_ediv_of_nonneg ah];rw [fj ah ah];omega
  have e2:((bc m 16:Nat):Int)%16=((bc m 16%16:Nat):Int):=ah
  have e3:=K0 m
  refine zE 0<|aY<|aN<|bm<|ak<|zP 1 [yH [(2,yV (ai (↑(bc m 16/16):Int))),(4,yV (ai (↑(bc m 16%16):Int))),(5,yV (AV.arr (ax [(↑(bc m 16/16):Int),(↑(bc m 16%16):Int)]))),(6,yV (AV.arr (ax (h_ m 16++ [(↑(bc m 16/16):Int),(↑(bc m 16%16):Int)]))))]] [.aa [2,8,0,5,4] [32]] [yB (ai (IntKind.i64.wrap ((↑(bc m 16):Int).tdiv (16:Int)))=ai (↑(bc m 16/16):Int)) (x8 ah ah ah),yO ((16:Int)≠(0:Int)),yR (ai (↑(bc m 16%16):Int)),yO ((16:Int)≠(0:Int)),yR [ai (↑(bc m 16/16):Int),ai (↑(bc m 16%16):Int)],yR (ax (h_ m 16++ [(↑(bc m 16/16):Int),(↑(bc m 16%16):Int)])),yL 144 140737488355328]<|zR (cE)
theorem zj (leaf:Int) (l:List UInt64) (hl:l.length≤18):bK Tryz.prog 156 [ai leaf,.sl 1 (aj l)] (aw (combine leaf l)):=by
 have h1:(words [u64 leaf]).length=8:=by rw [dA];rfl
 have h2:(words l).length=8*l.length:=dA l
 have e:words [u64 leaf]++words l=words (u64 leaf::l):=by rw [←vx];rfl
 refine zO Tryz.func156 13<|zP 2 [{},yH [(1,yV (aw (u64 leaf))),(2,yV (AV.arr (aj [u64 leaf]))),(3,yV (AV.own 1 (ag (words [u64 leaf])))),(5,yV (AV.own 1 (ag (words l)))),(6,{av:=some (AV.arr (ag (words [u64 leaf]++words l))),b:=false}),(7,yV (aw (hash (2:Int) (words [u64 leaf]++words l))))]] [.aa [4,0,1] []] [yI (a6 leaf),yR [aw (u64 leaf)],yI (de [u64 leaf] (by simp only [List.length_cons,List.length_nil];omega)),yI (aV (words [u64 leaf])),yI (de l ah),yI (aV (words l)),yR (ag (words [u64 leaf]++words l)),yB (dh (ag (words l))) (fF _),yB ((8+(ag (words l)).length)*1≤140737488355328) (by simp only [aA];omega),yI (ig ((2:Int)) (words [u64 leaf]++words l) (by simp only [List.length_append];omega))]<|zR (cE)
theorem zh (seed:UInt64) (leaf:Int):bK Tryz.prog 149 [aw seed,ai leaf] (aw (combine leaf (bA seed leaf 18))):=by
 refine zO Tryz.func149 24<|zQ 2 [{},{}] []<|zS<|zq<|zB 0 (zL (fun (k:Nat)=>(⟨[(4,AV.val (Value.int .u64 0)),(0,aw seed),(1,ai leaf),(6,ai k),(5,AV.ref 23)],[(23,⟨1,true,false,aj (bA seed leaf k)⟩)]⟩:AS)) (fun k=>(k≤18)) (fun k=>(18-k)) (0) ?_ (zW [.nil 5 23 1,.aa [4,0,1,6,5] [23]]) ?_)
 ·omega
 intro k hk
 have hl:=rH seed leaf k
 refine zS<|zq (zD 8 ((↑k:Int)<18) (fun h=>?_) (fun h=>?_))
 ·skip
  refine a8<|zS<|zB 1<|zX (yH [(6,yV (aw (aq seed leaf (↑k:Int)))),(7,yV (aw (run leaf (↑k:Int) (0:Int) (15:Int) (aq seed leaf (↑k:Int))))),(8,yV (AV.arr (aj [run leaf (↑k:Int) (0:Int) (15:Int) (aq seed leaf (↑k:Int))]))),(9,yV (AV.arr (aj (bA seed leaf k++ [run leaf (↑k:Int) (0:Int) (15:Int) (aq seed leaf (↑k:Int))]))))]) [yI (oi seed leaf ((↑k:Int))),yI (tE leaf ((↑k:Int)) ((0:Int)) ((15:Int)) (aq seed leaf (↑k:Int))),yR [aw (run leaf (↑k:Int) (0:Int) (15:Int) (aq seed leaf (↑k:Int)))],yB (aj (bA seed leaf k)++aj [run leaf (↑k:Int) (0:Int) (15:Int) (aq seed leaf (↑k:Int))]=aj (bA seed leaf k++ [run leaf (↑k:Int) (0:Int) (15:Int) (aq seed leaf (↑k:Int))])) (kn _ _),yB (((aj (bA seed leaf k)).length+1)*8≤140737488355328) (by simp only [aD];omega)]<|aM<|ak<|zX (yH [(1,yV (ai ((↑k:Int)+1)))]) [yN ((↑k:Int)+1)] (aI (k+1) ah ah (e_ [.vS 20 23,.aa [4,0,1,6,5] [23]] [] [23] [yB (aj (bA seed leaf k++ [run leaf (↑k:Int) (0:Int) (15:Int) (aq seed leaf (↑k:Int))])=aj (bA seed leaf (k+1))) (congrArg aj (xa seed leaf k).symm)]))
 ·have e:k=18:=ah
  subst e
  refine zE 0<|aY<|aN<|bm<|ak<|zP 1 [yH [(2,yV (aw (combine leaf (bA seed leaf 18))))]] [.aa [4,8,0,1,6,5] [23]] [yI (zj leaf (bA seed leaf 18) (by assumption))]<|zR (cE)
theorem wY (seed:UInt64) (leaf:Int) (m:UInt64):bK Tryz.prog 102 [aw seed,ai leaf,aw m] (.own 1 (aj (bP seed leaf m 18))):=by
 have hd:=pX m
 refine zO Tryz.func102 31<|zQ 3 [{},yH [(1,yV (AV.own 1 (ax (cP m))))],{}] [yI (sc m),yB (lC (ax (cP m))) (Et _)]<|zS<|zq<|zB 0 (zL (fun (k:Nat)=>(⟨[(7,AV.ref 11),(6,AV.nil),(0,aw seed),(1,ai leaf),(2,aw m),(9,ai k),(8,AV.ref 29)],[(11,⟨1,true,false,ax (cP m)⟩),(29,⟨1,true,false,aj (bP seed leaf m k)⟩)]⟩:AS)) (fun k=>(k≤18)) (fun k=>(18-k)) (0) ?_ (zW [.nil 8 29 1,.aa [7,6,0,1,2,9,8] [11,29]]) ?_)
 ·omega
 intro k hk
 have hl:=qs seed leaf m k
 refine zS<|zq (zD 13 ((↑k:Int)<18) (fun h=>?_) (fun h=>?_))
 ·skip
  refine a8<|zS<|zB 1<|zX ({hs:=[(5,{k:=k}),(6,yV (ai ((cP m).getD k (0:Int)))),(10,yV (aw (aq seed leaf (↑k:Int)))),(11,yV (aw (run leaf (↑k:Int) (0:Int) ((cP m).getD k (0:Int)) (aq seed leaf (↑k:Int))))),(12,yV (AV.arr (aj [run leaf (↑k:Int) (0:Int) ((cP m).getD k (0:Int)) (aq seed leaf (↑k:Int))]))),(13,yV (AV.arr (aj (bP seed leaf m k++ [run leaf (↑k:Int) (0:Int) ((cP m).getD k (0:Int)) (aq seed leaf (↑k:Int))]))))],T:=13}) [yR (↑k:Int),yO (k<18),yB ((ax (cP m))[k]?=some (ai ((cP m).getD k (0:Int)))) (nf ah),yI (oi seed leaf ((↑k:Int))),yI (tE leaf ((↑k:Int)) ((0:Int)) ((cP m).getD k (0:Int)) (aq seed leaf (↑k:Int))),yR [aw (run leaf (↑k:Int) (0:Int) ((cP m).getD k (0:Int)) (aq seed leaf (↑k:Int)))],yB (aj (bP seed leaf m k)++aj [run leaf (↑k:Int) (0:Int) ((cP m).getD k (0:Int)) (aq seed leaf (↑k:Int))]=aj (bP seed leaf m k++ [run leaf (↑k:Int) (0:Int) ((cP m).getD k (0:Int)) (aq seed leaf (↑k:Int))])) (kn _ _),yB (((aj (bP seed leaf m k)).length+1)*8≤140737488355328) (by simp only [aD];omega)]<|aM<|ak<|zX (yH [(1,yV (ai ((↑k:Int)+1)))]) [yN ((↑k:Int)+1)] (aI (k+1) ah ah (e_ [.aa [7,6,0,1,2,9,8] [11,29]] [] [29] [yB (aj (bP seed leaf m k++ [run leaf (↑k:Int) (0:Int) ((cP m).getD k (0:Int)) (aq seed leaf (↑k:Int))])=aj (bP seed leaf m (k+1))) (congrArg aj (Bm seed leaf m k).symm)]))
 ·have e:k=18:=ah
  subst e
  refine zE 0<|aY<|aN<|bm<|ak<|zP 1 [{}] [.aa [6,13,7,0,1,2,9,8] [11,29]] []<|zR (cE)
theorem wR (a b:List UInt64) (k:Nat) (hl:a.length=b.length) (h:a.take k=b.take k) (hk:k<a.length) (hn:a.getD k 0≠b.getD k 0):(a == b)=false:=by
 rw [beq_eq_false_iff_ne]
 intro e;subst e;exact hn rfl
theorem wN {a b:List UInt64} {k:Nat} (hl:a.length=b.length) (h:a.take k=b.take k) (hk:k<a.length) (hn:a.getD k 0=b.getD k 0):a.take (k+1)=b.take (k+1):=by
 rw [List.take_add_one,List.take_add_one,h]
 rw [List.getD_eq_getElem?_getD,List.getD_eq_getElem?_getD,List.getElem?_eq_getElem hk,List.getElem?_eq_getElem ah] at hn
 rw [List.getElem?_eq_getElem hk,List.getElem?_eq_getElem ah]
 simp only [Option.getD_some] at hn
 rw [hn]
theorem vd (a b:List UInt64):bK Tryz.prog 94 [.sl 1 (aj a),.sl 1 (aj b)] (ao (a == b)):=by
 refine bK.len 0 rfl fun UC=>?_
 rw [aD] at UC
 by_cases hl:a.length=b.length
 case neg =>
  have e:(a == b)=false:=by rw [beq_eq_false_iff_ne];intro e;exact hl (by rw [e])
  refine zO Tryz.func94 26<|zq<|zS<|zP 1 [yH [(1,{k:=a.length}),(3,{k:=b.length})]] [.aa [10,4,0,1] []] [yI (aD a),yI (aD b)]<|dQ 10 ((↑a.length:Int) != (↑b.length:Int)) (by simp;omega)<|zq<|dW (zV [yB (Value.bool false=Value.bool (a == b)) (by rw [e])])
 refine zO Tryz.func94 26<|zq<|zS<|zP 1 [yH [(1,{k:=a.length}),(3,{k:=b.length})]] [.aa [10,4,0,1] []] [yI (aD a),yI (aD b)]<|bo 10 ((↑a.length:Int) != (↑b.length:Int)) (by simp_all)<|a8<|zS<|zq<|zB 0 (zL (fun (k:Nat)=>(⟨[(10,ao ((↑a.length:Int) != (↑b.length:Int))),(0,AV.sl 1 (aj a)),(1,AV.sl 1 (aj b)),(5,ai k)],[]⟩:AS)) (fun k=>(k≤a.length∧a.take k=b.take k)) (fun k=>(a.length-k)) (0) ?_ (zW [.aa [10,0,1,5] []]) ?_)
 ·exact ⟨ah,by simp⟩
 rintro k ⟨hk,he⟩
 refine zS<|zP 1 [yH [(2,{k:=a.length})]] [.aa [14,10,0,1,5] []] [yI (aD a)] (zD 14 ((↑k:Int)<(↑a.length:Int)) (fun h=>?_) (fun h=>?_))
 ·skip
  refine a8<|zS<|zB 1<|zP 1 [{hs:=[(2,{k:=k}),(3,yV (aw (a.getD k 0))),(6,{k:=k}),(7,yV (aw (b.getD k 0))),(8,yV (ao (a.getD k 0 != b.getD k 0)))],T:=8}] [.aa [25,14,10,0,1,5] []] [yR (↑k:Int),yB (k<(aj a).length) (by simp only [aD];omega),yB ((aj a)[k]?=some (aw (a.getD k 0))) (eG ah),yR (↑k:Int),yB (k<(aj b).length) (by simp only [aD];omega),yB ((aj b)[k]?=some (aw (b.getD k 0))) (eG ah),yI (cU (a.getD k 0) (b.getD k 0))] (zN 25 (a.getD k 0) (b.getD k 0) (fun h2=>?_) (fun h2=>?_))
  ·have e:=wR a b k hl he ah h2
   refine zq<|zR<|bl<|aW<|fD<|bl<|aW (zV [yB (Value.bool false=Value.bool (a == b)) (by rw [e])])
  ·skip
   refine zK<|aM<|ak<|zX (yH [(1,yV (ai ((↑k:Int)+1)))]) [yN ((↑k:Int)+1)] (aI (k+1) ⟨ah,wN hl he ah h2⟩ ah (zW [.aa [10,0,1,5] []]))
 ·have e:k=a.length:=ah
  subst e
  have e:(a == b)=true:=by
   rw [beq_iff_eq];rw [List.take_of_length_le (Nat.le_refl _),List.take_of_length_le ah] at he;exact he
  refine zE 0<|aY<|aN<|bm<|ak<|zq<|zR (zV [yB (Value.bool true=Value.bool (a == b)) (by rw [e])])
end Go.Proofs.YtjgbhhnghedgdaaGreatDoor
