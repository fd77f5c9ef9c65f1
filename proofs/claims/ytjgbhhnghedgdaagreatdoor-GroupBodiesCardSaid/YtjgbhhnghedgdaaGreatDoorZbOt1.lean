import Derived.Test.YtjgbhhnghedgdaaGreatDoorZbRec3
set_option linter.all false
namespace Go.Proofs.YtjgbhhnghedgdaaGreatDoor
open Go.RowKit
set_option maxRecDepth 100000
set_option maxHeartbeats 4000000
theorem fc {n:Int} (h0:0≤n) (h1:n≤9223372036854775807):IntKind.i64.wrap n=n:=by
 have:=dK (n:=n) aj h1
 injection this with this;injection this
theorem vc (m:UInt64):bL Tryz.prog 139 [aw m] (.arr (ax (ct m))):=by
 refine zO Tryz.func139 32<|zQ 3 [yH [(0,yV (AV.arr (ax (List.replicate 18 (0:Int)))))],yH [(0,yV (AV.arr (ax (List.replicate 18 (0:Int)))))],{}] (yM 2 (yR (ax (List.replicate 18 (0:Int)))))<|zS<|zq<|zB 0 (zL (fun (k:Nat)=>(⟨[(3,AV.addr 3 0),(2,AV.addr 2 0),(0,aw m),(6,ai k),(4,ai (bl m k))],[(2,⟨1,true,true,ax (List.replicate 18 (0:Int))⟩),(3,⟨1,true,false,ax (iY m k)⟩)]⟩:AS)) (fun k=>(k≤16)) (fun k=>(16-k)) (0) ?_ (zW [.loose 3,.aa [3,2,0,6,4] [2,3]]) ?_)
 ·omega
 intro k hk
 have hs:=qZ m k
 refine zq<|zS (zD 7 ((↑k:Int)<16) (fun h=>?_) (fun h=>?_))
 ·have hn:=Ca m k
  have e1:IntKind.i64.wrap (wv ((m>>>UInt64.ofNat (60-4*(k:Int)).toNat)&&&15))=(mu m k:Int):=by
   rw [show (60-4*(k:Int)).toNat=60-4*k by omega,D8 m k aj];exact fc aj aj
  have e2:=Je m k
  have e3:(iY m (k+1)).getD k 0=(mu m k:Int):=by rw [Lh m _ k aj,if_pos aj]
  have e4:IntKind.i64.wrap ((bl m k:Int)+IntKind.i64.wrap (15-((iY m k).set k (mu m k:Int)).getD k 0))=(bl m (k+1):Int):=by
   rw [e2,e3,fc (n:=15-_) aj aj,fc aj aj];simp only [bl];omega
  refine a_<|zS<|zB 1<|zP 2 [{},yH [(3,yV (ai ((4:Int)*(↑k:Int)))),(4,yV (ai ((60:Int)-4*(↑k:Int)))),(5,yV (aw (m>>>UInt64.ofNat ((60:Int)-4*(↑k:Int)).toNat))),(6,yV (aw (m>>>UInt64.ofNat ((60:Int)-4*(↑k:Int)).toNat&&&(15:UInt64)))),(7,yV (ai (↑(mu m k):Int))),(8,{k:=k}),(9,yV (AV.arr (ax ((iY m k).set k (↑(mu m k):Int)))))]] [.aa [5,7,3,2,0,6,4] [3,2]] [yN ((4:Int)*(↑k:Int)),yN ((60:Int)-4*(↑k:Int)),yI (fp m ((60:Int)-4*(↑k:Int)) aj aj),yO ((0:Int)≤60-4*(↑k:Int)),yI (iZ (m>>>UInt64.ofNat ((60:Int)-4*(↑k:Int)).toNat) 15),yB (ai (IntKind.i64.wrap (wv (m>>>UInt64.ofNat ((60:Int)-4*(↑k:Int)).toNat&&&(15:UInt64))))=ai (↑(mu m k):Int)) (congrArg (fun n=>AV.val (.int .i64 n)) e1),yR (↑k:Int),yO (k<18),yB ((ax (iY m k)).set k (ai (↑(mu m k):Int))=ax ((iY m k).set k (↑(mu m k):Int))) (Fu _ _ _),yO (k+1≤18)]<|zX (yH [(2,{k:=k}),(3,yV (ai (((iY m k).set k (↑(mu m k):Int)).getD k (0:Int))))]) [yR (↑k:Int),yO (k<18),yB ((ax ((iY m k).set k (↑(mu m k):Int)))[k]?=some (ai (((iY m k).set k (↑(mu m k):Int)).getD k (0:Int)))) (lZ (by simp only [List.length_set,Jf];omega))]<|aL<|aq<|zX (yH [(0,yV (ai ((↑k:Int)+1)))]) [yN ((↑k:Int)+1)] (aK (k+1) aj aj (eQ [.aa [3,2,0,6,4] [2,3]] [4] [3] [yB (ai (IntKind.i64.wrap ((↑(bl m k):Int)+IntKind.i64.wrap ((15:Int)-((iY m k).set k (↑(mu m k):Int)).getD k (0:Int))))=ai (↑(bl m (k+1)):Int)) (congrArg (fun n=>AV.val (.int .i64 n)) e4),yB (ax ((iY m k).set k (↑(mu m k):Int))=ax (iY m (k+1))) (congrArg ax e2)]))
 ·have e:k=16:=aj
  subst e
  have e1:IntKind.i64.wrap (((bl m 16:Nat):Int).tdiv 16)=((bl m 16/16:Nat):Int):=by
   rw [Int.tdiv_eq_ediv_of_nonneg aj];rw [fc aj aj];omega
  have e2:((bl m 16:Nat):Int)%16=((bl m 16%16:Nat):Int):=aj
  have e3:=Jg m
  refine zE 0<|ba<|aS<|br<|aq<|bf.tR 3 [{hs:=[(1,{av:=some (ai (↑(bl m 16/16):Int))}),(2,{k:=16}),(3,{av:=some (AV.arr (ax ((iY m 16).set 16 (↑(bl m 16/16):Int))))})]},{hs:=[(1,{av:=some (ai ((↑(bl m 16):Int)%(16:Int)))}),(2,{av:=some (ai (↑(bl m 16%16):Int)),k:=17}),(3,{av:=some (AV.arr (ax (((iY m 16).set 16 (↑(bl m 16/16):Int)).set 17 ((↑(bl m 16):Int)%(16:Int)))))})]},{hs:=[(0,{av:=some (AV.arr (ax (ct m)))}),(1,{av:=some (AV.arr (ax (ct m))),k:=1})]}] [.aa [7,3,2,0,6,4] [2,3]] bk (C:=[ai (IntKind.i64.wrap ((↑(bl m 16):Int).tdiv (16:Int)))=ai (↑(bl m 16/16):Int),(16:Int)≠(0:Int),(16:Int)=(↑(16:Nat):Int),16<18,(ax (iY m 16)).set 16 (ai (↑(bl m 16/16):Int))=ax ((iY m 16).set 16 (↑(bl m 16/16):Int)),17≤18,ai ((↑(bl m 16):Int).tmod (16:Int))=ai ((↑(bl m 16):Int)%(16:Int)),(16:Int)≠(0:Int),(17:Int)=(↑(17:Nat):Int),17<18,(ax ((iY m 16).set 16 (↑(bl m 16/16):Int))).set 17 (ai ((↑(bl m 16):Int)%(16:Int)))=ax (((iY m 16).set 16 (↑(bl m 16/16):Int)).set 17 ((↑(bl m 16):Int)%(16:Int))),18≤18,List.take 18 (List.drop 0 (ax (((iY m 16).set 16 (↑(bl m 16/16):Int)).set 17 ((↑(bl m 16):Int)%(16:Int)))))=ax (ct m),(ax (ct m)).length=18,List.take 0 (ax (List.replicate 18 (0:Int)))++ax (ct m)++List.drop 18 (ax (List.replicate 18 (0:Int)))=ax (ct m),(ax (ct m)).length=18,∀(x:AV),x∈ax (ct m)->ig x=true,18≤18]) bk ⟨(yA aj aj aj),aj,rfl,aj,rfl,aj,rfl,aj,rfl,aj,rfl,aj,rfl,rfl,rfl,rfl,(Ai _),aj,trivial⟩<|zR (zV [yR 18,yR (ax (ct m))])
theorem xf (leaf chain src dst:Int) (x:UInt64):bL Tryz.prog 140 [ai leaf,ai chain,ai src,ai dst,aw x] (aw (run leaf chain src dst x)):=by
 unfold run
 have hp:(if 0>src then 0 else src)=max src 0:=by split<;>omega
 have he:(if 15<dst then 15 else dst)=min dst 15:=by split<;>omega
 generalize Ur:max src 0=p at *
 generalize RY:min dst 15=e at *
 refine zO Tryz.func140 33<|zP 2 [{},yH [(1,yV (ai e))]] [.aa [11,10,0,1,2,3,4] []] [yB (ai (if (15:Int)<dst then (15:Int) else dst)=ai e) (congrArg (fun n=>AV.val (.int .i64 n)) he)]<|zS<|zP 1 [yH [(1,yV (ai p))]] [.aa [12,11,10,0,1,2,3,4] []] [yB (ai (if (0:Int)>src then (0:Int) else src)=ai p) (congrArg (fun n=>AV.val (.int .i64 n)) hp)]<|zB 0 (zL (fun (k:Nat)=>(⟨[(11,ai e),(10,AV.val (Value.int .u64 0)),(0,ai leaf),(1,ai chain),(2,ai src),(3,ai dst),(12,ai (p+k)),(4,aw (jG leaf chain p x k))],[]⟩:AS)) (fun k=>(k≤(e-p).toNat)) (fun k=>((e-p).toNat-k)) (0) ?_ (eQ [.aa [11,10,0,1,2,3,12,4] []] [12] [] [yB (ai p=ai (p+(↑(0:Nat):Int))) (congrArg (fun n=>AV.val (.int .i64 n)) aj)]) ?_)
 ·omega
 intro k hk
 refine zS<|zP 1 [{}] [.aa [19,11,10,0,1,2,3,12,4] []] [] (zD 19 (p+(↑k:Int)<e) (fun h=>?_) (fun h=>?_))
 ·have hw:(words [u64 leaf,u64 chain,u64 (p+k),jG leaf chain p x k]).length=32:=by rw [dX];rfl
  refine a_<|zS<|zB 1<|zX (yH [(1,yV (aw (u64 leaf))),(3,yV (aw (u64 chain))),(5,yV (aw (u64 (p+(↑k:Int))))),(7,yV (AV.arr (ah [u64 leaf,u64 chain,u64 (p+(↑k:Int)),jG leaf chain p x k]))),(8,yV (AV.own 1 (ag (words [u64 leaf,u64 chain,u64 (p+(↑k:Int)),jG leaf chain p x k])))),(9,yV (aw (hash (1:Int) (words [u64 leaf,u64 chain,u64 (p+(↑k:Int)),jG leaf chain p x k]))))]) [yI (aY leaf),yI (aY chain),yI (aY (p+(↑k:Int))),yR (ah [u64 leaf,u64 chain,u64 (p+(↑k:Int)),jG leaf chain p x k]),yI (lM [u64 leaf,u64 chain,u64 (p+(↑k:Int)),jG leaf chain p x k] (by simp only [List.length_cons,List.length_nil];omega)),yI (aR (words [u64 leaf,u64 chain,u64 (p+(↑k:Int)),jG leaf chain p x k])),yI (nI ((1:Int)) (words [u64 leaf,u64 chain,u64 (p+(↑k:Int)),jG leaf chain p x k]))]<|aL<|aq<|zX (yH [(1,yV (ai (p+(↑k:Int)+1)))]) [yN (p+(↑k:Int)+1)] (aK (k+1) aj aj (eQ [.aa [11,10,0,1,2,3,12,4] []] [12] [] [yB (ai (p+(↑k:Int)+1)=ai (p+(↑(k+1):Int))) (congrArg (fun n=>AV.val (.int .i64 n)) aj)]))
 ·have e1:k=(e-p).toNat:=aj
  subst e1
  refine zE 0<|ba<|aS<|br<|aq<|zP 1 [{}] [.aa [10,19,11,0,1,2,3,12,4] []] []<|zR (bR)
theorem oZ (leaf chain src dst:Int) (x:UInt64):bL Tryz.prog 147 [ai leaf,ai chain,ai src,ai dst,aw x] (aw (run leaf chain src dst x)):=by
 unfold run
 have hp:(if 0>src then 0 else src)=max src 0:=by split<;>omega
 have he:(if 15<dst then 15 else dst)=min dst 15:=by split<;>omega
 generalize Ur:max src 0=p at *
 generalize RY:min dst 15=e at *
 refine zO Tryz.func147 31<|zq<|zS<|zP 1 [yH [(1,yV (ai p))]] [.aa [11,10,0,1,2,3,4] []] [yB (ai (if (0:Int)>src then (0:Int) else src)=ai p) (congrArg (fun n=>AV.val (.int .i64 n)) hp)]<|zB 0 (zL (fun (k:Nat)=>(⟨[(10,AV.val (Value.int .u64 0)),(0,ai leaf),(1,ai chain),(2,ai src),(3,ai dst),(11,ai (p+k)),(4,aw (jG leaf chain p x k))],[]⟩:AS)) (fun k=>(k≤(e-p).toNat)) (fun k=>((e-p).toNat-k)) (0) ?_ (eQ [.aa [10,0,1,2,3,11,4] []] [11] [] [yB (ai p=ai (p+(↑(0:Nat):Int))) (congrArg (fun n=>AV.val (.int .i64 n)) aj)]) ?_)
 ·omega
 intro k hk
 refine zS<|zP 1 [yH [(2,yV (ai e))]] [.aa [17,10,0,1,2,3,11,4] []] [yB (ai (if (15:Int)<dst then (15:Int) else dst)=ai e) (congrArg (fun n=>AV.val (.int .i64 n)) he)] (zD 17 (p+(↑k:Int)<e) (fun h=>?_) (fun h=>?_))
 ·have hw:(words [u64 leaf,u64 chain,u64 (p+k),jG leaf chain p x k]).length=32:=by rw [dX];rfl
  refine a_<|zS<|zB 1<|zX (yH [(1,yV (aw (u64 leaf))),(3,yV (aw (u64 chain))),(5,yV (aw (u64 (p+(↑k:Int))))),(7,yV (AV.arr (ah [u64 leaf,u64 chain,u64 (p+(↑k:Int)),jG leaf chain p x k]))),(8,yV (AV.own 1 (ag (words [u64 leaf,u64 chain,u64 (p+(↑k:Int)),jG leaf chain p x k])))),(9,yV (aw (hash (1:Int) (words [u64 leaf,u64 chain,u64 (p+(↑k:Int)),jG leaf chain p x k]))))]) [yI (aY leaf),yI (aY chain),yI (aY (p+(↑k:Int))),yR (ah [u64 leaf,u64 chain,u64 (p+(↑k:Int)),jG leaf chain p x k]),yI (dE [u64 leaf,u64 chain,u64 (p+(↑k:Int)),jG leaf chain p x k] (by simp only [List.length_cons,List.length_nil];omega)),yI (aR (words [u64 leaf,u64 chain,u64 (p+(↑k:Int)),jG leaf chain p x k])),yI (iy ((1:Int)) (words [u64 leaf,u64 chain,u64 (p+(↑k:Int)),jG leaf chain p x k]) aj)]<|aL<|aq<|zX (yH [(1,yV (ai (p+(↑k:Int)+1)))]) [yN (p+(↑k:Int)+1)] (aK (k+1) aj aj (eQ [.aa [10,0,1,2,3,11,4] []] [11] [] [yB (ai (p+(↑k:Int)+1)=ai (p+(↑(k+1):Int))) (congrArg (fun n=>AV.val (.int .i64 n)) aj)]))
 ·have e1:k=(e-p).toNat:=aj
  subst e1
  refine zE 0<|ba<|aS<|br<|aq<|zP 1 [{}] [.aa [10,17,0,1,2,3,11,4] []] []<|zR (bR)
theorem tM (seed:UInt64) (leaf c:Int):bL Tryz.prog 141 [aw seed,ai leaf,ai c] (aw (ar seed leaf c)):=by
 refine zO Tryz.func141 15<|zP 2 [{},yH [(2,yV (aw (u64 leaf))),(4,yV (aw (u64 c))),(5,yV (AV.arr (ah [u64 leaf,u64 c]))),(6,yV (AV.own 1 (ag (words [u64 leaf,u64 c])))),(7,yV (aw (yX seed (1:Int) (words [u64 leaf,u64 c]))))]] [.aa [6,0,1,2] []] [yI (aY leaf),yI (aY c),yR (ah [u64 leaf,u64 c]),yI (lM [u64 leaf,u64 c] (by simp only [List.length_cons,List.length_nil];omega)),yI (aR (words [u64 leaf,u64 c])),yI (Kx seed ((1:Int)) (words [u64 leaf,u64 c]))]<|zR (bR)
theorem oI (seed:UInt64) (leaf c:Int):bL Tryz.prog 148 [aw seed,ai leaf,ai c] (aw (ar seed leaf c)):=by
 have hw:(words [u64 leaf,u64 c]).length=16:=by rw [dX];rfl
 refine zO Tryz.func148 15<|zP 2 [{},yH [(2,yV (aw (u64 leaf))),(4,yV (aw (u64 c))),(5,yV (AV.arr (ah [u64 leaf,u64 c]))),(6,yV (AV.own 1 (ag (words [u64 leaf,u64 c])))),(7,yV (aw (yX seed (1:Int) (words [u64 leaf,u64 c]))))]] [.aa [6,0,1,2] []] [yI (aY leaf),yI (aY c),yR (ah [u64 leaf,u64 c]),yI (dE [u64 leaf,u64 c] (by simp only [List.length_cons,List.length_nil];omega)),yI (aR (words [u64 leaf,u64 c])),yI (o7 seed ((1:Int)) (words [u64 leaf,u64 c]) aj)]<|zR (bR)
theorem Ga (c:UInt64) (l:List UInt64) (hl:l.length=18):setCells (ah ((List.replicate 19 0).set 0 c)) 1 ((ah l).take (cW 18 1))=ah (c::l):=by
 have h1:(ah l).take (cW 18 1)=ah l:=List.take_of_length_le (by rw [bx,aC];omega)
 rw [h1,nk _ _ _ (by rw [aC,aC,List.length_set,List.length_replicate];omega),aC,hl]
 simp [ah,List.replicate_succ]
theorem sm (leaf:Int) (l:List UInt64) (hl:l.length=18):bL Tryz.prog 168 [ai leaf,.arr (ah l)] (aw (combine leaf l)):=by
 have hc:(u64 leaf::l).length=19:=by simp [hl]
 have h0:(ah l).length=18:=by rw [aC,hl]
 refine zO Tryz.func168 15<|zP 5 [{},yH [(0,yV (AV.arr (ah (List.replicate 19 0))))],yH [(1,yV (aw (u64 leaf))),(2,{k:=0}),(3,yV (AV.arr (ah ((List.replicate 19 0).set 0 (u64 leaf)))))],{hs:=[(0,{k:=1}),(2,{av:=some (AV.arr (ah (u64 leaf::l))),k:=18,b:=false})],T:=2},yH [(1,yV (AV.own 1 (ag (words (u64 leaf::l))))),(2,yV (aw (hash (2:Int) (words (u64 leaf::l)))))]] [.aa [4,5,3,0,1] [5,3]] [yR (ah (List.replicate 19 0)),yI (aY leaf),yR (0:Int),yO (0<19),yR (ah ((List.replicate 19 0).set 0 (u64 leaf))),yL 1 19,yR (1:Int),yL 1 19,yR 19,yB (19≤maxLen) (by decide),yI h0,yB (18≤maxLen) (by decide),yB ((match List.take 18 (ah l) with| [x]=>(ah ((List.replicate 19 0).set 0 (u64 leaf))).set 1 x|l=>List.take 1 (ah ((List.replicate 19 0).set 0 (u64 leaf)))++l++List.drop (1+l.length) (ah ((List.replicate 19 0).set 0 (u64 leaf))))=ah (u64 leaf::l)) (Ga _ l hl),yB (cI (ah l)) (pS _),yO (min (ah l).length (19-1)=18),yO (0<19-1),yB ((ah (u64 leaf::l)).length=19) (by simp only [aC];omega),yB (19≤maxLen) (by decide),yI (lM (u64 leaf::l) aj),yI (aR (words (u64 leaf::l))),yI (nI ((2:Int)) (words (u64 leaf::l)))]<|zR (bR)
theorem Ad (seed:UInt64) (leaf:Int):bL Tryz.prog 143 [aw seed,ai leaf] (aw (combine leaf (bG seed leaf 18))):=by
 have hl:=rW seed leaf 18
 refine zO Tryz.func143 23<|zQ 2 [{},yH [(0,yV (AV.arr (ah (List.replicate 18 0))))]] [yR (ah (List.replicate 18 0))]<|zS<|zq<|zB 0 (zL (fun (k:Nat)=>(⟨[(5,AV.addr 5 0),(4,AV.val (Value.int .u64 0)),(0,aw seed),(1,ai leaf),(7,ai k)],[(5,⟨1,true,false,ah (cT 18 (bG seed leaf 18) k)⟩)]⟩:AS)) (fun k=>(k≤18)) (fun k=>(18-k)) (0) ?_ (zW [.loose 5,.aa [5,4,0,1,7] [5]]) ?_)
 ·omega
 intro k hk
 have hf:=kt hl hk
 refine zq<|zS (zD 8 ((↑k:Int)<18) (fun h=>?_) (fun h=>?_))
 ·have e1:=l7 hl (aj:k<18)
  have e2:=B5 seed leaf k aj
  refine a_<|zS<|zB 1<|zq<|zX (yH [(6,yV (aw (ar seed leaf (↑k:Int)))),(7,yV (aw (run leaf (↑k:Int) (0:Int) (15:Int) (ar seed leaf (↑k:Int))))),(8,{k:=k}),(9,yV (AV.arr (ah ((cT 18 (bG seed leaf 18) k).set k (run leaf (↑k:Int) (0:Int) (15:Int) (ar seed leaf (↑k:Int)))))))]) [yI (tM seed leaf ((↑k:Int))),yI (xf leaf ((↑k:Int)) ((0:Int)) ((15:Int)) (ar seed leaf (↑k:Int))),yR (↑k:Int),yO (k<18),yB ((ah (cT 18 (bG seed leaf 18) k)).set k (aw (run leaf (↑k:Int) (0:Int) (15:Int) (ar seed leaf (↑k:Int))))=ah ((cT 18 (bG seed leaf 18) k).set k (run leaf (↑k:Int) (0:Int) (15:Int) (ar seed leaf (↑k:Int))))) (kx _ _ _),yB (k+1≤(ah (cT 18 (bG seed leaf 18) k)).length) (by simp only [aC];omega)]<|aL<|aq<|zX (yH [(0,yV (ai ((↑k:Int)+1)))]) [yN ((↑k:Int)+1)] (aK (k+1) aj aj (eQ [.aa [5,4,0,1,7] [5]] [] [5] [yB (ah ((cT 18 (bG seed leaf 18) k).set k (run leaf (↑k:Int) (0:Int) (15:Int) (ar seed leaf (↑k:Int))))=ah (cT 18 (bG seed leaf 18) (k+1))) (congrArg ah (by rw [←e2];exact e1))]))
 ·have e:k=18:=aj
  subst e
  have e1:=kQ hl
  refine zE 0<|ba<|aS<|br<|aq<|zP 1 [yH [(1,yV (AV.arr (ah (bG seed leaf 18)))),(2,yV (aw (combine leaf (bG seed leaf 18))))]] [.aa [4,8,5,0,1,7] [5]] [yR (ah (bG seed leaf 18)),yR 18,yI (sm leaf (bG seed leaf 18) rfl)]<|zR (bR)
theorem wg (seed:UInt64) (leaf:Int) (m:UInt64):bL Tryz.prog 96 [aw seed,ai leaf,aw m] (.own 1 (ah (bU seed leaf m 18))):=by
 have hl:=qM seed leaf m 18
 have hd:=nO m
 refine zO Tryz.func96 28<|zQ 2 [{},yH [(0,yV (AV.arr (ah (List.replicate 18 0))))]] [yR (ah (List.replicate 18 0))]<|zS<|zQ 1 [yH [(1,{av:=some (AV.arr (ax (ct m))),b:=false})]] [yI (vc m)]<|zB 0 (zL (fun (k:Nat)=>(⟨[(11,AV.arr (ax (ct m))),(7,AV.addr 7 0),(6,AV.nil),(0,aw seed),(1,ai leaf),(2,aw m),(12,ai k)],[(7,⟨1,true,true,ah (cT 18 (bU seed leaf m 18) k)⟩)]⟩:AS)) (fun k=>(k≤18)) (fun k=>(18-k)) (0) ?_ (zW [.aa [11,7,6,0,1,2,12] [7]]) ?_)
 ·omega
 intro k hk
 have hf:=kt hl hk
 refine zq<|zS (zD 13 ((↑k:Int)<18) (fun h=>?_) (fun h=>?_))
 ·have e1:=l7 hl (aj:k<18)
  have e2:=G4 seed leaf m k aj
  refine a_<|zS<|zB 1<|zP 1 [yH [(1,{av:=some (ai ((ct m).getD k (0:Int))),k:=k})]] [.aa [9,8,13,11,7,6,0,1,2,12] [7]] [yR (↑k:Int),yO (k<18),yB ((ax (ct m))[k]?=some (ai ((ct m).getD k (0:Int)))) (lZ aj)]<|zX (yH [(7,yV (aw (ar seed leaf (↑k:Int)))),(8,yV (aw (run leaf (↑k:Int) (0:Int) ((ct m).getD k (0:Int)) (ar seed leaf (↑k:Int))))),(9,{k:=k}),(10,yV (AV.arr (ah ((cT 18 (bU seed leaf m 18) k).set k (run leaf (↑k:Int) (0:Int) ((ct m).getD k (0:Int)) (ar seed leaf (↑k:Int)))))))]) [yI (tM seed leaf ((↑k:Int))),yI (xf leaf ((↑k:Int)) ((0:Int)) ((ct m).getD k (0:Int)) (ar seed leaf (↑k:Int))),yR (↑k:Int),yO (k<18),yB ((ah (cT 18 (bU seed leaf m 18) k)).set k (aw (run leaf (↑k:Int) (0:Int) ((ct m).getD k (0:Int)) (ar seed leaf (↑k:Int))))=ah ((cT 18 (bU seed leaf m 18) k).set k (run leaf (↑k:Int) (0:Int) ((ct m).getD k (0:Int)) (ar seed leaf (↑k:Int))))) (kx _ _ _),yB (k+1≤(ah (cT 18 (bU seed leaf m 18) k)).length) (by simp only [aC];omega)]<|aL<|aq<|zX (yH [(0,yV (ai ((↑k:Int)+1)))]) [yN ((↑k:Int)+1)] (aK (k+1) aj aj (eQ [.aa [11,7,6,0,1,2,12] [7]] [] [7] [yB (ah ((cT 18 (bU seed leaf m 18) k).set k (run leaf (↑k:Int) (0:Int) ((ct m).getD k (0:Int)) (ar seed leaf (↑k:Int))))=ah (cT 18 (bU seed leaf m 18) (k+1))) (congrArg ah (by rw [←e2];exact e1))]))
 ·have e:k=18:=aj
  subst e
  have e1:=kQ hl
  refine zE 0<|ba<|aS<|br<|aq<|zQ 1 [{}] [yR 18,yB (18≤maxLen) (by decide)]<|zR (bR)
def oy (leaf:Int) (m:UInt64) (s:List UInt64):UInt64:=if s.length=18 then combine leaf (cO leaf m s 18) else 0
def lz (s:List UInt64):Int:=if s.length=18 then 0 else 4
theorem Aa (leaf:Int) (m:UInt64) (s:List UInt64):bL Tryz.prog 150 [ai leaf,aw m,.sl 1 (ah s)] (.bt [aw (oy leaf m s),ai (lz s)]):=by
 by_cases hs:s.length=18
 case neg =>
  have e1:oy leaf m s=0:=if_neg hs
  have e2:lz s=4:=if_neg hs
  refine zO Tryz.func150 34<|zq<|zS<|zP 1 [yH [(1,{k:=s.length})]] [.aa [13,7,6,0,1,2] []] [yB ((ah s).length=s.length) (aC _)]<|dB 13 ((↑s.length:Int) != (18:Int)) (by simp;omega)<|zq<|dn (zV [yK 0 (wv (oy leaf m s)) (by rw [e1];rfl),yJ 4 (lz s) (by rw [e2])])
 have e1:oy leaf m s=combine leaf (cO leaf m s 18):=if_pos hs
 have e2:lz s=0:=if_pos hs
 have hl:=Ab leaf m s 18
 have hd:=nO m
 refine zO Tryz.func150 34<|zq<|zS<|zP 1 [yH [(1,{k:=s.length})]] [.aa [13,7,6,0,1,2] []] [yB ((ah s).length=s.length) (aC _)]<|bn 13 ((↑s.length:Int) != (18:Int)) (by simp_all)<|a_<|zQ 1 [yH [(0,yV (AV.arr (ah (List.replicate 18 0))))]] [yR (ah (List.replicate 18 0))]<|zS<|zQ 1 [yH [(1,{av:=some (AV.arr (ax (ct m))),b:=false})]] [yI (vc m)]<|zB 0 (zL (fun (k:Nat)=>(⟨[(15,AV.arr (ax (ct m))),(8,AV.addr 8 0),(13,ao ((↑s.length:Int) != (18:Int))),(7,ai 0),(6,AV.val (Value.int .u64 0)),(0,ai leaf),(1,aw m),(2,AV.sl 1 (ah s)),(16,ai k)],[(8,⟨1,true,false,ah (cT 18 (cO leaf m s 18) k)⟩)]⟩:AS)) (fun k=>(k≤18)) (fun k=>(18-k)) (0) ?_ (zW [.loose 8,.aa [15,8,13,7,6,0,1,2,16] [8]]) ?_)
 ·omega
 intro k hk
 have hf:=kt hl hk
 refine zq<|zS (zD 17 ((↑k:Int)<18) (fun h=>?_) (fun h=>?_))
 ·have e3:=l7 hl (aj:k<18)
  have e4:=Kj leaf m s k aj
  refine a_<|zS<|zB 1<|zP 1 [yH [(1,{av:=some (ai ((ct m).getD k (0:Int))),k:=k})]] [.aa [10,9,17,15,8,13,7,6,0,1,2,16] [8]] [yR (↑k:Int),yO (k<18),yB ((ax (ct m))[k]?=some (ai ((ct m).getD k (0:Int)))) (lZ aj)]<|zX (yH [(6,{k:=k}),(7,yV (aw (s.getD k 0))),(8,yV (aw (run leaf (↑k:Int) ((ct m).getD k (0:Int)) (15:Int) (s.getD k 0)))),(9,{k:=k}),(10,yV (AV.arr (ah ((cT 18 (cO leaf m s 18) k).set k (run leaf (↑k:Int) ((ct m).getD k (0:Int)) (15:Int) (s.getD k 0))))))]) [yR (↑k:Int),yB (k<(ah s).length) (by simp only [aC];omega),yB ((ah s)[k]?=some (aw (s.getD k 0))) (eE aj),yI (xf leaf ((↑k:Int)) ((ct m).getD k (0:Int)) ((15:Int)) (s.getD k 0)),yR (↑k:Int),yO (k<18),yB ((ah (cT 18 (cO leaf m s 18) k)).set k (aw (run leaf (↑k:Int) ((ct m).getD k (0:Int)) (15:Int) (s.getD k 0)))=ah ((cT 18 (cO leaf m s 18) k).set k (run leaf (↑k:Int) ((ct m).getD k (0:Int)) (15:Int) (s.getD k 0)))) (kx _ _ _),yB (k+1≤(ah (cT 18 (cO leaf m s 18) k)).length) (by simp only [aC];omega)]<|aL<|aq<|zX (yH [(0,yV (ai ((↑k:Int)+1)))]) [yN ((↑k:Int)+1)] (aK (k+1) aj aj (eQ [.aa [15,8,13,7,6,0,1,2,16] [8]] [] [8] [yB (ah ((cT 18 (cO leaf m s 18) k).set k (run leaf (↑k:Int) ((ct m).getD k (0:Int)) (15:Int) (s.getD k 0)))=ah (cT 18 (cO leaf m s 18) (k+1))) (congrArg ah (by rw [←e4];exact e3))]))
 ·have e:k=18:=aj
  subst e
  have e3:=kQ hl
  refine zE 0<|ba<|aS<|br<|aq<|zP 1 [yH [(1,yV (AV.arr (ah (cO leaf m s 18)))),(2,yV (aw (combine leaf (cO leaf m s 18))))]] [.aa [7,6,17,15,8,13,0,1,2,16] [8]] [yR (ah (cO leaf m s 18)),yR 18,yI (sm leaf (cO leaf m s 18) rfl)]<|zR (zV [yK (wv (combine leaf (cO leaf m s 18))) (wv (oy leaf m s)) (by rw [e1]),yJ 0 (lz s) (by rw [e2])])
theorem mQ (m:UInt64):bL Tryz.prog 146 [aw m] (.own 1 (ax (ct m))):=by
 refine zO Tryz.func146 33<|zQ 3 [{},{},{}] []<|zS<|zq<|zB 0 (zL (fun (k:Nat)=>(⟨[(2,AV.nil),(0,aw m),(5,ai (15-k)),(4,ai (bl m k)),(3,AV.ref 21)],[(21,⟨1,true,false,ax (ir m k)⟩)]⟩:AS)) (fun k=>(k≤16)) (fun k=>(16-k)) (0) ?_ (zW [.nil 3 21 1,.aa [2,0,5,4,3] [21]]) ?_)
 ·omega
 intro k hk
 have hs:=qZ m k
 have hl:=De m k
 refine zS<|zq (zD 8 ((15:Int)-(↑k:Int)≥0) (fun h=>?_) (fun h=>?_))
 ·have hn:=Ca m k
  have e0:IntKind.u64.wrap (4*(15-(k:Int)))=((60-4*k:Nat):Int):=by rw [IntKind.wrap_u64];omega
  have e1:IntKind.i64.wrap (wv ((m>>>UInt64.ofNat (((60-4*k:Nat):Int)).toNat)&&&15))=(mu m k:Int):=by
   rw [show (((60-4*k:Nat):Int)).toNat=60-4*k by omega,D8 m k aj];exact fc aj aj
  have e4:(bl m k:Int)+(15-(mu m k:Int))=(bl m (k+1):Int):=by simp only [bl];omega
  refine a_<|zS<|zB 1<|zP 2 [yH [(2,yV (ai ((4:Int)*((15:Int)-(↑k:Int))))),(3,yV (AV.val (Value.int .u64 (↑(60-4*k):Int)))),(4,yV (aw (m>>>UInt64.ofNat (↑(60-4*k):Int).toNat))),(5,yV (aw (m>>>UInt64.ofNat (↑(60-4*k):Int).toNat&&&(15:UInt64)))),(6,yV (ai (↑(mu m k):Int)))],yH [(2,yV (AV.arr (ax [(↑(mu m k):Int)]))),(3,yV (AV.arr (ax (ir m k++ [(↑(mu m k):Int)]))))]] [.aa [3,6,8,2,0,5,4] [21]] [yN ((4:Int)*((15:Int)-(↑k:Int))),yB (AV.val (Value.int .u64 (IntKind.u64.wrap ((4:Int)*((15:Int)-(↑k:Int)))))=AV.val (Value.int .u64 (↑(60-4*k):Int))) (congrArg (fun n=>AV.val (.int .u64 n)) e0),yI (fp m ((↑(60-4*k):Int)) aj aj),yO ((0:Int)≤(↑(60-4*k):Int)),yI (iZ (m>>>UInt64.ofNat (↑(60-4*k):Int).toNat) 15),yB (ai (IntKind.i64.wrap (wv (m>>>UInt64.ofNat (↑(60-4*k):Int).toNat&&&(15:UInt64))))=ai (↑(mu m k):Int)) (congrArg (fun n=>AV.val (.int .i64 n)) e1),yR [ai (↑(mu m k):Int)],yB (ax (ir m k)++ax [(↑(mu m k):Int)]=ax (ir m k++ [(↑(mu m k):Int)])) (Fv _ _),yB (((ax (ir m k)).length+1)*8≤140737488355328) (by simp only [ko];omega)]<|zX (yH [(2,yV (ai ((15:Int)-(↑(mu m k):Int)))),(3,yV (ai ((↑(bl m k):Int)+((15:Int)-(↑(mu m k):Int)))))]) [yN ((15:Int)-(↑(mu m k):Int)),yN ((↑(bl m k):Int)+((15:Int)-(↑(mu m k):Int)))]<|aL<|aq<|zX (yH [(1,yV (ai ((15:Int)-(↑k:Int)-1)))]) [yN ((15:Int)-(↑k:Int)-1)] (aK (k+1) aj aj (eQ [.aa [2,0,5,4,3] [21]] [5,4] [21] [yB (ai ((15:Int)-(↑k:Int)-1)=ai ((15:Int)-(↑(k+1):Int))) (congrArg (fun n=>AV.val (.int .i64 n)) aj),yB (ai ((↑(bl m k):Int)+((15:Int)-(↑(mu m k):Int)))=ai (↑(bl m (k+1)):Int)) (congrArg (fun n=>AV.val (.int .i64 n)) aj),yB (ax (ir m k++ [(↑(mu m k):Int)])=ax (ir m (k+1))) (congrArg ax (Bd m k).symm)]))
 ·have e:k=16:=aj
  subst e
  have e1:IntKind.i64.wrap (((bl m 16:Nat):Int).tdiv 16)=((bl m 16/16:Nat):Int):=by
   rw [Int.tdiv_eq_ediv_of_nonneg aj];rw [fc aj aj];omega
  have e2:((bl m 16:Nat):Int)%16=((bl m 16%16:Nat):Int):=aj
  have e3:=Lf m
  refine zE 0<|ba<|aS<|br<|aq<|zP 1 [yH [(2,yV (ai (↑(bl m 16/16):Int))),(4,yV (ai (↑(bl m 16%16):Int))),(5,yV (AV.arr (ax [(↑(bl m 16/16):Int),(↑(bl m 16%16):Int)]))),(6,yV (AV.arr (ax (ir m 16++ [(↑(bl m 16/16):Int),(↑(bl m 16%16):Int)]))))]] [.aa [2,8,0,5,4] [32]] [yB (ai (IntKind.i64.wrap ((↑(bl m 16):Int).tdiv (16:Int)))=ai (↑(bl m 16/16):Int)) (yA aj aj aj),yO ((16:Int)≠(0:Int)),yR (ai (↑(bl m 16%16):Int)),yO ((16:Int)≠(0:Int)),yR [ai (↑(bl m 16/16):Int),ai (↑(bl m 16%16):Int)],yR (ax (ir m 16++ [(↑(bl m 16/16):Int),(↑(bl m 16%16):Int)])),yL 144 140737488355328]<|zR (bR)
theorem rV (leaf:Int) (l:List UInt64) (hl:l.length≤18):bL Tryz.prog 156 [ai leaf,.sl 1 (ah l)] (aw (combine leaf l)):=by
 have h1:(words [u64 leaf]).length=8:=by rw [dX];rfl
 have h2:(words l).length=8*l.length:=dX l
 have e:words [u64 leaf]++words l=words (u64 leaf::l):=by rw [←vO];rfl
 refine zO Tryz.func156 13<|zP 2 [{},yH [(1,yV (aw (u64 leaf))),(2,yV (AV.arr (ah [u64 leaf]))),(3,yV (AV.own 1 (ag (words [u64 leaf])))),(5,yV (AV.own 1 (ag (words l)))),(6,{av:=some (AV.arr (ag (words [u64 leaf]++words l))),b:=false}),(7,yV (aw (hash (2:Int) (words [u64 leaf]++words l))))]] [.aa [4,0,1] []] [yI (aY leaf),yR [aw (u64 leaf)],yI (dE [u64 leaf] (by simp only [List.length_cons,List.length_nil];omega)),yI (aR (words [u64 leaf])),yI (dE l aj),yI (aR (words l)),yR (ag (words [u64 leaf]++words l)),yB (cI (ag (words l))) (fQ _),yB ((8+(ag (words l)).length)*1≤140737488355328) (by simp only [aA];omega),yI (iy ((2:Int)) (words [u64 leaf]++words l) (by simp only [List.length_append];omega))]<|zR (bR)
theorem z6 (seed:UInt64) (leaf:Int):bL Tryz.prog 149 [aw seed,ai leaf] (aw (combine leaf (bG seed leaf 18))):=by
 refine zO Tryz.func149 24<|zQ 2 [{},{}] []<|zS<|zq<|zB 0 (zL (fun (k:Nat)=>(⟨[(4,AV.val (Value.int .u64 0)),(0,aw seed),(1,ai leaf),(6,ai k),(5,AV.ref 23)],[(23,⟨1,true,false,ah (bG seed leaf k)⟩)]⟩:AS)) (fun k=>(k≤18)) (fun k=>(18-k)) (0) ?_ (zW [.nil 5 23 1,.aa [4,0,1,6,5] [23]]) ?_)
 ·omega
 intro k hk
 have hl:=rW seed leaf k
 refine zS<|zq (zD 8 ((↑k:Int)<18) (fun h=>?_) (fun h=>?_))
 ·skip
  refine a_<|zS<|zB 1<|zX (yH [(6,yV (aw (ar seed leaf (↑k:Int)))),(7,yV (aw (run leaf (↑k:Int) (0:Int) (15:Int) (ar seed leaf (↑k:Int))))),(8,yV (AV.arr (ah [run leaf (↑k:Int) (0:Int) (15:Int) (ar seed leaf (↑k:Int))]))),(9,yV (AV.arr (ah (bG seed leaf k++ [run leaf (↑k:Int) (0:Int) (15:Int) (ar seed leaf (↑k:Int))]))))]) [yI (oI seed leaf ((↑k:Int))),yI (oZ leaf ((↑k:Int)) ((0:Int)) ((15:Int)) (ar seed leaf (↑k:Int))),yR [aw (run leaf (↑k:Int) (0:Int) (15:Int) (ar seed leaf (↑k:Int)))],yB (ah (bG seed leaf k)++ah [run leaf (↑k:Int) (0:Int) (15:Int) (ar seed leaf (↑k:Int))]=ah (bG seed leaf k++ [run leaf (↑k:Int) (0:Int) (15:Int) (ar seed leaf (↑k:Int))])) (jf _ _),yB (((ah (bG seed leaf k)).length+1)*8≤140737488355328) (by simp only [aC];omega)]<|aL<|aq<|zX (yH [(1,yV (ai ((↑k:Int)+1)))]) [yN ((↑k:Int)+1)] (aK (k+1) aj aj (eQ [.vp 20 23,.aa [4,0,1,6,5] [23]] [] [23] [yB (ah (bG seed leaf k++ [run leaf (↑k:Int) (0:Int) (15:Int) (ar seed leaf (↑k:Int))])=ah (bG seed leaf (k+1))) (congrArg ah (xw seed leaf k).symm)]))
 ·have e:k=18:=aj
  subst e
  refine zE 0<|ba<|aS<|br<|aq<|zP 1 [yH [(2,yV (aw (combine leaf (bG seed leaf 18))))]] [.aa [4,8,0,1,6,5] [23]] [yI (rV leaf (bG seed leaf 18) (by assumption))]<|zR (bR)
theorem xm (seed:UInt64) (leaf:Int) (m:UInt64):bL Tryz.prog 102 [aw seed,ai leaf,aw m] (.own 1 (ah (bU seed leaf m 18))):=by
 have hd:=nO m
 refine zO Tryz.func102 31<|zQ 3 [{},yH [(1,yV (AV.own 1 (ax (ct m))))],{}] [yI (mQ m),yB (ll (ax (ct m))) (vU _)]<|zS<|zq<|zB 0 (zL (fun (k:Nat)=>(⟨[(7,AV.ref 11),(6,AV.nil),(0,aw seed),(1,ai leaf),(2,aw m),(9,ai k),(8,AV.ref 29)],[(11,⟨1,true,false,ax (ct m)⟩),(29,⟨1,true,false,ah (bU seed leaf m k)⟩)]⟩:AS)) (fun k=>(k≤18)) (fun k=>(18-k)) (0) ?_ (zW [.nil 8 29 1,.aa [7,6,0,1,2,9,8] [11,29]]) ?_)
 ·omega
 intro k hk
 have hl:=qM seed leaf m k
 refine zS<|zq (zD 13 ((↑k:Int)<18) (fun h=>?_) (fun h=>?_))
 ·skip
  refine a_<|zS<|zB 1<|zX ({hs:=[(5,{k:=k}),(6,yV (ai ((ct m).getD k (0:Int)))),(10,yV (aw (ar seed leaf (↑k:Int)))),(11,yV (aw (run leaf (↑k:Int) (0:Int) ((ct m).getD k (0:Int)) (ar seed leaf (↑k:Int))))),(12,yV (AV.arr (ah [run leaf (↑k:Int) (0:Int) ((ct m).getD k (0:Int)) (ar seed leaf (↑k:Int))]))),(13,yV (AV.arr (ah (bU seed leaf m k++ [run leaf (↑k:Int) (0:Int) ((ct m).getD k (0:Int)) (ar seed leaf (↑k:Int))]))))],T:=13}) [yR (↑k:Int),yO (k<18),yB ((ax (ct m))[k]?=some (ai ((ct m).getD k (0:Int)))) (lZ aj),yI (oI seed leaf ((↑k:Int))),yI (oZ leaf ((↑k:Int)) ((0:Int)) ((ct m).getD k (0:Int)) (ar seed leaf (↑k:Int))),yR [aw (run leaf (↑k:Int) (0:Int) ((ct m).getD k (0:Int)) (ar seed leaf (↑k:Int)))],yB (ah (bU seed leaf m k)++ah [run leaf (↑k:Int) (0:Int) ((ct m).getD k (0:Int)) (ar seed leaf (↑k:Int))]=ah (bU seed leaf m k++ [run leaf (↑k:Int) (0:Int) ((ct m).getD k (0:Int)) (ar seed leaf (↑k:Int))])) (jf _ _),yB (((ah (bU seed leaf m k)).length+1)*8≤140737488355328) (by simp only [aC];omega)]<|aL<|aq<|zX (yH [(1,yV (ai ((↑k:Int)+1)))]) [yN ((↑k:Int)+1)] (aK (k+1) aj aj (eQ [.aa [7,6,0,1,2,9,8] [11,29]] [] [29] [yB (ah (bU seed leaf m k++ [run leaf (↑k:Int) (0:Int) ((ct m).getD k (0:Int)) (ar seed leaf (↑k:Int))])=ah (bU seed leaf m (k+1))) (congrArg ah (BL seed leaf m k).symm)]))
 ·have e:k=18:=aj
  subst e
  refine zE 0<|ba<|aS<|br<|aq<|zP 1 [{}] [.aa [6,13,7,0,1,2,9,8] [11,29]] []<|zR (bR)
end Go.Proofs.YtjgbhhnghedgdaaGreatDoor
