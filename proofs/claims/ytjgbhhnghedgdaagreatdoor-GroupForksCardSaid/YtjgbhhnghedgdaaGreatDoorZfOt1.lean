import Derived.Test.YtjgbhhnghedgdaaGreatDoorZfRec3
set_option linter.all false
namespace Go.Proofs.YtjgbhhnghedgdaaGreatDoor
open Go.RowKit
set_option maxRecDepth 100000
set_option maxHeartbeats 4000000
theorem fw {n:Int} (h0:0≤n) (h1:n≤9223372036854775807):IntKind.i64.wrap n=n:=by
 have:=eG (n:=n) ag h1
 injection this with this;injection this
theorem na (m:UInt64):bA Tryz.prog 139 [aw m] (.arr (ax (ct m))):=by
 refine zO Tryz.func139 32<|zQ 3 [yH [(0,yV (AV.arr (ax (List.replicate 18 (0:Int)))))],yH [(0,yV (AV.arr (ax (List.replicate 18 (0:Int)))))],{}] (yM 2 (yR (ax (List.replicate 18 (0:Int)))))<|zS<|zq<|zB 0 (zL (fun (k:Nat)=>(⟨[(3,AV.addr 3 0),(2,AV.addr 2 0),(0,aw m),(6,ai k),(4,ai (bl m k))],[(2,⟨1,true,true,ax (List.replicate 18 (0:Int))⟩),(3,⟨1,true,false,ax (jj m k)⟩)]⟩:AS)) (fun k=>(k≤16)) (fun k=>(16-k)) (0) ?_ (zW [.loose 3,.aa [3,2,0,6,4] [2,3]]) ?_)
 ·omega
 intro k hk
 have hs:=rZ m k
 refine zq<|zS (zD 7 ((↑k:Int)<16) (fun h=>?_) (fun h=>?_))
 ·have hn:=DC m k
  have e1:IntKind.i64.wrap (wv ((m>>>UInt64.ofNat (60-4*(k:Int)).toNat)&&&15))=(nD m k:Int):=by
   rw [show (60-4*(k:Int)).toNat=60-4*k by omega,Fz m k ag];exact fw ag ag
  have e2:=KI m k
  have e3:(jj m (k+1)).getD k 0=(nD m k:Int):=by rw [MO m _ k ag,if_pos ag]
  have e4:IntKind.i64.wrap ((bl m k:Int)+IntKind.i64.wrap (15-((jj m k).set k (nD m k:Int)).getD k 0))=(bl m (k+1):Int):=by
   rw [e2,e3,fw (n:=15-_) ag ag,fw ag ag];simp only [bl];omega
  refine a6<|zS<|zB 1<|zP 2 [{},yH [(3,yV (ai ((4:Int)*(↑k:Int)))),(4,yV (ai ((60:Int)-4*(↑k:Int)))),(5,yV (aw (m>>>UInt64.ofNat ((60:Int)-4*(↑k:Int)).toNat))),(6,yV (aw (m>>>UInt64.ofNat ((60:Int)-4*(↑k:Int)).toNat&&&(15:UInt64)))),(7,yV (ai (↑(nD m k):Int))),(8,{k:=k}),(9,yV (AV.arr (ax ((jj m k).set k (↑(nD m k):Int)))))]] [.aa [5,7,3,2,0,6,4] [3,2]] [yN ((4:Int)*(↑k:Int)),yN ((60:Int)-4*(↑k:Int)),yI (fE m ((60:Int)-4*(↑k:Int)) ag ag),yO ((0:Int)≤60-4*(↑k:Int)),yI (je (m>>>UInt64.ofNat ((60:Int)-4*(↑k:Int)).toNat) 15),yI (yc e1),yR (↑k:Int),yO (k<18),yB ((ax (jj m k)).set k (ai (↑(nD m k):Int))=ax ((jj m k).set k (↑(nD m k):Int))) (G2 _ _ _),yO (k+1≤18)]<|zX (yH [(2,{k:=k}),(3,yV (ai (((jj m k).set k (↑(nD m k):Int)).getD k (0:Int))))]) [yR (↑k:Int),yO (k<18),yB ((ax ((jj m k).set k (↑(nD m k):Int)))[k]?=some (ai (((jj m k).set k (↑(nD m k):Int)).getD k (0:Int)))) (mn (by simp only [List.length_set,KJ];omega))]<|aK<|al<|zX (yH [(0,yV (ai ((↑k:Int)+1)))]) [yN ((↑k:Int)+1)] (aF (k+1) ag ag (eX [.aa [3,2,0,6,4] [2,3]] [4] [3] [yI (yc e4),yB (ax ((jj m k).set k (↑(nD m k):Int))=ax (jj m (k+1))) (congrArg ax e2)]))
 ·have e:k=16:=ag
  subst e
  have e1:IntKind.i64.wrap (((bl m 16:Nat):Int).tdiv 16)=((bl m 16/16:Nat):Int):=by
   rw [Int.tdiv_eq_ediv_of_nonneg ag];rw [fw ag ag];omega
  have e2:((bl m 16:Nat):Int)%16=((bl m 16%16:Nat):Int):=ag
  have e3:=KK m
  refine zE 0<|a7<|aP<|bp<|al<|bf.uY 3 [{hs:=[(1,{av:=some (ai (↑(bl m 16/16):Int))}),(2,{k:=16}),(3,{av:=some (AV.arr (ax ((jj m 16).set 16 (↑(bl m 16/16):Int))))})]},{hs:=[(1,{av:=some (ai ((↑(bl m 16):Int)%(16:Int)))}),(2,{av:=some (ai (↑(bl m 16%16):Int)),k:=17}),(3,{av:=some (AV.arr (ax (((jj m 16).set 16 (↑(bl m 16/16):Int)).set 17 ((↑(bl m 16):Int)%(16:Int)))))})]},{hs:=[(0,{av:=some (AV.arr (ax (ct m)))}),(1,{av:=some (AV.arr (ax (ct m))),k:=1})]}] [.aa [7,3,2,0,6,4] [2,3]] bC (C:=[ai (IntKind.i64.wrap ((↑(bl m 16):Int).tdiv (16:Int)))=ai (↑(bl m 16/16):Int),(16:Int)≠(0:Int),(16:Int)=(↑(16:Nat):Int),16<18,(ax (jj m 16)).set 16 (ai (↑(bl m 16/16):Int))=ax ((jj m 16).set 16 (↑(bl m 16/16):Int)),17≤18,ai ((↑(bl m 16):Int).tmod (16:Int))=ai ((↑(bl m 16):Int)%(16:Int)),(16:Int)≠(0:Int),(17:Int)=(↑(17:Nat):Int),17<18,(ax ((jj m 16).set 16 (↑(bl m 16/16):Int))).set 17 (ai ((↑(bl m 16):Int)%(16:Int)))=ax (((jj m 16).set 16 (↑(bl m 16/16):Int)).set 17 ((↑(bl m 16):Int)%(16:Int))),18≤18,List.take 18 (List.drop 0 (ax (((jj m 16).set 16 (↑(bl m 16/16):Int)).set 17 ((↑(bl m 16):Int)%(16:Int)))))=ax (ct m),(ax (ct m)).length=18,List.take 0 (ax (List.replicate 18 (0:Int)))++ax (ct m)++List.drop 18 (ax (List.replicate 18 (0:Int)))=ax (ct m),(ax (ct m)).length=18,∀(x:AV),x∈ax (ct m)->iA x=true,18≤18]) bC ⟨(AA ag ag ag),ag,rfl,ag,rfl,ag,rfl,ag,rfl,ag,rfl,ag,rfl,rfl,rfl,rfl,(BC _),ag,trivial⟩<|zR (zV [yR 18,yR (ax (ct m))])
theorem yW (leaf chain src dst:Int) (x:UInt64):bA Tryz.prog 140 [ai leaf,ai chain,ai src,ai dst,aw x] (aw (run leaf chain src dst x)):=by
 unfold run
 have hp:(if 0>src then 0 else src)=max src 0:=by split<;>omega
 have he:(if 15<dst then 15 else dst)=min dst 15:=by split<;>omega
 generalize Wh:max src 0=p at *
 generalize TR:min dst 15=e at *
 refine zO Tryz.func140 33<|zP 2 [{},yH [(1,yV (ai e))]] [.aa [11,10,0,1,2,3,4] []] [yI (yc he)]<|zS<|zP 1 [yH [(1,yV (ai p))]] [.aa [12,11,10,0,1,2,3,4] []] [yI (yc hp)]<|zB 0 (zL (fun (k:Nat)=>(⟨[(11,ai e),(10,AV.val (Value.int .u64 0)),(0,ai leaf),(1,ai chain),(2,ai src),(3,ai dst),(12,ai (p+k)),(4,aw (jU leaf chain p x k))],[]⟩:AS)) (fun k=>(k≤(e-p).toNat)) (fun k=>((e-p).toNat-k)) (0) ?_ (eX [.aa [11,10,0,1,2,3,12,4] []] [12] [] [yB (ai p=ai (p+(↑(0:Nat):Int))) (congrArg (fun n=>AV.val (.int .i64 n)) ag)]) ?_)
 ·omega
 intro k hk
 refine zS<|zP 1 [{}] [.aa [19,11,10,0,1,2,3,12,4] []] [] (zD 19 (p+(↑k:Int)<e) (fun h=>?_) (fun h=>?_))
 ·have hw:(words [u64 leaf,u64 chain,u64 (p+k),jU leaf chain p x k]).length=32:=by rw [dZ];rfl
  refine a6<|zS<|zB 1<|zX (yH [(1,yV (aw (u64 leaf))),(3,yV (aw (u64 chain))),(5,yV (aw (u64 (p+(↑k:Int))))),(7,yV (AV.arr (aj [u64 leaf,u64 chain,u64 (p+(↑k:Int)),jU leaf chain p x k]))),(8,yV (AV.own 1 (ah (words [u64 leaf,u64 chain,u64 (p+(↑k:Int)),jU leaf chain p x k])))),(9,yV (aw (hash (1:Int) (words [u64 leaf,u64 chain,u64 (p+(↑k:Int)),jU leaf chain p x k]))))]) [yI (a8 leaf),yI (a8 chain),yI (a8 (p+(↑k:Int))),yR (aj [u64 leaf,u64 chain,u64 (p+(↑k:Int)),jU leaf chain p x k]),yI (kB [u64 leaf,u64 chain,u64 (p+(↑k:Int)),jU leaf chain p x k] (by simp only [List.length_cons,List.length_nil];omega)),yI (aQ (words [u64 leaf,u64 chain,u64 (p+(↑k:Int)),jU leaf chain p x k])),yI (oh ((1:Int)) (words [u64 leaf,u64 chain,u64 (p+(↑k:Int)),jU leaf chain p x k]))]<|aK<|al<|zX (yH [(1,yV (ai (p+(↑k:Int)+1)))]) [yN (p+(↑k:Int)+1)] (aF (k+1) ag ag (eX [.aa [11,10,0,1,2,3,12,4] []] [12] [] [yB (ai (p+(↑k:Int)+1)=ai (p+(↑(k+1):Int))) (congrArg (fun n=>AV.val (.int .i64 n)) ag)]))
 ·have e1:k=(e-p).toNat:=ag
  subst e1
  refine zE 0<|a7<|aP<|bp<|al<|zP 1 [{}] [.aa [10,19,11,0,1,2,3,12,4] []] []<|zR (bL)
theorem pL (leaf chain src dst:Int) (x:UInt64):bA Tryz.prog 147 [ai leaf,ai chain,ai src,ai dst,aw x] (aw (run leaf chain src dst x)):=by
 unfold run
 have hp:(if 0>src then 0 else src)=max src 0:=by split<;>omega
 have he:(if 15<dst then 15 else dst)=min dst 15:=by split<;>omega
 generalize Wh:max src 0=p at *
 generalize TR:min dst 15=e at *
 refine zO Tryz.func147 31<|zq<|zS<|zP 1 [yH [(1,yV (ai p))]] [.aa [11,10,0,1,2,3,4] []] [yI (yc hp)]<|zB 0 (zL (fun (k:Nat)=>(⟨[(10,AV.val (Value.int .u64 0)),(0,ai leaf),(1,ai chain),(2,ai src),(3,ai dst),(11,ai (p+k)),(4,aw (jU leaf chain p x k))],[]⟩:AS)) (fun k=>(k≤(e-p).toNat)) (fun k=>((e-p).toNat-k)) (0) ?_ (eX [.aa [10,0,1,2,3,11,4] []] [11] [] [yB (ai p=ai (p+(↑(0:Nat):Int))) (congrArg (fun n=>AV.val (.int .i64 n)) ag)]) ?_)
 ·omega
 intro k hk
 refine zS<|zP 1 [yH [(2,yV (ai e))]] [.aa [17,10,0,1,2,3,11,4] []] [yI (yc he)] (zD 17 (p+(↑k:Int)<e) (fun h=>?_) (fun h=>?_))
 ·have hw:(words [u64 leaf,u64 chain,u64 (p+k),jU leaf chain p x k]).length=32:=by rw [dZ];rfl
  refine a6<|zS<|zB 1<|zX (yH [(1,yV (aw (u64 leaf))),(3,yV (aw (u64 chain))),(5,yV (aw (u64 (p+(↑k:Int))))),(7,yV (AV.arr (aj [u64 leaf,u64 chain,u64 (p+(↑k:Int)),jU leaf chain p x k]))),(8,yV (AV.own 1 (ah (words [u64 leaf,u64 chain,u64 (p+(↑k:Int)),jU leaf chain p x k])))),(9,yV (aw (hash (1:Int) (words [u64 leaf,u64 chain,u64 (p+(↑k:Int)),jU leaf chain p x k]))))]) [yI (a8 leaf),yI (a8 chain),yI (a8 (p+(↑k:Int))),yR (aj [u64 leaf,u64 chain,u64 (p+(↑k:Int)),jU leaf chain p x k]),yI (dG [u64 leaf,u64 chain,u64 (p+(↑k:Int)),jU leaf chain p x k] (by simp only [List.length_cons,List.length_nil];omega)),yI (aQ (words [u64 leaf,u64 chain,u64 (p+(↑k:Int)),jU leaf chain p x k])),yI (iN ((1:Int)) (words [u64 leaf,u64 chain,u64 (p+(↑k:Int)),jU leaf chain p x k]) ag)]<|aK<|al<|zX (yH [(1,yV (ai (p+(↑k:Int)+1)))]) [yN (p+(↑k:Int)+1)] (aF (k+1) ag ag (eX [.aa [10,0,1,2,3,11,4] []] [11] [] [yB (ai (p+(↑k:Int)+1)=ai (p+(↑(k+1):Int))) (congrArg (fun n=>AV.val (.int .i64 n)) ag)]))
 ·have e1:k=(e-p).toNat:=ag
  subst e1
  refine zE 0<|a7<|aP<|bp<|al<|zP 1 [{}] [.aa [10,17,0,1,2,3,11,4] []] []<|zR (bL)
theorem uR (seed:UInt64) (leaf c:Int):bA Tryz.prog 141 [aw seed,ai leaf,ai c] (aw (ar seed leaf c)):=by
 refine zO Tryz.func141 15<|zP 2 [{},yH [(2,yV (aw (u64 leaf))),(4,yV (aw (u64 c))),(5,yV (AV.arr (aj [u64 leaf,u64 c]))),(6,yV (AV.own 1 (ah (words [u64 leaf,u64 c])))),(7,yV (aw (AH seed (1:Int) (words [u64 leaf,u64 c]))))]] [.aa [6,0,1,2] []] [yI (a8 leaf),yI (a8 c),yR (aj [u64 leaf,u64 c]),yI (kB [u64 leaf,u64 c] (by simp only [List.length_cons,List.length_nil];omega)),yI (aQ (words [u64 leaf,u64 c])),yI (L5 seed ((1:Int)) (words [u64 leaf,u64 c]))]<|zR (bL)
theorem pg (seed:UInt64) (leaf c:Int):bA Tryz.prog 148 [aw seed,ai leaf,ai c] (aw (ar seed leaf c)):=by
 have hw:(words [u64 leaf,u64 c]).length=16:=by rw [dZ];rfl
 refine zO Tryz.func148 15<|zP 2 [{},yH [(2,yV (aw (u64 leaf))),(4,yV (aw (u64 c))),(5,yV (AV.arr (aj [u64 leaf,u64 c]))),(6,yV (AV.own 1 (ah (words [u64 leaf,u64 c])))),(7,yV (aw (AH seed (1:Int) (words [u64 leaf,u64 c]))))]] [.aa [6,0,1,2] []] [yI (a8 leaf),yI (a8 c),yR (aj [u64 leaf,u64 c]),yI (dG [u64 leaf,u64 c] (by simp only [List.length_cons,List.length_nil];omega)),yI (aQ (words [u64 leaf,u64 c])),yI (pN seed ((1:Int)) (words [u64 leaf,u64 c]) ag)]<|zR (bL)
theorem HG (c:UInt64) (l:List UInt64) (hl:l.length=18):setCells (aj ((List.replicate 19 0).set 0 c)) 1 ((aj l).take (cV 18 1))=aj (c::l):=by
 have h1:(aj l).take (cV 18 1)=aj l:=List.take_of_length_le (by rw [bu,aE];omega)
 rw [h1,nN _ _ _ (by rw [aE,aE,List.length_set,List.length_replicate];omega),aE,hl]
 simp [aj,List.replicate_succ]
theorem tx (leaf:Int) (l:List UInt64) (hl:l.length=18):bA Tryz.prog 168 [ai leaf,.arr (aj l)] (aw (combine leaf l)):=by
 have hc:(u64 leaf::l).length=19:=by simp [hl]
 have h0:(aj l).length=18:=by rw [aE,hl]
 refine zO Tryz.func168 15<|zP 5 [{},yH [(0,yV (AV.arr (aj (List.replicate 19 0))))],yH [(1,yV (aw (u64 leaf))),(2,{k:=0}),(3,yV (AV.arr (aj ((List.replicate 19 0).set 0 (u64 leaf)))))],{hs:=[(0,{k:=1}),(2,{av:=some (AV.arr (aj (u64 leaf::l))),k:=18,b:=false})],T:=2},yH [(1,yC (kB (u64 leaf::l) ag)),(2,yV (aw (hash (2:Int) (words (u64 leaf::l)))))]] [.aa [4,5,3,0,1] [5,3]] [yR (aj (List.replicate 19 0)),yI (a8 leaf),yR (0:Int),yO (0<19),yR (aj ((List.replicate 19 0).set 0 (u64 leaf))),yL 1 19,yR (1:Int),yL 1 19,yR 19,yB (19≤maxLen) (by decide),yI h0,yB (18≤maxLen) (by decide),yB ((match List.take 18 (aj l) with| [x]=>(aj ((List.replicate 19 0).set 0 (u64 leaf))).set 1 x|l=>List.take 1 (aj ((List.replicate 19 0).set 0 (u64 leaf)))++l++List.drop (1+l.length) (aj ((List.replicate 19 0).set 0 (u64 leaf))))=aj (u64 leaf::l)) (HG _ l hl),yB (cC (aj l)) (qC _),yO (min (aj l).length (19-1)=18),yO (0<19-1),yB ((aj (u64 leaf::l)).length=19) (by simp only [aE];omega),yB (19≤maxLen) (by decide),yI (kB (u64 leaf::l) ag),yI (aQ (words (u64 leaf::l))),yI (oh ((2:Int)) (words (u64 leaf::l)))]<|zR (bL)
theorem s9 (seed:UInt64) (leaf:Int):bA Tryz.prog 143 [aw seed,ai leaf] (aw (combine leaf (bI seed leaf 18))):=by
 have hl:=s_ seed leaf 18
 refine zO Tryz.func143 23<|zQ 2 [{},yH [(0,yV (AV.arr (aj (List.replicate 18 0))))]] [yR (aj (List.replicate 18 0))]<|zS<|zq<|zB 0 (zL (fun (k:Nat)=>(⟨[(5,AV.addr 5 0),(4,AV.val (Value.int .u64 0)),(0,aw seed),(1,ai leaf),(7,ai k)],[(5,⟨1,true,false,aj (cR 18 (bI seed leaf 18) k)⟩)]⟩:AS)) (fun k=>(k≤18)) (fun k=>(18-k)) (0) ?_ (zW [.loose 5,.aa [5,4,0,1,7] [5]]) ?_)
 ·omega
 intro k hk
 have hf:=kJ hl hk
 refine zq<|zS (zD 8 ((↑k:Int)<18) (fun h=>?_) (fun h=>?_))
 ·have e1:=my hl (ag:k<18)
  have e2:=Dw seed leaf k ag
  refine a6<|zS<|zB 1<|zq<|zX (yH [(6,yV (aw (ar seed leaf (↑k:Int)))),(7,yV (aw (run leaf (↑k:Int) (0:Int) (15:Int) (ar seed leaf (↑k:Int))))),(8,{k:=k}),(9,yV (AV.arr (aj ((cR 18 (bI seed leaf 18) k).set k (run leaf (↑k:Int) (0:Int) (15:Int) (ar seed leaf (↑k:Int)))))))]) [yI (uR seed leaf ((↑k:Int))),yI (yW leaf ((↑k:Int)) ((0:Int)) ((15:Int)) (ar seed leaf (↑k:Int))),yR (↑k:Int),yO (k<18),yB ((aj (cR 18 (bI seed leaf 18) k)).set k (aw (run leaf (↑k:Int) (0:Int) (15:Int) (ar seed leaf (↑k:Int))))=aj ((cR 18 (bI seed leaf 18) k).set k (run leaf (↑k:Int) (0:Int) (15:Int) (ar seed leaf (↑k:Int))))) (kL _ _ _),yB (k+1≤(aj (cR 18 (bI seed leaf 18) k)).length) (by simp only [aE];omega)]<|aK<|al<|zX (yH [(0,yV (ai ((↑k:Int)+1)))]) [yN ((↑k:Int)+1)] (aF (k+1) ag ag (eX [.aa [5,4,0,1,7] [5]] [] [5] [yB (aj ((cR 18 (bI seed leaf 18) k).set k (run leaf (↑k:Int) (0:Int) (15:Int) (ar seed leaf (↑k:Int))))=aj (cR 18 (bI seed leaf 18) (k+1))) (congrArg aj (by rw [←e2];exact e1))]))
 ·have e:k=18:=ag
  subst e
  have e1:=ld hl
  refine zE 0<|a7<|aP<|bp<|al<|zP 1 [yH [(1,yV (AV.arr (aj (bI seed leaf 18)))),(2,yV (aw (combine leaf (bI seed leaf 18))))]] [.aa [4,8,5,0,1,7] [5]] [yR (aj (bI seed leaf 18)),yR 18,yI (tx leaf (bI seed leaf 18) rfl)]<|zR (bL)
theorem rM (seed:UInt64) (leaf:Int) (m:UInt64):bA Tryz.prog 96 [aw seed,ai leaf,aw m] (.own 1 (aj (bQ seed leaf m 18))):=by
 have hl:=rL seed leaf m 18
 have hd:=ou m
 refine zO Tryz.func96 28<|zQ 2 [{},yH [(0,yV (AV.arr (aj (List.replicate 18 0))))]] [yR (aj (List.replicate 18 0))]<|zS<|zQ 1 [yH [(1,yD (na (m)))]] [yI (na m)]<|zB 0 (zL (fun (k:Nat)=>(⟨[(11,AV.arr (ax (ct m))),(7,AV.addr 7 0),(6,AV.nil),(0,aw seed),(1,ai leaf),(2,aw m),(12,ai k)],[(7,⟨1,true,true,aj (cR 18 (bQ seed leaf m 18) k)⟩)]⟩:AS)) (fun k=>(k≤18)) (fun k=>(18-k)) (0) ?_ (zW [.aa [11,7,6,0,1,2,12] [7]]) ?_)
 ·omega
 intro k hk
 have hf:=kJ hl hk
 refine zq<|zS (zD 13 ((↑k:Int)<18) (fun h=>?_) (fun h=>?_))
 ·have e1:=my hl (ag:k<18)
  have e2:=Is seed leaf m k ag
  refine a6<|zS<|zB 1<|zP 1 [yH [(1,{av:=some (ai ((ct m).getD k (0:Int))),k:=k})]] [.aa [9,8,13,11,7,6,0,1,2,12] [7]] [yR (↑k:Int),yO (k<18),yB ((ax (ct m))[k]?=some (ai ((ct m).getD k (0:Int)))) (mn ag)]<|zX (yH [(7,yV (aw (ar seed leaf (↑k:Int)))),(8,yV (aw (run leaf (↑k:Int) (0:Int) ((ct m).getD k (0:Int)) (ar seed leaf (↑k:Int))))),(9,{k:=k}),(10,yV (AV.arr (aj ((cR 18 (bQ seed leaf m 18) k).set k (run leaf (↑k:Int) (0:Int) ((ct m).getD k (0:Int)) (ar seed leaf (↑k:Int)))))))]) [yI (uR seed leaf ((↑k:Int))),yI (yW leaf ((↑k:Int)) ((0:Int)) ((ct m).getD k (0:Int)) (ar seed leaf (↑k:Int))),yR (↑k:Int),yO (k<18),yB ((aj (cR 18 (bQ seed leaf m 18) k)).set k (aw (run leaf (↑k:Int) (0:Int) ((ct m).getD k (0:Int)) (ar seed leaf (↑k:Int))))=aj ((cR 18 (bQ seed leaf m 18) k).set k (run leaf (↑k:Int) (0:Int) ((ct m).getD k (0:Int)) (ar seed leaf (↑k:Int))))) (kL _ _ _),yB (k+1≤(aj (cR 18 (bQ seed leaf m 18) k)).length) (by simp only [aE];omega)]<|aK<|al<|zX (yH [(0,yV (ai ((↑k:Int)+1)))]) [yN ((↑k:Int)+1)] (aF (k+1) ag ag (eX [.aa [11,7,6,0,1,2,12] [7]] [] [7] [yB (aj ((cR 18 (bQ seed leaf m 18) k).set k (run leaf (↑k:Int) (0:Int) ((ct m).getD k (0:Int)) (ar seed leaf (↑k:Int))))=aj (cR 18 (bQ seed leaf m 18) (k+1))) (congrArg aj (by rw [←e2];exact e1))]))
 ·have e:k=18:=ag
  subst e
  have e1:=ld hl
  refine zE 0<|a7<|aP<|bp<|al<|zQ 1 [{}] [yR 18,yB (18≤maxLen) (by decide)]<|zR (bL)
def qw (leaf:Int) (m:UInt64) (s:List UInt64):UInt64:=if s.length=18 then combine leaf (cN leaf m s 18) else 0
def mN (s:List UInt64):Int:=if s.length=18 then 0 else 4
theorem s7 (leaf:Int) (m:UInt64) (s:List UInt64):bA Tryz.prog 150 [ai leaf,aw m,.sl 1 (aj s)] (.b_ [aw (qw leaf m s),ai (mN s)]):=by
 by_cases hs:s.length=18
 case neg =>
  have e1:qw leaf m s=0:=if_neg hs
  have e2:mN s=4:=if_neg hs
  refine zO Tryz.func150 34<|zq<|zS<|zP 1 [yH [(1,{k:=s.length})]] [.aa [13,7,6,0,1,2] []] [yI (aE s)]<|du 13 ((↑s.length:Int) != (18:Int)) (by simp;omega)<|zq<|dk (zV [yK 0 (wv (qw leaf m s)) (by rw [e1];rfl),yJ 4 (mN s) (by rw [e2])])
 have e1:qw leaf m s=combine leaf (cN leaf m s 18):=if_pos hs
 have e2:mN s=0:=if_pos hs
 have hl:=Bv leaf m s 18
 have hd:=ou m
 refine zO Tryz.func150 34<|zq<|zS<|zP 1 [yH [(1,{k:=s.length})]] [.aa [13,7,6,0,1,2] []] [yI (aE s)]<|bj 13 ((↑s.length:Int) != (18:Int)) (by simp_all)<|a6<|zQ 1 [yH [(0,yV (AV.arr (aj (List.replicate 18 0))))]] [yR (aj (List.replicate 18 0))]<|zS<|zQ 1 [yH [(1,yD (na (m)))]] [yI (na m)]<|zB 0 (zL (fun (k:Nat)=>(⟨[(15,AV.arr (ax (ct m))),(8,AV.addr 8 0),(13,ao ((↑s.length:Int) != (18:Int))),(7,ai 0),(6,AV.val (Value.int .u64 0)),(0,ai leaf),(1,aw m),(2,AV.sl 1 (aj s)),(16,ai k)],[(8,⟨1,true,false,aj (cR 18 (cN leaf m s 18) k)⟩)]⟩:AS)) (fun k=>(k≤18)) (fun k=>(18-k)) (0) ?_ (zW [.loose 8,.aa [15,8,13,7,6,0,1,2,16] [8]]) ?_)
 ·omega
 intro k hk
 have hf:=kJ hl hk
 refine zq<|zS (zD 17 ((↑k:Int)<18) (fun h=>?_) (fun h=>?_))
 ·have e3:=my hl (ag:k<18)
  have e4:=LR leaf m s k ag
  refine a6<|zS<|zB 1<|zP 1 [yH [(1,{av:=some (ai ((ct m).getD k (0:Int))),k:=k})]] [.aa [10,9,17,15,8,13,7,6,0,1,2,16] [8]] [yR (↑k:Int),yO (k<18),yB ((ax (ct m))[k]?=some (ai ((ct m).getD k (0:Int)))) (mn ag)]<|zX (yH [(6,{k:=k}),(7,yV (aw (s.getD k 0))),(8,yV (aw (run leaf (↑k:Int) ((ct m).getD k (0:Int)) (15:Int) (s.getD k 0)))),(9,{k:=k}),(10,yV (AV.arr (aj ((cR 18 (cN leaf m s 18) k).set k (run leaf (↑k:Int) ((ct m).getD k (0:Int)) (15:Int) (s.getD k 0))))))]) [yR (↑k:Int),yB (k<(aj s).length) (by simp only [aE];omega),yB ((aj s)[k]?=some (aw (s.getD k 0))) (eM ag),yI (yW leaf ((↑k:Int)) ((ct m).getD k (0:Int)) ((15:Int)) (s.getD k 0)),yR (↑k:Int),yO (k<18),yB ((aj (cR 18 (cN leaf m s 18) k)).set k (aw (run leaf (↑k:Int) ((ct m).getD k (0:Int)) (15:Int) (s.getD k 0)))=aj ((cR 18 (cN leaf m s 18) k).set k (run leaf (↑k:Int) ((ct m).getD k (0:Int)) (15:Int) (s.getD k 0)))) (kL _ _ _),yB (k+1≤(aj (cR 18 (cN leaf m s 18) k)).length) (by simp only [aE];omega)]<|aK<|al<|zX (yH [(0,yV (ai ((↑k:Int)+1)))]) [yN ((↑k:Int)+1)] (aF (k+1) ag ag (eX [.aa [15,8,13,7,6,0,1,2,16] [8]] [] [8] [yB (aj ((cR 18 (cN leaf m s 18) k).set k (run leaf (↑k:Int) ((ct m).getD k (0:Int)) (15:Int) (s.getD k 0)))=aj (cR 18 (cN leaf m s 18) (k+1))) (congrArg aj (by rw [←e4];exact e3))]))
 ·have e:k=18:=ag
  subst e
  have e3:=ld hl
  refine zE 0<|a7<|aP<|bp<|al<|zP 1 [yH [(1,yV (AV.arr (aj (cN leaf m s 18)))),(2,yV (aw (combine leaf (cN leaf m s 18))))]] [.aa [7,6,17,15,8,13,0,1,2,16] [8]] [yR (aj (cN leaf m s 18)),yR 18,yI (tx leaf (cN leaf m s 18) rfl)]<|zR (zV [yK (wv (combine leaf (cN leaf m s 18))) (wv (qw leaf m s)) (by rw [e1]),yJ 0 (mN s) (by rw [e2])])
theorem ix (m:UInt64):bA Tryz.prog 146 [aw m] (.own 1 (ax (ct m))):=by
 refine zO Tryz.func146 33<|zQ 3 [{},{},{}] []<|zS<|zq<|zB 0 (zL (fun (k:Nat)=>(⟨[(2,AV.nil),(0,aw m),(5,ai (15-k)),(4,ai (bl m k)),(3,AV.ref 21)],[(21,⟨1,true,false,ax (iH m k)⟩)]⟩:AS)) (fun k=>(k≤16)) (fun k=>(16-k)) (0) ?_ (zW [.nil 3 21 1,.aa [2,0,5,4,3] [21]]) ?_)
 ·omega
 intro k hk
 have hs:=rZ m k
 have hl:=EC m k
 refine zS<|zq (zD 8 ((15:Int)-(↑k:Int)≥0) (fun h=>?_) (fun h=>?_))
 ·have hn:=DC m k
  have e0:IntKind.u64.wrap (4*(15-(k:Int)))=((60-4*k:Nat):Int):=by rw [IntKind.wrap_u64];omega
  have e1:IntKind.i64.wrap (wv ((m>>>UInt64.ofNat (((60-4*k:Nat):Int)).toNat)&&&15))=(nD m k:Int):=by
   rw [show (((60-4*k:Nat):Int)).toNat=60-4*k by omega,Fz m k ag];exact fw ag ag
  have e4:(bl m k:Int)+(15-(nD m k:Int))=(bl m (k+1):Int):=by simp only [bl];omega
  refine a6<|zS<|zB 1<|zP 2 [yH [(2,yV (ai ((4:Int)*((15:Int)-(↑k:Int))))),(3,yV (AV.val (Value.int .u64 (↑(60-4*k):Int)))),(4,yV (aw (m>>>UInt64.ofNat (↑(60-4*k):Int).toNat))),(5,yV (aw (m>>>UInt64.ofNat (↑(60-4*k):Int).toNat&&&(15:UInt64)))),(6,yV (ai (↑(nD m k):Int)))],yH [(2,yV (AV.arr (ax [(↑(nD m k):Int)]))),(3,yV (AV.arr (ax (iH m k++ [(↑(nD m k):Int)]))))]] [.aa [3,6,8,2,0,5,4] [21]] [yN ((4:Int)*((15:Int)-(↑k:Int))),yI (yd e0),yI (fE m ((↑(60-4*k):Int)) ag ag),yO ((0:Int)≤(↑(60-4*k):Int)),yI (je (m>>>UInt64.ofNat (↑(60-4*k):Int).toNat) 15),yI (yc e1),yR [ai (↑(nD m k):Int)],yB (ax (iH m k)++ax [(↑(nD m k):Int)]=ax (iH m k++ [(↑(nD m k):Int)])) (G3 _ _),yB (((ax (iH m k)).length+1)*8≤140737488355328) (by simp only [kF];omega)]<|zX (yH [(2,yV (ai ((15:Int)-(↑(nD m k):Int)))),(3,yV (ai ((↑(bl m k):Int)+((15:Int)-(↑(nD m k):Int)))))]) [yN ((15:Int)-(↑(nD m k):Int)),yN ((↑(bl m k):Int)+((15:Int)-(↑(nD m k):Int)))]<|aK<|al<|zX (yH [(1,yV (ai ((15:Int)-(↑k:Int)-1)))]) [yN ((15:Int)-(↑k:Int)-1)] (aF (k+1) ag ag (eX [.aa [2,0,5,4,3] [21]] [5,4] [21] [yB (ai ((15:Int)-(↑k:Int)-1)=ai ((15:Int)-(↑(k+1):Int))) (congrArg (fun n=>AV.val (.int .i64 n)) ag),yB (ai ((↑(bl m k):Int)+((15:Int)-(↑(nD m k):Int)))=ai (↑(bl m (k+1)):Int)) (congrArg (fun n=>AV.val (.int .i64 n)) ag),yB (ax (iH m k++ [(↑(nD m k):Int)])=ax (iH m (k+1))) (congrArg ax (CD m k).symm)]))
 ·have e:k=16:=ag
  subst e
  have e1:IntKind.i64.wrap (((bl m 16:Nat):Int).tdiv 16)=((bl m 16/16:Nat):Int):=by
   rw [Int.tdiv_eq_ediv_of_nonneg ag];rw [fw ag ag];omega
  have e2:((bl m 16:Nat):Int)%16=((bl m 16%16:Nat):Int):=ag
  have e3:=ML m
  refine zE 0<|a7<|aP<|bp<|al<|zP 1 [yH [(2,yV (ai (↑(bl m 16/16):Int))),(4,yV (ai (↑(bl m 16%16):Int))),(5,yV (AV.arr (ax [(↑(bl m 16/16):Int),(↑(bl m 16%16):Int)]))),(6,yV (AV.arr (ax (iH m 16++ [(↑(bl m 16/16):Int),(↑(bl m 16%16):Int)]))))]] [.aa [2,8,0,5,4] [32]] [yB (ai (IntKind.i64.wrap ((↑(bl m 16):Int).tdiv (16:Int)))=ai (↑(bl m 16/16):Int)) (AA ag ag ag),yO ((16:Int)≠(0:Int)),yR (ai (↑(bl m 16%16):Int)),yO ((16:Int)≠(0:Int)),yR [ai (↑(bl m 16/16):Int),ai (↑(bl m 16%16):Int)],yR (ax (iH m 16++ [(↑(bl m 16/16):Int),(↑(bl m 16%16):Int)])),yL 144 140737488355328]<|zR (bL)
theorem s6 (leaf:Int) (l:List UInt64) (hl:l.length≤18):bA Tryz.prog 156 [ai leaf,.sl 1 (aj l)] (aw (combine leaf l)):=by
 have h1:(words [u64 leaf]).length=8:=by rw [dZ];rfl
 have h2:(words l).length=8*l.length:=dZ l
 have e:words [u64 leaf]++words l=words (u64 leaf::l):=by rw [←xm];rfl
 refine zO Tryz.func156 13<|zP 2 [{},yH [(1,yV (aw (u64 leaf))),(2,yV (AV.arr (aj [u64 leaf]))),(3,yV (AV.own 1 (ah (words [u64 leaf])))),(5,yV (AV.own 1 (ah (words l)))),(6,{av:=some (AV.arr (ah (words [u64 leaf]++words l))),b:=false}),(7,yV (aw (hash (2:Int) (words [u64 leaf]++words l))))]] [.aa [4,0,1] []] [yI (a8 leaf),yR [aw (u64 leaf)],yI (dG [u64 leaf] (by simp only [List.length_cons,List.length_nil];omega)),yI (aQ (words [u64 leaf])),yI (dG l ag),yI (aQ (words l)),yR (ah (words [u64 leaf]++words l)),yB (cC (ah (words l))) (gl _),yB ((8+(ah (words l)).length)*1≤140737488355328) (by simp only [aB];omega),yI (iN ((2:Int)) (words [u64 leaf]++words l) (by simp only [List.length_append];omega))]<|zR (bL)
theorem s5 (seed:UInt64) (leaf:Int):bA Tryz.prog 149 [aw seed,ai leaf] (aw (combine leaf (bI seed leaf 18))):=by
 refine zO Tryz.func149 24<|zQ 2 [{},{}] []<|zS<|zq<|zB 0 (zL (fun (k:Nat)=>(⟨[(4,AV.val (Value.int .u64 0)),(0,aw seed),(1,ai leaf),(6,ai k),(5,AV.ref 23)],[(23,⟨1,true,false,aj (bI seed leaf k)⟩)]⟩:AS)) (fun k=>(k≤18)) (fun k=>(18-k)) (0) ?_ (zW [.nil 5 23 1,.aa [4,0,1,6,5] [23]]) ?_)
 ·omega
 intro k hk
 have hl:=s_ seed leaf k
 refine zS<|zq (zD 8 ((↑k:Int)<18) (fun h=>?_) (fun h=>?_))
 ·skip
  refine a6<|zS<|zB 1<|zX (yH [(6,yV (aw (ar seed leaf (↑k:Int)))),(7,yV (aw (run leaf (↑k:Int) (0:Int) (15:Int) (ar seed leaf (↑k:Int))))),(8,yV (AV.arr (aj [run leaf (↑k:Int) (0:Int) (15:Int) (ar seed leaf (↑k:Int))]))),(9,yV (AV.arr (aj (bI seed leaf k++ [run leaf (↑k:Int) (0:Int) (15:Int) (ar seed leaf (↑k:Int))]))))]) [yI (pg seed leaf ((↑k:Int))),yI (pL leaf ((↑k:Int)) ((0:Int)) ((15:Int)) (ar seed leaf (↑k:Int))),yR [aw (run leaf (↑k:Int) (0:Int) (15:Int) (ar seed leaf (↑k:Int)))],yB (aj (bI seed leaf k)++aj [run leaf (↑k:Int) (0:Int) (15:Int) (ar seed leaf (↑k:Int))]=aj (bI seed leaf k++ [run leaf (↑k:Int) (0:Int) (15:Int) (ar seed leaf (↑k:Int))])) (jr _ _),yB (((aj (bI seed leaf k)).length+1)*8≤140737488355328) (by simp only [aE];omega)]<|aK<|al<|zX (yH [(1,yV (ai ((↑k:Int)+1)))]) [yN ((↑k:Int)+1)] (aF (k+1) ag ag (eX [.wU 20 23,.aa [4,0,1,6,5] [23]] [] [23] [yB (aj (bI seed leaf k++ [run leaf (↑k:Int) (0:Int) (15:Int) (ar seed leaf (↑k:Int))])=aj (bI seed leaf (k+1))) (congrArg aj (zc seed leaf k).symm)]))
 ·have e:k=18:=ag
  subst e
  refine zE 0<|a7<|aP<|bp<|al<|zP 1 [yH [(2,yV (aw (combine leaf (bI seed leaf 18))))]] [.aa [4,8,0,1,6,5] [23]] [yI (s6 leaf (bI seed leaf 18) (by assumption))]<|zR (bL)
theorem qu (seed:UInt64) (leaf:Int) (m:UInt64):bA Tryz.prog 102 [aw seed,ai leaf,aw m] (.own 1 (aj (bQ seed leaf m 18))):=by
 have hd:=ou m
 refine zO Tryz.func102 31<|zQ 3 [{},yH [(1,yC (ix (m)))],{}] [yI (ix m),yB (lM (ax (ct m))) (xr _)]<|zS<|zq<|zB 0 (zL (fun (k:Nat)=>(⟨[(7,AV.ref 11),(6,AV.nil),(0,aw seed),(1,ai leaf),(2,aw m),(9,ai k),(8,AV.ref 29)],[(11,⟨1,true,false,ax (ct m)⟩),(29,⟨1,true,false,aj (bQ seed leaf m k)⟩)]⟩:AS)) (fun k=>(k≤18)) (fun k=>(18-k)) (0) ?_ (zW [.nil 8 29 1,.aa [7,6,0,1,2,9,8] [11,29]]) ?_)
 ·omega
 intro k hk
 have hl:=rL seed leaf m k
 refine zS<|zq (zD 13 ((↑k:Int)<18) (fun h=>?_) (fun h=>?_))
 ·skip
  refine a6<|zS<|zB 1<|zX ({hs:=[(5,{k:=k}),(6,yV (ai ((ct m).getD k (0:Int)))),(10,yV (aw (ar seed leaf (↑k:Int)))),(11,yV (aw (run leaf (↑k:Int) (0:Int) ((ct m).getD k (0:Int)) (ar seed leaf (↑k:Int))))),(12,yV (AV.arr (aj [run leaf (↑k:Int) (0:Int) ((ct m).getD k (0:Int)) (ar seed leaf (↑k:Int))]))),(13,yV (AV.arr (aj (bQ seed leaf m k++ [run leaf (↑k:Int) (0:Int) ((ct m).getD k (0:Int)) (ar seed leaf (↑k:Int))]))))],T:=13}) [yR (↑k:Int),yO (k<18),yB ((ax (ct m))[k]?=some (ai ((ct m).getD k (0:Int)))) (mn ag),yI (pg seed leaf ((↑k:Int))),yI (pL leaf ((↑k:Int)) ((0:Int)) ((ct m).getD k (0:Int)) (ar seed leaf (↑k:Int))),yR [aw (run leaf (↑k:Int) (0:Int) ((ct m).getD k (0:Int)) (ar seed leaf (↑k:Int)))],yB (aj (bQ seed leaf m k)++aj [run leaf (↑k:Int) (0:Int) ((ct m).getD k (0:Int)) (ar seed leaf (↑k:Int))]=aj (bQ seed leaf m k++ [run leaf (↑k:Int) (0:Int) ((ct m).getD k (0:Int)) (ar seed leaf (↑k:Int))])) (jr _ _),yB (((aj (bQ seed leaf m k)).length+1)*8≤140737488355328) (by simp only [aE];omega)]<|aK<|al<|zX (yH [(1,yV (ai ((↑k:Int)+1)))]) [yN ((↑k:Int)+1)] (aF (k+1) ag ag (eX [.aa [7,6,0,1,2,9,8] [11,29]] [] [29] [yB (aj (bQ seed leaf m k++ [run leaf (↑k:Int) (0:Int) ((ct m).getD k (0:Int)) (ar seed leaf (↑k:Int))])=aj (bQ seed leaf m (k+1))) (congrArg aj (Dd seed leaf m k).symm)]))
 ·have e:k=18:=ag
  subst e
  refine zE 0<|a7<|aP<|bp<|al<|zP 1 [{}] [.aa [6,13,7,0,1,2,9,8] [11,29]] []<|zR (bL)
end Go.Proofs.YtjgbhhnghedgdaaGreatDoor
