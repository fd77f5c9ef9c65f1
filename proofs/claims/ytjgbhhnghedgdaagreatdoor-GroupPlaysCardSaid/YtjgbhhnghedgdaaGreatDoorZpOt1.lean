import Derived.Test.YtjgbhhnghedgdaaGreatDoorZpRec3
set_option linter.all false
namespace Go.Proofs.YtjgbhhnghedgdaaGreatDoor
open Go.RowKit
set_option maxRecDepth 100000
set_option maxHeartbeats 4000000
theorem eY {n:Int} (h0:0≤n) (h1:n≤9223372036854775807):IntKind.i64.wrap n=n:=by
 have:=d_ (n:=n) aj h1
 injection this with this;injection this
theorem uX (m:UInt64):bK Tryz.prog 139 [aw m] (.arr (ax (b_ m))):=by
 refine zO Tryz.func139 32<|zQ 3 [yH [(0,yV (AV.arr (ax (List.replicate 18 (0:Int)))))],yH [(0,yV (AV.arr (ax (List.replicate 18 (0:Int)))))],{}] (yM 2 (yR (ax (List.replicate 18 (0:Int)))))<|zS<|zq<|zB 0 (zL (fun (k:Nat)=>(⟨[(3,AV.addr 3 0),(2,AV.addr 2 0),(0,aw m),(6,ai k),(4,ai (bl m k))],[(2,⟨1,true,true,ax (List.replicate 18 (0:Int))⟩),(3,⟨1,true,false,ax (iZ m k)⟩)]⟩:AS)) (fun k=>(k≤16)) (fun k=>(16-k)) (0) ?_ (zW [.loose 3,.aa [3,2,0,6,4] [2,3]]) ?_)
 ·omega
 intro k hk
 have hs:=qQ m k
 refine zq<|zS (zD 7 ((↑k:Int)<16) (fun h=>?_) (fun h=>?_))
 ·have hn:=B4 m k
  have e1:IntKind.i64.wrap (wv ((m>>>UInt64.ofNat (60-4*(k:Int)).toNat)&&&15))=(mR m k:Int):=by
   rw [show (60-4*(k:Int)).toNat=60-4*k by omega,DS m k aj];exact eY aj aj
  have e2:=I1 m k
  have e3:(iZ m (k+1)).getD k 0=(mR m k:Int):=by rw [K9 m _ k aj,if_pos aj]
  have e4:IntKind.i64.wrap ((bl m k:Int)+IntKind.i64.wrap (15-((iZ m k).set k (mR m k:Int)).getD k 0))=(bl m (k+1):Int):=by
   rw [e2,e3,eY (n:=15-_) aj aj,eY aj aj];simp only [bl];omega
  refine a7<|zS<|zB 1<|zP 2 [{},yH [(3,yV (ai ((4:Int)*(↑k:Int)))),(4,yV (ai ((60:Int)-4*(↑k:Int)))),(5,yV (aw (m>>>UInt64.ofNat ((60:Int)-4*(↑k:Int)).toNat))),(6,yV (aw (m>>>UInt64.ofNat ((60:Int)-4*(↑k:Int)).toNat&&&(15:UInt64)))),(7,yV (ai (↑(mR m k):Int))),(8,{k:=k}),(9,yV (AV.arr (ax ((iZ m k).set k (↑(mR m k):Int)))))]] [.aa [5,7,3,2,0,6,4] [3,2]] [yN ((4:Int)*(↑k:Int)),yN ((60:Int)-4*(↑k:Int)),yI (fg m ((60:Int)-4*(↑k:Int)) aj aj),yO ((0:Int)≤60-4*(↑k:Int)),yI (iV (m>>>UInt64.ofNat ((60:Int)-4*(↑k:Int)).toNat) 15),yI (yc e1),yR (↑k:Int),yO (k<18),yB ((ax (iZ m k)).set k (ai (↑(mR m k):Int))=ax ((iZ m k).set k (↑(mR m k):Int))) (Fc _ _ _),yO (k+1≤18)]<|zX (yH [(2,{k:=k}),(3,yV (ai (((iZ m k).set k (↑(mR m k):Int)).getD k (0:Int))))]) [yR (↑k:Int),yO (k<18),yB ((ax ((iZ m k).set k (↑(mR m k):Int)))[k]?=some (ai (((iZ m k).set k (↑(mR m k):Int)).getD k (0:Int)))) (lO (by simp only [List.length_set,I2];omega))]<|aL<|ak<|zX (yH [(0,yV (ai ((↑k:Int)+1)))]) [yN ((↑k:Int)+1)] (aH (k+1) aj aj (eJ [.aa [3,2,0,6,4] [2,3]] [4] [3] [yI (yc e4),yB (ax ((iZ m k).set k (↑(mR m k):Int))=ax (iZ m (k+1))) (congrArg ax e2)]))
 ·have e:k=16:=aj
  subst e
  have e1:IntKind.i64.wrap (((bl m 16:Nat):Int).tdiv 16)=((bl m 16/16:Nat):Int):=by
   rw [Int.tdiv_eq_ediv_of_nonneg aj];rw [eY aj aj];omega
  have e2:((bl m 16:Nat):Int)%16=((bl m 16%16:Nat):Int):=aj
  have e3:=I3 m
  refine zE 0<|a_<|aP<|bo<|ak<|bf.tI 3 [{hs:=[(1,{av:=some (ai (↑(bl m 16/16):Int))}),(2,{k:=16}),(3,{av:=some (AV.arr (ax ((iZ m 16).set 16 (↑(bl m 16/16):Int))))})]},{hs:=[(1,{av:=some (ai ((↑(bl m 16):Int)%(16:Int)))}),(2,{av:=some (ai (↑(bl m 16%16):Int)),k:=17}),(3,{av:=some (AV.arr (ax (((iZ m 16).set 16 (↑(bl m 16/16):Int)).set 17 ((↑(bl m 16):Int)%(16:Int)))))})]},{hs:=[(0,{av:=some (AV.arr (ax (b_ m)))}),(1,{av:=some (AV.arr (ax (b_ m))),k:=1})]}] [.aa [7,3,2,0,6,4] [2,3]] bD (C:=[ai (IntKind.i64.wrap ((↑(bl m 16):Int).tdiv (16:Int)))=ai (↑(bl m 16/16):Int),(16:Int)≠(0:Int),(16:Int)=(↑(16:Nat):Int),16<18,(ax (iZ m 16)).set 16 (ai (↑(bl m 16/16):Int))=ax ((iZ m 16).set 16 (↑(bl m 16/16):Int)),17≤18,ai ((↑(bl m 16):Int).tmod (16:Int))=ai ((↑(bl m 16):Int)%(16:Int)),(16:Int)≠(0:Int),(17:Int)=(↑(17:Nat):Int),17<18,(ax ((iZ m 16).set 16 (↑(bl m 16/16):Int))).set 17 (ai ((↑(bl m 16):Int)%(16:Int)))=ax (((iZ m 16).set 16 (↑(bl m 16/16):Int)).set 17 ((↑(bl m 16):Int)%(16:Int))),18≤18,List.take 18 (List.drop 0 (ax (((iZ m 16).set 16 (↑(bl m 16/16):Int)).set 17 ((↑(bl m 16):Int)%(16:Int)))))=ax (b_ m),(ax (b_ m)).length=18,List.take 0 (ax (List.replicate 18 (0:Int)))++ax (b_ m)++List.drop 18 (ax (List.replicate 18 (0:Int)))=ax (b_ m),(ax (b_ m)).length=18,∀(x:AV),x∈ax (b_ m)->ic x=true,18≤18]) bD ⟨(yx aj aj aj),aj,rfl,aj,rfl,aj,rfl,aj,rfl,aj,rfl,aj,rfl,rfl,rfl,rfl,(Ae _),aj,trivial⟩<|zR (zV [yR 18,yR (ax (b_ m))])
theorem w_ (leaf chain src dst:Int) (x:UInt64):bK Tryz.prog 140 [ai leaf,ai chain,ai src,ai dst,aw x] (aw (run leaf chain src dst x)):=by
 unfold run
 have hp:(if 0>src then 0 else src)=max src 0:=by split<;>omega
 have he:(if 15<dst then 15 else dst)=min dst 15:=by split<;>omega
 generalize Ui:max src 0=p at *
 generalize RN:min dst 15=e at *
 refine zO Tryz.func140 33<|zP 2 [{},yH [(1,yV (ai e))]] [.aa [11,10,0,1,2,3,4] []] [yI (yc he)]<|zS<|zP 1 [yH [(1,yV (ai p))]] [.aa [12,11,10,0,1,2,3,4] []] [yI (yc hp)]<|zB 0 (zL (fun (k:Nat)=>(⟨[(11,ai e),(10,AV.val (Value.int .u64 0)),(0,ai leaf),(1,ai chain),(2,ai src),(3,ai dst),(12,ai (p+k)),(4,aw (jC leaf chain p x k))],[]⟩:AS)) (fun k=>(k≤(e-p).toNat)) (fun k=>((e-p).toNat-k)) (0) ?_ (eJ [.aa [11,10,0,1,2,3,12,4] []] [12] [] [yB (ai p=ai (p+(↑(0:Nat):Int))) (congrArg (fun n=>AV.val (.int .i64 n)) aj)]) ?_)
 ·omega
 intro k hk
 refine zS<|zP 1 [{}] [.aa [19,11,10,0,1,2,3,12,4] []] [] (zD 19 (p+(↑k:Int)<e) (fun h=>?_) (fun h=>?_))
 ·have hw:(words [u64 leaf,u64 chain,u64 (p+k),jC leaf chain p x k]).length=32:=by rw [dN];rfl
  refine a7<|zS<|zB 1<|zX (yH [(1,yV (aw (u64 leaf))),(3,yV (aw (u64 chain))),(5,yV (aw (u64 (p+(↑k:Int))))),(7,yV (AV.arr (ah [u64 leaf,u64 chain,u64 (p+(↑k:Int)),jC leaf chain p x k]))),(8,yV (AV.own 1 (ag (words [u64 leaf,u64 chain,u64 (p+(↑k:Int)),jC leaf chain p x k])))),(9,yV (aw (hash (1:Int) (words [u64 leaf,u64 chain,u64 (p+(↑k:Int)),jC leaf chain p x k]))))]) [yI (a8 leaf),yI (a8 chain),yI (a8 (p+(↑k:Int))),yR (ah [u64 leaf,u64 chain,u64 (p+(↑k:Int)),jC leaf chain p x k]),yI (lD [u64 leaf,u64 chain,u64 (p+(↑k:Int)),jC leaf chain p x k] (by simp only [List.length_cons,List.length_nil];omega)),yI (aQ (words [u64 leaf,u64 chain,u64 (p+(↑k:Int)),jC leaf chain p x k])),yI (nv ((1:Int)) (words [u64 leaf,u64 chain,u64 (p+(↑k:Int)),jC leaf chain p x k]))]<|aL<|ak<|zX (yH [(1,yV (ai (p+(↑k:Int)+1)))]) [yN (p+(↑k:Int)+1)] (aH (k+1) aj aj (eJ [.aa [11,10,0,1,2,3,12,4] []] [12] [] [yB (ai (p+(↑k:Int)+1)=ai (p+(↑(k+1):Int))) (congrArg (fun n=>AV.val (.int .i64 n)) aj)]))
 ·have e1:k=(e-p).toNat:=aj
  subst e1
  refine zE 0<|a_<|aP<|bo<|ak<|zP 1 [{}] [.aa [10,19,11,0,1,2,3,12,4] []] []<|zR (bU)
theorem oS (leaf chain src dst:Int) (x:UInt64):bK Tryz.prog 147 [ai leaf,ai chain,ai src,ai dst,aw x] (aw (run leaf chain src dst x)):=by
 unfold run
 have hp:(if 0>src then 0 else src)=max src 0:=by split<;>omega
 have he:(if 15<dst then 15 else dst)=min dst 15:=by split<;>omega
 generalize Ui:max src 0=p at *
 generalize RN:min dst 15=e at *
 refine zO Tryz.func147 31<|zq<|zS<|zP 1 [yH [(1,yV (ai p))]] [.aa [11,10,0,1,2,3,4] []] [yI (yc hp)]<|zB 0 (zL (fun (k:Nat)=>(⟨[(10,AV.val (Value.int .u64 0)),(0,ai leaf),(1,ai chain),(2,ai src),(3,ai dst),(11,ai (p+k)),(4,aw (jC leaf chain p x k))],[]⟩:AS)) (fun k=>(k≤(e-p).toNat)) (fun k=>((e-p).toNat-k)) (0) ?_ (eJ [.aa [10,0,1,2,3,11,4] []] [11] [] [yB (ai p=ai (p+(↑(0:Nat):Int))) (congrArg (fun n=>AV.val (.int .i64 n)) aj)]) ?_)
 ·omega
 intro k hk
 refine zS<|zP 1 [yH [(2,yV (ai e))]] [.aa [17,10,0,1,2,3,11,4] []] [yI (yc he)] (zD 17 (p+(↑k:Int)<e) (fun h=>?_) (fun h=>?_))
 ·have hw:(words [u64 leaf,u64 chain,u64 (p+k),jC leaf chain p x k]).length=32:=by rw [dN];rfl
  refine a7<|zS<|zB 1<|zX (yH [(1,yV (aw (u64 leaf))),(3,yV (aw (u64 chain))),(5,yV (aw (u64 (p+(↑k:Int))))),(7,yV (AV.arr (ah [u64 leaf,u64 chain,u64 (p+(↑k:Int)),jC leaf chain p x k]))),(8,yV (AV.own 1 (ag (words [u64 leaf,u64 chain,u64 (p+(↑k:Int)),jC leaf chain p x k])))),(9,yV (aw (hash (1:Int) (words [u64 leaf,u64 chain,u64 (p+(↑k:Int)),jC leaf chain p x k]))))]) [yI (a8 leaf),yI (a8 chain),yI (a8 (p+(↑k:Int))),yR (ah [u64 leaf,u64 chain,u64 (p+(↑k:Int)),jC leaf chain p x k]),yI (dv [u64 leaf,u64 chain,u64 (p+(↑k:Int)),jC leaf chain p x k] (by simp only [List.length_cons,List.length_nil];omega)),yI (aQ (words [u64 leaf,u64 chain,u64 (p+(↑k:Int)),jC leaf chain p x k])),yI (iy ((1:Int)) (words [u64 leaf,u64 chain,u64 (p+(↑k:Int)),jC leaf chain p x k]) aj)]<|aL<|ak<|zX (yH [(1,yV (ai (p+(↑k:Int)+1)))]) [yN (p+(↑k:Int)+1)] (aH (k+1) aj aj (eJ [.aa [10,0,1,2,3,11,4] []] [11] [] [yB (ai (p+(↑k:Int)+1)=ai (p+(↑(k+1):Int))) (congrArg (fun n=>AV.val (.int .i64 n)) aj)]))
 ·have e1:k=(e-p).toNat:=aj
  subst e1
  refine zE 0<|a_<|aP<|bo<|ak<|zP 1 [{}] [.aa [10,17,0,1,2,3,11,4] []] []<|zR (bU)
theorem tC (seed:UInt64) (leaf c:Int):bK Tryz.prog 141 [aw seed,ai leaf,ai c] (aw (ar seed leaf c)):=by
 refine zO Tryz.func141 15<|zP 2 [{},yH [(2,yV (aw (u64 leaf))),(4,yV (aw (u64 c))),(5,yV (AV.arr (ah [u64 leaf,u64 c]))),(6,yV (AV.own 1 (ag (words [u64 leaf,u64 c])))),(7,yV (aw (yQ seed (1:Int) (words [u64 leaf,u64 c]))))]] [.aa [6,0,1,2] []] [yI (a8 leaf),yI (a8 c),yR (ah [u64 leaf,u64 c]),yI (lD [u64 leaf,u64 c] (by simp only [List.length_cons,List.length_nil];omega)),yI (aQ (words [u64 leaf,u64 c])),yI (Kh seed ((1:Int)) (words [u64 leaf,u64 c]))]<|zR (bU)
theorem oB (seed:UInt64) (leaf c:Int):bK Tryz.prog 148 [aw seed,ai leaf,ai c] (aw (ar seed leaf c)):=by
 have hw:(words [u64 leaf,u64 c]).length=16:=by rw [dN];rfl
 refine zO Tryz.func148 15<|zP 2 [{},yH [(2,yV (aw (u64 leaf))),(4,yV (aw (u64 c))),(5,yV (AV.arr (ah [u64 leaf,u64 c]))),(6,yV (AV.own 1 (ag (words [u64 leaf,u64 c])))),(7,yV (aw (yQ seed (1:Int) (words [u64 leaf,u64 c]))))]] [.aa [6,0,1,2] []] [yI (a8 leaf),yI (a8 c),yR (ah [u64 leaf,u64 c]),yI (dv [u64 leaf,u64 c] (by simp only [List.length_cons,List.length_nil];omega)),yI (aQ (words [u64 leaf,u64 c])),yI (oT seed ((1:Int)) (words [u64 leaf,u64 c]) aj)]<|zR (bU)
theorem FN (c:UInt64) (l:List UInt64) (hl:l.length=18):setCells (ah ((List.replicate 19 0).set 0 c)) 1 ((ah l).take (cS 18 1))=ah (c::l):=by
 have h1:(ah l).take (cS 18 1)=ah l:=List.take_of_length_le (by rw [bw,aB];omega)
 rw [h1,m7 _ _ _ (by rw [aB,aB,List.length_set,List.length_replicate];omega),aB,hl]
 simp [ah,List.replicate_succ]
theorem sc (leaf:Int) (l:List UInt64) (hl:l.length=18):bK Tryz.prog 168 [ai leaf,.arr (ah l)] (aw (combine leaf l)):=by
 have hc:(u64 leaf::l).length=19:=by simp [hl]
 have h0:(ah l).length=18:=by rw [aB,hl]
 refine zO Tryz.func168 15<|zP 5 [{},yH [(0,yV (AV.arr (ah (List.replicate 19 0))))],yH [(1,yV (aw (u64 leaf))),(2,{k:=0}),(3,yV (AV.arr (ah ((List.replicate 19 0).set 0 (u64 leaf)))))],{hs:=[(0,{k:=1}),(2,{av:=some (AV.arr (ah (u64 leaf::l))),k:=18,b:=false})],T:=2},yH [(1,yV (AV.own 1 (ag (words (u64 leaf::l))))),(2,yV (aw (hash (2:Int) (words (u64 leaf::l)))))]] [.aa [4,5,3,0,1] [5,3]] [yR (ah (List.replicate 19 0)),yI (a8 leaf),yR (0:Int),yO (0<19),yR (ah ((List.replicate 19 0).set 0 (u64 leaf))),yL 1 19,yR (1:Int),yL 1 19,yR 19,yB (19≤maxLen) (by decide),yI h0,yB (18≤maxLen) (by decide),yB ((match List.take 18 (ah l) with| [x]=>(ah ((List.replicate 19 0).set 0 (u64 leaf))).set 1 x|l=>List.take 1 (ah ((List.replicate 19 0).set 0 (u64 leaf)))++l++List.drop (1+l.length) (ah ((List.replicate 19 0).set 0 (u64 leaf))))=ah (u64 leaf::l)) (FN _ l hl),yB (cH (ah l)) (pL _),yO (min (ah l).length (19-1)=18),yO (0<19-1),yB ((ah (u64 leaf::l)).length=19) (by simp only [aB];omega),yB (19≤maxLen) (by decide),yI (lD (u64 leaf::l) aj),yI (aQ (words (u64 leaf::l))),yI (nv ((2:Int)) (words (u64 leaf::l)))]<|zR (bU)
theorem z_ (seed:UInt64) (leaf:Int):bK Tryz.prog 143 [aw seed,ai leaf] (aw (combine leaf (bG seed leaf 18))):=by
 have hl:=rP seed leaf 18
 refine zO Tryz.func143 23<|zQ 2 [{},yH [(0,yV (AV.arr (ah (List.replicate 18 0))))]] [yR (ah (List.replicate 18 0))]<|zS<|zq<|zB 0 (zL (fun (k:Nat)=>(⟨[(5,AV.addr 5 0),(4,AV.val (Value.int .u64 0)),(0,aw seed),(1,ai leaf),(7,ai k)],[(5,⟨1,true,false,ah (cQ 18 (bG seed leaf 18) k)⟩)]⟩:AS)) (fun k=>(k≤18)) (fun k=>(18-k)) (0) ?_ (zW [.loose 5,.aa [5,4,0,1,7] [5]]) ?_)
 ·omega
 intro k hk
 have hf:=kk hl hk
 refine zq<|zS (zD 8 ((↑k:Int)<18) (fun h=>?_) (fun h=>?_))
 ·have e1:=lT hl (aj:k<18)
  have e2:=BX seed leaf k aj
  refine a7<|zS<|zB 1<|zq<|zX (yH [(6,yV (aw (ar seed leaf (↑k:Int)))),(7,yV (aw (run leaf (↑k:Int) (0:Int) (15:Int) (ar seed leaf (↑k:Int))))),(8,{k:=k}),(9,yV (AV.arr (ah ((cQ 18 (bG seed leaf 18) k).set k (run leaf (↑k:Int) (0:Int) (15:Int) (ar seed leaf (↑k:Int)))))))]) [yI (tC seed leaf ((↑k:Int))),yI (w_ leaf ((↑k:Int)) ((0:Int)) ((15:Int)) (ar seed leaf (↑k:Int))),yR (↑k:Int),yO (k<18),yB ((ah (cQ 18 (bG seed leaf 18) k)).set k (aw (run leaf (↑k:Int) (0:Int) (15:Int) (ar seed leaf (↑k:Int))))=ah ((cQ 18 (bG seed leaf 18) k).set k (run leaf (↑k:Int) (0:Int) (15:Int) (ar seed leaf (↑k:Int))))) (ko _ _ _),yB (k+1≤(ah (cQ 18 (bG seed leaf 18) k)).length) (by simp only [aB];omega)]<|aL<|ak<|zX (yH [(0,yV (ai ((↑k:Int)+1)))]) [yN ((↑k:Int)+1)] (aH (k+1) aj aj (eJ [.aa [5,4,0,1,7] [5]] [] [5] [yB (ah ((cQ 18 (bG seed leaf 18) k).set k (run leaf (↑k:Int) (0:Int) (15:Int) (ar seed leaf (↑k:Int))))=ah (cQ 18 (bG seed leaf 18) (k+1))) (congrArg ah (by rw [←e2];exact e1))]))
 ·have e:k=18:=aj
  subst e
  have e1:=kH hl
  refine zE 0<|a_<|aP<|bo<|ak<|zP 1 [yH [(1,yV (AV.arr (ah (bG seed leaf 18)))),(2,yV (aw (combine leaf (bG seed leaf 18))))]] [.aa [4,8,5,0,1,7] [5]] [yR (ah (bG seed leaf 18)),yR 18,yI (sc leaf (bG seed leaf 18) rfl)]<|zR (bU)
theorem vV (seed:UInt64) (leaf:Int) (m:UInt64):bK Tryz.prog 96 [aw seed,ai leaf,aw m] (.own 1 (ah (bT seed leaf m 18))):=by
 have hl:=qE seed leaf m 18
 have hd:=nC m
 refine zO Tryz.func96 28<|zQ 2 [{},yH [(0,yV (AV.arr (ah (List.replicate 18 0))))]] [yR (ah (List.replicate 18 0))]<|zS<|zQ 1 [yH [(1,{av:=some (AV.arr (ax (b_ m))),b:=false})]] [yI (uX m)]<|zB 0 (zL (fun (k:Nat)=>(⟨[(11,AV.arr (ax (b_ m))),(7,AV.addr 7 0),(6,AV.nil),(0,aw seed),(1,ai leaf),(2,aw m),(12,ai k)],[(7,⟨1,true,true,ah (cQ 18 (bT seed leaf m 18) k)⟩)]⟩:AS)) (fun k=>(k≤18)) (fun k=>(18-k)) (0) ?_ (zW [.aa [11,7,6,0,1,2,12] [7]]) ?_)
 ·omega
 intro k hk
 have hf:=kk hl hk
 refine zq<|zS (zD 13 ((↑k:Int)<18) (fun h=>?_) (fun h=>?_))
 ·have e1:=lT hl (aj:k<18)
  have e2:=GH seed leaf m k aj
  refine a7<|zS<|zB 1<|zP 1 [yH [(1,{av:=some (ai ((b_ m).getD k (0:Int))),k:=k})]] [.aa [9,8,13,11,7,6,0,1,2,12] [7]] [yR (↑k:Int),yO (k<18),yB ((ax (b_ m))[k]?=some (ai ((b_ m).getD k (0:Int)))) (lO aj)]<|zX (yH [(7,yV (aw (ar seed leaf (↑k:Int)))),(8,yV (aw (run leaf (↑k:Int) (0:Int) ((b_ m).getD k (0:Int)) (ar seed leaf (↑k:Int))))),(9,{k:=k}),(10,yV (AV.arr (ah ((cQ 18 (bT seed leaf m 18) k).set k (run leaf (↑k:Int) (0:Int) ((b_ m).getD k (0:Int)) (ar seed leaf (↑k:Int)))))))]) [yI (tC seed leaf ((↑k:Int))),yI (w_ leaf ((↑k:Int)) ((0:Int)) ((b_ m).getD k (0:Int)) (ar seed leaf (↑k:Int))),yR (↑k:Int),yO (k<18),yB ((ah (cQ 18 (bT seed leaf m 18) k)).set k (aw (run leaf (↑k:Int) (0:Int) ((b_ m).getD k (0:Int)) (ar seed leaf (↑k:Int))))=ah ((cQ 18 (bT seed leaf m 18) k).set k (run leaf (↑k:Int) (0:Int) ((b_ m).getD k (0:Int)) (ar seed leaf (↑k:Int))))) (ko _ _ _),yB (k+1≤(ah (cQ 18 (bT seed leaf m 18) k)).length) (by simp only [aB];omega)]<|aL<|ak<|zX (yH [(0,yV (ai ((↑k:Int)+1)))]) [yN ((↑k:Int)+1)] (aH (k+1) aj aj (eJ [.aa [11,7,6,0,1,2,12] [7]] [] [7] [yB (ah ((cQ 18 (bT seed leaf m 18) k).set k (run leaf (↑k:Int) (0:Int) ((b_ m).getD k (0:Int)) (ar seed leaf (↑k:Int))))=ah (cQ 18 (bT seed leaf m 18) (k+1))) (congrArg ah (by rw [←e2];exact e1))]))
 ·have e:k=18:=aj
  subst e
  have e1:=kH hl
  refine zE 0<|a_<|aP<|bo<|ak<|zQ 1 [{}] [yR 18,yB (18≤maxLen) (by decide)]<|zR (bU)
def om (leaf:Int) (m:UInt64) (s:List UInt64):UInt64:=if s.length=18 then combine leaf (cM leaf m s 18) else 0
def ll (s:List UInt64):Int:=if s.length=18 then 0 else 4
theorem z7 (leaf:Int) (m:UInt64) (s:List UInt64):bK Tryz.prog 150 [ai leaf,aw m,.sl 1 (ah s)] (.br [aw (om leaf m s),ai (ll s)]):=by
 by_cases hs:s.length=18
 case neg =>
  have e1:om leaf m s=0:=if_neg hs
  have e2:ll s=4:=if_neg hs
  refine zO Tryz.func150 34<|zq<|zS<|zP 1 [yH [(1,{k:=s.length})]] [.aa [13,7,6,0,1,2] []] [yI (aB s)]<|dr 13 ((↑s.length:Int) != (18:Int)) (by simp;omega)<|zq<|dt (zV [yK 0 (wv (om leaf m s)) (by rw [e1];rfl),yJ 4 (ll s) (by rw [e2])])
 have e1:om leaf m s=combine leaf (cM leaf m s 18):=if_pos hs
 have e2:ll s=0:=if_pos hs
 have hl:=z8 leaf m s 18
 have hd:=nC m
 refine zO Tryz.func150 34<|zq<|zS<|zP 1 [yH [(1,{k:=s.length})]] [.aa [13,7,6,0,1,2] []] [yI (aB s)]<|bj 13 ((↑s.length:Int) != (18:Int)) (by simp_all)<|a7<|zQ 1 [yH [(0,yV (AV.arr (ah (List.replicate 18 0))))]] [yR (ah (List.replicate 18 0))]<|zS<|zQ 1 [yH [(1,{av:=some (AV.arr (ax (b_ m))),b:=false})]] [yI (uX m)]<|zB 0 (zL (fun (k:Nat)=>(⟨[(15,AV.arr (ax (b_ m))),(8,AV.addr 8 0),(13,ao ((↑s.length:Int) != (18:Int))),(7,ai 0),(6,AV.val (Value.int .u64 0)),(0,ai leaf),(1,aw m),(2,AV.sl 1 (ah s)),(16,ai k)],[(8,⟨1,true,false,ah (cQ 18 (cM leaf m s 18) k)⟩)]⟩:AS)) (fun k=>(k≤18)) (fun k=>(18-k)) (0) ?_ (zW [.loose 8,.aa [15,8,13,7,6,0,1,2,16] [8]]) ?_)
 ·omega
 intro k hk
 have hf:=kk hl hk
 refine zq<|zS (zD 17 ((↑k:Int)<18) (fun h=>?_) (fun h=>?_))
 ·have e3:=lT hl (aj:k<18)
  have e4:=J9 leaf m s k aj
  refine a7<|zS<|zB 1<|zP 1 [yH [(1,{av:=some (ai ((b_ m).getD k (0:Int))),k:=k})]] [.aa [10,9,17,15,8,13,7,6,0,1,2,16] [8]] [yR (↑k:Int),yO (k<18),yB ((ax (b_ m))[k]?=some (ai ((b_ m).getD k (0:Int)))) (lO aj)]<|zX (yH [(6,{k:=k}),(7,yV (aw (s.getD k 0))),(8,yV (aw (run leaf (↑k:Int) ((b_ m).getD k (0:Int)) (15:Int) (s.getD k 0)))),(9,{k:=k}),(10,yV (AV.arr (ah ((cQ 18 (cM leaf m s 18) k).set k (run leaf (↑k:Int) ((b_ m).getD k (0:Int)) (15:Int) (s.getD k 0))))))]) [yR (↑k:Int),yB (k<(ah s).length) (by simp only [aB];omega),yB ((ah s)[k]?=some (aw (s.getD k 0))) (dB aj),yI (w_ leaf ((↑k:Int)) ((b_ m).getD k (0:Int)) ((15:Int)) (s.getD k 0)),yR (↑k:Int),yO (k<18),yB ((ah (cQ 18 (cM leaf m s 18) k)).set k (aw (run leaf (↑k:Int) ((b_ m).getD k (0:Int)) (15:Int) (s.getD k 0)))=ah ((cQ 18 (cM leaf m s 18) k).set k (run leaf (↑k:Int) ((b_ m).getD k (0:Int)) (15:Int) (s.getD k 0)))) (ko _ _ _),yB (k+1≤(ah (cQ 18 (cM leaf m s 18) k)).length) (by simp only [aB];omega)]<|aL<|ak<|zX (yH [(0,yV (ai ((↑k:Int)+1)))]) [yN ((↑k:Int)+1)] (aH (k+1) aj aj (eJ [.aa [15,8,13,7,6,0,1,2,16] [8]] [] [8] [yB (ah ((cQ 18 (cM leaf m s 18) k).set k (run leaf (↑k:Int) ((b_ m).getD k (0:Int)) (15:Int) (s.getD k 0)))=ah (cQ 18 (cM leaf m s 18) (k+1))) (congrArg ah (by rw [←e4];exact e3))]))
 ·have e:k=18:=aj
  subst e
  have e3:=kH hl
  refine zE 0<|a_<|aP<|bo<|ak<|zP 1 [yH [(1,yV (AV.arr (ah (cM leaf m s 18)))),(2,yV (aw (combine leaf (cM leaf m s 18))))]] [.aa [7,6,17,15,8,13,0,1,2,16] [8]] [yR (ah (cM leaf m s 18)),yR 18,yI (sc leaf (cM leaf m s 18) rfl)]<|zR (zV [yK (wv (combine leaf (cM leaf m s 18))) (wv (om leaf m s)) (by rw [e1]),yJ 0 (ll s) (by rw [e2])])
theorem mF (m:UInt64):bK Tryz.prog 146 [aw m] (.own 1 (ax (b_ m))):=by
 refine zO Tryz.func146 33<|zQ 3 [{},{},{}] []<|zS<|zq<|zB 0 (zL (fun (k:Nat)=>(⟨[(2,AV.nil),(0,aw m),(5,ai (15-k)),(4,ai (bl m k)),(3,AV.ref 21)],[(21,⟨1,true,false,ax (ir m k)⟩)]⟩:AS)) (fun k=>(k≤16)) (fun k=>(16-k)) (0) ?_ (zW [.nil 3 21 1,.aa [2,0,5,4,3] [21]]) ?_)
 ·omega
 intro k hk
 have hs:=qQ m k
 have hl:=C3 m k
 refine zS<|zq (zD 8 ((15:Int)-(↑k:Int)≥0) (fun h=>?_) (fun h=>?_))
 ·have hn:=B4 m k
  have e0:IntKind.u64.wrap (4*(15-(k:Int)))=((60-4*k:Nat):Int):=by rw [IntKind.wrap_u64];omega
  have e1:IntKind.i64.wrap (wv ((m>>>UInt64.ofNat (((60-4*k:Nat):Int)).toNat)&&&15))=(mR m k:Int):=by
   rw [show (((60-4*k:Nat):Int)).toNat=60-4*k by omega,DS m k aj];exact eY aj aj
  have e4:(bl m k:Int)+(15-(mR m k:Int))=(bl m (k+1):Int):=by simp only [bl];omega
  refine a7<|zS<|zB 1<|zP 2 [yH [(2,yV (ai ((4:Int)*((15:Int)-(↑k:Int))))),(3,yV (AV.val (Value.int .u64 (↑(60-4*k):Int)))),(4,yV (aw (m>>>UInt64.ofNat (↑(60-4*k):Int).toNat))),(5,yV (aw (m>>>UInt64.ofNat (↑(60-4*k):Int).toNat&&&(15:UInt64)))),(6,yV (ai (↑(mR m k):Int)))],yH [(2,yV (AV.arr (ax [(↑(mR m k):Int)]))),(3,yV (AV.arr (ax (ir m k++ [(↑(mR m k):Int)]))))]] [.aa [3,6,8,2,0,5,4] [21]] [yN ((4:Int)*((15:Int)-(↑k:Int))),yI (yd e0),yI (fg m ((↑(60-4*k):Int)) aj aj),yO ((0:Int)≤(↑(60-4*k):Int)),yI (iV (m>>>UInt64.ofNat (↑(60-4*k):Int).toNat) 15),yI (yc e1),yR [ai (↑(mR m k):Int)],yB (ax (ir m k)++ax [(↑(mR m k):Int)]=ax (ir m k++ [(↑(mR m k):Int)])) (Fe _ _),yB (((ax (ir m k)).length+1)*8≤140737488355328) (by simp only [kf];omega)]<|zX (yH [(2,yV (ai ((15:Int)-(↑(mR m k):Int)))),(3,yV (ai ((↑(bl m k):Int)+((15:Int)-(↑(mR m k):Int)))))]) [yN ((15:Int)-(↑(mR m k):Int)),yN ((↑(bl m k):Int)+((15:Int)-(↑(mR m k):Int)))]<|aL<|ak<|zX (yH [(1,yV (ai ((15:Int)-(↑k:Int)-1)))]) [yN ((15:Int)-(↑k:Int)-1)] (aH (k+1) aj aj (eJ [.aa [2,0,5,4,3] [21]] [5,4] [21] [yB (ai ((15:Int)-(↑k:Int)-1)=ai ((15:Int)-(↑(k+1):Int))) (congrArg (fun n=>AV.val (.int .i64 n)) aj),yB (ai ((↑(bl m k):Int)+((15:Int)-(↑(mR m k):Int)))=ai (↑(bl m (k+1)):Int)) (congrArg (fun n=>AV.val (.int .i64 n)) aj),yB (ax (ir m k++ [(↑(mR m k):Int)])=ax (ir m (k+1))) (congrArg ax (Bb m k).symm)]))
 ·have e:k=16:=aj
  subst e
  have e1:IntKind.i64.wrap (((bl m 16:Nat):Int).tdiv 16)=((bl m 16/16:Nat):Int):=by
   rw [Int.tdiv_eq_ediv_of_nonneg aj];rw [eY aj aj];omega
  have e2:((bl m 16:Nat):Int)%16=((bl m 16%16:Nat):Int):=aj
  have e3:=K7 m
  refine zE 0<|a_<|aP<|bo<|ak<|zP 1 [yH [(2,yV (ai (↑(bl m 16/16):Int))),(4,yV (ai (↑(bl m 16%16):Int))),(5,yV (AV.arr (ax [(↑(bl m 16/16):Int),(↑(bl m 16%16):Int)]))),(6,yV (AV.arr (ax (ir m 16++ [(↑(bl m 16/16):Int),(↑(bl m 16%16):Int)]))))]] [.aa [2,8,0,5,4] [32]] [yB (ai (IntKind.i64.wrap ((↑(bl m 16):Int).tdiv (16:Int)))=ai (↑(bl m 16/16):Int)) (yx aj aj aj),yO ((16:Int)≠(0:Int)),yR (ai (↑(bl m 16%16):Int)),yO ((16:Int)≠(0:Int)),yR [ai (↑(bl m 16/16):Int),ai (↑(bl m 16%16):Int)],yR (ax (ir m 16++ [(↑(bl m 16/16):Int),(↑(bl m 16%16):Int)])),yL 144 140737488355328]<|zR (bU)
theorem rN (leaf:Int) (l:List UInt64) (hl:l.length≤18):bK Tryz.prog 156 [ai leaf,.sl 1 (ah l)] (aw (combine leaf l)):=by
 have h1:(words [u64 leaf]).length=8:=by rw [dN];rfl
 have h2:(words l).length=8*l.length:=dN l
 have e:words [u64 leaf]++words l=words (u64 leaf::l):=by rw [←vH];rfl
 refine zO Tryz.func156 13<|zP 2 [{},yH [(1,yV (aw (u64 leaf))),(2,yV (AV.arr (ah [u64 leaf]))),(3,yV (AV.own 1 (ag (words [u64 leaf])))),(5,yV (AV.own 1 (ag (words l)))),(6,{av:=some (AV.arr (ag (words [u64 leaf]++words l))),b:=false}),(7,yV (aw (hash (2:Int) (words [u64 leaf]++words l))))]] [.aa [4,0,1] []] [yI (a8 leaf),yR [aw (u64 leaf)],yI (dv [u64 leaf] (by simp only [List.length_cons,List.length_nil];omega)),yI (aQ (words [u64 leaf])),yI (dv l aj),yI (aQ (words l)),yR (ag (words [u64 leaf]++words l)),yB (cH (ag (words l))) (fQ _),yB ((8+(ag (words l)).length)*1≤140737488355328) (by simp only [aC];omega),yI (iy ((2:Int)) (words [u64 leaf]++words l) (by simp only [List.length_append];omega))]<|zR (bU)
theorem zY (seed:UInt64) (leaf:Int):bK Tryz.prog 149 [aw seed,ai leaf] (aw (combine leaf (bG seed leaf 18))):=by
 refine zO Tryz.func149 24<|zQ 2 [{},{}] []<|zS<|zq<|zB 0 (zL (fun (k:Nat)=>(⟨[(4,AV.val (Value.int .u64 0)),(0,aw seed),(1,ai leaf),(6,ai k),(5,AV.ref 23)],[(23,⟨1,true,false,ah (bG seed leaf k)⟩)]⟩:AS)) (fun k=>(k≤18)) (fun k=>(18-k)) (0) ?_ (zW [.nil 5 23 1,.aa [4,0,1,6,5] [23]]) ?_)
 ·omega
 intro k hk
 have hl:=rP seed leaf k
 refine zS<|zq (zD 8 ((↑k:Int)<18) (fun h=>?_) (fun h=>?_))
 ·skip
  refine a7<|zS<|zB 1<|zX (yH [(6,yV (aw (ar seed leaf (↑k:Int)))),(7,yV (aw (run leaf (↑k:Int) (0:Int) (15:Int) (ar seed leaf (↑k:Int))))),(8,yV (AV.arr (ah [run leaf (↑k:Int) (0:Int) (15:Int) (ar seed leaf (↑k:Int))]))),(9,yV (AV.arr (ah (bG seed leaf k++ [run leaf (↑k:Int) (0:Int) (15:Int) (ar seed leaf (↑k:Int))]))))]) [yI (oB seed leaf ((↑k:Int))),yI (oS leaf ((↑k:Int)) ((0:Int)) ((15:Int)) (ar seed leaf (↑k:Int))),yR [aw (run leaf (↑k:Int) (0:Int) (15:Int) (ar seed leaf (↑k:Int)))],yB (ah (bG seed leaf k)++ah [run leaf (↑k:Int) (0:Int) (15:Int) (ar seed leaf (↑k:Int))]=ah (bG seed leaf k++ [run leaf (↑k:Int) (0:Int) (15:Int) (ar seed leaf (↑k:Int))])) (ja _ _),yB (((ah (bG seed leaf k)).length+1)*8≤140737488355328) (by simp only [aB];omega)]<|aL<|ak<|zX (yH [(1,yV (ai ((↑k:Int)+1)))]) [yN ((↑k:Int)+1)] (aH (k+1) aj aj (eJ [.sm 20 23,.aa [4,0,1,6,5] [23]] [] [23] [yB (ah (bG seed leaf k++ [run leaf (↑k:Int) (0:Int) (15:Int) (ar seed leaf (↑k:Int))])=ah (bG seed leaf (k+1))) (congrArg ah (xo seed leaf k).symm)]))
 ·have e:k=18:=aj
  subst e
  refine zE 0<|a_<|aP<|bo<|ak<|zP 1 [yH [(2,yV (aw (combine leaf (bG seed leaf 18))))]] [.aa [4,8,0,1,6,5] [23]] [yI (rN leaf (bG seed leaf 18) (by assumption))]<|zR (bU)
theorem xh (seed:UInt64) (leaf:Int) (m:UInt64):bK Tryz.prog 102 [aw seed,ai leaf,aw m] (.own 1 (ah (bT seed leaf m 18))):=by
 have hd:=nC m
 refine zO Tryz.func102 31<|zQ 3 [{},yH [(1,yV (AV.own 1 (ax (b_ m))))],{}] [yI (mF m),yB (ld (ax (b_ m))) (vN _)]<|zS<|zq<|zB 0 (zL (fun (k:Nat)=>(⟨[(7,AV.ref 11),(6,AV.nil),(0,aw seed),(1,ai leaf),(2,aw m),(9,ai k),(8,AV.ref 29)],[(11,⟨1,true,false,ax (b_ m)⟩),(29,⟨1,true,false,ah (bT seed leaf m k)⟩)]⟩:AS)) (fun k=>(k≤18)) (fun k=>(18-k)) (0) ?_ (zW [.nil 8 29 1,.aa [7,6,0,1,2,9,8] [11,29]]) ?_)
 ·omega
 intro k hk
 have hl:=qE seed leaf m k
 refine zS<|zq (zD 13 ((↑k:Int)<18) (fun h=>?_) (fun h=>?_))
 ·skip
  refine a7<|zS<|zB 1<|zX ({hs:=[(5,{k:=k}),(6,yV (ai ((b_ m).getD k (0:Int)))),(10,yV (aw (ar seed leaf (↑k:Int)))),(11,yV (aw (run leaf (↑k:Int) (0:Int) ((b_ m).getD k (0:Int)) (ar seed leaf (↑k:Int))))),(12,yV (AV.arr (ah [run leaf (↑k:Int) (0:Int) ((b_ m).getD k (0:Int)) (ar seed leaf (↑k:Int))]))),(13,yV (AV.arr (ah (bT seed leaf m k++ [run leaf (↑k:Int) (0:Int) ((b_ m).getD k (0:Int)) (ar seed leaf (↑k:Int))]))))],T:=13}) [yR (↑k:Int),yO (k<18),yB ((ax (b_ m))[k]?=some (ai ((b_ m).getD k (0:Int)))) (lO aj),yI (oB seed leaf ((↑k:Int))),yI (oS leaf ((↑k:Int)) ((0:Int)) ((b_ m).getD k (0:Int)) (ar seed leaf (↑k:Int))),yR [aw (run leaf (↑k:Int) (0:Int) ((b_ m).getD k (0:Int)) (ar seed leaf (↑k:Int)))],yB (ah (bT seed leaf m k)++ah [run leaf (↑k:Int) (0:Int) ((b_ m).getD k (0:Int)) (ar seed leaf (↑k:Int))]=ah (bT seed leaf m k++ [run leaf (↑k:Int) (0:Int) ((b_ m).getD k (0:Int)) (ar seed leaf (↑k:Int))])) (ja _ _),yB (((ah (bT seed leaf m k)).length+1)*8≤140737488355328) (by simp only [aB];omega)]<|aL<|ak<|zX (yH [(1,yV (ai ((↑k:Int)+1)))]) [yN ((↑k:Int)+1)] (aH (k+1) aj aj (eJ [.aa [7,6,0,1,2,9,8] [11,29]] [] [29] [yB (ah (bT seed leaf m k++ [run leaf (↑k:Int) (0:Int) ((b_ m).getD k (0:Int)) (ar seed leaf (↑k:Int))])=ah (bT seed leaf m (k+1))) (congrArg ah (BG seed leaf m k).symm)]))
 ·have e:k=18:=aj
  subst e
  refine zE 0<|a_<|aP<|bo<|ak<|zP 1 [{}] [.aa [6,13,7,0,1,2,9,8] [11,29]] []<|zR (bU)
theorem w8 (a b:List UInt64) (k:Nat) (hl:a.length=b.length) (h:a.take k=b.take k) (hk:k<a.length) (hn:a.getD k 0≠b.getD k 0):(a == b)=false:=by
 rw [beq_eq_false_iff_ne]
 intro e;subst e;exact hn rfl
theorem wY {a b:List UInt64} {k:Nat} (hl:a.length=b.length) (h:a.take k=b.take k) (hk:k<a.length) (hn:a.getD k 0=b.getD k 0):a.take (k+1)=b.take (k+1):=by
 rw [List.take_add_one,List.take_add_one,h]
 rw [List.getD_eq_getElem?_getD,List.getD_eq_getElem?_getD,List.getElem?_eq_getElem hk,List.getElem?_eq_getElem aj] at hn
 rw [List.getElem?_eq_getElem hk,List.getElem?_eq_getElem aj]
 simp only [Option.getD_some] at hn
 rw [hn]
theorem vl (a b:List UInt64):bK Tryz.prog 94 [.sl 1 (ah a),.sl 1 (ah b)] (ao (a == b)):=by
 refine bK.len 0 rfl fun Ut=>?_
 rw [aB] at Ut
 by_cases hl:a.length=b.length
 case neg =>
  have e:(a == b)=false:=by rw [beq_eq_false_iff_ne];intro e;exact hl (by rw [e])
  refine zO Tryz.func94 26<|zq<|zS<|zP 1 [yH [(1,{k:=a.length}),(3,{k:=b.length})]] [.aa [10,4,0,1] []] [yI (aB a),yI (aB b)]<|dr 10 ((↑a.length:Int) != (↑b.length:Int)) (by simp;omega)<|zq<|dt (zV [yB (Value.bool false=Value.bool (a == b)) (by rw [e])])
 refine zO Tryz.func94 26<|zq<|zS<|zP 1 [yH [(1,{k:=a.length}),(3,{k:=b.length})]] [.aa [10,4,0,1] []] [yI (aB a),yI (aB b)]<|bj 10 ((↑a.length:Int) != (↑b.length:Int)) (by simp_all)<|a7<|zS<|zq<|zB 0 (zL (fun (k:Nat)=>(⟨[(10,ao ((↑a.length:Int) != (↑b.length:Int))),(0,AV.sl 1 (ah a)),(1,AV.sl 1 (ah b)),(5,ai k)],[]⟩:AS)) (fun k=>(k≤a.length∧a.take k=b.take k)) (fun k=>(a.length-k)) (0) ?_ (zW [.aa [10,0,1,5] []]) ?_)
 ·exact ⟨aj,by simp⟩
 rintro k ⟨hk,he⟩
 refine zS<|zP 1 [yH [(2,{k:=a.length})]] [.aa [14,10,0,1,5] []] [yI (aB a)] (zD 14 ((↑k:Int)<(↑a.length:Int)) (fun h=>?_) (fun h=>?_))
 ·skip
  refine a7<|zS<|zB 1<|zP 1 [{hs:=[(2,{k:=k}),(3,yV (aw (a.getD k 0))),(6,{k:=k}),(7,yV (aw (b.getD k 0))),(8,yV (ao (a.getD k 0 != b.getD k 0)))],T:=8}] [.aa [25,14,10,0,1,5] []] [yR (↑k:Int),yB (k<(ah a).length) (by simp only [aB];omega),yB ((ah a)[k]?=some (aw (a.getD k 0))) (dB aj),yR (↑k:Int),yB (k<(ah b).length) (by simp only [aB];omega),yB ((ah b)[k]?=some (aw (b.getD k 0))) (dB aj),yI (cI (a.getD k 0) (b.getD k 0))] (zN 25 (a.getD k 0) (b.getD k 0) (fun h2=>?_) (fun h2=>?_))
  ·have e:=w8 a b k hl he aj h2
   refine zq<|zR<|bc<|aK<|dz<|bc<|aK (zV [yB (Value.bool false=Value.bool (a == b)) (by rw [e])])
  ·skip
   refine zK<|aL<|ak<|zX (yH [(1,yV (ai ((↑k:Int)+1)))]) [yN ((↑k:Int)+1)] (aH (k+1) ⟨aj,wY hl he aj h2⟩ aj (zW [.aa [10,0,1,5] []]))
 ·have e:k=a.length:=aj
  subst e
  have e:(a == b)=true:=by
   rw [beq_iff_eq];rw [List.take_of_length_le (Nat.le_refl _),List.take_of_length_le aj] at he;exact he
  refine zE 0<|a_<|aP<|bo<|ak<|zq<|zR (zV [yB (Value.bool true=Value.bool (a == b)) (by rw [e])])
end Go.Proofs.YtjgbhhnghedgdaaGreatDoor
