import Derived.Test.YtjgbhhnghedgdaaGreatDoorZmRec3
set_option linter.all false
namespace Go.Proofs.YtjgbhhnghedgdaaGreatDoor
open Go.RowKit
set_option maxRecDepth 100000
set_option maxHeartbeats 4000000
theorem fg {n:Int} (h0:0≤n) (h1:n≤9223372036854775807):IntKind.i64.wrap n=n:=by
 have:=dE (n:=n) ah h1
 injection this with this;injection this
theorem vu (m:UInt64):bC Tryz.prog 139 [aw m] (.arr (au (ck m))):=by
 refine zO Tryz.func139 32<|zQ 3 [yH [(0,yV (AV.arr (au (List.replicate 18 (0:Int)))))],yH [(0,yV (AV.arr (au (List.replicate 18 (0:Int)))))],{}] (yM 2 (yR (au (List.replicate 18 (0:Int)))))<|zS<|zq<|zB 0 (zL (fun (k:Nat)=>(⟨[(3,AV.addr 3 0),(2,AV.addr 2 0),(0,aw m),(6,ai k),(4,ai (bm m k))],[(2,⟨1,true,true,au (List.replicate 18 (0:Int))⟩),(3,⟨1,true,false,au (i6 m k)⟩)]⟩:AS)) (fun k=>(k≤16)) (fun k=>(16-k)) (0) ?_ (zW [.loose 3,.aa [3,2,0,6,4] [2,3]]) ?_)
 ·omega
 intro k hk
 have hs:=rq m k
 refine zq<|zS (zD 7 ((↑k:Int)<16) (fun h=>?_) (fun h=>?_))
 ·have hn:=CU m k
  have e1:IntKind.i64.wrap (wv ((m>>>UInt64.ofNat (60-4*(k:Int)).toNat)&&&15))=(nk m k:Int):=by
   rw [show (60-4*(k:Int)).toNat=60-4*k by omega,EK m k ah];exact fg ah ah
  have e2:=JO m k
  have e3:(i6 m (k+1)).getD k 0=(nk m k:Int):=by rw [LR m _ k ah,if_pos ah]
  have e4:IntKind.i64.wrap ((bm m k:Int)+IntKind.i64.wrap (15-((i6 m k).set k (nk m k:Int)).getD k 0))=(bm m (k+1):Int):=by
   rw [e2,e3,fg (n:=15-_) ah ah,fg ah ah];simp only [bm];omega
  refine aW<|zS<|zB 1<|zP 2 [{},yH [(3,yV (ai ((4:Int)*(↑k:Int)))),(4,yV (ai ((60:Int)-4*(↑k:Int)))),(5,yV (aw (m>>>UInt64.ofNat ((60:Int)-4*(↑k:Int)).toNat))),(6,yV (aw (m>>>UInt64.ofNat ((60:Int)-4*(↑k:Int)).toNat&&&(15:UInt64)))),(7,yV (ai (↑(nk m k):Int))),(8,{k:=k}),(9,yV (AV.arr (au ((i6 m k).set k (↑(nk m k):Int)))))]] [.aa [5,7,3,2,0,6,4] [3,2]] [yN ((4:Int)*(↑k:Int)),yN ((60:Int)-4*(↑k:Int)),yI (fq m ((60:Int)-4*(↑k:Int)) ah ah),yO ((0:Int)≤60-4*(↑k:Int)),yI (iZ (m>>>UInt64.ofNat ((60:Int)-4*(↑k:Int)).toNat) 15),yI (yc e1),yR (↑k:Int),yO (k<18),yB ((au (i6 m k)).set k (ai (↑(nk m k):Int))=au ((i6 m k).set k (↑(nk m k):Int))) (Ga _ _ _),yO (k+1≤18)]<|zX (yH [(2,{k:=k}),(3,yV (ai (((i6 m k).set k (↑(nk m k):Int)).getD k (0:Int))))]) [yR (↑k:Int),yO (k<18),yB ((au ((i6 m k).set k (↑(nk m k):Int)))[k]?=some (ai (((i6 m k).set k (↑(nk m k):Int)).getD k (0:Int)))) (l5 (by simp only [List.length_set,JP];omega))]<|aM<|ak<|zX (yH [(0,yV (ai ((↑k:Int)+1)))]) [yN ((↑k:Int)+1)] (aH (k+1) ah ah (eu [.aa [3,2,0,6,4] [2,3]] [4] [3] [yI (yc e4),yB (au ((i6 m k).set k (↑(nk m k):Int))=au (i6 m (k+1))) (congrArg au e2)]))
 ·have e:k=16:=ah
  subst e
  have e1:IntKind.i64.wrap (((bm m 16:Nat):Int).tdiv 16)=((bm m 16/16:Nat):Int):=by
   rw [Int.tdiv_eq_ediv_of_nonneg ah];rw [fg ah ah];omega
  have e2:((bm m 16:Nat):Int)%16=((bm m 16%16:Nat):Int):=ah
  have e3:=JQ m
  refine zE 0<|aS<|aK<|bg<|ak<|bf.ue 3 [{hs:=[(1,{av:=some (ai (↑(bm m 16/16):Int))}),(2,{k:=16}),(3,{av:=some (AV.arr (au ((i6 m 16).set 16 (↑(bm m 16/16):Int))))})]},{hs:=[(1,{av:=some (ai ((↑(bm m 16):Int)%(16:Int)))}),(2,{av:=some (ai (↑(bm m 16%16):Int)),k:=17}),(3,{av:=some (AV.arr (au (((i6 m 16).set 16 (↑(bm m 16/16):Int)).set 17 ((↑(bm m 16):Int)%(16:Int)))))})]},{hs:=[(0,{av:=some (AV.arr (au (ck m)))}),(1,{av:=some (AV.arr (au (ck m))),k:=1})]}] [.aa [7,3,2,0,6,4] [2,3]] bt (C:=[ai (IntKind.i64.wrap ((↑(bm m 16):Int).tdiv (16:Int)))=ai (↑(bm m 16/16):Int),(16:Int)≠(0:Int),(16:Int)=(↑(16:Nat):Int),16<18,(au (i6 m 16)).set 16 (ai (↑(bm m 16/16):Int))=au ((i6 m 16).set 16 (↑(bm m 16/16):Int)),17≤18,ai ((↑(bm m 16):Int).tmod (16:Int))=ai ((↑(bm m 16):Int)%(16:Int)),(16:Int)≠(0:Int),(17:Int)=(↑(17:Nat):Int),17<18,(au ((i6 m 16).set 16 (↑(bm m 16/16):Int))).set 17 (ai ((↑(bm m 16):Int)%(16:Int)))=au (((i6 m 16).set 16 (↑(bm m 16/16):Int)).set 17 ((↑(bm m 16):Int)%(16:Int))),18≤18,List.take 18 (List.drop 0 (au (((i6 m 16).set 16 (↑(bm m 16/16):Int)).set 17 ((↑(bm m 16):Int)%(16:Int)))))=au (ck m),(au (ck m)).length=18,List.take 0 (au (List.replicate 18 (0:Int)))++au (ck m)++List.drop 18 (au (List.replicate 18 (0:Int)))=au (ck m),(au (ck m)).length=18,∀(x:AV),x∈au (ck m)->ij x=true,18≤18]) bt ⟨(zC ah ah ah),ah,rfl,ah,rfl,ah,rfl,ah,rfl,ah,rfl,ah,rfl,rfl,rfl,rfl,(A6 _),ah,trivial⟩<|zR (zV [yR 18,yR (au (ck m))])
theorem xN (leaf chain src dst:Int) (x:UInt64):bC Tryz.prog 140 [ai leaf,ai chain,ai src,ai dst,aw x] (aw (run leaf chain src dst x)):=by
 unfold run
 have hp:(if 0>src then 0 else src)=max src 0:=by split<;>omega
 have he:(if 15<dst then 15 else dst)=min dst 15:=by split<;>omega
 generalize U7:max src 0=p at *
 generalize SA:min dst 15=e at *
 refine zO Tryz.func140 33<|zP 2 [{},yH [(1,yV (ai e))]] [.aa [11,10,0,1,2,3,4] []] [yI (yc he)]<|zS<|zP 1 [yH [(1,yV (ai p))]] [.aa [12,11,10,0,1,2,3,4] []] [yI (yc hp)]<|zB 0 (zL (fun (k:Nat)=>(⟨[(11,ai e),(10,AV.val (Value.int .u64 0)),(0,ai leaf),(1,ai chain),(2,ai src),(3,ai dst),(12,ai (p+k)),(4,aw (jI leaf chain p x k))],[]⟩:AS)) (fun k=>(k≤(e-p).toNat)) (fun k=>((e-p).toNat-k)) (0) ?_ (eu [.aa [11,10,0,1,2,3,12,4] []] [12] [] [yB (ai p=ai (p+(↑(0:Nat):Int))) (congrArg (fun n=>AV.val (.int .i64 n)) ah)]) ?_)
 ·omega
 intro k hk
 refine zS<|zP 1 [{}] [.aa [19,11,10,0,1,2,3,12,4] []] [] (zD 19 (p+(↑k:Int)<e) (fun h=>?_) (fun h=>?_))
 ·have hw:(words [u64 leaf,u64 chain,u64 (p+k),jI leaf chain p x k]).length=32:=by rw [dW];rfl
  refine aW<|zS<|zB 1<|zX (yH [(1,yV (aw (u64 leaf))),(3,yV (aw (u64 chain))),(5,yV (aw (u64 (p+(↑k:Int))))),(7,yV (AV.arr (aj [u64 leaf,u64 chain,u64 (p+(↑k:Int)),jI leaf chain p x k]))),(8,yV (AV.own 1 (ag (words [u64 leaf,u64 chain,u64 (p+(↑k:Int)),jI leaf chain p x k])))),(9,yV (aw (hash (1:Int) (words [u64 leaf,u64 chain,u64 (p+(↑k:Int)),jI leaf chain p x k]))))]) [yI (ba leaf),yI (ba chain),yI (ba (p+(↑k:Int))),yR (aj [u64 leaf,u64 chain,u64 (p+(↑k:Int)),jI leaf chain p x k]),yI (lR [u64 leaf,u64 chain,u64 (p+(↑k:Int)),jI leaf chain p x k] (by simp only [List.length_cons,List.length_nil];omega)),yI (aP (words [u64 leaf,u64 chain,u64 (p+(↑k:Int)),jI leaf chain p x k])),yI (nQ ((1:Int)) (words [u64 leaf,u64 chain,u64 (p+(↑k:Int)),jI leaf chain p x k]))]<|aM<|ak<|zX (yH [(1,yV (ai (p+(↑k:Int)+1)))]) [yN (p+(↑k:Int)+1)] (aH (k+1) ah ah (eu [.aa [11,10,0,1,2,3,12,4] []] [12] [] [yB (ai (p+(↑k:Int)+1)=ai (p+(↑(k+1):Int))) (congrArg (fun n=>AV.val (.int .i64 n)) ah)]))
 ·have e1:k=(e-p).toNat:=ah
  subst e1
  refine zE 0<|aS<|aK<|bg<|ak<|zP 1 [{}] [.aa [10,19,11,0,1,2,3,12,4] []] []<|zR (bL)
theorem pg (leaf chain src dst:Int) (x:UInt64):bC Tryz.prog 147 [ai leaf,ai chain,ai src,ai dst,aw x] (aw (run leaf chain src dst x)):=by
 unfold run
 have hp:(if 0>src then 0 else src)=max src 0:=by split<;>omega
 have he:(if 15<dst then 15 else dst)=min dst 15:=by split<;>omega
 generalize U7:max src 0=p at *
 generalize SA:min dst 15=e at *
 refine zO Tryz.func147 31<|zq<|zS<|zP 1 [yH [(1,yV (ai p))]] [.aa [11,10,0,1,2,3,4] []] [yI (yc hp)]<|zB 0 (zL (fun (k:Nat)=>(⟨[(10,AV.val (Value.int .u64 0)),(0,ai leaf),(1,ai chain),(2,ai src),(3,ai dst),(11,ai (p+k)),(4,aw (jI leaf chain p x k))],[]⟩:AS)) (fun k=>(k≤(e-p).toNat)) (fun k=>((e-p).toNat-k)) (0) ?_ (eu [.aa [10,0,1,2,3,11,4] []] [11] [] [yB (ai p=ai (p+(↑(0:Nat):Int))) (congrArg (fun n=>AV.val (.int .i64 n)) ah)]) ?_)
 ·omega
 intro k hk
 refine zS<|zP 1 [yH [(2,yV (ai e))]] [.aa [17,10,0,1,2,3,11,4] []] [yI (yc he)] (zD 17 (p+(↑k:Int)<e) (fun h=>?_) (fun h=>?_))
 ·have hw:(words [u64 leaf,u64 chain,u64 (p+k),jI leaf chain p x k]).length=32:=by rw [dW];rfl
  refine aW<|zS<|zB 1<|zX (yH [(1,yV (aw (u64 leaf))),(3,yV (aw (u64 chain))),(5,yV (aw (u64 (p+(↑k:Int))))),(7,yV (AV.arr (aj [u64 leaf,u64 chain,u64 (p+(↑k:Int)),jI leaf chain p x k]))),(8,yV (AV.own 1 (ag (words [u64 leaf,u64 chain,u64 (p+(↑k:Int)),jI leaf chain p x k])))),(9,yV (aw (hash (1:Int) (words [u64 leaf,u64 chain,u64 (p+(↑k:Int)),jI leaf chain p x k]))))]) [yI (ba leaf),yI (ba chain),yI (ba (p+(↑k:Int))),yR (aj [u64 leaf,u64 chain,u64 (p+(↑k:Int)),jI leaf chain p x k]),yI (dA [u64 leaf,u64 chain,u64 (p+(↑k:Int)),jI leaf chain p x k] (by simp only [List.length_cons,List.length_nil];omega)),yI (aP (words [u64 leaf,u64 chain,u64 (p+(↑k:Int)),jI leaf chain p x k])),yI (iA ((1:Int)) (words [u64 leaf,u64 chain,u64 (p+(↑k:Int)),jI leaf chain p x k]) ah)]<|aM<|ak<|zX (yH [(1,yV (ai (p+(↑k:Int)+1)))]) [yN (p+(↑k:Int)+1)] (aH (k+1) ah ah (eu [.aa [10,0,1,2,3,11,4] []] [11] [] [yB (ai (p+(↑k:Int)+1)=ai (p+(↑(k+1):Int))) (congrArg (fun n=>AV.val (.int .i64 n)) ah)]))
 ·have e1:k=(e-p).toNat:=ah
  subst e1
  refine zE 0<|aS<|aK<|bg<|ak<|zP 1 [{}] [.aa [10,17,0,1,2,3,11,4] []] []<|zR (bL)
theorem t_ (seed:UInt64) (leaf c:Int):bC Tryz.prog 141 [aw seed,ai leaf,ai c] (aw (ar seed leaf c)):=by
 refine zO Tryz.func141 15<|zP 2 [{},yH [(2,yV (aw (u64 leaf))),(4,yV (aw (u64 c))),(5,yV (AV.arr (aj [u64 leaf,u64 c]))),(6,yV (AV.own 1 (ag (words [u64 leaf,u64 c])))),(7,yV (aw (z1 seed (1:Int) (words [u64 leaf,u64 c]))))]] [.aa [6,0,1,2] []] [yI (ba leaf),yI (ba c),yR (aj [u64 leaf,u64 c]),yI (lR [u64 leaf,u64 c] (by simp only [List.length_cons,List.length_nil];omega)),yI (aP (words [u64 leaf,u64 c])),yI (K5 seed ((1:Int)) (words [u64 leaf,u64 c]))]<|zR (bL)
theorem oT (seed:UInt64) (leaf c:Int):bC Tryz.prog 148 [aw seed,ai leaf,ai c] (aw (ar seed leaf c)):=by
 have hw:(words [u64 leaf,u64 c]).length=16:=by rw [dW];rfl
 refine zO Tryz.func148 15<|zP 2 [{},yH [(2,yV (aw (u64 leaf))),(4,yV (aw (u64 c))),(5,yV (AV.arr (aj [u64 leaf,u64 c]))),(6,yV (AV.own 1 (ag (words [u64 leaf,u64 c])))),(7,yV (aw (z1 seed (1:Int) (words [u64 leaf,u64 c]))))]] [.aa [6,0,1,2] []] [yI (ba leaf),yI (ba c),yR (aj [u64 leaf,u64 c]),yI (dA [u64 leaf,u64 c] (by simp only [List.length_cons,List.length_nil];omega)),yI (aP (words [u64 leaf,u64 c])),yI (ph seed ((1:Int)) (words [u64 leaf,u64 c]) ah)]<|zR (bL)
theorem GO (c:UInt64) (l:List UInt64) (hl:l.length=18):setCells (aj ((List.replicate 19 0).set 0 c)) 1 ((aj l).take (cV 18 1))=aj (c::l):=by
 have h1:(aj l).take (cV 18 1)=aj l:=List.take_of_length_le (by rw [bx,aC];omega)
 rw [h1,nw _ _ _ (by rw [aC,aC,List.length_set,List.length_replicate];omega),aC,hl]
 simp [aj,List.replicate_succ]
theorem sJ (leaf:Int) (l:List UInt64) (hl:l.length=18):bC Tryz.prog 168 [ai leaf,.arr (aj l)] (aw (combine leaf l)):=by
 have hc:(u64 leaf::l).length=19:=by simp [hl]
 have h0:(aj l).length=18:=by rw [aC,hl]
 refine zO Tryz.func168 15<|zP 5 [{},yH [(0,yV (AV.arr (aj (List.replicate 19 0))))],yH [(1,yV (aw (u64 leaf))),(2,{k:=0}),(3,yV (AV.arr (aj ((List.replicate 19 0).set 0 (u64 leaf)))))],{hs:=[(0,{k:=1}),(2,{av:=some (AV.arr (aj (u64 leaf::l))),k:=18,b:=false})],T:=2},yH [(1,yV (AV.own 1 (ag (words (u64 leaf::l))))),(2,yV (aw (hash (2:Int) (words (u64 leaf::l)))))]] [.aa [4,5,3,0,1] [5,3]] [yR (aj (List.replicate 19 0)),yI (ba leaf),yR (0:Int),yO (0<19),yR (aj ((List.replicate 19 0).set 0 (u64 leaf))),yL 1 19,yR (1:Int),yL 1 19,yR 19,yB (19≤maxLen) (by decide),yI h0,yB (18≤maxLen) (by decide),yB ((match List.take 18 (aj l) with| [x]=>(aj ((List.replicate 19 0).set 0 (u64 leaf))).set 1 x|l=>List.take 1 (aj ((List.replicate 19 0).set 0 (u64 leaf)))++l++List.drop (1+l.length) (aj ((List.replicate 19 0).set 0 (u64 leaf))))=aj (u64 leaf::l)) (GO _ l hl),yB (cE (aj l)) (qc _),yO (min (aj l).length (19-1)=18),yO (0<19-1),yB ((aj (u64 leaf::l)).length=19) (by simp only [aC];omega),yB (19≤maxLen) (by decide),yI (lR (u64 leaf::l) ah),yI (aP (words (u64 leaf::l))),yI (nQ ((2:Int)) (words (u64 leaf::l)))]<|zR (bL)
theorem AZ (seed:UInt64) (leaf:Int):bC Tryz.prog 143 [aw seed,ai leaf] (aw (combine leaf (bG seed leaf 18))):=by
 have hl:=sj seed leaf 18
 refine zO Tryz.func143 23<|zQ 2 [{},yH [(0,yV (AV.arr (aj (List.replicate 18 0))))]] [yR (aj (List.replicate 18 0))]<|zS<|zq<|zB 0 (zL (fun (k:Nat)=>(⟨[(5,AV.addr 5 0),(4,AV.val (Value.int .u64 0)),(0,aw seed),(1,ai leaf),(7,ai k)],[(5,⟨1,true,false,aj (cT 18 (bG seed leaf 18) k)⟩)]⟩:AS)) (fun k=>(k≤18)) (fun k=>(18-k)) (0) ?_ (zW [.loose 5,.aa [5,4,0,1,7] [5]]) ?_)
 ·omega
 intro k hk
 have hf:=kx hl hk
 refine zq<|zS (zD 8 ((↑k:Int)<18) (fun h=>?_) (fun h=>?_))
 ·have e1:=ma hl (ah:k<18)
  have e2:=CO seed leaf k ah
  refine aW<|zS<|zB 1<|zq<|zX (yH [(6,yV (aw (ar seed leaf (↑k:Int)))),(7,yV (aw (run leaf (↑k:Int) (0:Int) (15:Int) (ar seed leaf (↑k:Int))))),(8,{k:=k}),(9,yV (AV.arr (aj ((cT 18 (bG seed leaf 18) k).set k (run leaf (↑k:Int) (0:Int) (15:Int) (ar seed leaf (↑k:Int)))))))]) [yI (t_ seed leaf ((↑k:Int))),yI (xN leaf ((↑k:Int)) ((0:Int)) ((15:Int)) (ar seed leaf (↑k:Int))),yR (↑k:Int),yO (k<18),yB ((aj (cT 18 (bG seed leaf 18) k)).set k (aw (run leaf (↑k:Int) (0:Int) (15:Int) (ar seed leaf (↑k:Int))))=aj ((cT 18 (bG seed leaf 18) k).set k (run leaf (↑k:Int) (0:Int) (15:Int) (ar seed leaf (↑k:Int))))) (kz _ _ _),yB (k+1≤(aj (cT 18 (bG seed leaf 18) k)).length) (by simp only [aC];omega)]<|aM<|ak<|zX (yH [(0,yV (ai ((↑k:Int)+1)))]) [yN ((↑k:Int)+1)] (aH (k+1) ah ah (eu [.aa [5,4,0,1,7] [5]] [] [5] [yB (aj ((cT 18 (bG seed leaf 18) k).set k (run leaf (↑k:Int) (0:Int) (15:Int) (ar seed leaf (↑k:Int))))=aj (cT 18 (bG seed leaf 18) (k+1))) (congrArg aj (by rw [←e2];exact e1))]))
 ·have e:k=18:=ah
  subst e
  have e1:=kR hl
  refine zE 0<|aS<|aK<|bg<|ak<|zP 1 [yH [(1,yV (AV.arr (aj (bG seed leaf 18)))),(2,yV (aw (combine leaf (bG seed leaf 18))))]] [.aa [4,8,5,0,1,7] [5]] [yR (aj (bG seed leaf 18)),yR 18,yI (sJ leaf (bG seed leaf 18) rfl)]<|zR (bL)
theorem wQ (seed:UInt64) (leaf:Int) (m:UInt64):bC Tryz.prog 96 [aw seed,ai leaf,aw m] (.own 1 (aj (bW seed leaf m 18))):=by
 have hl:=qZ seed leaf m 18
 have hd:=nW m
 refine zO Tryz.func96 28<|zQ 2 [{},yH [(0,yV (AV.arr (aj (List.replicate 18 0))))]] [yR (aj (List.replicate 18 0))]<|zS<|zQ 1 [yH [(1,{av:=some (AV.arr (au (ck m))),b:=false})]] [yI (vu m)]<|zB 0 (zL (fun (k:Nat)=>(⟨[(11,AV.arr (au (ck m))),(7,AV.addr 7 0),(6,AV.nil),(0,aw seed),(1,ai leaf),(2,aw m),(12,ai k)],[(7,⟨1,true,true,aj (cT 18 (bW seed leaf m 18) k)⟩)]⟩:AS)) (fun k=>(k≤18)) (fun k=>(18-k)) (0) ?_ (zW [.aa [11,7,6,0,1,2,12] [7]]) ?_)
 ·omega
 intro k hk
 have hf:=kx hl hk
 refine zq<|zS (zD 13 ((↑k:Int)<18) (fun h=>?_) (fun h=>?_))
 ·have e1:=ma hl (ah:k<18)
  have e2:=HE seed leaf m k ah
  refine aW<|zS<|zB 1<|zP 1 [yH [(1,{av:=some (ai ((ck m).getD k (0:Int))),k:=k})]] [.aa [9,8,13,11,7,6,0,1,2,12] [7]] [yR (↑k:Int),yO (k<18),yB ((au (ck m))[k]?=some (ai ((ck m).getD k (0:Int)))) (l5 ah)]<|zX (yH [(7,yV (aw (ar seed leaf (↑k:Int)))),(8,yV (aw (run leaf (↑k:Int) (0:Int) ((ck m).getD k (0:Int)) (ar seed leaf (↑k:Int))))),(9,{k:=k}),(10,yV (AV.arr (aj ((cT 18 (bW seed leaf m 18) k).set k (run leaf (↑k:Int) (0:Int) ((ck m).getD k (0:Int)) (ar seed leaf (↑k:Int)))))))]) [yI (t_ seed leaf ((↑k:Int))),yI (xN leaf ((↑k:Int)) ((0:Int)) ((ck m).getD k (0:Int)) (ar seed leaf (↑k:Int))),yR (↑k:Int),yO (k<18),yB ((aj (cT 18 (bW seed leaf m 18) k)).set k (aw (run leaf (↑k:Int) (0:Int) ((ck m).getD k (0:Int)) (ar seed leaf (↑k:Int))))=aj ((cT 18 (bW seed leaf m 18) k).set k (run leaf (↑k:Int) (0:Int) ((ck m).getD k (0:Int)) (ar seed leaf (↑k:Int))))) (kz _ _ _),yB (k+1≤(aj (cT 18 (bW seed leaf m 18) k)).length) (by simp only [aC];omega)]<|aM<|ak<|zX (yH [(0,yV (ai ((↑k:Int)+1)))]) [yN ((↑k:Int)+1)] (aH (k+1) ah ah (eu [.aa [11,7,6,0,1,2,12] [7]] [] [7] [yB (aj ((cT 18 (bW seed leaf m 18) k).set k (run leaf (↑k:Int) (0:Int) ((ck m).getD k (0:Int)) (ar seed leaf (↑k:Int))))=aj (cT 18 (bW seed leaf m 18) (k+1))) (congrArg aj (by rw [←e2];exact e1))]))
 ·have e:k=18:=ah
  subst e
  have e1:=kR hl
  refine zE 0<|aS<|aK<|bg<|ak<|zQ 1 [{}] [yR 18,yB (18≤maxLen) (by decide)]<|zR (bL)
def oH (leaf:Int) (m:UInt64) (s:List UInt64):UInt64:=if s.length=18 then combine leaf (cO leaf m s 18) else 0
def lD (s:List UInt64):Int:=if s.length=18 then 0 else 4
theorem AX (leaf:Int) (m:UInt64) (s:List UInt64):bC Tryz.prog 150 [ai leaf,aw m,.sl 1 (aj s)] (.bk [aw (oH leaf m s),ai (lD s)]):=by
 by_cases hs:s.length=18
 case neg =>
  have e1:oH leaf m s=0:=if_neg hs
  have e2:lD s=4:=if_neg hs
  refine zO Tryz.func150 34<|zq<|zS<|zP 1 [yH [(1,{k:=s.length})]] [.aa [13,7,6,0,1,2] []] [yI (aC s)]<|dm 13 ((↑s.length:Int) != (18:Int)) (by simp;omega)<|zq<|dd (zV [yK 0 (wv (oH leaf m s)) (by rw [e1];rfl),yJ 4 (lD s) (by rw [e2])])
 have e1:oH leaf m s=combine leaf (cO leaf m s 18):=if_pos hs
 have e2:lD s=0:=if_pos hs
 have hl:=AY leaf m s 18
 have hd:=nW m
 refine zO Tryz.func150 34<|zq<|zS<|zP 1 [yH [(1,{k:=s.length})]] [.aa [13,7,6,0,1,2] []] [yI (aC s)]<|bj 13 ((↑s.length:Int) != (18:Int)) (by simp_all)<|aW<|zQ 1 [yH [(0,yV (AV.arr (aj (List.replicate 18 0))))]] [yR (aj (List.replicate 18 0))]<|zS<|zQ 1 [yH [(1,{av:=some (AV.arr (au (ck m))),b:=false})]] [yI (vu m)]<|zB 0 (zL (fun (k:Nat)=>(⟨[(15,AV.arr (au (ck m))),(8,AV.addr 8 0),(13,ao ((↑s.length:Int) != (18:Int))),(7,ai 0),(6,AV.val (Value.int .u64 0)),(0,ai leaf),(1,aw m),(2,AV.sl 1 (aj s)),(16,ai k)],[(8,⟨1,true,false,aj (cT 18 (cO leaf m s 18) k)⟩)]⟩:AS)) (fun k=>(k≤18)) (fun k=>(18-k)) (0) ?_ (zW [.loose 8,.aa [15,8,13,7,6,0,1,2,16] [8]]) ?_)
 ·omega
 intro k hk
 have hf:=kx hl hk
 refine zq<|zS (zD 17 ((↑k:Int)<18) (fun h=>?_) (fun h=>?_))
 ·have e3:=ma hl (ah:k<18)
  have e4:=KW leaf m s k ah
  refine aW<|zS<|zB 1<|zP 1 [yH [(1,{av:=some (ai ((ck m).getD k (0:Int))),k:=k})]] [.aa [10,9,17,15,8,13,7,6,0,1,2,16] [8]] [yR (↑k:Int),yO (k<18),yB ((au (ck m))[k]?=some (ai ((ck m).getD k (0:Int)))) (l5 ah)]<|zX (yH [(6,{k:=k}),(7,yV (aw (s.getD k 0))),(8,yV (aw (run leaf (↑k:Int) ((ck m).getD k (0:Int)) (15:Int) (s.getD k 0)))),(9,{k:=k}),(10,yV (AV.arr (aj ((cT 18 (cO leaf m s 18) k).set k (run leaf (↑k:Int) ((ck m).getD k (0:Int)) (15:Int) (s.getD k 0))))))]) [yR (↑k:Int),yB (k<(aj s).length) (by simp only [aC];omega),yB ((aj s)[k]?=some (aw (s.getD k 0))) (dK ah),yI (xN leaf ((↑k:Int)) ((ck m).getD k (0:Int)) ((15:Int)) (s.getD k 0)),yR (↑k:Int),yO (k<18),yB ((aj (cT 18 (cO leaf m s 18) k)).set k (aw (run leaf (↑k:Int) ((ck m).getD k (0:Int)) (15:Int) (s.getD k 0)))=aj ((cT 18 (cO leaf m s 18) k).set k (run leaf (↑k:Int) ((ck m).getD k (0:Int)) (15:Int) (s.getD k 0)))) (kz _ _ _),yB (k+1≤(aj (cT 18 (cO leaf m s 18) k)).length) (by simp only [aC];omega)]<|aM<|ak<|zX (yH [(0,yV (ai ((↑k:Int)+1)))]) [yN ((↑k:Int)+1)] (aH (k+1) ah ah (eu [.aa [15,8,13,7,6,0,1,2,16] [8]] [] [8] [yB (aj ((cT 18 (cO leaf m s 18) k).set k (run leaf (↑k:Int) ((ck m).getD k (0:Int)) (15:Int) (s.getD k 0)))=aj (cT 18 (cO leaf m s 18) (k+1))) (congrArg aj (by rw [←e4];exact e3))]))
 ·have e:k=18:=ah
  subst e
  have e3:=kR hl
  refine zE 0<|aS<|aK<|bg<|ak<|zP 1 [yH [(1,yV (AV.arr (aj (cO leaf m s 18)))),(2,yV (aw (combine leaf (cO leaf m s 18))))]] [.aa [7,6,17,15,8,13,0,1,2,16] [8]] [yR (aj (cO leaf m s 18)),yR 18,yI (sJ leaf (cO leaf m s 18) rfl)]<|zR (zV [yK (wv (combine leaf (cO leaf m s 18))) (wv (oH leaf m s)) (by rw [e1]),yJ 0 (lD s) (by rw [e2])])
theorem m0 (m:UInt64):bC Tryz.prog 146 [aw m] (.own 1 (au (ck m))):=by
 refine zO Tryz.func146 33<|zQ 3 [{},{},{}] []<|zS<|zq<|zB 0 (zL (fun (k:Nat)=>(⟨[(2,AV.nil),(0,aw m),(5,ai (15-k)),(4,ai (bm m k)),(3,AV.ref 21)],[(21,⟨1,true,false,au (iv m k)⟩)]⟩:AS)) (fun k=>(k≤16)) (fun k=>(16-k)) (0) ?_ (zW [.nil 3 21 1,.aa [2,0,5,4,3] [21]]) ?_)
 ·omega
 intro k hk
 have hs:=rq m k
 have hl:=DS m k
 refine zS<|zq (zD 8 ((15:Int)-(↑k:Int)≥0) (fun h=>?_) (fun h=>?_))
 ·have hn:=CU m k
  have e0:IntKind.u64.wrap (4*(15-(k:Int)))=((60-4*k:Nat):Int):=by rw [IntKind.wrap_u64];omega
  have e1:IntKind.i64.wrap (wv ((m>>>UInt64.ofNat (((60-4*k:Nat):Int)).toNat)&&&15))=(nk m k:Int):=by
   rw [show (((60-4*k:Nat):Int)).toNat=60-4*k by omega,EK m k ah];exact fg ah ah
  have e4:(bm m k:Int)+(15-(nk m k:Int))=(bm m (k+1):Int):=by simp only [bm];omega
  refine aW<|zS<|zB 1<|zP 2 [yH [(2,yV (ai ((4:Int)*((15:Int)-(↑k:Int))))),(3,yV (AV.val (Value.int .u64 (↑(60-4*k):Int)))),(4,yV (aw (m>>>UInt64.ofNat (↑(60-4*k):Int).toNat))),(5,yV (aw (m>>>UInt64.ofNat (↑(60-4*k):Int).toNat&&&(15:UInt64)))),(6,yV (ai (↑(nk m k):Int)))],yH [(2,yV (AV.arr (au [(↑(nk m k):Int)]))),(3,yV (AV.arr (au (iv m k++ [(↑(nk m k):Int)]))))]] [.aa [3,6,8,2,0,5,4] [21]] [yN ((4:Int)*((15:Int)-(↑k:Int))),yI (yd e0),yI (fq m ((↑(60-4*k):Int)) ah ah),yO ((0:Int)≤(↑(60-4*k):Int)),yI (iZ (m>>>UInt64.ofNat (↑(60-4*k):Int).toNat) 15),yI (yc e1),yR [ai (↑(nk m k):Int)],yB (au (iv m k)++au [(↑(nk m k):Int)]=au (iv m k++ [(↑(nk m k):Int)])) (Gb _ _),yB (((au (iv m k)).length+1)*8≤140737488355328) (by simp only [ks];omega)]<|zX (yH [(2,yV (ai ((15:Int)-(↑(nk m k):Int)))),(3,yV (ai ((↑(bm m k):Int)+((15:Int)-(↑(nk m k):Int)))))]) [yN ((15:Int)-(↑(nk m k):Int)),yN ((↑(bm m k):Int)+((15:Int)-(↑(nk m k):Int)))]<|aM<|ak<|zX (yH [(1,yV (ai ((15:Int)-(↑k:Int)-1)))]) [yN ((15:Int)-(↑k:Int)-1)] (aH (k+1) ah ah (eu [.aa [2,0,5,4,3] [21]] [5,4] [21] [yB (ai ((15:Int)-(↑k:Int)-1)=ai ((15:Int)-(↑(k+1):Int))) (congrArg (fun n=>AV.val (.int .i64 n)) ah),yB (ai ((↑(bm m k):Int)+((15:Int)-(↑(nk m k):Int)))=ai (↑(bm m (k+1)):Int)) (congrArg (fun n=>AV.val (.int .i64 n)) ah),yB (au (iv m k++ [(↑(nk m k):Int)])=au (iv m (k+1))) (congrArg au (BZ m k).symm)]))
 ·have e:k=16:=ah
  subst e
  have e1:IntKind.i64.wrap (((bm m 16:Nat):Int).tdiv 16)=((bm m 16/16:Nat):Int):=by
   rw [Int.tdiv_eq_ediv_of_nonneg ah];rw [fg ah ah];omega
  have e2:((bm m 16:Nat):Int)%16=((bm m 16%16:Nat):Int):=ah
  have e3:=LP m
  refine zE 0<|aS<|aK<|bg<|ak<|zP 1 [yH [(2,yV (ai (↑(bm m 16/16):Int))),(4,yV (ai (↑(bm m 16%16):Int))),(5,yV (AV.arr (au [(↑(bm m 16/16):Int),(↑(bm m 16%16):Int)]))),(6,yV (AV.arr (au (iv m 16++ [(↑(bm m 16/16):Int),(↑(bm m 16%16):Int)]))))]] [.aa [2,8,0,5,4] [32]] [yB (ai (IntKind.i64.wrap ((↑(bm m 16):Int).tdiv (16:Int)))=ai (↑(bm m 16/16):Int)) (zC ah ah ah),yO ((16:Int)≠(0:Int)),yR (ai (↑(bm m 16%16):Int)),yO ((16:Int)≠(0:Int)),yR [ai (↑(bm m 16/16):Int),ai (↑(bm m 16%16):Int)],yR (au (iv m 16++ [(↑(bm m 16/16):Int),(↑(bm m 16%16):Int)])),yL 144 140737488355328]<|zR (bL)
theorem si (leaf:Int) (l:List UInt64) (hl:l.length≤18):bC Tryz.prog 156 [ai leaf,.sl 1 (aj l)] (aw (combine leaf l)):=by
 have h1:(words [u64 leaf]).length=8:=by rw [dW];rfl
 have h2:(words l).length=8*l.length:=dW l
 have e:words [u64 leaf]++words l=words (u64 leaf::l):=by rw [←wA];rfl
 refine zO Tryz.func156 13<|zP 2 [{},yH [(1,yV (aw (u64 leaf))),(2,yV (AV.arr (aj [u64 leaf]))),(3,yV (AV.own 1 (ag (words [u64 leaf])))),(5,yV (AV.own 1 (ag (words l)))),(6,{av:=some (AV.arr (ag (words [u64 leaf]++words l))),b:=false}),(7,yV (aw (hash (2:Int) (words [u64 leaf]++words l))))]] [.aa [4,0,1] []] [yI (ba leaf),yR [aw (u64 leaf)],yI (dA [u64 leaf] (by simp only [List.length_cons,List.length_nil];omega)),yI (aP (words [u64 leaf])),yI (dA l ah),yI (aP (words l)),yR (ag (words [u64 leaf]++words l)),yB (cE (ag (words l))) (fW _),yB ((8+(ag (words l)).length)*1≤140737488355328) (by simp only [aD];omega),yI (iA ((2:Int)) (words [u64 leaf]++words l) (by simp only [List.length_append];omega))]<|zR (bL)
theorem AQ (seed:UInt64) (leaf:Int):bC Tryz.prog 149 [aw seed,ai leaf] (aw (combine leaf (bG seed leaf 18))):=by
 refine zO Tryz.func149 24<|zQ 2 [{},{}] []<|zS<|zq<|zB 0 (zL (fun (k:Nat)=>(⟨[(4,AV.val (Value.int .u64 0)),(0,aw seed),(1,ai leaf),(6,ai k),(5,AV.ref 23)],[(23,⟨1,true,false,aj (bG seed leaf k)⟩)]⟩:AS)) (fun k=>(k≤18)) (fun k=>(18-k)) (0) ?_ (zW [.nil 5 23 1,.aa [4,0,1,6,5] [23]]) ?_)
 ·omega
 intro k hk
 have hl:=sj seed leaf k
 refine zS<|zq (zD 8 ((↑k:Int)<18) (fun h=>?_) (fun h=>?_))
 ·skip
  refine aW<|zS<|zB 1<|zX (yH [(6,yV (aw (ar seed leaf (↑k:Int)))),(7,yV (aw (run leaf (↑k:Int) (0:Int) (15:Int) (ar seed leaf (↑k:Int))))),(8,yV (AV.arr (aj [run leaf (↑k:Int) (0:Int) (15:Int) (ar seed leaf (↑k:Int))]))),(9,yV (AV.arr (aj (bG seed leaf k++ [run leaf (↑k:Int) (0:Int) (15:Int) (ar seed leaf (↑k:Int))]))))]) [yI (oT seed leaf ((↑k:Int))),yI (pg leaf ((↑k:Int)) ((0:Int)) ((15:Int)) (ar seed leaf (↑k:Int))),yR [aw (run leaf (↑k:Int) (0:Int) (15:Int) (ar seed leaf (↑k:Int)))],yB (aj (bG seed leaf k)++aj [run leaf (↑k:Int) (0:Int) (15:Int) (ar seed leaf (↑k:Int))]=aj (bG seed leaf k++ [run leaf (↑k:Int) (0:Int) (15:Int) (ar seed leaf (↑k:Int))])) (je _ _),yB (((aj (bG seed leaf k)).length+1)*8≤140737488355328) (by simp only [aC];omega)]<|aM<|ak<|zX (yH [(1,yV (ai ((↑k:Int)+1)))]) [yN ((↑k:Int)+1)] (aH (k+1) ah ah (eu [.vK 20 23,.aa [4,0,1,6,5] [23]] [] [23] [yB (aj (bG seed leaf k++ [run leaf (↑k:Int) (0:Int) (15:Int) (ar seed leaf (↑k:Int))])=aj (bG seed leaf (k+1))) (congrArg aj (x8 seed leaf k).symm)]))
 ·have e:k=18:=ah
  subst e
  refine zE 0<|aS<|aK<|bg<|ak<|zP 1 [yH [(2,yV (aw (combine leaf (bG seed leaf 18))))]] [.aa [4,8,0,1,6,5] [23]] [yI (si leaf (bG seed leaf 18) (by assumption))]<|zR (bL)
theorem xV (seed:UInt64) (leaf:Int) (m:UInt64):bC Tryz.prog 102 [aw seed,ai leaf,aw m] (.own 1 (aj (bW seed leaf m 18))):=by
 have hd:=nW m
 refine zO Tryz.func102 31<|zQ 3 [{},yH [(1,yV (AV.own 1 (au (ck m))))],{}] [yI (m0 m),yB (lr (au (ck m))) (wI _)]<|zS<|zq<|zB 0 (zL (fun (k:Nat)=>(⟨[(7,AV.ref 11),(6,AV.nil),(0,aw seed),(1,ai leaf),(2,aw m),(9,ai k),(8,AV.ref 29)],[(11,⟨1,true,false,au (ck m)⟩),(29,⟨1,true,false,aj (bW seed leaf m k)⟩)]⟩:AS)) (fun k=>(k≤18)) (fun k=>(18-k)) (0) ?_ (zW [.nil 8 29 1,.aa [7,6,0,1,2,9,8] [11,29]]) ?_)
 ·omega
 intro k hk
 have hl:=qZ seed leaf m k
 refine zS<|zq (zD 13 ((↑k:Int)<18) (fun h=>?_) (fun h=>?_))
 ·skip
  refine aW<|zS<|zB 1<|zX ({hs:=[(5,{k:=k}),(6,yV (ai ((ck m).getD k (0:Int)))),(10,yV (aw (ar seed leaf (↑k:Int)))),(11,yV (aw (run leaf (↑k:Int) (0:Int) ((ck m).getD k (0:Int)) (ar seed leaf (↑k:Int))))),(12,yV (AV.arr (aj [run leaf (↑k:Int) (0:Int) ((ck m).getD k (0:Int)) (ar seed leaf (↑k:Int))]))),(13,yV (AV.arr (aj (bW seed leaf m k++ [run leaf (↑k:Int) (0:Int) ((ck m).getD k (0:Int)) (ar seed leaf (↑k:Int))]))))],T:=13}) [yR (↑k:Int),yO (k<18),yB ((au (ck m))[k]?=some (ai ((ck m).getD k (0:Int)))) (l5 ah),yI (oT seed leaf ((↑k:Int))),yI (pg leaf ((↑k:Int)) ((0:Int)) ((ck m).getD k (0:Int)) (ar seed leaf (↑k:Int))),yR [aw (run leaf (↑k:Int) (0:Int) ((ck m).getD k (0:Int)) (ar seed leaf (↑k:Int)))],yB (aj (bW seed leaf m k)++aj [run leaf (↑k:Int) (0:Int) ((ck m).getD k (0:Int)) (ar seed leaf (↑k:Int))]=aj (bW seed leaf m k++ [run leaf (↑k:Int) (0:Int) ((ck m).getD k (0:Int)) (ar seed leaf (↑k:Int))])) (je _ _),yB (((aj (bW seed leaf m k)).length+1)*8≤140737488355328) (by simp only [aC];omega)]<|aM<|ak<|zX (yH [(1,yV (ai ((↑k:Int)+1)))]) [yN ((↑k:Int)+1)] (aH (k+1) ah ah (eu [.aa [7,6,0,1,2,9,8] [11,29]] [] [29] [yB (aj (bW seed leaf m k++ [run leaf (↑k:Int) (0:Int) ((ck m).getD k (0:Int)) (ar seed leaf (↑k:Int))])=aj (bW seed leaf m (k+1))) (congrArg aj (Cx seed leaf m k).symm)]))
 ·have e:k=18:=ah
  subst e
  refine zE 0<|aS<|aK<|bg<|ak<|zP 1 [{}] [.aa [6,13,7,0,1,2,9,8] [11,29]] []<|zR (bL)
theorem xM (a b:List UInt64) (k:Nat) (hl:a.length=b.length) (h:a.take k=b.take k) (hk:k<a.length) (hn:a.getD k 0≠b.getD k 0):(a == b)=false:=by
 rw [beq_eq_false_iff_ne]
 intro e;subst e;exact hn rfl
theorem xH {a b:List UInt64} {k:Nat} (hl:a.length=b.length) (h:a.take k=b.take k) (hk:k<a.length) (hn:a.getD k 0=b.getD k 0):a.take (k+1)=b.take (k+1):=by
 rw [List.take_add_one,List.take_add_one,h]
 rw [List.getD_eq_getElem?_getD,List.getD_eq_getElem?_getD,List.getElem?_eq_getElem hk,List.getElem?_eq_getElem ah] at hn
 rw [List.getElem?_eq_getElem hk,List.getElem?_eq_getElem ah]
 simp only [Option.getD_some] at hn
 rw [hn]
theorem vT (a b:List UInt64):bC Tryz.prog 94 [.sl 1 (aj a),.sl 1 (aj b)] (ao (a == b)):=by
 refine bC.len 0 rfl fun Vg=>?_
 rw [aC] at Vg
 by_cases hl:a.length=b.length
 case neg =>
  have e:(a == b)=false:=by rw [beq_eq_false_iff_ne];intro e;exact hl (by rw [e])
  refine zO Tryz.func94 26<|zq<|zS<|zP 1 [yH [(1,{k:=a.length}),(3,{k:=b.length})]] [.aa [10,4,0,1] []] [yI (aC a),yI (aC b)]<|dm 10 ((↑a.length:Int) != (↑b.length:Int)) (by simp;omega)<|zq<|dd (zV [yB (Value.bool false=Value.bool (a == b)) (by rw [e])])
 refine zO Tryz.func94 26<|zq<|zS<|zP 1 [yH [(1,{k:=a.length}),(3,{k:=b.length})]] [.aa [10,4,0,1] []] [yI (aC a),yI (aC b)]<|bj 10 ((↑a.length:Int) != (↑b.length:Int)) (by simp_all)<|aW<|zS<|zq<|zB 0 (zL (fun (k:Nat)=>(⟨[(10,ao ((↑a.length:Int) != (↑b.length:Int))),(0,AV.sl 1 (aj a)),(1,AV.sl 1 (aj b)),(5,ai k)],[]⟩:AS)) (fun k=>(k≤a.length∧a.take k=b.take k)) (fun k=>(a.length-k)) (0) ?_ (zW [.aa [10,0,1,5] []]) ?_)
 ·exact ⟨ah,by simp⟩
 rintro k ⟨hk,he⟩
 refine zS<|zP 1 [yH [(2,{k:=a.length})]] [.aa [14,10,0,1,5] []] [yI (aC a)] (zD 14 ((↑k:Int)<(↑a.length:Int)) (fun h=>?_) (fun h=>?_))
 ·skip
  refine aW<|zS<|zB 1<|zP 1 [{hs:=[(2,{k:=k}),(3,yV (aw (a.getD k 0))),(6,{k:=k}),(7,yV (aw (b.getD k 0))),(8,yV (ao (a.getD k 0 != b.getD k 0)))],T:=8}] [.aa [25,14,10,0,1,5] []] [yR (↑k:Int),yB (k<(aj a).length) (by simp only [aC];omega),yB ((aj a)[k]?=some (aw (a.getD k 0))) (dK ah),yR (↑k:Int),yB (k<(aj b).length) (by simp only [aC];omega),yB ((aj b)[k]?=some (aw (b.getD k 0))) (dK ah),yI (cJ (a.getD k 0) (b.getD k 0))] (zN 25 (a.getD k 0) (b.getD k 0) (fun h2=>?_) (fun h2=>?_))
  ·have e:=xM a b k hl he ah h2
   refine zq<|zR<|bc<|aN<|df<|bc<|aN (zV [yB (Value.bool false=Value.bool (a == b)) (by rw [e])])
  ·skip
   refine zK<|aM<|ak<|zX (yH [(1,yV (ai ((↑k:Int)+1)))]) [yN ((↑k:Int)+1)] (aH (k+1) ⟨ah,xH hl he ah h2⟩ ah (zW [.aa [10,0,1,5] []]))
 ·have e:k=a.length:=ah
  subst e
  have e:(a == b)=true:=by
   rw [beq_iff_eq];rw [List.take_of_length_le (Nat.le_refl _),List.take_of_length_le ah] at he;exact he
  refine zE 0<|aS<|aK<|bg<|ak<|zq<|zR (zV [yB (Value.bool true=Value.bool (a == b)) (by rw [e])])
end Go.Proofs.YtjgbhhnghedgdaaGreatDoor
