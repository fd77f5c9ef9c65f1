import Derived.Test.YtjgbhhnghedgdaaGreatDoorZvRec3
set_option linter.all false
namespace Go.Proofs.YtjgbhhnghedgdaaGreatDoor
open Go.RowKit
set_option maxRecDepth 100000
set_option maxHeartbeats 4000000
theorem ft {n:Int} (h0:0≤n) (h1:n≤9223372036854775807):IntKind.i64.wrap n=n:=by
 have:=eN (n:=n) ag h1
 injection this with this;injection this
theorem ni (m:UInt64):bG Tryz.prog 139 [aw m] (.arr (au (cB m))):=by
 refine zO Tryz.func139 32<|zQ 3 [yH [(0,yV (AV.arr (au (List.replicate 18 (0:Int)))))],yH [(0,yV (AV.arr (au (List.replicate 18 (0:Int)))))],{}] (yM 2 (yR (au (List.replicate 18 (0:Int)))))<|zS<|zq<|zB 0 (zL (fun (k:Nat)=>(⟨[(3,AV.addr 3 0),(2,AV.addr 2 0),(0,aw m),(6,ai k),(4,ai (bo m k))],[(2,⟨1,true,true,au (List.replicate 18 (0:Int))⟩),(3,⟨1,true,false,au (jl m k)⟩)]⟩:AS)) (fun k=>(k≤16)) (fun k=>(16-k)) (0) ?_ (zW [.loose 3,.aa [3,2,0,6,4] [2,3]]) ?_)
 ·omega
 intro k hk
 have hs:=rT m k
 refine zq<|zS (zD 7 ((↑k:Int)<16) (fun h=>?_) (fun h=>?_))
 ·have hn:=C7 m k
  have e1:IntKind.i64.wrap (wv ((m>>>UInt64.ofNat (60-4*(k:Int)).toNat)&&&15))=(nE m k:Int):=by
   rw [show (60-4*(k:Int)).toNat=60-4*k by omega,ES m k ag];exact ft ag ag
  have e2:=J2 m k
  have e3:(jl m (k+1)).getD k 0=(nE m k:Int):=by rw [L7 m _ k ag,if_pos ag]
  have e4:IntKind.i64.wrap ((bo m k:Int)+IntKind.i64.wrap (15-((jl m k).set k (nE m k:Int)).getD k 0))=(bo m (k+1):Int):=by
   rw [e2,e3,ft (n:=15-_) ag ag,ft ag ag];simp only [bo];omega
  refine a_<|zS<|zB 1<|zP 2 [{},yH [(3,yV (ai ((4:Int)*(↑k:Int)))),(4,yV (ai ((60:Int)-4*(↑k:Int)))),(5,yV (aw (m>>>UInt64.ofNat ((60:Int)-4*(↑k:Int)).toNat))),(6,yV (aw (m>>>UInt64.ofNat ((60:Int)-4*(↑k:Int)).toNat&&&(15:UInt64)))),(7,yV (ai (↑(nE m k):Int))),(8,{k:=k}),(9,yV (AV.arr (au ((jl m k).set k (↑(nE m k):Int)))))]] [.aa [5,7,3,2,0,6,4] [3,2]] [yN ((4:Int)*(↑k:Int)),yN ((60:Int)-4*(↑k:Int)),yI (fB m ((60:Int)-4*(↑k:Int)) ag ag),yO ((0:Int)≤60-4*(↑k:Int)),yI (jh (m>>>UInt64.ofNat ((60:Int)-4*(↑k:Int)).toNat) 15),yI (yc e1),yR (↑k:Int),yO (k<18),yB ((au (jl m k)).set k (ai (↑(nE m k):Int))=au ((jl m k).set k (↑(nE m k):Int))) (Gk _ _ _),yO (k+1≤18)]<|zX (yH [(2,{k:=k}),(3,yV (ai (((jl m k).set k (↑(nE m k):Int)).getD k (0:Int))))]) [yR (↑k:Int),yO (k<18),yB ((au ((jl m k).set k (↑(nE m k):Int)))[k]?=some (ai (((jl m k).set k (↑(nE m k):Int)).getD k (0:Int)))) (k_ (by simp only [List.length_set,J3];omega))]<|aJ<|al<|zX (yH [(0,yV (ai ((↑k:Int)+1)))]) [yN ((↑k:Int)+1)] (aH (k+1) ag ag (eS [.aa [3,2,0,6,4] [2,3]] [4] [3] [yI (yc e4),yB (au ((jl m k).set k (↑(nE m k):Int))=au (jl m (k+1))) (congrArg au e2)]))
 ·have e:k=16:=ag
  subst e
  have e1:IntKind.i64.wrap (((bo m 16:Nat):Int).tdiv 16)=((bo m 16/16:Nat):Int):=by
   rw [Int.tdiv_eq_ediv_of_nonneg ag];rw [ft ag ag];omega
  have e2:((bo m 16:Nat):Int)%16=((bo m 16%16:Nat):Int):=ag
  have e3:=J4 m
  refine zE 0<|a6<|aM<|bm<|al<|bg.uY 3 [{hs:=[(1,{av:=some (ai (↑(bo m 16/16):Int))}),(2,{k:=16}),(3,{av:=some (AV.arr (au ((jl m 16).set 16 (↑(bo m 16/16):Int))))})]},{hs:=[(1,{av:=some (ai ((↑(bo m 16):Int)%(16:Int)))}),(2,{av:=some (ai (↑(bo m 16%16):Int)),k:=17}),(3,{av:=some (AV.arr (au (((jl m 16).set 16 (↑(bo m 16/16):Int)).set 17 ((↑(bo m 16):Int)%(16:Int)))))})]},{hs:=[(0,{av:=some (AV.arr (au (cB m)))}),(1,{av:=some (AV.arr (au (cB m))),k:=1})]}] [.aa [7,3,2,0,6,4] [2,3]] bu (C:=[ai (IntKind.i64.wrap ((↑(bo m 16):Int).tdiv (16:Int)))=ai (↑(bo m 16/16):Int),(16:Int)≠(0:Int),(16:Int)=(↑(16:Nat):Int),16<18,(au (jl m 16)).set 16 (ai (↑(bo m 16/16):Int))=au ((jl m 16).set 16 (↑(bo m 16/16):Int)),17≤18,ai ((↑(bo m 16):Int).tmod (16:Int))=ai ((↑(bo m 16):Int)%(16:Int)),(16:Int)≠(0:Int),(17:Int)=(↑(17:Nat):Int),17<18,(au ((jl m 16).set 16 (↑(bo m 16/16):Int))).set 17 (ai ((↑(bo m 16):Int)%(16:Int)))=au (((jl m 16).set 16 (↑(bo m 16/16):Int)).set 17 ((↑(bo m 16):Int)%(16:Int))),18≤18,List.take 18 (List.drop 0 (au (((jl m 16).set 16 (↑(bo m 16/16):Int)).set 17 ((↑(bo m 16):Int)%(16:Int)))))=au (cB m),(au (cB m)).length=18,List.take 0 (au (List.replicate 18 (0:Int)))++au (cB m)++List.drop 18 (au (List.replicate 18 (0:Int)))=au (cB m),(au (cB m)).length=18,∀(x:AV),x∈au (cB m)->iC x=true,18≤18]) bu ⟨(Ak ag ag ag),ag,rfl,ag,rfl,ag,rfl,ag,rfl,ag,rfl,ag,rfl,rfl,rfl,rfl,(Bm _),ag,trivial⟩<|zR (zV [yR 18,yR (au (cB m))])
theorem yr (leaf chain src dst:Int) (x:UInt64):bG Tryz.prog 140 [ai leaf,ai chain,ai src,ai dst,aw x] (aw (run leaf chain src dst x)):=by
 unfold run
 have hp:(if 0>src then 0 else src)=max src 0:=by split<;>omega
 have he:(if 15<dst then 15 else dst)=min dst 15:=by split<;>omega
 generalize VV:max src 0=p at *
 generalize Tq:min dst 15=e at *
 refine zO Tryz.func140 33<|zP 2 [{},yH [(1,yV (ai e))]] [.aa [11,10,0,1,2,3,4] []] [yI (yc he)]<|zS<|zP 1 [yH [(1,yV (ai p))]] [.aa [12,11,10,0,1,2,3,4] []] [yI (yc hp)]<|zB 0 (zL (fun (k:Nat)=>(⟨[(11,ai e),(10,AV.val (Value.int .u64 0)),(0,ai leaf),(1,ai chain),(2,ai src),(3,ai dst),(12,ai (p+k)),(4,aw (jU leaf chain p x k))],[]⟩:AS)) (fun k=>(k≤(e-p).toNat)) (fun k=>((e-p).toNat-k)) (0) ?_ (eS [.aa [11,10,0,1,2,3,12,4] []] [12] [] [yB (ai p=ai (p+(↑(0:Nat):Int))) (congrArg (fun n=>AV.val (.int .i64 n)) ag)]) ?_)
 ·omega
 intro k hk
 refine zS<|zP 1 [{}] [.aa [19,11,10,0,1,2,3,12,4] []] [] (zD 19 (p+(↑k:Int)<e) (fun h=>?_) (fun h=>?_))
 ·have hw:(words [u64 leaf,u64 chain,u64 (p+k),jU leaf chain p x k]).length=32:=by rw [eu];rfl
  refine a_<|zS<|zB 1<|zX (yH [(1,yV (aw (u64 leaf))),(3,yV (aw (u64 chain))),(5,yV (aw (u64 (p+(↑k:Int))))),(7,yV (AV.arr (ah [u64 leaf,u64 chain,u64 (p+(↑k:Int)),jU leaf chain p x k]))),(8,yV (AV.own 1 (aj (words [u64 leaf,u64 chain,u64 (p+(↑k:Int)),jU leaf chain p x k])))),(9,yV (aw (hash (1:Int) (words [u64 leaf,u64 chain,u64 (p+(↑k:Int)),jU leaf chain p x k]))))]) [yI (a7 leaf),yI (a7 chain),yI (a7 (p+(↑k:Int))),yR (ah [u64 leaf,u64 chain,u64 (p+(↑k:Int)),jU leaf chain p x k]),yI (kE [u64 leaf,u64 chain,u64 (p+(↑k:Int)),jU leaf chain p x k] (by simp only [List.length_cons,List.length_nil];omega)),yI (aV (words [u64 leaf,u64 chain,u64 (p+(↑k:Int)),jU leaf chain p x k])),yI (oo ((1:Int)) (words [u64 leaf,u64 chain,u64 (p+(↑k:Int)),jU leaf chain p x k]))]<|aJ<|al<|zX (yH [(1,yV (ai (p+(↑k:Int)+1)))]) [yN (p+(↑k:Int)+1)] (aH (k+1) ag ag (eS [.aa [11,10,0,1,2,3,12,4] []] [12] [] [yB (ai (p+(↑k:Int)+1)=ai (p+(↑(k+1):Int))) (congrArg (fun n=>AV.val (.int .i64 n)) ag)]))
 ·have e1:k=(e-p).toNat:=ag
  subst e1
  refine zE 0<|a6<|aM<|bm<|al<|zP 1 [{}] [.aa [10,19,11,0,1,2,3,12,4] []] []<|zR (bP)
theorem pK (leaf chain src dst:Int) (x:UInt64):bG Tryz.prog 147 [ai leaf,ai chain,ai src,ai dst,aw x] (aw (run leaf chain src dst x)):=by
 unfold run
 have hp:(if 0>src then 0 else src)=max src 0:=by split<;>omega
 have he:(if 15<dst then 15 else dst)=min dst 15:=by split<;>omega
 generalize VV:max src 0=p at *
 generalize Tq:min dst 15=e at *
 refine zO Tryz.func147 31<|zq<|zS<|zP 1 [yH [(1,yV (ai p))]] [.aa [11,10,0,1,2,3,4] []] [yI (yc hp)]<|zB 0 (zL (fun (k:Nat)=>(⟨[(10,AV.val (Value.int .u64 0)),(0,ai leaf),(1,ai chain),(2,ai src),(3,ai dst),(11,ai (p+k)),(4,aw (jU leaf chain p x k))],[]⟩:AS)) (fun k=>(k≤(e-p).toNat)) (fun k=>((e-p).toNat-k)) (0) ?_ (eS [.aa [10,0,1,2,3,11,4] []] [11] [] [yB (ai p=ai (p+(↑(0:Nat):Int))) (congrArg (fun n=>AV.val (.int .i64 n)) ag)]) ?_)
 ·omega
 intro k hk
 refine zS<|zP 1 [yH [(2,yV (ai e))]] [.aa [17,10,0,1,2,3,11,4] []] [yI (yc he)] (zD 17 (p+(↑k:Int)<e) (fun h=>?_) (fun h=>?_))
 ·have hw:(words [u64 leaf,u64 chain,u64 (p+k),jU leaf chain p x k]).length=32:=by rw [eu];rfl
  refine a_<|zS<|zB 1<|zX (yH [(1,yV (aw (u64 leaf))),(3,yV (aw (u64 chain))),(5,yV (aw (u64 (p+(↑k:Int))))),(7,yV (AV.arr (ah [u64 leaf,u64 chain,u64 (p+(↑k:Int)),jU leaf chain p x k]))),(8,yV (AV.own 1 (aj (words [u64 leaf,u64 chain,u64 (p+(↑k:Int)),jU leaf chain p x k])))),(9,yV (aw (hash (1:Int) (words [u64 leaf,u64 chain,u64 (p+(↑k:Int)),jU leaf chain p x k]))))]) [yI (a7 leaf),yI (a7 chain),yI (a7 (p+(↑k:Int))),yR (ah [u64 leaf,u64 chain,u64 (p+(↑k:Int)),jU leaf chain p x k]),yI (dO [u64 leaf,u64 chain,u64 (p+(↑k:Int)),jU leaf chain p x k] (by simp only [List.length_cons,List.length_nil];omega)),yI (aV (words [u64 leaf,u64 chain,u64 (p+(↑k:Int)),jU leaf chain p x k])),yI (iQ ((1:Int)) (words [u64 leaf,u64 chain,u64 (p+(↑k:Int)),jU leaf chain p x k]) ag)]<|aJ<|al<|zX (yH [(1,yV (ai (p+(↑k:Int)+1)))]) [yN (p+(↑k:Int)+1)] (aH (k+1) ag ag (eS [.aa [10,0,1,2,3,11,4] []] [11] [] [yB (ai (p+(↑k:Int)+1)=ai (p+(↑(k+1):Int))) (congrArg (fun n=>AV.val (.int .i64 n)) ag)]))
 ·have e1:k=(e-p).toNat:=ag
  subst e1
  refine zE 0<|a6<|aM<|bm<|al<|zP 1 [{}] [.aa [10,17,0,1,2,3,11,4] []] []<|zR (bP)
theorem uQ (seed:UInt64) (leaf c:Int):bG Tryz.prog 141 [aw seed,ai leaf,ai c] (aw (ar seed leaf c)):=by
 refine zO Tryz.func141 15<|zP 2 [{},yH [(2,yV (aw (u64 leaf))),(4,yV (aw (u64 c))),(5,yV (AV.arr (ah [u64 leaf,u64 c]))),(6,yV (AV.own 1 (aj (words [u64 leaf,u64 c])))),(7,yV (aw (Ar seed (1:Int) (words [u64 leaf,u64 c]))))]] [.aa [6,0,1,2] []] [yI (a7 leaf),yI (a7 c),yR (ah [u64 leaf,u64 c]),yI (kE [u64 leaf,u64 c] (by simp only [List.length_cons,List.length_nil];omega)),yI (aV (words [u64 leaf,u64 c])),yI (Lj seed ((1:Int)) (words [u64 leaf,u64 c]))]<|zR (bP)
theorem pt (seed:UInt64) (leaf c:Int):bG Tryz.prog 148 [aw seed,ai leaf,ai c] (aw (ar seed leaf c)):=by
 have hw:(words [u64 leaf,u64 c]).length=16:=by rw [eu];rfl
 refine zO Tryz.func148 15<|zP 2 [{},yH [(2,yV (aw (u64 leaf))),(4,yV (aw (u64 c))),(5,yV (AV.arr (ah [u64 leaf,u64 c]))),(6,yV (AV.own 1 (aj (words [u64 leaf,u64 c])))),(7,yV (aw (Ar seed (1:Int) (words [u64 leaf,u64 c]))))]] [.aa [6,0,1,2] []] [yI (a7 leaf),yI (a7 c),yR (ah [u64 leaf,u64 c]),yI (dO [u64 leaf,u64 c] (by simp only [List.length_cons,List.length_nil];omega)),yI (aV (words [u64 leaf,u64 c])),yI (pL seed ((1:Int)) (words [u64 leaf,u64 c]) ag)]<|zR (bP)
theorem GZ (c:UInt64) (l:List UInt64) (hl:l.length=18):setCells (ah ((List.replicate 19 0).set 0 c)) 1 ((ah l).take (cZ 18 1))=ah (c::l):=by
 have h1:(ah l).take (cZ 18 1)=ah l:=List.take_of_length_le (by rw [bz,aA];omega)
 rw [h1,nR _ _ _ (by rw [aA,aA,List.length_set,List.length_replicate];omega),aA,hl]
 simp [ah,List.replicate_succ]
theorem tr (leaf:Int) (l:List UInt64) (hl:l.length=18):bG Tryz.prog 168 [ai leaf,.arr (ah l)] (aw (combine leaf l)):=by
 have hc:(u64 leaf::l).length=19:=by simp [hl]
 have h0:(ah l).length=18:=by rw [aA,hl]
 refine zO Tryz.func168 15<|zP 5 [{},yH [(0,yV (AV.arr (ah (List.replicate 19 0))))],yH [(1,yV (aw (u64 leaf))),(2,{k:=0}),(3,yV (AV.arr (ah ((List.replicate 19 0).set 0 (u64 leaf)))))],{hs:=[(0,{k:=1}),(2,{av:=some (AV.arr (ah (u64 leaf::l))),k:=18,b:=false})],T:=2},yH [(1,yC (kE (u64 leaf::l) ag)),(2,yV (aw (hash (2:Int) (words (u64 leaf::l)))))]] [.aa [4,5,3,0,1] [5,3]] [yR (ah (List.replicate 19 0)),yI (a7 leaf),yR (0:Int),yO (0<19),yR (ah ((List.replicate 19 0).set 0 (u64 leaf))),yL 1 19,yR (1:Int),yL 1 19,yR 19,yB (19≤maxLen) (by decide),yI h0,yB (18≤maxLen) (by decide),yB ((match List.take 18 (ah l) with| [x]=>(ah ((List.replicate 19 0).set 0 (u64 leaf))).set 1 x|l=>List.take 1 (ah ((List.replicate 19 0).set 0 (u64 leaf)))++l++List.drop (1+l.length) (ah ((List.replicate 19 0).set 0 (u64 leaf))))=ah (u64 leaf::l)) (GZ _ l hl),yB (cp (ah l)) (qw _),yO (min (ah l).length (19-1)=18),yO (0<19-1),yB ((ah (u64 leaf::l)).length=19) (by simp only [aA];omega),yB (19≤maxLen) (by decide),yI (kE (u64 leaf::l) ag),yI (aV (words (u64 leaf::l))),yI (oo ((2:Int)) (words (u64 leaf::l)))]<|zR (bP)
theorem sZ (seed:UInt64) (leaf:Int):bG Tryz.prog 143 [aw seed,ai leaf] (aw (combine leaf (bK seed leaf 18))):=by
 have hl:=s5 seed leaf 18
 refine zO Tryz.func143 23<|zQ 2 [{},yH [(0,yV (AV.arr (ah (List.replicate 18 0))))]] [yR (ah (List.replicate 18 0))]<|zS<|zq<|zB 0 (zL (fun (k:Nat)=>(⟨[(5,AV.addr 5 0),(4,AV.val (Value.int .u64 0)),(0,aw seed),(1,ai leaf),(7,ai k)],[(5,⟨1,true,false,ah (cU 18 (bK seed leaf 18) k)⟩)]⟩:AS)) (fun k=>(k≤18)) (fun k=>(18-k)) (0) ?_ (zW [.loose 5,.aa [5,4,0,1,7] [5]]) ?_)
 ·omega
 intro k hk
 have hf:=kL hl hk
 refine zq<|zS (zD 8 ((↑k:Int)<18) (fun h=>?_) (fun h=>?_))
 ·have e1:=mB hl (ag:k<18)
  have e2:=CY seed leaf k ag
  refine a_<|zS<|zB 1<|zq<|zX (yH [(6,yV (aw (ar seed leaf (↑k:Int)))),(7,yV (aw (run leaf (↑k:Int) (0:Int) (15:Int) (ar seed leaf (↑k:Int))))),(8,{k:=k}),(9,yV (AV.arr (ah ((cU 18 (bK seed leaf 18) k).set k (run leaf (↑k:Int) (0:Int) (15:Int) (ar seed leaf (↑k:Int)))))))]) [yI (uQ seed leaf ((↑k:Int))),yI (yr leaf ((↑k:Int)) ((0:Int)) ((15:Int)) (ar seed leaf (↑k:Int))),yR (↑k:Int),yO (k<18),yB ((ah (cU 18 (bK seed leaf 18) k)).set k (aw (run leaf (↑k:Int) (0:Int) (15:Int) (ar seed leaf (↑k:Int))))=ah ((cU 18 (bK seed leaf 18) k).set k (run leaf (↑k:Int) (0:Int) (15:Int) (ar seed leaf (↑k:Int))))) (kO _ _ _),yB (k+1≤(ah (cU 18 (bK seed leaf 18) k)).length) (by simp only [aA];omega)]<|aJ<|al<|zX (yH [(0,yV (ai ((↑k:Int)+1)))]) [yN ((↑k:Int)+1)] (aH (k+1) ag ag (eS [.aa [5,4,0,1,7] [5]] [] [5] [yB (ah ((cU 18 (bK seed leaf 18) k).set k (run leaf (↑k:Int) (0:Int) (15:Int) (ar seed leaf (↑k:Int))))=ah (cU 18 (bK seed leaf 18) (k+1))) (congrArg ah (by rw [←e2];exact e1))]))
 ·have e:k=18:=ag
  subst e
  have e1:=lg hl
  refine zE 0<|a6<|aM<|bm<|al<|zP 1 [yH [(1,yV (AV.arr (ah (bK seed leaf 18)))),(2,yV (aw (combine leaf (bK seed leaf 18))))]] [.aa [4,8,5,0,1,7] [5]] [yR (ah (bK seed leaf 18)),yR 18,yI (tr leaf (bK seed leaf 18) rfl)]<|zR (bP)
theorem rK (seed:UInt64) (leaf:Int) (m:UInt64):bG Tryz.prog 96 [aw seed,ai leaf,aw m] (.own 1 (ah (bS seed leaf m 18))):=by
 have hl:=oH seed leaf m 18
 have hd:=ox m
 refine zO Tryz.func96 28<|zQ 2 [{},yH [(0,yV (AV.arr (ah (List.replicate 18 0))))]] [yR (ah (List.replicate 18 0))]<|zS<|zQ 1 [yH [(1,yD (ni (m)))]] [yI (ni m)]<|zB 0 (zL (fun (k:Nat)=>(⟨[(11,AV.arr (au (cB m))),(7,AV.addr 7 0),(6,AV.nil),(0,aw seed),(1,ai leaf),(2,aw m),(12,ai k)],[(7,⟨1,true,true,ah (cU 18 (bS seed leaf m 18) k)⟩)]⟩:AS)) (fun k=>(k≤18)) (fun k=>(18-k)) (0) ?_ (zW [.aa [11,7,6,0,1,2,12] [7]]) ?_)
 ·omega
 intro k hk
 have hf:=kL hl hk
 refine zq<|zS (zD 13 ((↑k:Int)<18) (fun h=>?_) (fun h=>?_))
 ·have e1:=mB hl (ag:k<18)
  have e2:=HR seed leaf m k ag
  refine a_<|zS<|zB 1<|zP 1 [yH [(1,{av:=some (ai ((cB m).getD k (0:Int))),k:=k})]] [.aa [9,8,13,11,7,6,0,1,2,12] [7]] [yR (↑k:Int),yO (k<18),yB ((au (cB m))[k]?=some (ai ((cB m).getD k (0:Int)))) (k_ ag)]<|zX (yH [(7,yV (aw (ar seed leaf (↑k:Int)))),(8,yV (aw (run leaf (↑k:Int) (0:Int) ((cB m).getD k (0:Int)) (ar seed leaf (↑k:Int))))),(9,{k:=k}),(10,yV (AV.arr (ah ((cU 18 (bS seed leaf m 18) k).set k (run leaf (↑k:Int) (0:Int) ((cB m).getD k (0:Int)) (ar seed leaf (↑k:Int)))))))]) [yI (uQ seed leaf ((↑k:Int))),yI (yr leaf ((↑k:Int)) ((0:Int)) ((cB m).getD k (0:Int)) (ar seed leaf (↑k:Int))),yR (↑k:Int),yO (k<18),yB ((ah (cU 18 (bS seed leaf m 18) k)).set k (aw (run leaf (↑k:Int) (0:Int) ((cB m).getD k (0:Int)) (ar seed leaf (↑k:Int))))=ah ((cU 18 (bS seed leaf m 18) k).set k (run leaf (↑k:Int) (0:Int) ((cB m).getD k (0:Int)) (ar seed leaf (↑k:Int))))) (kO _ _ _),yB (k+1≤(ah (cU 18 (bS seed leaf m 18) k)).length) (by simp only [aA];omega)]<|aJ<|al<|zX (yH [(0,yV (ai ((↑k:Int)+1)))]) [yN ((↑k:Int)+1)] (aH (k+1) ag ag (eS [.aa [11,7,6,0,1,2,12] [7]] [] [7] [yB (ah ((cU 18 (bS seed leaf m 18) k).set k (run leaf (↑k:Int) (0:Int) ((cB m).getD k (0:Int)) (ar seed leaf (↑k:Int))))=ah (cU 18 (bS seed leaf m 18) (k+1))) (congrArg ah (by rw [←e2];exact e1))]))
 ·have e:k=18:=ag
  subst e
  have e1:=lg hl
  refine zE 0<|a6<|aM<|bm<|al<|zQ 1 [{}] [yR 18,yB (18≤maxLen) (by decide)]<|zR (bP)
def qq (leaf:Int) (m:UInt64) (s:List UInt64):UInt64:=if s.length=18 then combine leaf (cP leaf m s 18) else 0
def mV (s:List UInt64):Int:=if s.length=18 then 0 else 4
theorem sY (leaf:Int) (m:UInt64) (s:List UInt64):bG Tryz.prog 150 [ai leaf,aw m,.sl 1 (ah s)] (.cw [aw (qq leaf m s),ai (mV s)]):=by
 by_cases hs:s.length=18
 case neg =>
  have e1:qq leaf m s=0:=if_neg hs
  have e2:mV s=4:=if_neg hs
  refine zO Tryz.func150 34<|zq<|zS<|zP 1 [yH [(1,{k:=s.length})]] [.aa [13,7,6,0,1,2] []] [yI (aA s)]<|dB 13 ((↑s.length:Int) != (18:Int)) (by simp;omega)<|zq<|dC (zV [yK 0 (wv (qq leaf m s)) (by rw [e1];rfl),yJ 4 (mV s) (by rw [e2])])
 have e1:qq leaf m s=combine leaf (cP leaf m s 18):=if_pos hs
 have e2:mV s=0:=if_pos hs
 have hl:=Bg leaf m s 18
 have hd:=ox m
 refine zO Tryz.func150 34<|zq<|zS<|zP 1 [yH [(1,{k:=s.length})]] [.aa [13,7,6,0,1,2] []] [yI (aA s)]<|bk 13 ((↑s.length:Int) != (18:Int)) (by simp_all)<|a_<|zQ 1 [yH [(0,yV (AV.arr (ah (List.replicate 18 0))))]] [yR (ah (List.replicate 18 0))]<|zS<|zQ 1 [yH [(1,yD (ni (m)))]] [yI (ni m)]<|zB 0 (zL (fun (k:Nat)=>(⟨[(15,AV.arr (au (cB m))),(8,AV.addr 8 0),(13,ao ((↑s.length:Int) != (18:Int))),(7,ai 0),(6,AV.val (Value.int .u64 0)),(0,ai leaf),(1,aw m),(2,AV.sl 1 (ah s)),(16,ai k)],[(8,⟨1,true,false,ah (cU 18 (cP leaf m s 18) k)⟩)]⟩:AS)) (fun k=>(k≤18)) (fun k=>(18-k)) (0) ?_ (zW [.loose 8,.aa [15,8,13,7,6,0,1,2,16] [8]]) ?_)
 ·omega
 intro k hk
 have hf:=kL hl hk
 refine zq<|zS (zD 17 ((↑k:Int)<18) (fun h=>?_) (fun h=>?_))
 ·have e3:=mB hl (ag:k<18)
  have e4:=La leaf m s k ag
  refine a_<|zS<|zB 1<|zP 1 [yH [(1,{av:=some (ai ((cB m).getD k (0:Int))),k:=k})]] [.aa [10,9,17,15,8,13,7,6,0,1,2,16] [8]] [yR (↑k:Int),yO (k<18),yB ((au (cB m))[k]?=some (ai ((cB m).getD k (0:Int)))) (k_ ag)]<|zX (yH [(6,{k:=k}),(7,yV (aw (s.getD k 0))),(8,yV (aw (run leaf (↑k:Int) ((cB m).getD k (0:Int)) (15:Int) (s.getD k 0)))),(9,{k:=k}),(10,yV (AV.arr (ah ((cU 18 (cP leaf m s 18) k).set k (run leaf (↑k:Int) ((cB m).getD k (0:Int)) (15:Int) (s.getD k 0))))))]) [yR (↑k:Int),yB (k<(ah s).length) (by simp only [aA];omega),yB ((ah s)[k]?=some (aw (s.getD k 0))) (dX ag),yI (yr leaf ((↑k:Int)) ((cB m).getD k (0:Int)) ((15:Int)) (s.getD k 0)),yR (↑k:Int),yO (k<18),yB ((ah (cU 18 (cP leaf m s 18) k)).set k (aw (run leaf (↑k:Int) ((cB m).getD k (0:Int)) (15:Int) (s.getD k 0)))=ah ((cU 18 (cP leaf m s 18) k).set k (run leaf (↑k:Int) ((cB m).getD k (0:Int)) (15:Int) (s.getD k 0)))) (kO _ _ _),yB (k+1≤(ah (cU 18 (cP leaf m s 18) k)).length) (by simp only [aA];omega)]<|aJ<|al<|zX (yH [(0,yV (ai ((↑k:Int)+1)))]) [yN ((↑k:Int)+1)] (aH (k+1) ag ag (eS [.aa [15,8,13,7,6,0,1,2,16] [8]] [] [8] [yB (ah ((cU 18 (cP leaf m s 18) k).set k (run leaf (↑k:Int) ((cB m).getD k (0:Int)) (15:Int) (s.getD k 0)))=ah (cU 18 (cP leaf m s 18) (k+1))) (congrArg ah (by rw [←e4];exact e3))]))
 ·have e:k=18:=ag
  subst e
  have e3:=lg hl
  refine zE 0<|a6<|aM<|bm<|al<|zP 1 [yH [(1,yV (AV.arr (ah (cP leaf m s 18)))),(2,yV (aw (combine leaf (cP leaf m s 18))))]] [.aa [7,6,17,15,8,13,0,1,2,16] [8]] [yR (ah (cP leaf m s 18)),yR 18,yI (tr leaf (cP leaf m s 18) rfl)]<|zR (zV [yK (wv (combine leaf (cP leaf m s 18))) (wv (qq leaf m s)) (by rw [e1]),yJ 0 (mV s) (by rw [e2])])
theorem iz (m:UInt64):bG Tryz.prog 146 [aw m] (.own 1 (au (cB m))):=by
 refine zO Tryz.func146 33<|zQ 3 [{},{},{}] []<|zS<|zq<|zB 0 (zL (fun (k:Nat)=>(⟨[(2,AV.nil),(0,aw m),(5,ai (15-k)),(4,ai (bo m k)),(3,AV.ref 21)],[(21,⟨1,true,false,au (iL m k)⟩)]⟩:AS)) (fun k=>(k≤16)) (fun k=>(16-k)) (0) ?_ (zW [.nil 3 21 1,.aa [2,0,5,4,3] [21]]) ?_)
 ·omega
 intro k hk
 have hs:=rT m k
 have hl:=D5 m k
 refine zS<|zq (zD 8 ((15:Int)-(↑k:Int)≥0) (fun h=>?_) (fun h=>?_))
 ·have hn:=C7 m k
  have e0:IntKind.u64.wrap (4*(15-(k:Int)))=((60-4*k:Nat):Int):=by rw [IntKind.wrap_u64];omega
  have e1:IntKind.i64.wrap (wv ((m>>>UInt64.ofNat (((60-4*k:Nat):Int)).toNat)&&&15))=(nE m k:Int):=by
   rw [show (((60-4*k:Nat):Int)).toNat=60-4*k by omega,ES m k ag];exact ft ag ag
  have e4:(bo m k:Int)+(15-(nE m k:Int))=(bo m (k+1):Int):=by simp only [bo];omega
  refine a_<|zS<|zB 1<|zP 2 [yH [(2,yV (ai ((4:Int)*((15:Int)-(↑k:Int))))),(3,yV (AV.val (Value.int .u64 (↑(60-4*k):Int)))),(4,yV (aw (m>>>UInt64.ofNat (↑(60-4*k):Int).toNat))),(5,yV (aw (m>>>UInt64.ofNat (↑(60-4*k):Int).toNat&&&(15:UInt64)))),(6,yV (ai (↑(nE m k):Int)))],yH [(2,yV (AV.arr (au [(↑(nE m k):Int)]))),(3,yV (AV.arr (au (iL m k++ [(↑(nE m k):Int)]))))]] [.aa [3,6,8,2,0,5,4] [21]] [yN ((4:Int)*((15:Int)-(↑k:Int))),yI (yd e0),yI (fB m ((↑(60-4*k):Int)) ag ag),yO ((0:Int)≤(↑(60-4*k):Int)),yI (jh (m>>>UInt64.ofNat (↑(60-4*k):Int).toNat) 15),yI (yc e1),yR [ai (↑(nE m k):Int)],yB (au (iL m k)++au [(↑(nE m k):Int)]=au (iL m k++ [(↑(nE m k):Int)])) (Gl _ _),yB (((au (iL m k)).length+1)*8≤140737488355328) (by simp only [iT];omega)]<|zX (yH [(2,yV (ai ((15:Int)-(↑(nE m k):Int)))),(3,yV (ai ((↑(bo m k):Int)+((15:Int)-(↑(nE m k):Int)))))]) [yN ((15:Int)-(↑(nE m k):Int)),yN ((↑(bo m k):Int)+((15:Int)-(↑(nE m k):Int)))]<|aJ<|al<|zX (yH [(1,yV (ai ((15:Int)-(↑k:Int)-1)))]) [yN ((15:Int)-(↑k:Int)-1)] (aH (k+1) ag ag (eS [.aa [2,0,5,4,3] [21]] [5,4] [21] [yB (ai ((15:Int)-(↑k:Int)-1)=ai ((15:Int)-(↑(k+1):Int))) (congrArg (fun n=>AV.val (.int .i64 n)) ag),yB (ai ((↑(bo m k):Int)+((15:Int)-(↑(nE m k):Int)))=ai (↑(bo m (k+1)):Int)) (congrArg (fun n=>AV.val (.int .i64 n)) ag),yB (au (iL m k++ [(↑(nE m k):Int)])=au (iL m (k+1))) (congrArg au (Ce m k).symm)]))
 ·have e:k=16:=ag
  subst e
  have e1:IntKind.i64.wrap (((bo m 16:Nat):Int).tdiv 16)=((bo m 16/16:Nat):Int):=by
   rw [Int.tdiv_eq_ediv_of_nonneg ag];rw [ft ag ag];omega
  have e2:((bo m 16:Nat):Int)%16=((bo m 16%16:Nat):Int):=ag
  have e3:=L5 m
  refine zE 0<|a6<|aM<|bm<|al<|zP 1 [yH [(2,yV (ai (↑(bo m 16/16):Int))),(4,yV (ai (↑(bo m 16%16):Int))),(5,yV (AV.arr (au [(↑(bo m 16/16):Int),(↑(bo m 16%16):Int)]))),(6,yV (AV.arr (au (iL m 16++ [(↑(bo m 16/16):Int),(↑(bo m 16%16):Int)]))))]] [.aa [2,8,0,5,4] [32]] [yB (ai (IntKind.i64.wrap ((↑(bo m 16):Int).tdiv (16:Int)))=ai (↑(bo m 16/16):Int)) (Ak ag ag ag),yO ((16:Int)≠(0:Int)),yR (ai (↑(bo m 16%16):Int)),yO ((16:Int)≠(0:Int)),yR [ai (↑(bo m 16/16):Int),ai (↑(bo m 16%16):Int)],yR (au (iL m 16++ [(↑(bo m 16/16):Int),(↑(bo m 16%16):Int)])),yL 144 140737488355328]<|zR (bP)
theorem sX (leaf:Int) (l:List UInt64) (hl:l.length≤18):bG Tryz.prog 156 [ai leaf,.sl 1 (ah l)] (aw (combine leaf l)):=by
 have h1:(words [u64 leaf]).length=8:=by rw [eu];rfl
 have h2:(words l).length=8*l.length:=eu l
 have e:words [u64 leaf]++words l=words (u64 leaf::l):=by rw [←xg];rfl
 refine zO Tryz.func156 13<|zP 2 [{},yH [(1,yV (aw (u64 leaf))),(2,yV (AV.arr (ah [u64 leaf]))),(3,yV (AV.own 1 (aj (words [u64 leaf])))),(5,yV (AV.own 1 (aj (words l)))),(6,{av:=some (AV.arr (aj (words [u64 leaf]++words l))),b:=false}),(7,yV (aw (hash (2:Int) (words [u64 leaf]++words l))))]] [.aa [4,0,1] []] [yI (a7 leaf),yR [aw (u64 leaf)],yI (dO [u64 leaf] (by simp only [List.length_cons,List.length_nil];omega)),yI (aV (words [u64 leaf])),yI (dO l ag),yI (aV (words l)),yR (aj (words [u64 leaf]++words l)),yB (cp (aj (words l))) (gi _),yB ((8+(aj (words l)).length)*1≤140737488355328) (by simp only [aB];omega),yI (iQ ((2:Int)) (words [u64 leaf]++words l) (by simp only [List.length_append];omega))]<|zR (bP)
theorem sW (seed:UInt64) (leaf:Int):bG Tryz.prog 149 [aw seed,ai leaf] (aw (combine leaf (bK seed leaf 18))):=by
 refine zO Tryz.func149 24<|zQ 2 [{},{}] []<|zS<|zq<|zB 0 (zL (fun (k:Nat)=>(⟨[(4,AV.val (Value.int .u64 0)),(0,aw seed),(1,ai leaf),(6,ai k),(5,AV.ref 23)],[(23,⟨1,true,false,ah (bK seed leaf k)⟩)]⟩:AS)) (fun k=>(k≤18)) (fun k=>(18-k)) (0) ?_ (zW [.nil 5 23 1,.aa [4,0,1,6,5] [23]]) ?_)
 ·omega
 intro k hk
 have hl:=s5 seed leaf k
 refine zS<|zq (zD 8 ((↑k:Int)<18) (fun h=>?_) (fun h=>?_))
 ·skip
  refine a_<|zS<|zB 1<|zX (yH [(6,yV (aw (ar seed leaf (↑k:Int)))),(7,yV (aw (run leaf (↑k:Int) (0:Int) (15:Int) (ar seed leaf (↑k:Int))))),(8,yV (AV.arr (ah [run leaf (↑k:Int) (0:Int) (15:Int) (ar seed leaf (↑k:Int))]))),(9,yV (AV.arr (ah (bK seed leaf k++ [run leaf (↑k:Int) (0:Int) (15:Int) (ar seed leaf (↑k:Int))]))))]) [yI (pt seed leaf ((↑k:Int))),yI (pK leaf ((↑k:Int)) ((0:Int)) ((15:Int)) (ar seed leaf (↑k:Int))),yR [aw (run leaf (↑k:Int) (0:Int) (15:Int) (ar seed leaf (↑k:Int)))],yB (ah (bK seed leaf k)++ah [run leaf (↑k:Int) (0:Int) (15:Int) (ar seed leaf (↑k:Int))]=ah (bK seed leaf k++ [run leaf (↑k:Int) (0:Int) (15:Int) (ar seed leaf (↑k:Int))])) (jt _ _),yB (((ah (bK seed leaf k)).length+1)*8≤140737488355328) (by simp only [aA];omega)]<|aJ<|al<|zX (yH [(1,yV (ai ((↑k:Int)+1)))]) [yN ((↑k:Int)+1)] (aH (k+1) ag ag (eS [.uX 20 23,.aa [4,0,1,6,5] [23]] [] [23] [yB (ah (bK seed leaf k++ [run leaf (↑k:Int) (0:Int) (15:Int) (ar seed leaf (↑k:Int))])=ah (bK seed leaf (k+1))) (congrArg ah (yY seed leaf k).symm)]))
 ·have e:k=18:=ag
  subst e
  refine zE 0<|a6<|aM<|bm<|al<|zP 1 [yH [(2,yV (aw (combine leaf (bK seed leaf 18))))]] [.aa [4,8,0,1,6,5] [23]] [yI (sX leaf (bK seed leaf 18) (by assumption))]<|zR (bP)
theorem qo (seed:UInt64) (leaf:Int) (m:UInt64):bG Tryz.prog 102 [aw seed,ai leaf,aw m] (.own 1 (ah (bS seed leaf m 18))):=by
 have hd:=ox m
 refine zO Tryz.func102 31<|zQ 3 [{},yH [(1,yC (iz (m)))],{}] [yI (iz m),yB (kP (au (cB m))) (xl _)]<|zS<|zq<|zB 0 (zL (fun (k:Nat)=>(⟨[(7,AV.ref 11),(6,AV.nil),(0,aw seed),(1,ai leaf),(2,aw m),(9,ai k),(8,AV.ref 29)],[(11,⟨1,true,false,au (cB m)⟩),(29,⟨1,true,false,ah (bS seed leaf m k)⟩)]⟩:AS)) (fun k=>(k≤18)) (fun k=>(18-k)) (0) ?_ (zW [.nil 8 29 1,.aa [7,6,0,1,2,9,8] [11,29]]) ?_)
 ·omega
 intro k hk
 have hl:=oH seed leaf m k
 refine zS<|zq (zD 13 ((↑k:Int)<18) (fun h=>?_) (fun h=>?_))
 ·skip
  refine a_<|zS<|zB 1<|zX ({hs:=[(5,{k:=k}),(6,yV (ai ((cB m).getD k (0:Int)))),(10,yV (aw (ar seed leaf (↑k:Int)))),(11,yV (aw (run leaf (↑k:Int) (0:Int) ((cB m).getD k (0:Int)) (ar seed leaf (↑k:Int))))),(12,yV (AV.arr (ah [run leaf (↑k:Int) (0:Int) ((cB m).getD k (0:Int)) (ar seed leaf (↑k:Int))]))),(13,yV (AV.arr (ah (bS seed leaf m k++ [run leaf (↑k:Int) (0:Int) ((cB m).getD k (0:Int)) (ar seed leaf (↑k:Int))]))))],T:=13}) [yR (↑k:Int),yO (k<18),yB ((au (cB m))[k]?=some (ai ((cB m).getD k (0:Int)))) (k_ ag),yI (pt seed leaf ((↑k:Int))),yI (pK leaf ((↑k:Int)) ((0:Int)) ((cB m).getD k (0:Int)) (ar seed leaf (↑k:Int))),yR [aw (run leaf (↑k:Int) (0:Int) ((cB m).getD k (0:Int)) (ar seed leaf (↑k:Int)))],yB (ah (bS seed leaf m k)++ah [run leaf (↑k:Int) (0:Int) ((cB m).getD k (0:Int)) (ar seed leaf (↑k:Int))]=ah (bS seed leaf m k++ [run leaf (↑k:Int) (0:Int) ((cB m).getD k (0:Int)) (ar seed leaf (↑k:Int))])) (jt _ _),yB (((ah (bS seed leaf m k)).length+1)*8≤140737488355328) (by simp only [aA];omega)]<|aJ<|al<|zX (yH [(1,yV (ai ((↑k:Int)+1)))]) [yN ((↑k:Int)+1)] (aH (k+1) ag ag (eS [.aa [7,6,0,1,2,9,8] [11,29]] [] [29] [yB (ah (bS seed leaf m k++ [run leaf (↑k:Int) (0:Int) ((cB m).getD k (0:Int)) (ar seed leaf (↑k:Int))])=ah (bS seed leaf m (k+1))) (congrArg ah (CI seed leaf m k).symm)]))
 ·have e:k=18:=ag
  subst e
  refine zE 0<|a6<|aM<|bm<|al<|zP 1 [{}] [.aa [6,13,7,0,1,2,9,8] [11,29]] []<|zR (bP)
theorem yq (a b:List UInt64) (k:Nat) (hl:a.length=b.length) (h:a.take k=b.take k) (hk:k<a.length) (hn:a.getD k 0≠b.getD k 0):(a == b)=false:=by
 rw [beq_eq_false_iff_ne]
 intro e;subst e;exact hn rfl
theorem yk {a b:List UInt64} {k:Nat} (hl:a.length=b.length) (h:a.take k=b.take k) (hk:k<a.length) (hn:a.getD k 0=b.getD k 0):a.take (k+1)=b.take (k+1):=by
 rw [List.take_add_one,List.take_add_one,h]
 rw [List.getD_eq_getElem?_getD,List.getD_eq_getElem?_getD,List.getElem?_eq_getElem hk,List.getElem?_eq_getElem ag] at hn
 rw [List.getElem?_eq_getElem hk,List.getElem?_eq_getElem ag]
 simp only [Option.getD_some] at hn
 rw [hn]
theorem jF (a b:List UInt64):bG Tryz.prog 94 [.sl 1 (ah a),.sl 1 (ah b)] (ao (a == b)):=by
 refine bG.len 0 rfl fun V8=>?_
 rw [aA] at V8
 by_cases hl:a.length=b.length
 case neg =>
  have e:(a == b)=false:=by rw [beq_eq_false_iff_ne];intro e;exact hl (by rw [e])
  refine zO Tryz.func94 26<|zq<|zS<|zP 1 [yH [(1,{k:=a.length}),(3,{k:=b.length})]] [.aa [10,4,0,1] []] [yI (aA a),yI (aA b)]<|dB 10 ((↑a.length:Int) != (↑b.length:Int)) (by simp;omega)<|zq<|dC (zV [yB (Value.bool false=Value.bool (a == b)) (by rw [e])])
 refine zO Tryz.func94 26<|zq<|zS<|zP 1 [yH [(1,{k:=a.length}),(3,{k:=b.length})]] [.aa [10,4,0,1] []] [yI (aA a),yI (aA b)]<|bk 10 ((↑a.length:Int) != (↑b.length:Int)) (by simp_all)<|a_<|zS<|zq<|zB 0 (zL (fun (k:Nat)=>(⟨[(10,ao ((↑a.length:Int) != (↑b.length:Int))),(0,AV.sl 1 (ah a)),(1,AV.sl 1 (ah b)),(5,ai k)],[]⟩:AS)) (fun k=>(k≤a.length∧a.take k=b.take k)) (fun k=>(a.length-k)) (0) ?_ (zW [.aa [10,0,1,5] []]) ?_)
 ·exact ⟨ag,by simp⟩
 rintro k ⟨hk,he⟩
 refine zS<|zP 1 [yH [(2,{k:=a.length})]] [.aa [14,10,0,1,5] []] [yI (aA a)] (zD 14 ((↑k:Int)<(↑a.length:Int)) (fun h=>?_) (fun h=>?_))
 ·skip
  refine a_<|zS<|zB 1<|zP 1 [{hs:=[(2,{k:=k}),(3,yV (aw (a.getD k 0))),(6,{k:=k}),(7,yV (aw (b.getD k 0))),(8,yV (ao (a.getD k 0 != b.getD k 0)))],T:=8}] [.aa [25,14,10,0,1,5] []] [yR (↑k:Int),yB (k<(ah a).length) (by simp only [aA];omega),yB ((ah a)[k]?=some (aw (a.getD k 0))) (dX ag),yR (↑k:Int),yB (k<(ah b).length) (by simp only [aA];omega),yB ((ah b)[k]?=some (aw (b.getD k 0))) (dX ag),yI (cG (a.getD k 0) (b.getD k 0))] (zN 25 (a.getD k 0) (b.getD k 0) (fun h2=>?_) (fun h2=>?_))
  ·have e:=yq a b k hl he ag h2
   refine zq<|zR<|bc<|aK<|dN<|bc<|aK (zV [yB (Value.bool false=Value.bool (a == b)) (by rw [e])])
  ·skip
   refine zK<|aJ<|al<|zX (yH [(1,yV (ai ((↑k:Int)+1)))]) [yN ((↑k:Int)+1)] (aH (k+1) ⟨ag,yk hl he ag h2⟩ ag (zW [.aa [10,0,1,5] []]))
 ·have e:k=a.length:=ag
  subst e
  have e:(a == b)=true:=by
   rw [beq_iff_eq];rw [List.take_of_length_le (Nat.le_refl _),List.take_of_length_le ag] at he;exact he
  refine zE 0<|a6<|aM<|bm<|al<|zq<|zR (zV [yB (Value.bool true=Value.bool (a == b)) (by rw [e])])
end Go.Proofs.YtjgbhhnghedgdaaGreatDoor
