import Derived.Test.YtjgbhhnghedgdaaGreatDoorZvTk3
import Derived.Shelf.Spec.SlicesInsertGrow
set_option linter.all false
namespace Go.Proofs.YtjgbhhnghedgdaaGreatDoor
open Go.RowKit
structure Kw (w w':World) (cells:List Value) (k G:Nat):Prop where
 os:w'.os=w.os
 tape:w'.tape=w.tape
 output:w'.output=w.output
 size:w'.heap.size=w.heap.size+1
 block:∀b,b<w.heap.size->w'.heap[b]?=w.heap[b]?
 row:∃cur te,w'.heap[w.heap.size]?=some (.cells cur te (0,0))∧cur.size=4*G∧ ∀t,t<k*4->cur[t]?=cells[t]?
theorem xw (W:World) (g:Nat) (cs:Array Value):(W.setRow g cs).heap.size=W.heap.size:=by simp [World.setRow]
set_option maxHeartbeats 4000000 in
set_option maxRecDepth 1000000 in
theorem Bz (w:World) (g n c i vb:Nat) (hi:i<n) (SW:n≤c) (lK:c<n+1) (vO:(n+1)*72≤140737488355328) (cur:Array Value) (te:TypeId) (fr:Nat×Nat) (hg:w.heap[g]?=some (.cells cur te fr)) (hs:cur.size=4*c) (h1:∀(t:Nat) u,t<n*4->cur[t]?=some u->u.oneCell'=true)
  (vs:List Value) (l0:vs.length=4) (Nf:TypeId) (hv:w.heap[vb]?=some (.cells vs.toArray Nf (0,0))) (h2:∀u∈vs,u.oneCell'=true) :
  Calls Tryz.prog 53 #[.slice (some ⟨g,0,none⟩) n c,.int .i64 i,.slice (some ⟨vb,0,none⟩) 1 1] w fun e w'=>∃G,e= .returned (.slice (some ⟨w.heap.size,0,none⟩) (n+1) G)∧n+1≤G∧G≤maxLen∧Kw w w' (vA cur.toList n i vs) (n+1) G:=by
 have mixed:Tryz.prog.follows .mixedOrders=true:=by kernel_rfl
 obtain ⟨i0,z,Fh,km,P2,QU,tE⟩:∃(i0:TypeInfo) (z:Value),Tryz.prog.info? 70=some i0∧i0.size=4∧i0.zero=some z∧i0.bytes=72∧z.cells.size=4:=by
  have h:(Tryz.prog.info? 70).map (fun i=>(i.size,i.bytes,i.zero.map fun z=>z.cells.size))=some (4,72,some 4):=by kernel_rfl
  cases hp:Tryz.prog.info? 70 with
  | none=>rw [hp] at h;cases h
  | some i =>
   rw [hp] at h
   simp at h
   obtain ⟨a,b,z,c1,c2⟩:=h
   exact ⟨i,z,rfl,a,c1,b,c2⟩
 have fi:cur.toList.length=4*c:=by simp [hs]
 have Ti:g<w.heap.size:=(Array.getElem?_eq_some_iff.1 hg).1
 have VE:vb<w.heap.size:=(Array.getElem?_eq_some_iff.1 hv).1
 obtain ⟨N,hN⟩:∃N,N=w.heap.size:=⟨_,rfl⟩
 obtain ⟨news,jo⟩:∃news,news=(cur.toList.take (n*4)).drop (i*4):=⟨_,rfl⟩
 have oS:news.length=(n-i)*4:=by rw [jo,List.length_drop,List.length_take,fi];omega
 have vH:∀t,t<(n-i)*4->news[t]?=cur[i*4+t]?:=fun t ht=>by
  rw [jo,List.getElem?_drop,List.getElem?_take,if_pos ag,Array.getElem?_toList]
 have og:∀u∈news,u.oneCell'=true:=fun u hu=>by
  obtain ⟨t,ht⟩:=List.getElem?_of_mem hu
  have ua:t<(n-i)*4:=by
   have:=(List.getElem?_eq_some_iff.1 ht).1
   rwa [oS] at this
  rw [vH t ua] at ht
  exact h1 _ _ ag ht
 have hold:(Builtin.firstCells i0.size i (.slice (some ⟨g,0,none⟩) i c)).run Tryz.prog w.drew= .ok (cur.toList.take (i*4)).toArray w.drew:=by
  rw [km]
  refine run_firstCells_some w.drew 4 i ⟨g,0,none⟩ i c (cur.toList.take (i*4)) (by rw [List.length_take,fi];omega) fun t v ht=>?_
  rw [Addr.add_lit]
  rw [List.getElem?_take] at ht
  split at ht
  ·show w.cell? _=_
   simp only [World.cell?,hg]
   simpa using ht
  ·cases ht
 obtain ⟨G,hG⟩:∃G,G=grownCap w (n+1) c 70:=⟨_,rfl⟩
 have TU:n+1≤G:=by rw [hG];exact grownCap_ge w _ _ _
 have Vb:G≤maxLen:=by rw [hG];exact grownCap_le_maxLen w (n+1) c 70 (by unfold maxLen;omega)
 obtain ⟨ROW,LR⟩:∃ROW:Array Value,ROW=(cur.toList.take (i*4)).toArray++Builtin.zeroCells z.cells (n+1-i)++Builtin.zeroCells z.cells (G-(n+1)):=⟨_,rfl⟩
 have QW:ROW.size=4*G:=by
  rw [LR]
  simp only [Array.size_append,List.size_toArray,List.length_take,nI,tE,fi]
  omega
 have U7:ROW.toList.take (i*4)=cur.toList.take (i*4):=by
  rw [LR]
  simp only [Array.toList_append,List.append_assoc]
  rw [List.take_append_of_le_length (by rw [List.length_take,fi];omega),List.take_take,Nat.min_self]
 have RE:∀ty,(Builtin.append_ #[30,3] ty #[.slice (some ⟨g,0,none⟩) i c,.int .i64 ((n:Int)+1-(i:Int))]).run Tryz.prog w= .ok (.slice (some ⟨w.heap.size,0,none⟩) (n+1) G) (w.drew.alloc (.cells ROW 70)):=fun ty=>by
  have h:=Lib.run_append_grow_zeros (P:=Tryz.prog) w 30 3 ty 70 i0 z .i64 .i64 Tryz.underlying30 Tryz.underlying3 Fh P2 (some ⟨g,0,none⟩) i c (cur.toList.take (i*4)) hold (n+1-i) ag ag ag ag (by rw [QU];omega) (by rw [QU,show i+(n+1-i)=n+1 by omega];exact growslice_fits lK vO)
  rw [show i+(n+1-i)=n+1 by omega,←hG,←LR] at h
  rw [show (n:Int)+1-(i:Int)=((n+1-i:Nat):Int) by omega]
  exact h
 obtain ⟨R1,RT⟩:∃R1:Array Value,R1=(ROW.toList.take (i*4)++vs++ROW.toList.drop (i*4+vs.length)).toArray:=⟨_,rfl⟩
 have Oh:R1.size=4*G:=by
  rw [RT];simp only [List.size_toArray,List.length_append,List.length_take,List.length_drop,Array.length_toList,l0,QW];omega
 obtain ⟨R2,RR⟩:∃R2:Array Value,R2=(R1.toList.take ((i+1)*4)++news++R1.toList.drop ((i+1)*4+news.length)).toArray:=⟨_,rfl⟩
 have QX:R2.size=4*G:=by
  rw [RR];simp only [List.size_toArray,List.length_append,List.length_take,List.length_drop,Array.length_toList,oS,Oh];omega
 have QY:∀t,t<(n+1)*4->R2[t]?=(vA cur.toList n i vs)[t]?:=fun t ht=>by
  have e1:R1.toList.take ((i+1)*4)=cur.toList.take (i*4)++vs:=by
   rw [RT,U7]
   simp only []
   rw [List.take_append_of_le_length (by rw [List.length_append,List.length_take,fi,l0];omega),List.take_of_length_le (by rw [List.length_append,List.length_take,fi,l0];omega)]
  rw [RR,List.getElem?_toArray,e1]
  unfold vA
  rw [←jo,List.getElem?_append_left]
  simp only [List.length_append,List.length_take,fi,l0,oS]
  omega
 have aG:∀W:World,W.heap=(w.drew.alloc (.cells ROW 70)).heap->W.heap[w.heap.size]?=some (.cells ROW 70 (0,0))∧(∀b,b<w.heap.size->W.heap[b]?=w.heap[b]?):=fun W hW=>by
  rw [hW]
  refine ⟨?_,fun b hb=>?_⟩
  ·show (w.heap.push _)[w.heap.size]?=_
   simp
  ·show (w.heap.push _)[b]?=_
   rw [Array.getElem?_push_lt hb,Array.getElem?_eq_getElem hb]
 have Ty:∀W:World,W.heap=(w.drew.alloc (.cells ROW 70)).heap-> ∀ty dc,(Builtin.copy_ #[30,30] ty #[.slice (some ⟨w.heap.size,i*4,none⟩) (n+1-i) dc,.slice (some ⟨vb,0,none⟩) 1 1]).run Tryz.prog W= .ok (goInt 1) (W.setRow w.heap.size R1):=fun W hW ty dc=>by
  obtain ⟨q1,q2⟩:=aG W hW
  have h:=lE (P:=Tryz.prog) W 30 ty 70 i0 Tryz.underlying30 Fh w.heap.size (i*4) (n+1-i) dc ⟨vb,0,none⟩ 1 1 1 (by simp only [Nat.min_def];split<;>omega) ROW _ (0,0) q1 (fun t ht=>by simp) vs (by rw [l0,km]) (fun t u hu=>by
   rw [Addr.add_lit]
   simp only [World.cell?,q2 vb VE,hv]
   simpa using hu) h2 (by rw [l0,QW];omega)
  rw [RT];exact h
 have Tx:∀W:World,W.heap=((w.drew.alloc (.cells ROW 70)).setRow w.heap.size R1).heap-> ∀ty dc sc,(Builtin.copy_ #[30,30] ty #[.slice (some ⟨w.heap.size,(i+1)*4,none⟩) (n-i) dc,.slice (some ⟨g,i*4,none⟩) (n-i) sc]).run Tryz.prog W= .ok (goInt ((n-i:Nat):Int)) (W.setRow w.heap.size R2):=fun W hW ty dc sc=>by
  obtain ⟨q1,q2⟩:=aG (w.drew.alloc (.cells ROW 70)) rfl
  have p1:W.heap[w.heap.size]?=some (.cells R1 70 (0,0)):=by rw [hW];exact setRow_heap _ _ ROW R1 _ _ q1
  have p2:W.heap[g]?=some (.cells cur te fr):=by rw [hW,setRow_other _ _ g R1 ag,q2 g Ti];exact hg
  have h:=lE (P:=Tryz.prog) W 30 ty 70 i0 Tryz.underlying30 Fh w.heap.size ((i+1)*4) (n-i) dc ⟨g,i*4,none⟩ (n-i) sc (n-i) (Nat.min_self _) R1 _ (0,0) p1 (fun t ht=>by simp) news (by rw [oS,km]) (fun t u hu=>by
   have ht:t<(n-i)*4:=by
    have:=(List.getElem?_eq_some_iff.1 hu).1
    rwa [oS] at this
   rw [vH t ht] at hu
   rw [Addr.add_lit]
   simp only [World.cell?,p2]
   exact hu) og (by rw [oS,Oh];omega)
  rw [RR];exact h
 have fin:∀W:World,W.os=w.os->W.tape=w.tape->W.output=w.output->W.heap=(((w.drew.alloc (.cells ROW 70)).setRow w.heap.size R1).setRow w.heap.size R2).heap->Kw w W (vA cur.toList n i vs) (n+1) G:=fun W a1 a2 a3 hW=>by
  obtain ⟨q1,q2⟩:=aG (w.drew.alloc (.cells ROW 70)) rfl
  have p1:((w.drew.alloc (.cells ROW 70)).setRow w.heap.size R1).heap[w.heap.size]?=some (.cells R1 70 (0,0)):=setRow_heap _ _ ROW R1 _ _ q1
  refine ⟨a1,a2,a3,by rw [hW,xw,xw];exact Array.size_push _,fun b hb=>?_,R2,_,by rw [hW];exact setRow_heap _ _ R1 R2 _ _ p1,QX,QY⟩
  rw [hW,setRow_other _ _ b R2 ag,setRow_other _ _ b R1 ag,q2 b hb]
 have hE:((w.alloc (.cells ROW 70)).drew).heap=(w.drew.alloc (.cells ROW 70)).heap:=rfl
 have hF:((((w.alloc (.cells ROW 70)).drew).setRow w.heap.size R1).drew).heap=((w.drew.alloc (.cells ROW 70)).setRow w.heap.size R1).heap:=rfl
 have Rz:¬((1:Int)=0):=ag
 have IW:¬((i:Int)=(n:Int)):=ag
 have Vz:(c:Int)<(n:Int)+1:=ag
 have W_:c≤9223372036854775807:=ag
 have X6:G≤9223372036854775807:=by unfold maxLen at Vb;omega
 have Lq:IntKind.i64.wrap ((i:Int)+1)=(i:Int)+1:=by rw [IntKind.wrap_i64];omega
 have My:IntKind.i64.wrap ((n:Int)+1)=(n:Int)+1:=by rw [IntKind.wrap_i64];omega
 have Xw:IntKind.i64.wrap ((n:Int)+1-(i:Int))=(n:Int)+1-(i:Int):=by rw [IntKind.wrap_i64];omega
 have b1:i≤c:=ag
 have b3:i≤n:=ag
 have Xc:(i:Int)≤(n:Int):=ag
 have b4:i≤n+1:=ag
 have b5:(i:Int)≤(n:Int)+1:=ag
 have b6:¬(c=i):=ag
 have b8:n≤c:=ag
 have b9:¬(G=i):=ag
 have Xd:¬(G=i+1):=ag
 have Hp:(0:Int)≤(i:Int)+1:=ag
 have VK:((i:Int)+1).toNat=i+1:=ag
 have Xb:(i:Int)+1≤(n:Int)+1:=ag
 clear LR RT RR hG vH hold aG jo oS fi h1 U7 QW Oh QX QY og
 go_enter Tryz.func53,Tryz.ntmps53
 go_wp2_with (first
  | (at_builtin;refine Lib.wpList_append_run _ rfl _ _ _ _ rfl _ _ rfl rfl _ _ (RE _) ?_)
  | (at_builtin;refine wpList_copy_runI _ rfl _ _ 30 30 rfl _ _ rfl rfl (Ty _ hE _ _) ?_))
 go_region_law_o (refine step_copy_runI rfl _ _ 30 30 rfl (.slice (some ⟨w.heap.size,(i+1)*4,none⟩) (n-i) (G-(i+1))) (.slice (some ⟨g,i*4,none⟩) (n-i) (c-i)) (by simp [Act.eval,Act.put]) (by simp [Act.eval,Act.put]) (Tx _ hF 3 (G-(i+1)) (c-i)) ?_)
 go_wp2
 go_ret
 exact ⟨G,rfl,TU,Vb,fin _ rfl rfl rfl rfl⟩
end Go.Proofs.YtjgbhhnghedgdaaGreatDoor
