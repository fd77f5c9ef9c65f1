import Derived.Test.YtjgbhhnghedgdaaGreatDoorZsGrR3
set_option linter.all false
namespace Go.Proofs.YtjgbhhnghedgdaaGreatDoor
open Go.RowKit
set_option maxRecDepth 100000
set_option maxHeartbeats 4000000
theorem ES {l:List Mem} {k:Nat} (hk:k<l.length) (u:UInt64):(af aP l).set (k*4+3) (aw u)=af aP (l.set k {l.getD k default with used:=u}):=by
 induction l generalizing k with
 | nil=>cases hk
 | cons m l ih =>
  cases k with
  | zero=>rfl
  | succ k =>
   have:=ih (k:=k) (by simpa using hk)
   rw [show (k+1)*4+3=k*4+3+4 by omega]
   show aP m++(af aP l).set (k*4+3) (aw u)=aP m++af aP (l.set k {l.getD k default with used:=u})
   rw [this]
theorem th (l:List Mem) (v:fW):(k7 l v).length=l.length:=by unfold k7;split<;>simp
theorem ko (vs:List fW):∀l:List Mem,(i3 l vs).length=l.length:=by
 induction vs with
 | nil=>intro l;rfl
 | cons v vs ih=>intro l;show (i3 (k7 l v) vs).length=_;rw [ih,th]
theorem Eu (l:List Mem) {V:List fW} {i:Nat} (h:i<V.length):i3 l (V.take (i+1))=k7 (i3 l (V.take i)) (V.getD i default):=by
 unfold i3
 rw [List.take_add_one,List.foldl_append,List.getD_eq_getElem?_getD,List.getElem?_eq_getElem h];rfl
theorem vA {g:fL} {w:UInt64} {V:List fW} (h:iv g w V=0) {i:Nat} (hi:i<V.length):0≤(V.getD i default).leaf∧(V.getD i default).leaf<16:=by
 have h0:ff (jt g w V) V.length=0:=by
  apply Classical.byContradiction;intro q
  unfold iv at h;rw [if_pos q] at h;exact q h
 have h1:jt g w V i=0:=uG h0 i hi
 unfold jt at h1
 split at h1
 ·omega
 split at h1
 ·omega
 split at h1
 ·rename_i q;exact absurd h1 q
 ·rename_i q;exact yy (Classical.not_not.1 q)
theorem I4 (g:fL) (e:eK):(dt g e).al.length≤g.al.length+1:=by
 unfold dt mJ
 split
 ·omega
 split
 ·simp
 split
 ·simp only [List.length_append,List.length_take,List.length_drop];omega
 split
 ·simp
 split<;>simp
theorem uw {e:eK} (h:eY e=0):1≤e.kind∧e.kind≤5∧1≤e.aC∧e.aC≤2147483647∧eF e=0∧eN e:=by
 unfold eY at h
 by_cases k1:e.kind<1∨5<e.kind
 ·rw [if_pos k1] at h;omega
 rw [if_neg k1] at h
 by_cases c1:¬eN e
 ·rw [if_pos c1] at h;omega
 rw [if_neg c1] at h
 by_cases q1:e.aC<1∨2147483647<e.aC
 ·rw [if_pos q1] at h;omega
 rw [if_neg q1] at h
 exact ⟨ah,ah,ah,ah,h,Classical.not_not.1 c1⟩
theorem D5 {e:eK} (h:eY e=0) (k3:e.kind=3):1≤e.bB∧e.bB≤8:=by
 have hf:=(uw h).2.2.2.2.1
 unfold eF at hf
 rw [if_neg ah,if_neg ah,if_pos k3] at hf
 apply Classical.byContradiction;intro q
 rw [if_pos ah] at hf;omega
def C3 (g:fL):Prop:=∀d∈g.aF,d.ae.length≤1000000
theorem Nw {g:fL} {e:eK} (hG:oZ g) (ht:e.kind=3->1≤e.bB∧e.bB≤8) (h:j9 g e=0):(dt g e).al.length≤8∧0≤(dt g e).bB∧(dt g e).bB≤8∧(dt g e).aF.length≤8:=by
 obtain ⟨g1,g2,g3,g4,g5,g6⟩:=hG
 unfold dt
 rw [if_neg (fun q=>q h)]
 unfold j9 at h
 by_cases c1:e.kind=1
 ·rw [if_pos c1] at h ⊢
  have hm:g.al.length<8:=by
   apply Classical.byContradiction;intro q
   split at h
   ·omega
   rw [if_pos ah] at h;omega
  refine ⟨by simp;omega,?_,?_,g6⟩
  ·show (0:Int)≤(if 2*g.bB≤g.al.length+1 then g.bB+1 else g.bB)
   split<;>omega
  ·show (if 2*g.bB≤g.al.length+1 then g.bB+1 else g.bB)≤(8:Int)
   split<;>omega
 rw [if_neg c1] at h ⊢
 by_cases c2:e.kind=2
 ·rw [if_pos c2]
  refine ⟨?_,g4,g5,g6⟩
  show (mJ _ _).length≤8
  unfold mJ
  simp only [List.length_append,List.length_take,List.length_drop];omega
 rw [if_neg c2] at h ⊢
 by_cases c3:e.kind=3
 ·rw [if_pos c3]
  have:=ht c3
  exact ⟨g3,by show 0≤e.bB;omega,this.2,g6⟩
 rw [if_neg c3] at h ⊢
 by_cases c4:e.kind=4
 ·rw [if_pos c4] at h ⊢
  refine ⟨g3,g4,g5,?_⟩
  show (g.aF++ [e.dep]).length≤8
  split at h
  ·omega
  ·simp;omega
 rw [if_neg c4]
 exact ⟨g3,g4,g5,by show (qv _ _ _).length≤8;unfold qv;simpa using g6⟩
theorem je {g:fL} {e:eK} (h:gG g e=0):eY e=0∧e.aC=g.aC+1∧e.prev=g.head∧iv g (dJ e) e.ar=0∧j9 g e=0:=by
 unfold gG at h
 by_cases c1:eY e=0
 case neg=>rw [if_pos c1] at h;exact absurd h c1
 rw [if_neg (fun q=>q c1)] at h
 by_cases c2:e.aC≠g.aC+1∨e.prev≠g.head
 ·rw [if_pos c2] at h;omega
 rw [if_neg c2] at h
 by_cases c3:iv g (dJ e) e.ar=0
 case neg=>rw [if_pos c3] at h;exact absurd h c3
 rw [if_neg (fun q=>q c3)] at h
 exact ⟨c1,ah,Classical.byContradiction fun q=>c2 (.inr q),c3,h⟩
theorem nU {g:fL} {e:eK} (h:gG g e=0):jL g e=⟨e.aC,dJ e,(dt g e).bB,i3 (dt g e).al e.ar,(dt g e).aF⟩:=if_neg (fun q=>q h)
theorem qc {g:fL} {e:eK} (h:gG g e≠0):jL g e=g:=if_pos h
theorem NH {g:fL} {e:eK} (hG:oZ g) (h:gG g e=0):oZ (jL g e):=by
 obtain ⟨h1,h2,h3,h4,h5⟩:=je h
 obtain ⟨-,-,Su,TG,-,-⟩:=uw h1
 obtain ⟨b1,b2,b3,b4⟩:=Nw hG (D5 h1) h5
 rw [nU h]
 exact ⟨by show 0≤e.aC;omega,TG,by show (i3 _ _).length≤8;rw [ko];exact b1,b2,b3,b4⟩
theorem C3.VG {g:fL} {e:eK} (hG:C3 g) (hB:e.dep.ae.length≤1000000):C3 (jL g e):=by
 unfold jL
 split
 ·exact hG
 show C3 ⟨_,_,_,_,(dt g e).aF⟩
 intro d hd
 have hd:d∈(dt g e).aF:=hd
 unfold dt at hd
 split at hd
 ·exact hG d hd
 split at hd
 ·exact hG d hd
 split at hd
 ·exact hG d hd
 split at hd
 ·exact hG d hd
 split at hd
 ·rcases List.mem_append.1 hd with hd|hd
  ·exact hG d hd
  ·obtain rfl:=List.mem_singleton.1 hd;exact hB
 ·have hd:d∈qv g.aF (uB g.aF e.cm) e.target:=hd
  unfold qv at hd
  rcases List.mem_or_eq_of_mem_set hd with hd|rfl
  ·exact hG d hd
  ·show (g.aF.getD _ default).ae.length≤_
   rw [List.getD_eq_getElem?_getD]
   by_cases c:uB g.aF e.cm<g.aF.length
   ·rw [List.getElem?_eq_getElem c];exact hG _ (List.getElem_mem c)
   ·rw [List.getElem?_eq_none ah];exact Nat.zero_le _
theorem Jb {g:fL} {e:eK} (hb:eY e=0) (he:e.aC=g.aC+1) (hp:e.prev=g.head):gG g e=if iv g (dJ e) e.ar≠0 then iv g (dJ e) e.ar else j9 g e:=by
 unfold gG
 rw [if_neg (fun q=>q hb),if_neg (by rintro (q|q);exact q he;exact q hp)]
theorem Ia {e:eK} (k1:1≤e.kind) (k5:e.kind≤5) (hs:eN e) (e1:1≤e.aC) (e2:e.aC≤2147483647):eY e=eF e:=by
 unfold eY
 rw [if_neg ah,if_neg (fun q=>q hs),if_neg ah]
theorem I2 (A:Option Addr) (n c:Nat) (w:World) (hc:n≤c) (hm:c≤maxLen):Calls Tryz.prog 151 #[.slice A n c] w fun e w'=>e= .returned (.slice A n n)∧w'=w:=by
 go_enter Tryz.func151,Tryz.ntmps151
 go_wp2
 go_ret
 exact ⟨rfl,rfl⟩
theorem I1 (row:List AV):bK Tryz.prog 151 [.sl 4 row] (.o8 4 row):=by
 intro w S vs _ hS hl hr
 obtain ⟨a,rfl⟩:=Ei hl rfl
 cases hr 0 a _ rfl rfl with
 | sl A n c e us _ hl hn hc hm ha h =>
  refine (I2 A n c w hc hm).mono fun e w' ⟨he,hw⟩=>?_
  subst hw
  refine ⟨_,[],he,Below.refl _ _,List.nodup_nil,by simp,.inl (.inl (.rep (.o8 A n 4 us row hl hn ah (fun h0=>?_) fun j u x hu hx=>(h j u x hu hx).mono fun b hb=>⟨.inl hb,rfl⟩)))⟩
  obtain ⟨ad,e1,e2,e3⟩:=ha h0
  exact ⟨ad,e1,.inl e2,e3⟩
theorem FF (A:Option Addr) (n c:Nat) (w:World) (hc:n≤c) (hm:c≤maxLen):Calls Tryz.prog 153 #[.slice A n c] w fun e w'=>e= .returned (.slice A n n)∧w'=w:=by
 go_enter Tryz.func153,Tryz.ntmps153
 go_wp2
 go_ret
 exact ⟨rfl,rfl⟩
theorem FE (row:List AV):bK Tryz.prog 153 [.sl 7 row] (.o8 7 row):=by
 intro w S vs _ hS hl hr
 obtain ⟨a,rfl⟩:=Ei hl rfl
 cases hr 0 a _ rfl rfl with
 | sl A n c e us _ hl hn hc hm ha h =>
  refine (FF A n c w hc hm).mono fun e w' ⟨he,hw⟩=>?_
  subst hw
  refine ⟨_,[],he,Below.refl _ _,List.nodup_nil,by simp,.inl (.inl (.rep (.o8 A n 7 us row hl hn ah (fun h0=>?_) fun j u x hu hx=>(h j u x hu hx).mono fun b hb=>⟨.inl hb,rfl⟩)))⟩
  obtain ⟨ad,e1,e2,e3⟩:=ha h0
  exact ⟨ad,e1,.inl e2,e3⟩
end Go.Proofs.YtjgbhhnghedgdaaGreatDoor
