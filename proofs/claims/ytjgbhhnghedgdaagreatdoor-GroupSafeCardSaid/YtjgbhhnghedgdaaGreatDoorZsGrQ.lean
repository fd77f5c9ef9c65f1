import Derived.Test.YtjgbhhnghedgdaaGreatDoorZsGrE4
import Derived.Test.YtjgbhhnghedgdaaGreatDoorZsGrK2
set_option linter.all false
namespace Go.Proofs.YtjgbhhnghedgdaaGreatDoor
open Go.RowKit
set_option maxRecDepth 100000
set_option maxHeartbeats 4000000
theorem PR (l:List Int) (g:fL) (k:Nat) (hk:k≤l.length) (hm:g.al.length≤8):yh (Nq l g k):=by
 have ho:=p7 g hk 10
 have hD:Nq l g k= {fq (u64 (gC l (fv l g k 10).2 5)) (gC l (dv l (fv l g k 10).2) 9) (fv l g k 10).1 (1+gC l (dv l (dv l (fv l g k 10).2)) ((fv l g k 10).1.length+1)) with peer:=5,box:=stream (u64 (gC l (dv l (dv l (dv l (fv l g k 10).2))) 3)+1) 7 (20+gC l (dv l (dv l (dv l (dv l (fv l g k 10).2)))) 3)}:=rfl
 rw [hD]
 obtain ⟨o1,o2,o3⟩:=ho
 generalize fv l g k 10=s at *
 have hL:s.1.length≤80:=Nat.le_trans o1 (Nat.mul_le_mul (Nat.le_refl _) hm)
 have hb:∀a b n,(stream a b n).length≤1000000:=fun a b n=>by rw [tp];unfold iB;omega
 unfold fq
 split
 ·refine ⟨hb _ _ _,by show s.1.length≤_;omega,?_,fun i hi=>?_⟩
  ·show ((List.range s.1.length).map _).length≤_
   rw [List.length_map,List.length_range];omega
  ·have hi:i<s.1.length:=hi
   show (s.1.getD i default).length≤1000
   rw [List.getD_eq_getElem?_getD,List.getElem?_eq_getElem hi]
   exact o2 _ (List.getElem_mem hi)
 ·exact ⟨hb _ _ _,Nat.zero_le _,Nat.zero_le _,fun i hi=>absurd hi (Nat.not_lt_zero i)⟩
structure Lh (l:List Int) (g:fL) (s:eK×Nat):Prop where
 b:ob s.1
 v:s.1.ar= []
 k:s.2≤l.length
theorem ra:yh PT:=⟨Nat.zero_le _,Nat.zero_le _,Nat.zero_le _,fun i hi=>absurd hi (Nat.not_lt_zero i)⟩
theorem Np (l:List Int) (g:fL) (k:Nat) (hk:k≤l.length) (hm:g.al.length≤8):Lh l g (KW l g k):=by
 have h1:∀kd n k,k≤l.length->Lh l g (xV l g kd n k):=fun kd n k hk=>by
  have a:=dj hk
  unfold xV
  split
  ·exact ⟨⟨ma n,ra⟩,rfl,hk⟩
  split
  ·exact ⟨⟨ma n,ra⟩,rfl,hk⟩
  split
  ·exact ⟨⟨Nat.zero_le _,ra⟩,rfl,a⟩
  split
  ·exact ⟨⟨Nat.zero_le _,PR l g k hk hm⟩,rfl,II g hk⟩
  split
  ·split
   ·exact ⟨⟨Nat.zero_le _,ra⟩,rfl,a⟩
   ·exact ⟨⟨Nat.zero_le _,ra⟩,rfl,dj a⟩
  ·exact ⟨⟨Nat.zero_le _,ra⟩,rfl,hk⟩
 have h2:∀s,Lh l g s->Lh l g (AK l s):=fun s hs=>by
  obtain ⟨⟨b1,b2⟩,b3,b4⟩:=hs
  have a:=dj b4
  unfold AK
  split
  ·exact ⟨⟨b1,b2⟩,b3,dj a⟩
  split
  ·exact ⟨⟨b1,b2⟩,b3,a⟩
  split
  ·refine ⟨⟨?_,b2⟩,b3,dj a⟩
   show (qI.getD _ []).length≤1000
   generalize gC l (dv l s.2) 3=i
   rcases i with _|_|_|i<;>exact Nat.le_of_ble_eq_true rfl
  split
  ·exact ⟨⟨b1,b2⟩,b3,a⟩
  split
  ·exact ⟨⟨b1,⟨b2.box,b2.HP,b2.QI,b2.Qc⟩⟩,b3,dj a⟩
  ·exact ⟨⟨b1,b2⟩,b3,a⟩
 exact h2 _ (h1 _ _ _ (dj (dj hk)))
theorem Cy (l:List Int) (k:Nat) (g:fL) (hk:k≤l.length) (hl:l.length≤9223372036854775807) (hG:oZ g):gb Tryz.prog 16 [.addr 1000000000000 0,.agg (bW g)] (Ec l k) (.agg (bk (KW l g k).1)) (Ec l (KW l g k).2) :=
 Fw l k (dv l k) (dv l (dv l k)) (gC l k 11) (gC l (dv l k) 10) _ _ g hl hG rfl (by have:=ll l k (n:=11) ah;omega) (by have:=ll l (dv l k) (n:=10) ah;omega) (dj (dj hk)) (cY l k 11 hk hl (by decide) (by decide)) (cY l (dv l k) 10 (dj hk) hl (by decide) (by decide)) (Hp (by have:=ll l k (n:=11) ah;omega))
theorem J3 (c:A7) (k:Nat):GR c k<1024:=(w_ c k 10).1
instance:Inhabited eK:=⟨⟨0,0,0,[],0,0,0,⟨0,0,[],[],[],0,0⟩,0,0,[]⟩⟩
theorem Le {g:fL} (e:eK) (hG:oZ g):oZ (jL g e):=by
 by_cases c:gG g e=0
 ·exact NH hG c
 ·rw [qc c];exact hG
theorem Gw (g:fL) (hG:oZ g) (hH:C3 g):bK Tryz.prog 21 [.agg (bW g),.agg (bW g)] (ao true):=yU g (by have:=hG.m8;omega) (by have:=hG.d8;omega) hH
theorem Mw {m:Mem} (h:gO m=0):oZ (cO m)∧C3 (cO m):=by
 rw [show cO m=⟨0,hash 16 (cT m.h m.r++m.name),1,[m],[]⟩ from if_pos h]
 exact ⟨⟨Int.le_refl 0,(show (0:Int)≤2147483647 by omega),(ah:1≤8),(show (0:Int)≤1 by omega),(show (1:Int)≤8 by omega),Nat.zero_le _⟩,fun d hd=>by cases hd⟩
def iS (l:List Mem):List (List UInt8):=l.map Mem.name
structure CZ (g:fL):Prop where
 T1:(g.al.length:Int)<2*g.bB
 pos:g.bB≤g.al.length
 SQ:(iS g.al).Nodup
theorem pN {T:Type} [Inhabited T] {l:List T} {i:Nat} (h:i<l.length):l.getD i default=l[i]:=by rw [List.getD_eq_getElem?_getD,List.getElem?_eq_getElem h];rfl
theorem kU {l:List Mem} {i:Nat} (h:i<l.length):(iS l)[i]?=some (l.getD i default).name:=by
 unfold iS
 rw [List.getElem?_map,List.getElem?_eq_getElem h,pN h];rfl
theorem tg (l:List Mem) (v:fW):iS (k7 l v)=iS l:=by
 unfold k7
 split
 ·rfl
 ·rename_i h
  rcases fP l v.name with hk|⟨k,hk,iw,Jr⟩
  ·omega
  ·rw [m7 hk,hk]
   unfold iS
   rw [List.map_set,show ((k:Nat):Int).toNat=k from rfl]
   refine List.ext_getElem? fun i=>?_
   rw [List.getElem?_set]
   split
   ·rename_i e
    subst e
    rw [if_pos (by simpa using iw),List.getElem?_map,List.getElem?_eq_getElem iw,pN iw];rfl
   ·rfl
theorem tf (vs:List fW):∀l:List Mem,iS (i3 l vs)=iS l:=by
 induction vs with
 | nil=>intro l;rfl
 | cons v vs ih=>intro l;show iS (i3 (k7 l v) vs)=_;rw [ih,tg]
theorem J7 {l:List Mem} (h:(iS l).Nodup) {i j:Nat} (hi:i<l.length) (hj:j<l.length) (e:(l.getD i default).name=(l.getD j default).name):i=j:=by
 have hl:(iS l).length=l.length:=List.length_map _
 have h1:=kU hi
 have h2:=kU hj
 rw [e,←h2] at h1
 exact (List.getElem?_inj ah h).1 h1
theorem DC {l:List Mem} (h:(iS l).Nodup) {i:Nat} (hi:i<l.length):eS l (l.getD i default).name=i:=by
 rcases fP l (l.getD i default).name with hk|⟨k,hk,iw,Jr⟩
 ·exfalso
  unfold eS at hk
  rw [if_pos ⟨_,by rw [pN hi];exact List.getElem_mem hi,rfl⟩] at hk
  omega
 ·rw [hk,J7 h iw hi Jr]
theorem EU {l:List Mem} {n:List UInt8} (h:eS l n<0):n ∉ iS l:=by
 intro hn
 unfold iS at hn
 obtain ⟨m,hm,rfl⟩:=List.mem_map.1 hn
 unfold eS at h
 rw [if_pos ⟨m,hm,rfl⟩] at h
 omega
theorem ET {l:List Mem} {n:List UInt8} (h:¬eS l n<0):n∈iS l:=by
 rcases fP l n with hk|⟨k,hk,iw,Jr⟩
 ·omega
 ·rw [←Jr];exact List.mem_of_getElem? (kU iw)
theorem Mv {m:Mem} (h:gO m=0):CZ (cO m):=by
 rw [show cO m=⟨0,hash 16 (cT m.h m.r++m.name),1,[m],[]⟩ from if_pos h]
 exact ⟨by show ((1:Nat):Int)<2*1;omega,by show (1:Int)≤1;omega,by simp [iS]⟩
theorem Jc {g:fL} {e:eK} (hS:CZ g) (h:gG g e=0):CZ (jL g e):=by
 obtain ⟨h1,h2,h3⟩:=hS
 have hc:=(je h).2.2.2.2
 have key:(((dt g e).al.length:Nat):Int)<2*(dt g e).bB∧(dt g e).bB≤(dt g e).al.length∧(iS (dt g e).al).Nodup:=by
  unfold dt
  rw [if_neg (fun q=>q hc)]
  unfold j9 at hc
  by_cases c1:e.kind=1
  ·rw [if_pos c1] at hc ⊢
   have hn:¬0≤eS g.al e.name:=fun q=>by rw [if_pos q] at hc;omega
   refine ⟨?_,?_,?_⟩
   ·show (((g.al++ [_]).length:Nat):Int)<2*(if 2*g.bB≤g.al.length+1 then g.bB+1 else g.bB)
    rw [List.length_append]
    split<;>(simp;omega)
   ·show (if 2*g.bB≤g.al.length+1 then g.bB+1 else g.bB)≤(((g.al++ [_]).length:Nat):Int)
    rw [List.length_append]
    split<;>(simp;omega)
   ·show (iS (g.al++ [⟨e.name,e.kh,e.kr,0⟩])).Nodup
    have gu:=EU (l:=g.al) (n:=e.name) ah
    unfold iS at h3 gu ⊢
    rw [List.map_append,List.nodup_append]
    refine ⟨h3,by simp,?_⟩
    intro a ha b hb e2
    simp only [List.map_cons,List.map_nil,List.mem_singleton] at hb
    subst hb;subst e2
    exact gu ha
  rw [if_neg c1] at hc ⊢
  by_cases c2:e.kind=2
  ·rw [if_pos c2] at hc ⊢
   have hm:¬eS g.al e.name<0:=fun q=>by rw [if_pos q] at hc;omega
   rw [if_neg hm] at hc
   have ht:¬((g.al.length:Int)-1<g.bB):=fun q=>by rw [if_pos q] at hc;omega
   rcases fP g.al e.name with hk|⟨k,hk,iw,Jr⟩
   ·omega
   have hl:(mJ g.al (eS g.al e.name).toNat).length=g.al.length-1:=by
    rw [hk];unfold mJ
    rw [List.length_append,List.length_take,List.length_drop]
    show min k _+(g.al.length-(k+1))=_
    omega
   refine ⟨by show (((mJ _ _).length:Nat):Int)<2*g.bB;rw [hl];omega,by show g.bB≤(((mJ _ _).length:Nat):Int);rw [hl];omega,?_⟩
   show (iS (mJ _ _)).Nodup
   refine h3.sublist ?_
   unfold iS mJ
   refine List.Sublist.map _ ?_
   conv=>rhs;rw [←List.take_append_drop (eS g.al e.name).toNat g.al]
   refine List.Sublist.append (List.Sublist.refl _) ?_
   rw [←List.drop_drop]
   exact List.drop_sublist _ _
  rw [if_neg c2] at hc ⊢
  by_cases c3:e.kind=3
  ·rw [if_pos c3] at hc ⊢
   have ht:¬((g.al.length:Int)<e.bB∨2*e.bB≤g.al.length):=fun q=>by rw [if_pos q] at hc;omega
   exact ⟨by show ((g.al.length:Nat):Int)<2*e.bB;omega,by show e.bB≤((g.al.length:Nat):Int);omega,h3⟩
  rw [if_neg c3]
  split
  ·exact ⟨h1,h2,h3⟩
  ·exact ⟨h1,h2,h3⟩
 obtain ⟨k1,k2,k3⟩:=key
 rw [nU h]
 exact ⟨by show (((i3 _ _).length:Nat):Int)<_;rw [ko];exact k1,by show _≤(((i3 _ _).length:Nat):Int);rw [ko];exact k2,by show (iS (i3 _ _)).Nodup;rw [tf];exact k3⟩
theorem K_ {leaf:Int} (h1:0≤leaf) (h2:leaf<16):fJ leaf≠0:=by
 have key:∀n:Fin 16,(1:UInt64)<<<UInt64.ofNat n.val≠0:=by decide
 exact key ⟨leaf.toNat,ah⟩
theorem ti (u w b:UInt64):(u|||w)&&&b=(u&&&b)|||(w&&&b):=by
 apply UInt64.toNat_inj.1
 simp only [UInt64.toNat_and,UInt64.toNat_or]
 rw [Nat.and_or_distrib_right]
theorem Ew (l:List Mem) (v:fW) {k:Nat} {b:UInt64} (h:(l.getD k default).used&&&b≠0):((k7 l v).getD k default).used&&&b≠0:=by
 unfold k7
 split
 ·exact h
 ·rename_i q
  rcases fP l v.name with hk|⟨j,hk,iw,Jr⟩
  ·omega
  ·rw [m7 hk,hk,show ((j:Nat):Int).toNat=j from rfl,List.getD_eq_getElem?_getD,List.getElem?_set]
   split
   ·rename_i e
    subst e
    show ((l.getD j default).used|||fJ v.leaf)&&&b≠0
    rw [ti]
    exact fun q=>h (UInt64.or_eq_zero_iff.1 q).1
   ·rw [←List.getD_eq_getElem?_getD];exact h
theorem Ev (vs:List fW):∀(l:List Mem) {k:Nat} {b:UInt64},(l.getD k default).used&&&b≠0->((i3 l vs).getD k default).used&&&b≠0:=by
 induction vs with
 | nil=>intro l k b h;exact h
 | cons v vs ih=>intro l k b h;exact ih (k7 l v) (Ew l v h)
theorem Ge (vs:List fW):∀(l:List Mem) {k:Nat} {v:fW},(iS l).Nodup->k<l.length->v∈vs->v.name=(l.getD k default).name->fJ v.leaf≠0->((i3 l vs).getD k default).used&&&fJ v.leaf≠0:=by
 induction vs with
 | nil=>intro l k v _ _ hv;cases hv
 | cons u vs ih =>
  intro l k v hn hk hv Lz hb
  rcases List.mem_cons.1 hv with rfl|hv
  ·refine Ev vs (k7 l v) ?_
   have hm:=DC hn hk
   rw [←Lz] at hm
   unfold k7
   rw [if_neg ah,m7 hm,hm,show ((k:Nat):Int).toNat=k from rfl,List.getD_eq_getElem?_getD,List.getElem?_set,if_pos rfl,if_pos hk]
   show ((l.getD k default).used|||fJ v.leaf)&&&fJ v.leaf≠0
   rw [ti,UInt64.and_self]
   exact fun q=>hb (UInt64.or_eq_zero_iff.1 q).2
  ·refine ih (k7 l u) (by rw [tg];exact hn) (by rw [th];exact hk) hv ?_ hb
   have h1:=kU (l:=k7 l u) (i:=k) (by rw [th];exact hk)
   rw [tg,kU hk] at h1
   injection h1 with h1
   rw [←h1];exact Lz
theorem C_ {g:fL} {e:eK} (hS:CZ g) (h:gG g e=0) {i:Nat} (hi:i<e.ar.length) :
  (∀k,k<g.al.length->(g.al.getD k default).name=(e.ar.getD i default).name->(g.al.getD k default).used&&&fJ (e.ar.getD i default).leaf=0) ∧
  (e.ar.getD i default).name∈iS g.al∧0≤(e.ar.getD i default).leaf∧(e.ar.getD i default).leaf<16:=by
 have hv:=(je h).2.2.2.1
 have LD:=vA hv hi
 have h0:ff (jt g (dJ e) e.ar) e.ar.length=0:=by
  apply Classical.byContradiction;intro q
  unfold iv at hv;rw [if_pos q] at hv;exact q hv
 have h1:=uG h0 i hi
 unfold jt at h1
 split at h1
 ·omega
 split at h1
 ·omega
 rename_i hm
 split at h1
 ·rename_i q;exact absurd h1 q
 split at h1
 ·omega
 rename_i hu
 refine ⟨fun k hk he=>?_,ET hm,LD⟩
 have h2:=DC hS.SQ hk
 rw [he] at h2
 rw [m7 h2] at hu
 exact Classical.not_not.1 hu
theorem JE {g:fL} {e:eK} (hS:CZ g) (h:gG g e=0) {i:Nat} (hi:i<e.ar.length) {k:Nat} (hk:k<(jL g e).al.length) (he:((jL g e).al.getD k default).name=(e.ar.getD i default).name):((jL g e).al.getD k default).used&&&fJ (e.ar.getD i default).leaf≠0:=by
 have qS:=Jc hS h
 obtain ⟨-,-,l1,l2⟩:=C_ hS h hi
 have hn:=qS.SQ
 rw [nU h] at hk he hn ⊢
 have hk:k<(i3 (dt g e).al e.ar).length:=hk
 have he:((i3 (dt g e).al e.ar).getD k default).name=_:=he
 have hn:(iS (i3 (dt g e).al e.ar)).Nodup:=hn
 rw [ko] at hk
 rw [tf] at hn
 have h1:=kU (l:=i3 (dt g e).al e.ar) (i:=k) (by rw [ko];exact hk)
 rw [tf,kU hk] at h1
 injection h1 with h1
 exact Ge e.ar (dt g e).al hn hk (v:=e.ar.getD i default) (by rw [pN hi];exact List.getElem_mem hi) (by rw [h1];exact he.symm) (K_ l1 l2)
theorem JG {g:fL} {e:eK} (h:gG g e=0):g.bB≤e.ar.length:=by
 have hv:=(je h).2.2.2.1
 unfold iv at hv
 split at hv
 ·rename_i q;exact absurd hv q
 split at hv
 ·omega
 ·omega
theorem K3 {g:fL} {e:eK} (h:gG g e=0) {j:Nat} (hj:j<g.aF.length):j<(jL g e).aF.length∧((g.aF.getD j default).target=0∨((jL g e).aF.getD j default).target=(g.aF.getD j default).target):=by
 have hc:=(je h).2.2.2.2
 rw [nU h]
 show j<(dt g e).aF.length∧(_∨((dt g e).aF.getD j default).target=_)
 unfold dt
 rw [if_neg (fun q=>q hc)]
 unfold j9 at hc
 by_cases c1:e.kind=1
 ·rw [if_pos c1];exact ⟨hj,.inr rfl⟩
 rw [if_neg c1] at hc ⊢
 by_cases c2:e.kind=2
 ·rw [if_pos c2];exact ⟨hj,.inr rfl⟩
 rw [if_neg c2] at hc ⊢
 by_cases c3:e.kind=3
 ·rw [if_pos c3];exact ⟨hj,.inr rfl⟩
 rw [if_neg c3] at hc ⊢
 by_cases c4:e.kind=4
 ·rw [if_pos c4]
  refine ⟨by show j<(g.aF++ [e.dep]).length;rw [List.length_append];omega,.inr ?_⟩
  show ((g.aF++ [e.dep]).getD j default).target=_
  rw [List.getD_eq_getElem?_getD,List.getElem?_append_left hj,←List.getD_eq_getElem?_getD]
 rw [if_neg c4] at hc ⊢
 have hf:¬uB g.aF e.cm=g.aF.length:=fun q=>by rw [if_pos q] at hc;omega
 rw [if_neg hf] at hc
 have ht:(g.aF.getD (uB g.aF e.cm) default).target=0:=Classical.byContradiction fun q=>by rw [if_pos q] at hc;omega
 refine ⟨by show j<(qv _ _ _).length;unfold qv;rw [List.length_set];exact hj,?_⟩
 by_cases c:uB g.aF e.cm=j
 ·subst c;exact .inl ht
 ·right
  show ((qv g.aF (uB g.aF e.cm) e.target).getD j default).target=_
  unfold qv
  rw [List.getD_eq_getElem?_getD,List.getElem?_set,if_neg c,←List.getD_eq_getElem?_getD]
structure LU (g h:fL) (e:eK):Prop where
 was:∀i,i<e.ar.length->(∀k,k<g.al.length->(g.al.getD k default).name=(e.ar.getD i default).name->(g.al.getD k default).used&&&fJ (e.ar.getD i default).leaf=0)∧(e.ar.getD i default).name∈iS g.al∧0≤(e.ar.getD i default).leaf∧(e.ar.getD i default).leaf<16
 now:∀i,i<e.ar.length-> ∀k,k<h.al.length->(h.al.getD k default).name=(e.ar.getD i default).name->(h.al.getD k default).used&&&fJ (e.ar.getD i default).leaf≠0
 len:g.bB≤e.ar.length
theorem Nt {g:fL} {e:eK} (hS:CZ g) (h:gG g e=0):LU g (jL g e) e:=⟨fun _ hi=>C_ hS h hi,fun _ hi _ hk he=>JE hS h hi hk he,JG h⟩
theorem Ms {l:List Mem} {n:List UInt8} (h:n∈iS l):∃j,j<l.length∧(l.getD j default).name=n:=by
 obtain ⟨j,hj,e⟩:=List.mem_iff_getElem.1 h
 have sJ:j<l.length:=by simpa [iS] using hj
 have:=kU sJ
 rw [List.getElem?_eq_getElem hj,e] at this
 injection this with this
 exact ⟨j,sJ,this.symm⟩
theorem AQ (g h:fL) (e:eK) (hC:LU g h e) (hg:g.al.length≤1000) (hh:h.al.length≤1000) (hv:e.ar.length≤1000000):bK Tryz.prog 32 [.agg (bW g),.agg (bW h),.agg (bk e)] (ao true):=by
 have E1:(af bp e.ar).length=e.ar.length*4:=aG (e:=4) (fun _=>rfl) ..
 have HY:(af aP g.al).length=g.al.length*4:=aG (e:=4) (fun _=>rfl) ..
 have LI:(af aP h.al).length=h.al.length*4:=aG (e:=4) (fun _=>rfl) ..
 obtain ⟨hW,hN,hL⟩:=hC
 refine zO Tryz.func32 96<|zq<|zS<|zq<|zB 0 (zL (fun (i:Nat)=>(⟨[(5,AV.addr 5 0),(4,AV.addr 4 0),(3,AV.addr 3 0),(0,AV.agg (bW g)),(1,AV.agg (bW h)),(2,AV.agg (bk e)),(7,ai i)],[(3,⟨1,false,true,bW g⟩),(4,⟨1,false,true,bW h⟩),(5,⟨1,false,true,bk e⟩)]⟩:AS)) (fun i=>(i≤e.ar.length)) (fun i=>(e.ar.length-i)) (0) ?_ (zW [.aa [5,4,3,0,1,2,7] [3,4,5]]) ?_)
 ·omega
 intro i hi
 refine zS<|a7.rE 1 [{hs:=[(3,{k:=e.ar.length})]}] [.aa [16,5,4,3,0,1,2,7] [3,4,5]] bH (s':=AS.mk [(16,ao (decide ((↑i:Int)<(↑e.ar.length:Int)))),(5,AV.addr 5 0),(4,AV.addr 4 0),(3,AV.addr 3 0),(0,AV.agg (bW g)),(1,AV.agg (bW h)),(2,AV.agg (bk e)),(7,ai ↑i)] [(3,Row.mk 1 false true (bW g)),(4,Row.mk 1 false true (bW h)),(5,Row.mk 1 false true (bk e))]) (C:=[(af bp e.ar).length=e.ar.length*4]) bH ⟨E1,trivial⟩ (zD 16 ((↑i:Int)<(↑e.ar.length:Int)) (fun q=>?_) (fun q=>?_))
 ·have dM:i<e.ar.length:=ah
  obtain ⟨w1,w2,w3,w4⟩:=hW i dM
  have n1:=hN i dM
  clear hW hN
  obtain ⟨j,hj,UF⟩:=Ms w2
  have ix:=o9 dM
  obtain ⟨z,hz,T4⟩:∃z:Nat,(e.ar.getD i default).leaf=z∧z<16:=⟨(e.ar.getD i default).leaf.toNat,ah,ah⟩
  have Rf:IntKind.u64.wrap (e.ar.getD i default).leaf=(z:Int):=by rw [hz,IntKind.wrap_u64];omega
  have R3:AV.val (.int .u64 (IntKind.u64.wrap (1*2^min ((z:Nat):Int).toNat IntKind.u64.bits)))=aw (fJ (e.ar.getD i default).leaf):=by
   have h0:=jq 1 (z:Int) ah ah
   unfold fJ;rw [hz,←h0];rfl
  generalize fJ (e.ar.getD i default).leaf=B at *
  refine a8<|zS<|zB 1<|zP 2 [yH [(3,{k:=i}),(6,yV (ai ((e.ar.getD i default).leaf))),(7,yV (AV.val (Value.int .u64 (↑z:Int)))),(8,yV (aw B))],{}] [.aa [9,8,16,5,4,3,0,1,2,7] [3,4,5]] [yR (↑i:Int),yO (i*4<(af bp e.ar).length),yA bp e.ar i 1,yI (yd Rf),yI R3,yO ((0:Int)≤(↑z:Int))]<|zS<|zq<|zB 2 (zL (fun (p:Nat×Bool)=>(⟨[(8,aw B),(16,ao (decide ((↑i:Int)<(↑e.ar.length:Int)))),(5,AV.addr 5 0),(4,AV.addr 4 0),(3,AV.addr 3 0),(0,AV.agg (bW g)),(1,AV.agg (bW h)),(2,AV.agg (bk e)),(7,ai ↑i),(10,ai p.1),(9,ao p.2)],[(5,⟨1,false,true,bk e⟩),(4,⟨1,false,true,bW h⟩),(3,⟨1,false,true,bW g⟩)]⟩:AS)) (fun p=>(p.1≤g.al.length∧(j<p.1->p.2=true))) (fun p=>(g.al.length-p.1)) ((0,false)) ?_ (zW [.aa [8,16,5,4,3,0,1,2,7,10,9] [5,4,3]]) ?_)
  ·exact ⟨ah,ah⟩
  rintro ⟨k,b⟩ ⟨hk,hb⟩
  simp only at hk hb
  refine zS<|zP 1 [yH [(3,{k:=g.al.length})]] [.aa [32,8,16,5,4,3,0,1,2,7,10,9] [5,4,3]] [yI HY] (zD 32 ((↑k:Int)<(↑g.al.length:Int)) (fun q2=>?_) (fun q2=>?_))
  ·have xp:k<g.al.length:=ah
   have RA:=l_ xp
   have hw:=w1 k xp
   by_cases en:(g.al.getD k default).name=(e.ar.getD i default).name
   ·have hw:=hw en
    refine a8<|zS<|zB 3<|zP 1 [{hs:=[(3,{k:=k}),(5,yV (dw (g.al.getD k default).name)),(9,{k:=i}),(11,yV (dw (e.ar.getD i default).name)),(12,yV (ao ((g.al.getD k default).name == (e.ar.getD i default).name)))],T:=12}] [.aa [47,32,8,16,5,4,3,0,1,2,7,10,9] [5,4,3]] [yR (↑k:Int),yO (k*4<(af aP g.al).length),yA aP g.al k 0,yR (↑i:Int),yO (i*4<(af bp e.ar).length),yA bp e.ar i 0,yI (fg ((g.al.getD k default).name) ((e.ar.getD i default).name))]<|dQ 47 ((g.al.getD k default).name == (e.ar.getD i default).name) (by simp_all)<|zP 2 [{},yH [(3,{k:=k}),(5,yV (aw ((g.al.getD k default).used))),(7,yV (aw ((g.al.getD k default).used&&&B))),(8,yV (ao false))]] [.aa [56,9,47,32,8,16,5,4,3,0,1,2,7,10] [5,4,3]] [yR (↑k:Int),yO (k*4<(af aP g.al).length),yA aP g.al k 3,yI (iN ((g.al.getD k default).used) B),yB (ao (wv ((g.al.getD k default).used&&&B) != (0:Int))=ao false) (by rw [hw];rfl)]<|zF 56<|zK<|aM<|ak<|zX (yH [(1,yV (ai ((↑k:Int)+1)))]) [yN ((↑k:Int)+1)] (aI (k+1,true) ⟨ah,fun _=>rfl⟩ ah (zW [.aa [8,16,5,4,3,0,1,2,7,10,9] [5,4,3]]))
   ·skip
    refine a8<|zS<|zB 3<|zP 1 [{hs:=[(3,{k:=k}),(5,yV (dw (g.al.getD k default).name)),(9,{k:=i}),(11,yV (dw (e.ar.getD i default).name)),(12,yV (ao ((g.al.getD k default).name == (e.ar.getD i default).name)))],T:=12}] [.aa [47,32,8,16,5,4,3,0,1,2,7,10,9] [5,4,3]] [yR (↑k:Int),yO (k*4<(af aP g.al).length),yA aP g.al k 0,yR (↑i:Int),yO (i*4<(af bp e.ar).length),yA bp e.ar i 0,yI (fg ((g.al.getD k default).name) ((e.ar.getD i default).name))]<|bo 47 ((g.al.getD k default).name == (e.ar.getD i default).name) (by simp_all)<|zK<|aM<|ak<|zX (yH [(1,yV (ai ((↑k:Int)+1)))]) [yN ((↑k:Int)+1)] (aI (k+1,b) ⟨ah,fun q=>hb (by have:j≠k:=fun q=>en (by rw [←q];exact UF);omega)⟩ ah (zW [.aa [8,16,5,4,3,0,1,2,7,10,9] [5,4,3]]))
  ·have ek:k=g.al.length:=ah
   subst ek
   have hb:=hb hj
   subst hb
   refine zE 2<|aY<|aN<|bm<|ak<|zS<|zq<|zB 4 (zL (fun (m:Nat)=>(⟨[(32,ao (decide ((↑g.al.length:Int)<(↑g.al.length:Int)))),(8,aw B),(16,ao (decide ((↑i:Int)<(↑e.ar.length:Int)))),(5,AV.addr 5 0),(4,AV.addr 4 0),(3,AV.addr 3 0),(0,AV.agg (bW g)),(1,AV.agg (bW h)),(2,AV.agg (bk e)),(7,ai ↑i),(10,ai (↑g.al.length:Int)),(9,ao true),(11,ai m)],[(5,⟨1,false,true,bk e⟩),(4,⟨1,false,true,bW h⟩),(3,⟨1,false,true,bW g⟩)]⟩:AS)) (fun m=>(m≤h.al.length)) (fun m=>(h.al.length-m)) (0) ?_ (zW [.aa [32,8,16,5,4,3,0,1,2,7,10,9,11] [5,4,3]]) ?_)
   ·omega
   intro m hm
   refine zS<|zP 1 [yH [(3,{k:=h.al.length})]] [.aa [61,32,8,16,5,4,3,0,1,2,7,10,9,11] [5,4,3]] [yI LI] (zD 61 ((↑m:Int)<(↑h.al.length:Int)) (fun q3=>?_) (fun q3=>?_))
   ·have DS:m<h.al.length:=ah
    have RA:=l_ DS
    have hn:=n1 m DS
    by_cases en:(h.al.getD m default).name=(e.ar.getD i default).name
    ·have hn:=hn en
     refine a8<|zS<|zB 5<|zP 1 [{hs:=[(3,{k:=m}),(5,yV (dw (h.al.getD m default).name)),(9,{k:=i}),(11,yV (dw (e.ar.getD i default).name)),(12,yV (ao ((h.al.getD m default).name == (e.ar.getD i default).name))),(17,{k:=m}),(19,yV (aw ((h.al.getD m default).used))),(21,yV (aw ((h.al.getD m default).used&&&B))),(22,yV (ao ((h.al.getD m default).used&&&B == 0)))],T:=21}] [.aa [87,61,32,8,16,5,4,3,0,1,2,7,10,9,11] [5,4,3]] ([yR (↑m:Int),yO (m*4<(af aP h.al).length),yA aP h.al m 0,yR (↑i:Int),yO (i*4<(af bp e.ar).length),yA bp e.ar i 0,yI (fg ((h.al.getD m default).name) ((e.ar.getD i default).name))]++yM 4 (yS (((h.al.getD m default).name == (e.ar.getD i default).name)=true))++ [yR (↑m:Int),yS (m*4<(af aP h.al).length)]++yM 2 (yS (((h.al.getD m default).name == (e.ar.getD i default).name)=true))++ [yA aP h.al m 3]++yM 2 (yS (((h.al.getD m default).name == (e.ar.getD i default).name)=true))++ [yI (iN ((h.al.getD m default).used) B),yS (((h.al.getD m default).name == (e.ar.getD i default).name)=true),yI (fV ((h.al.getD m default).used&&&B) 0),yS (((h.al.getD m default).name == (e.ar.getD i default).name)=true)])<|bo 87 ((h.al.getD m default).used&&&B == 0) bR<|zK<|aM<|ak<|zX (yH [(1,yV (ai ((↑m:Int)+1)))]) [yN ((↑m:Int)+1)] (aI (m+1) (by assumption) ah (zW [.aa [32,8,16,5,4,3,0,1,2,7,10,9,11] [5,4,3]]))
    ·skip
     refine a8<|zS<|zB 5<|zP 1 [{hs:=[(3,{k:=m}),(5,yV (dw (h.al.getD m default).name)),(9,{k:=i}),(11,yV (dw (e.ar.getD i default).name)),(12,yV (ao ((h.al.getD m default).name == (e.ar.getD i default).name))),(14,{g:=false}),(15,{g:=false}),(16,{g:=false}),(17,{g:=false}),(18,{g:=false}),(19,{g:=false}),(20,{g:=false}),(21,{g:=false}),(22,{g:=false}),(23,{b:=false})],T:=21}] [.aa [87,61,32,8,16,5,4,3,0,1,2,7,10,9,11] [5,4,3]] ([yR (↑m:Int),yO (m*4<(af aP h.al).length),yA aP h.al m 0,yR (↑i:Int),yO (i*4<(af bp e.ar).length),yA bp e.ar i 0,yI (fg ((h.al.getD m default).name) ((e.ar.getD i default).name))]++yM 10 (yS (((h.al.getD m default).name == (e.ar.getD i default).name)=false)))<|zF 87<|zK<|aM<|ak<|zX (yH [(1,yV (ai ((↑m:Int)+1)))]) [yN ((↑m:Int)+1)] (aI (m+1) (by assumption) ah (zW [.aa [32,8,16,5,4,3,0,1,2,7,10,9,11] [5,4,3]]))
   ·skip
    refine zE 4<|aY<|aN<|bm<|ak<|zq<|zF 89<|zK<|aM<|ak<|zX (yH [(1,yV (ai ((↑i:Int)+1)))]) [yN ((↑i:Int)+1)] (aI (i+1) (by assumption) ah (zW [.aa [5,4,3,0,1,2,7] [3,4,5]]))
 ·have ei:i=e.ar.length:=ah
  subst ei
  refine zE 0<|aY<|aN<|bm<|ak<|zP 1 [yH [(2,{k:=e.ar.length})]] [.aa [6,16,5,4,3,0,1,2,7] [3,4,5]] [yI E1]<|zR (zV [yB (Value.bool (decide ((↑e.ar.length:Int)≥g.bB))=Value.bool true) (congrArg Value.bool fX)])
end Go.Proofs.YtjgbhhnghedgdaaGreatDoor
