import Derived.Test.YtjgbhhnghedgdaaGreatDoorZfGrQ
import Derived.Test.YtjgbhhnghedgdaaGreatDoorZfGrN0
set_option linter.all false
namespace Go.Proofs.YtjgbhhnghedgdaaGreatDoor
open Go.RowKit
def fa (l:List Mem):List (List UInt8):=l.map Mem.name
structure CT (g:fG):Prop where
 VU:(g.aq.length:Int)<2*g.bm
 pos:g.bm≤g.aq.length
 VR:(fa g.aq).Nodup
theorem eE {T:Type} [Inhabited T] {l:List T} {i:Nat} (h:i<l.length):l.getD i default=l[i]:=by rw [List.getD_eq_getElem?_getD,List.getElem?_eq_getElem h];rfl
theorem ze {l:List Mem} {i:Nat} (h:i<l.length):(fa l)[i]?=some (l.getD i default).name:=by
 unfold fa
 rw [List.getElem?_map,List.getElem?_eq_getElem h,eE h];rfl
theorem Ic (l:List Mem) (v:gW):fa (nJ l v)=fa l:=by
 unfold nJ
 split
 ·rfl
 ·rename_i h
  rcases eN l v.name with hk|⟨k,hk,gV,JT⟩
  ·omega
  ·rw [pS hk,hk]
   unfold fa
   rw [List.map_set,show ((k:Nat):Int).toNat=k from rfl]
   refine List.ext_getElem? fun i=>?_
   rw [List.getElem?_set]
   split
   ·rename_i e
    subst e
    rw [if_pos (by simpa using gV),List.getElem?_map,List.getElem?_eq_getElem gV,eE gV];rfl
   ·rfl
theorem uJ (vs:List gW):∀l:List Mem,fa (iz l vs)=fa l:=by
 induction vs with
 | nil=>intro l;rfl
 | cons v vs ih=>intro l;show fa (iz (nJ l v) vs)=_;rw [ih,Ic]
theorem LX {l:List Mem} (h:(fa l).Nodup) {i j:Nat} (hi:i<l.length) (hj:j<l.length) (e:(l.getD i default).name=(l.getD j default).name):i=j:=by
 have hl:(fa l).length=l.length:=List.length_map _
 have h1:=ze hi
 have h2:=ze hj
 rw [e,←h2] at h1
 exact (List.getElem?_inj ag h).1 h1
theorem L4 {l:List Mem} (h:(fa l).Nodup) {i:Nat} (hi:i<l.length):cT l (l.getD i default).name=i:=by
 rcases eN l (l.getD i default).name with hk|⟨k,hk,gV,JT⟩
 ·exfalso
  unfold cT at hk
  rw [if_pos ⟨_,by rw [eE hi];exact List.getElem_mem hi,rfl⟩] at hk
  omega
 ·rw [hk,LX h gV hi JT]
theorem GV {l:List Mem} {n:List UInt8} (h:cT l n<0):n ∉ fa l:=by
 intro hn
 unfold fa at hn
 obtain ⟨m,hm,rfl⟩:=List.mem_map.1 hn
 unfold cT at h
 rw [if_pos ⟨m,hm,rfl⟩] at h
 omega
theorem GU {l:List Mem} {n:List UInt8} (h:¬cT l n<0):n∈fa l:=by
 rcases eN l n with hk|⟨k,hk,gV,JT⟩
 ·omega
 ·rw [←JT];exact List.mem_of_getElem? (ze gV)
theorem Ou {m:Mem} (h:gr m=0):CT (bU m):=by
 rw [show bU m=⟨0,hash 16 (dP m.h m.r++m.name),1,[m],[]⟩ from if_pos h]
 exact ⟨by show ((1:Nat):Int)<2*1;omega,by show (1:Int)≤1;omega,by simp [fa]⟩
theorem PJ {g:fG} {e:dj} (hS:CT g) (h:eW g e=0):CT (ga g e):=by
 obtain ⟨h1,h2,h3⟩:=hS
 have hc:=(gy h).2.2.2.2
 have key:(((cw g e).aq.length:Nat):Int)<2*(cw g e).bm∧(cw g e).bm≤(cw g e).aq.length∧(fa (cw g e).aq).Nodup:=by
  unfold cw
  rw [if_neg (fun q=>q hc)]
  unfold gT at hc
  by_cases c1:e.kind=1
  ·rw [if_pos c1] at hc ⊢
   have hn:¬0≤cT g.aq e.name:=fun q=>by rw [if_pos q] at hc;omega
   refine ⟨?_,?_,?_⟩
   ·show (((g.aq++ [_]).length:Nat):Int)<2*(if 2*g.bm≤g.aq.length+1 then g.bm+1 else g.bm)
    rw [List.length_append]
    split<;>(simp;omega)
   ·show (if 2*g.bm≤g.aq.length+1 then g.bm+1 else g.bm)≤(((g.aq++ [_]).length:Nat):Int)
    rw [List.length_append]
    split<;>(simp;omega)
   ·show (fa (g.aq++ [⟨e.name,e.kh,e.kr,0⟩])).Nodup
    have fO:=GV (l:=g.aq) (n:=e.name) ag
    unfold fa at h3 fO ⊢
    rw [List.map_append,List.nodup_append]
    refine ⟨h3,by simp,?_⟩
    intro a ha b hb e2
    simp only [List.map_cons,List.map_nil,List.mem_singleton] at hb
    subst hb;subst e2
    exact fO ha
  rw [if_neg c1] at hc ⊢
  by_cases c2:e.kind=2
  ·rw [if_pos c2] at hc ⊢
   have hm:¬cT g.aq e.name<0:=fun q=>by rw [if_pos q] at hc;omega
   rw [if_neg hm] at hc
   have ht:¬((g.aq.length:Int)-1<g.bm):=fun q=>by rw [if_pos q] at hc;omega
   rcases eN g.aq e.name with hk|⟨k,hk,gV,JT⟩
   ·omega
   have hl:(ke g.aq (cT g.aq e.name).toNat).length=g.aq.length-1:=by
    rw [hk];unfold ke
    rw [List.length_append,List.length_take,List.length_drop]
    show min k _+(g.aq.length-(k+1))=_
    omega
   refine ⟨by show (((ke _ _).length:Nat):Int)<2*g.bm;rw [hl];omega,by show g.bm≤(((ke _ _).length:Nat):Int);rw [hl];omega,?_⟩
   show (fa (ke _ _)).Nodup
   refine h3.sublist ?_
   unfold fa ke
   refine List.Sublist.map _ ?_
   conv=>rhs;rw [←List.take_append_drop (cT g.aq e.name).toNat g.aq]
   refine List.Sublist.append (List.Sublist.refl _) ?_
   rw [←List.drop_drop]
   exact List.drop_sublist _ _
  rw [if_neg c2] at hc ⊢
  by_cases c3:e.kind=3
  ·rw [if_pos c3] at hc ⊢
   have ht:¬((g.aq.length:Int)<e.bm∨2*e.bm≤g.aq.length):=fun q=>by rw [if_pos q] at hc;omega
   exact ⟨by show ((g.aq.length:Nat):Int)<2*e.bm;omega,by show e.bm≤((g.aq.length:Nat):Int);omega,h3⟩
  rw [if_neg c3]
  split
  ·exact ⟨h1,h2,h3⟩
  ·exact ⟨h1,h2,h3⟩
 obtain ⟨k1,k2,k3⟩:=key
 rw [rn h]
 exact ⟨by show (((iz _ _).length:Nat):Int)<_;rw [kN];exact k1,by show _≤(((iz _ _).length:Nat):Int);rw [kN];exact k2,by show (fa (iz _ _)).Nodup;rw [uJ];exact k3⟩
theorem Lr {g:fG} {e:dj} (hS:CT g) (h:eW g e=0) {i:Nat} (hi:i<e.ak.length) :
  (∀k,k<g.aq.length->(g.aq.getD k default).name=(e.ak.getD i default).name->(g.aq.getD k default).used&&&gJ (e.ak.getD i default).leaf=0) ∧
  (e.ak.getD i default).name∈fa g.aq∧0≤(e.ak.getD i default).leaf∧(e.ak.getD i default).leaf<16:=by
 have hv:=(gy h).2.2.2.1
 have JO:=rC hv hi
 have h0:ff (iJ g (cO e) e.ak) e.ak.length=0:=by
  apply Classical.byContradiction;intro q
  unfold fH at hv;rw [if_pos q] at hv;exact q hv
 have h1:=sq h0 i hi
 unfold iJ at h1
 split at h1
 ·omega
 split at h1
 ·omega
 rename_i hm
 split at h1
 ·rename_i q;exact absurd h1 q
 split at h1
 ·omega
 rename_i hu
 refine ⟨fun k hk he=>?_,GU hm,JO⟩
 have h2:=L4 hS.VR hk
 rw [he] at h2
 rw [pS h2] at hu
 exact Classical.not_not.1 hu
theorem E5 {g:fG} {e:dj} (h:eW g e=0):g.bm≤e.ak.length:=by
 have hv:=(gy h).2.2.2.1
 unfold fH at hv
 split at hv
 ·rename_i q;exact absurd hv q
 split at hv
 ·omega
 ·omega
theorem SL {n:Int} (h1:0≤n) (h2:n<18446744073709551616):wv (u64 n)=n:=by rw [←uB,IntKind.wrap_u64];omega
theorem MN (n:UInt64) (k:Nat) (hk:k≤7):((n>>>UInt64.ofNat (8*k)).toUInt8).toNat=n.toNat/2^(8*k)%256:=by
 rw [UInt64.toNat_toUInt8,UInt64.toNat_shiftRight,Nat.shiftRight_eq_div_pow,UInt64.toNat_ofNat_of_lt' (by show _<2^64;omega),Nat.mod_eq_of_lt (by omega:8*k<64)]
theorem Ij (n:UInt64) {s j:Nat} (hj:j<s) (hs:s≤8):((nz n s s)[j]?).map UInt8.toNat=some (n.toNat/2^(8*(s-1-j))%256):=by
 unfold nz
 rw [List.getElem?_map,List.getElem?_range hj]
 show some _=_
 rw [MN n _ ag]
theorem Lx {a b:UInt64} {s:Nat} (hs:s=1∨s=2∨s=4∨s=8) (ha:a.toNat<256^s) (hb:b.toNat<256^s) (h:nz a s s=nz b s s):a=b:=by
 have key:∀j,j<s->a.toNat/2^(8*(s-1-j))%256=b.toNat/2^(8*(s-1-j))%256:=fun j hj=>by
  have h1:=Ij a (j:=j) hj ag
  rw [h,Ij b hj ag] at h1
  exact (Option.some.inj h1).symm
 apply UInt64.toNat_inj.1
 rcases hs with rfl|rfl|rfl|rfl
 ·have k0:=key 0 ag
  simp only [Nat.reduceSub,Nat.reduceMul,Nat.reducePow] at k0 ha hb
  omega
 ·have k0:=key 0 ag
  have k1:=key 1 ag
  simp only [Nat.reduceSub,Nat.reduceMul,Nat.reducePow] at k0 k1 ha hb
  omega
 ·have k0:=key 0 ag
  have k1:=key 1 ag
  have k2:=key 2 ag
  have k3:=key 3 ag
  simp only [Nat.reduceSub,Nat.reduceMul,Nat.reducePow] at k0 k1 k2 k3 ha hb
  omega
 ·have k0:=key 0 ag
  have k1:=key 1 ag
  have k2:=key 2 ag
  have k3:=key 3 ag
  have k4:=key 4 ag
  have k5:=key 5 ag
  have k6:=key 6 ag
  have k7:=key 7 ag
  simp only [Nat.reduceSub,Nat.reduceMul,Nat.reducePow] at k0 k1 k2 k3 k4 k5 k6 k7 ha hb
  omega
theorem B4 (n:UInt64):(n.toNat<24∧ ∀m,bW m n= [m<<<5+n.toUInt8])∨ ∃c s:Nat,((c=24∧s=1)∨(c=25∧s=2)∨(c=26∧s=4)∨(c=27∧s=8))∧n.toNat<256^s∧ ∀m,bW m n=(m<<<5+UInt8.ofNat c)::nz n s s:=by
 have hw:wv n=(n.toNat:Int):=rfl
 have cZ:=n.toNat_lt
 by_cases c1:wv n<24
 ·exact .inl ⟨ag,fun m=>if_pos c1⟩
 right
 by_cases c2:wv n<256
 ·exact ⟨24,1,.inl ⟨rfl,rfl⟩,by show _<256;omega,fun m=>(if_neg c1).trans (if_pos c2)⟩
 by_cases c3:wv n<65536
 ·exact ⟨25,2,.inr (.inl ⟨rfl,rfl⟩),by show _<65536;omega,fun m=>(if_neg c1).trans ((if_neg c2).trans (if_pos c3))⟩
 by_cases c4:wv n<4294967296
 ·exact ⟨26,4,.inr (.inr (.inl ⟨rfl,rfl⟩)),by show _<4294967296;omega,fun m=>(if_neg c1).trans ((if_neg c2).trans ((if_neg c3).trans (if_pos c4)))⟩
 ·exact ⟨27,8,.inr (.inr (.inr ⟨rfl,rfl⟩)),by show _<18446744073709551616;omega,fun m=>(if_neg c1).trans ((if_neg c2).trans ((if_neg c3).trans (if_neg c4)))⟩
theorem oE {m a b:UInt8} (h:m+a=m+b):a=b:=by
 have:=congrArg UInt8.toNat h
 rw [UInt8.toNat_add,UInt8.toNat_add] at this
 have h1:=a.toNat_lt
 have h2:=b.toNat_lt
 have h3:=m.toNat_lt
 exact UInt8.toNat_inj.1 ag
theorem vR {m:UInt8} {a b:UInt64} {r s:List UInt8} (h:bW m a++r=bW m b++s):a=b∧r=s:=by
 have h8:∀n:UInt64,n.toUInt8.toNat=n.toNat%256:=fun n=>UInt64.toNat_toUInt8 n
 rcases B4 a with ⟨ha,ea⟩|⟨c,z,hc,hz,ea⟩<;>rcases B4 b with ⟨hb,eb⟩|⟨d,y,hd,hy,eb⟩<;>rw [ea,eb] at h
 ·simp only [List.cons_append,List.nil_append,List.cons.injEq] at h
  have h1:=congrArg UInt8.toNat (oE h.1)
  rw [h8,h8] at h1
  exact ⟨UInt64.toNat_inj.1 ag,h.2⟩
 ·exfalso
  simp only [List.cons_append,List.nil_append,List.cons.injEq] at h
  have h1:=congrArg UInt8.toNat (oE h.1)
  rw [h8,UInt8.toNat_ofNat_of_lt' (by show _<2^8;omega)] at h1
  omega
 ·exfalso
  simp only [List.cons_append,List.nil_append,List.cons.injEq] at h
  have h1:=congrArg UInt8.toNat (oE h.1)
  rw [h8,UInt8.toNat_ofNat_of_lt' (by show _<2^8;omega)] at h1
  omega
 ·simp only [List.cons_append,List.cons.injEq] at h
  have h1:=congrArg UInt8.toNat (oE h.1)
  rw [UInt8.toNat_ofNat_of_lt' (by show _<2^8;omega),UInt8.toNat_ofNat_of_lt' (by show _<2^8;omega)] at h1
  have e:y=z:=ag
  subst e
  obtain ⟨h2,h3⟩:=List.append_inj h.2 (by rw [tW,tW])
  exact ⟨Lx ag hz hy h2,h3⟩
theorem HD (x:fP) (l:List fP):g_ (x::l)=gS x++g_ l:=rfl
theorem qk {a b:UInt64} {r s:List UInt8} (h:gS (aL a)++r=gS (aL b)++s):a=b∧r=s:=by
 have e:∀n,gS (aL n)=bW (u8 (1-1)) n:=fun n=>if_neg (by show ¬((1:Int)=3∨(1:Int)=4);omega)
 rw [e,e] at h
 exact vR h
theorem M3 {a b:UInt64} {r s:List UInt8} (h:gS (bG a)++r=gS (bG b)++s):a=b∧r=s:=by
 have e:∀n,gS (bG n)=bW (u8 (5-1)) n:=fun n=>if_neg (by show ¬((5:Int)=3∨(5:Int)=4);omega)
 rw [e,e] at h
 exact vR h
theorem A7 {a b r s:List UInt8} (ha:a.length≤1000000) (hb:b.length≤1000000) (h:gS (cL a)++r=gS (cL b)++s):a=b∧r=s:=by
 have e:∀x:List UInt8,gS (cL x)=bW (u8 (4-1)) (u64 x.length)++x:=fun x=>if_pos (by show ((4:Int)=3∨(4:Int)=4);omega)
 rw [e,e,List.append_assoc,List.append_assoc] at h
 obtain ⟨h1,h2⟩:=vR h
 have h3:=congrArg UInt64.toNat h1
 have h4:∀n:Nat,n≤1000000->(u64 (n:Int)).toNat=n:=fun n hn=>by
  have:=congrArg Int.toNat (SL (n:=(n:Int)) ag ag)
  simpa [wv] using this
 rw [h4 _ ha,h4 _ hb] at h3
 exact List.append_inj h2 h3
theorem E9 {a b:Int} (ha:0≤a∧a≤2147483647) (hb:0≤b∧b≤2147483647) (h:u64 a=u64 b):a=b:=by
 have:=congrArg wv h
 rwa [SL ha.1 ag,SL hb.1 ag] at this
structure R4 (x y:dj):Prop where
 kind:x.kind=y.kind
 name:x.kind=1∨x.kind=2->x.name=y.name
 bm:x.kind=3->x.bm=y.bm
theorem KZ {x y:dj} (hx:eO x=0) (hy:eO y=0) (h:dM x=dM y):R4 x y:=by
 unfold dM at h
 rw [if_pos hx,if_pos hy] at h
 obtain ⟨k1,k5,e1,e2,f1,s1⟩:=mu hx
 obtain ⟨l1,l5,d1,d2,f2,s2⟩:=mu hy
 have t1:=fun q=>qQ hx q
 have t2:=fun q=>qQ hy q
 unfold fY at h
 simp only [List.cons_append,List.nil_append,HD] at h
 obtain ⟨-,h⟩:=M3 h
 obtain ⟨-,h⟩:=qk h
 obtain ⟨-,h⟩:=qk h
 obtain ⟨hk,h⟩:=qk h
 have hk:=E9 ag ag hk
 refine ⟨hk,fun q=>?_,fun q=>?_⟩
 ·have nx:x.name.length≤1000000:=by
   have:eg x.name=0:=by
    unfold ft at f1
    rcases q with q|q
    ·rw [if_pos q] at f1
     exact Classical.byContradiction fun w=>by rw [if_pos w] at f1;exact w f1
    ·rw [if_neg ag,if_pos q] at f1;exact f1
   have:=zg this
   omega
  have ny:y.name.length≤1000000:=by
   have:eg y.name=0:=by
    unfold ft at f2
    rcases q with q|q
    ·rw [if_pos ag] at f2
     exact Classical.byContradiction fun w=>by rw [if_pos w] at f2;exact w f2
    ·rw [if_neg ag,if_pos ag] at f2;exact f2
   have:=zg this
   omega
  unfold gv at h
  rcases q with q|q
  ·rw [if_pos q,if_pos ag] at h
   exact (A7 nx ny h).1
  ·rw [if_neg ag,if_pos q,if_neg ag,if_pos ag] at h
   exact (A7 nx ny h).1
 ·unfold gv at h
  rw [if_neg ag,if_neg ag,if_pos q,if_neg ag,if_neg ag,if_pos ag] at h
  have:=(qk h).1
  exact E9 (by have:=t1 q;omega) (by have:=t2 ag;omega) this
theorem VS:∀i,i<10-> ∀j,j<10->xT [109,u8 (48+((i:Nat):Int))] [109,u8 (48+((j:Nat):Int))]=decide (i≤j):=by decide +kernel
theorem vo {i j:Nat} (hi:i<10) (hj:j<10):xT (dv i).name (dv j).name=decide (i≤j):=VS i hi j hj
theorem zn {i j:Nat} (hi:i<10) (hj:j<10) (h:(dv i).name=(dv j).name):i=j:=by
 have h1:=vo hi hj
 have h2:=vo hj hi
 have h3:=vo hi hi
 rw [←h,h3] at h1
 rw [←h,h3] at h2
 have h4:=of_decide_eq_true (h1.symm.trans (decide_eq_true (Nat.le_refl i)))
 have h5:=of_decide_eq_true (h2.symm.trans (decide_eq_true (Nat.le_refl i)))
 omega
def wR (W:UInt64) (v:gW):Prop:=∃j:Nat,j<10∧ ∃z:Nat,z<16∧v=⟨(dv j).name,(z:Int),bQ (300+u64 (j:Int)) (z:Int) W 18,df (300+u64 (j:Int)) z 4⟩
theorem Jt {l:List gW} {v w:gW} (h:w∈vC l v):w=v∨w∈l:=by
 unfold vC at h
 rcases List.mem_append.1 h with h|h
 ·rcases List.mem_append.1 h with h|h
  ·exact .inr (List.mem_of_mem_take h)
  ·exact .inl (List.mem_singleton.1 h)
 ·exact .inr (List.mem_of_mem_drop h)
theorem Ix {e:dj} (he:e.ak= []) (nx:Nat->Int) (dN:Nat):∀i,i≤10->cO (bz e nx dN i).1=cO e∧ ∀v∈(bz e nx dN i).1.ak,wR (cO e) v
 | 0,_=>⟨rfl,fun v hv=>by rw [show (bz e nx dN 0).1.ak=e.ak from rfl,he] at hv;cases hv⟩
 | i+1,hi=>by
  obtain ⟨h1,h2⟩:=Ix he nx dN i ag
  unfold bz
  generalize bz e nx dN i=S at *
  split
  ·rename_i q
   have hl:=AR q.2
   have cf:qg S.1 (dv i).name (300+u64 i) 4 (S.2 i)= {S.1 with ak:=vC S.1.ak ⟨(dv i).name,qo 4 (S.2 i),pE (300+u64 i) 4 (S.2 i) (cO S.1),pD (300+u64 i) 4 (S.2 i)⟩}:=if_neg (fun w=>w q.2)
   show cO (qg _ _ _ _ _)=_∧ ∀v∈(qg _ _ _ _ _).ak,_
   rw [cf]
   refine ⟨h1,fun v hv=>?_⟩
   rcases Jt hv with rfl|hv
   ·obtain ⟨z,hz,Oz⟩:∃z:Nat,S.2 i=z∧z<16:=⟨(S.2 i).toNat,ag,ag⟩
    have nb:¬iV 4 (S.2 i):=by
     unfold iV ck
     have:(2:Nat)^(4:Int).toNat=16:=rfl
     omega
    refine ⟨i,ag,z,Oz,?_⟩
    rw [show qo 4 (S.2 i)=S.2 i from if_neg nb,show pE (300+u64 i) 4 (S.2 i) (cO S.1)=bQ (300+u64 i) (S.2 i) (cO S.1) 18 from if_neg nb,show pD (300+u64 i) 4 (S.2 i)=df (300+u64 i) (S.2 i).toNat (4:Int).toNat from if_neg nb,h1,hz]
    rfl
   ·exact h2 v hv
  ·exact ⟨h1,h2⟩
structure EX (g0:fG) (c:rA):Prop where
 run:jv c.log g0 c.log.length=c.b7
 ok:∀i,i<c.log.length->lQ c.log g0 i=0
 Qu:∀e∈c.log,∀v∈e.ak,wR (cO e) v
theorem Cm {T:Type} [Inhabited T] (a b:List T) {i:Nat} (h:i<a.length):(a++b).getD i default=a.getD i default:=by rw [List.getD_eq_getElem?_getD,List.getElem?_append_left h,List.getD_eq_getElem?_getD]
theorem qq (a b:List dj) (g:fG):∀i,i≤a.length->jv (a++b) g i=jv a g i
 | 0,_=>rfl
 | i+1,h=>by
  show ga (jv (a++b) g i) ((a++b).getD i default)=ga (jv a g i) (a.getD i default)
  rw [qq a b g i ag,Cm a b ag]
theorem IE (a b:List dj) (g:fG) {i:Nat} (h:i<a.length):lQ (a++b) g i=lQ a g i:=by
 unfold lQ
 rw [qq a b g i ag,Cm a b h]
theorem Ph (l:List Int) {g0:fG} {s:rA×Nat} {n:Nat} (h:EX g0 s.1) (hB:wT s.1 n) (hk:s.2≤l.length):EX g0 (xg l s).1∧ ∃t,(xg l s).1.log=s.1.log++t:=by
 obtain ⟨h1,h2,h3⟩:=h
 obtain ⟨b1,b2,b3⟩:=Ey l s.1.b7 s.2 hk hB.b7.m8
 obtain ⟨v1,v2⟩:=Ix b2 s.1.nx (J6 l s) 10 (Nat.le_refl _)
 rw [show (bz (tS l s.1.b7 s.2).1 s.1.nx (J6 l s) 10)=m6 l s from rfl] at v1 v2
 have hd:(xg l s).1=if eW s.1.b7 (m6 l s).1=0 then ⟨ga s.1.b7 (m6 l s).1,s.1.log++ [(m6 l s).1],(m6 l s).2⟩ else s.1:=rfl
 rw [hd]
 clear hd
 split
 ·rename_i c
  refine ⟨⟨?_,fun i hi=>?_,fun e he v hv=>?_⟩,_,rfl⟩
  ·show jv (s.1.log++ [_]) g0 (s.1.log++ [_]).length=ga s.1.b7 _
   rw [List.length_append]
   show ga (jv (s.1.log++ [_]) g0 s.1.log.length) ((s.1.log++ [_]).getD s.1.log.length default)=_
   rw [qq _ _ _ _ (Nat.le_refl _),h1,List.getD_eq_getElem?_getD,List.getElem?_append_right (Nat.le_refl _),Nat.sub_self]
   rfl
  ·have hi:i<(s.1.log++ [(m6 l s).1]).length:=hi
   show lQ (s.1.log++ [(m6 l s).1]) g0 i=0
   rw [List.length_append] at hi
   by_cases e:i<s.1.log.length
   ·rw [IE _ _ _ e];exact h2 i e
   ·have ei:i=s.1.log.length:=by simp at hi;omega
    subst ei
    unfold lQ
    rw [qq _ _ _ _ (Nat.le_refl _),h1,List.getD_eq_getElem?_getD,List.getElem?_append_right (Nat.le_refl _),Nat.sub_self]
    exact c
  ·have he:e∈s.1.log++ [(m6 l s).1]:=he
   rcases List.mem_append.1 he with he|he
   ·exact h3 e he v hv
   ·obtain rfl:=List.mem_singleton.1 he
    rw [v1];exact v2 v hv
 ·exact ⟨⟨h1,h2,h3⟩,[],by simp⟩
theorem zI (l:List Int) {g0:fG} {s:rA×Nat} {n:Nat} (h:EX g0 s.1) (hB:wT s.1 n) (hk:s.2≤l.length):∀i,EX g0 (c_ l s i).1∧ ∃t,(c_ l s i).1.log=s.1.log++t
 | 0=>⟨h,[],by show s.1.log=_;simp⟩
 | i+1=>by
  obtain ⟨i1,t,i2⟩:=zI l h hB hk i
  obtain ⟨j1,j2⟩:=sg l hB hk i
  unfold c_
  split
  ·obtain ⟨k1,u,k2⟩:=Ph l i1 j1 j2
   exact ⟨k1,t++u,by rw [k2,i2,List.append_assoc]⟩
  ·exact ⟨i1,t,i2⟩
theorem Pv:EX (bU (dv 0)) CJ:=⟨rfl,fun i hi=>absurd hi (Nat.not_lt_zero i),fun e he=>by cases he⟩
theorem Ls {g:fG} {e:dj} (h:eW g e=0) {W:UInt64} (hv:∀v∈e.ak,wR W v):∃f:Nat->Nat,(∀i,i<e.ak.length->f i<10∧(e.ak.getD i default).name=(dv (f i)).name)∧ ∀j i,i<j->j<e.ak.length->f i<f j:=by
 have hx:∀i,∃j:Nat,i<e.ak.length->j<10∧(e.ak.getD i default).name=(dv j).name:=fun i=>by
  by_cases c:i<e.ak.length
  ·obtain ⟨j,hj,z,-,e2⟩:=hv (e.ak.getD i default) (by rw [eE c];exact List.getElem_mem c)
   exact ⟨j,fun _=>⟨hj,by rw [e2]⟩⟩
  ·exact ⟨0,fun q=>absurd q c⟩
 refine ⟨fun i=>Classical.choose (hx i),fun i hi=>Classical.choose_spec (hx i) hi,?_⟩
 have rB:=(gy h).2.2.2.1
 have h0:ff (iJ g (cO e) e.ak) e.ak.length=0:=by
  apply Classical.byContradiction;intro q
  unfold fH at rB;rw [if_pos q] at rB;exact q rB
 have st:∀i,i+1<e.ak.length->Classical.choose (hx i)<Classical.choose (hx (i+1)):=fun i hi=>by
  obtain ⟨a1,a2⟩:=Classical.choose_spec (hx i) ag
  obtain ⟨b1,b2⟩:=Classical.choose_spec (hx (i+1)) hi
  have h1:=sq h0 (i+1) hi
  have no:¬(0<i+1∧xT (e.ak.getD (i+1) default).name (e.ak.getD (i+1-1) default).name=true):=fun q=>by
   unfold iJ at h1;rw [if_pos q] at h1;omega
  rw [Nat.add_sub_cancel,a2,b2,vo b1 a1] at no
  apply Classical.byContradiction
  intro q
  exact no ⟨ag,decide_eq_true ag⟩
 intro j
 induction j with
 | zero=>intro i hi;omega
 | succ j ih =>
  intro i hi hj
  by_cases c:i=j
  ·subst c;exact st i hj
  ·exact Nat.lt_trans (ih i ag ag) (st j hj)
theorem yy {g:fG} {e:dj} (h:eW g e=0) {W:UInt64} (hv:∀v∈e.ak,wR W v):(e.ak.map gW.name).Nodup∧(e.ak.map gW.name).Pairwise fun a b=>xT b a=false:=by
 obtain ⟨f,f1,f2⟩:=Ls h hv
 have at_:∀i (hi:i<(e.ak.map gW.name).length),i<e.ak.length∧(e.ak.map gW.name)[i]=(e.ak.getD i default).name:=fun i hi=>by
  have dc:i<e.ak.length:=by simpa using hi
  exact ⟨dc,by rw [eE dc,List.getElem_map]⟩
 constructor
 ·refine List.pairwise_iff_getElem.2 fun i j hi hj G_ q=>?_
  obtain ⟨i1,i2⟩:=at_ i hi
  obtain ⟨j1,j2⟩:=at_ j hj
  rw [i2,j2,(f1 i i1).2,(f1 j j1).2] at q
  have:=zn (f1 i i1).1 (f1 j j1).1 q
  have:=f2 j i G_ j1
  omega
 ·refine List.pairwise_iff_getElem.2 fun i j hi hj G_=>?_
  obtain ⟨i1,i2⟩:=at_ i hi
  obtain ⟨j1,j2⟩:=at_ j hj
  rw [i2,j2,(f1 i i1).2,(f1 j j1).2,vo (f1 j j1).1 (f1 i i1).1]
  have:=f2 j i G_ j1
  exact decide_eq_false ag
theorem Ke {g:fG} {e:dj} (h:eW g e=0) {W:UInt64} (hv:∀v∈e.ak,wR W v) (V:List gW):(ie e.ak V).Pairwise fun a b=>xT b a=false :=
 (yy h hv).2.sublist (List.Sublist.map _ List.filter_sublist)
theorem SW {l N:List (List UInt8)} (h:l.Nodup) (hs:∀x∈l,x∈N):l.length≤N.length:=by
 induction l generalizing N with
 | nil=>exact Nat.zero_le _
 | cons x l ih =>
  obtain ⟨h1,h2⟩:=List.nodup_cons.1 h
  have hx:=hs x (List.mem_cons_self ..)
  have:=ih (N:=N.erase x) h2 fun y hy=>(List.mem_erase_of_ne (fun e:y=x=>h1 (by rw [←e];exact hy))).2 (hs y (List.mem_cons_of_mem _ hy))
  rw [List.length_erase_of_mem hx] at this
  have:=List.length_pos_of_mem hx
  rw [List.length_cons];omega
theorem meet {A B N:List (List UInt8)} (hA:A.Nodup) (hB:B.Nodup) (sA:∀x∈A,x∈N) (sB:∀x∈B,x∈N) (h:N.length<A.length+B.length):∃x,x∈A∧x∈B:=by
 apply Classical.byContradiction
 intro q
 have:=SW (l:=A++B) (N:=N) (List.nodup_append.2 ⟨hA,hB,fun a ha b hb e=>q ⟨a,ha,e ▸ hb⟩⟩) fun x hx=>(List.mem_append.1 hx).elim (sA x) (sB x)
 rw [List.length_append] at this
 omega
theorem BI (l:List Mem) (n:List UInt8):cT l n=if n∈fa l then ((fa l).findIdx (fun x=>x == n):Int) else -1:=by
 have h:(∃m∈l,m.name=n)↔n∈fa l:=by unfold fa;rw [List.mem_map]
 unfold cT
 by_cases c:∃m∈l,m.name=n
 ·rw [if_pos c,if_pos (h.1 c)]
  unfold fa
  rw [List.findIdx_map];rfl
 ·rw [if_neg c,if_neg (fun q=>c (h.2 q))]
theorem Jc {l m:List Mem} (h:fa l=fa m) (n:List UInt8):cT l n=cT m n:=by rw [BI,BI,h]
theorem M4 {g g':fG} {x y:dj} (hn:fa g.aq=fa g'.aq) (ht:g.bm=g'.bm) (hx:eW g x=0) (hy:eW g' y=0) (hb:dM x=dM y):fa (ga g x).aq=fa (ga g' y).aq∧(ga g x).bm=(ga g' y).bm:=by
 obtain ⟨k,n,t⟩:=KZ (gy hx).1 (gy hy).1 hb
 have c1:=(gy hx).2.2.2.2
 have c2:=(gy hy).2.2.2.2
 have hl:g.aq.length=g'.aq.length:=by have:=congrArg List.length hn;simpa [fa] using this
 rw [rn hx,rn hy]
 show fa (iz _ _)=fa (iz _ _)∧(cw g x).bm=(cw g' y).bm
 rw [uJ,uJ]
 have u1:cw g x=if x.kind=1 then {g with bm:=if 2*g.bm≤g.aq.length+1 then g.bm+1 else g.bm,aq:=g.aq++ [⟨x.name,x.kh,x.kr,0⟩]} else if x.kind=2 then {g with aq:=ke g.aq (cT g.aq x.name).toNat} else if x.kind=3 then {g with bm:=x.bm} else if x.kind=4 then {g with aR:=g.aR++ [x.dep]} else {g with aR:=rO g.aR (ug g.aR x.cm) x.target}:=if_neg (fun q=>q c1)
 have u2:cw g' y=if y.kind=1 then {g' with bm:=if 2*g'.bm≤g'.aq.length+1 then g'.bm+1 else g'.bm,aq:=g'.aq++ [⟨y.name,y.kh,y.kr,0⟩]} else if y.kind=2 then {g' with aq:=ke g'.aq (cT g'.aq y.name).toNat} else if y.kind=3 then {g' with bm:=y.bm} else if y.kind=4 then {g' with aR:=g'.aR++ [y.dep]} else {g' with aR:=rO g'.aR (ug g'.aR y.cm) y.target}:=if_neg (fun q=>q c2)
 rw [u1,u2,←k]
 clear u1 u2
 by_cases k1:x.kind=1
 ·rw [if_pos k1,if_pos k1]
  refine ⟨?_,?_⟩
  ·show fa (_++_)=fa (_++_)
   unfold fa at hn ⊢
   rw [List.map_append,List.map_append,hn,List.map_cons,List.map_cons,n (.inl k1)]
  ·show (if 2*g.bm≤g.aq.length+1 then g.bm+1 else g.bm)=(if 2*g'.bm≤g'.aq.length+1 then g'.bm+1 else g'.bm)
   rw [ht,hl]
 rw [if_neg k1,if_neg k1]
 by_cases k2:x.kind=2
 ·rw [if_pos k2,if_pos k2]
  refine ⟨?_,ht⟩
  show fa (ke _ _)=fa (ke _ _)
  rw [Jc hn,n (.inr k2)]
  unfold fa at hn ⊢
  unfold ke
  rw [List.map_append,List.map_append,List.map_take,List.map_take,List.map_drop,List.map_drop,hn]
 rw [if_neg k2,if_neg k2]
 by_cases k3:x.kind=3
 ·rw [if_pos k3,if_pos k3]
  exact ⟨hn,t k3⟩
 rw [if_neg k3,if_neg k3]
 split
 ·exact ⟨hn,ht⟩
 ·exact ⟨hn,ht⟩
theorem CI:∀(a b:List dj) (j:Nat),j<kf a b->SB a b j
 | [],_,j,h=>absurd h (Nat.not_lt_zero j)
 | _::_,[],j,h=>absurd h (Nat.not_lt_zero j)
 | x::a,y::b,j,h=>by
  unfold kf at h
  split at h
  ·rename_i e
   cases j with
   | zero=>exact e
   | succ j=>exact CI a b j ag
  ·exact absurd h (Nat.not_lt_zero j)
theorem ID {l:List dj} {g:fG} (hS:CT g) (h:∀i,i<l.length->lQ l g i=0):∀i,i≤l.length->CT (jv l g i)
 | 0,_=>hS
 | i+1,hi=>PJ (ID hS h i ag) (h i ag)
theorem Fl {a b:List dj} {g:fG} (hA:∀i,i<a.length->lQ a g i=0) (hB:∀i,i<b.length->lQ b g i=0):∀i,i≤kf a b->fa (jv a g i).aq=fa (jv b g i).aq∧(jv a g i).bm=(jv b g i).bm
 | 0,_=>⟨rfl,rfl⟩
 | i+1,hi=>by
  obtain ⟨h1,h2⟩:=Fl hA hB i ag
  have:=EM a b
  exact M4 h1 h2 (hA i ag) (hB i ag) (CI a b i ag)
theorem RM {a b:List dj} {g:fG} (hS:CT g) (hA:∀i,i<a.length->lQ a g i=0) (hB:∀i,i<b.length->lQ b g i=0) (vA:∀e∈a,∀v∈e.ak,wR (cO e) v) (vB:∀e∈b,∀v∈e.ak,wR (cO e) v) (h1:kf a b<a.length) (h2:kf a b<b.length) :
  ie (a.getD (kf a b) default).ak (b.getD (kf a b) default).ak≠ []:=by
 obtain ⟨r1,r2⟩:=Fl hA hB (kf a b) (Nat.le_refl _)
 have xA:=hA _ h1
 have xB:=hB _ h2
 have sA:=ID hS hA (kf a b) ag
 have sB:=ID hS hB (kf a b) ag
 have wA:=vA (a.getD (kf a b) default) (by rw [eE h1];exact List.getElem_mem h1)
 have wB:=vB (b.getD (kf a b) default) (by rw [eE h2];exact List.getElem_mem h2)
 unfold lQ at xA xB
 generalize a.getD (kf a b) default=x at *
 generalize b.getD (kf a b) default=y at *
 generalize jv a g (kf a b)=G at *
 generalize jv b g (kf a b)=H at *
 have nA:=(yy xA wA).1
 have nB:=(yy xB wB).1
 have lA:=E5 xA
 have lB:=E5 xB
 have mA:=sA.VU
 have hl:(fa G.aq).length=G.aq.length:=List.length_map _
 have mem:∀ {K:fG} {e:dj},CT K->eW K e=0-> ∀n∈e.ak.map gW.name,n∈fa K.aq:=fun hK he n hn=>by
  obtain ⟨v,hv,rfl⟩:=List.mem_map.1 hn
  obtain ⟨i,hi,rfl⟩:=List.mem_iff_getElem.1 hv
  have:=(Lr hK he hi).2.1
  rwa [eE hi] at this
 obtain ⟨n,q1,q2⟩:=meet nA nB (mem sA xA) (fun n hn=>by rw [r1];exact mem sB xB n hn) (by rw [hl,List.length_map,List.length_map];omega)
 obtain ⟨v,hv,rfl⟩:=List.mem_map.1 q1
 obtain ⟨w,hw,e⟩:=List.mem_map.1 q2
 intro q
 have:v.name∈ie x.ak y.ak:=by
  unfold ie
  refine List.mem_map.2 ⟨v,List.mem_filter.2 ⟨hv,?_⟩,rfl⟩
  unfold l0
  exact List.any_eq_true.2 ⟨w,hw,by simp [e]⟩
 rw [q] at this
 cases this
theorem BF:gr (dv 0)=0:=by
 rw [QL]
 unfold gr
 rw [if_neg (by simp [QJ]),if_neg (by decide),if_neg (by simp)]
end Go.Proofs.YtjgbhhnghedgdaaGreatDoor
