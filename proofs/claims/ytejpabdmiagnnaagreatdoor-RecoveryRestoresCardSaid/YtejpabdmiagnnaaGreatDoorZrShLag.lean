import Derived.Test.YtejpabdmiagnnaaGreatDoorZrCl
import Derived.Test.YtejpabdmiagnnaaGreatDoorZrRec6
import Derived.Test.YtejpabdmiagnnaaGreatDoorZrRec2
import Derived.Test.YtejpabdmiagnnaaGreatDoorZrV8
import Derived.Test.YtejpabdmiagnnaaGreatDoorZrSlN
import Derived.Test.YtejpabdmiagnnaaGreatDoorZrCast
import Derived.Test.YtejpabdmiagnnaaGreatDoorZrRJ
set_option linter.all false
namespace Go.Proofs.YtejpabdmiagnnaaGreatDoor
open Go.RowKit
def PolyLt (n:Nat) (f:UInt8->UInt8):Prop:=∃c:Nat->UInt8,∀x,f x=xsum (fun d=>gmul (c d) (gpow x d)) n
theorem xsum_zero:∀n,xsum (fun _=>0) n=0
 | 0=>rfl
 | n+1=>by rw [xsum,xsum_zero n];rfl
theorem xsum_mulL (f:Nat->UInt8) (x:UInt8) (n:Nat):gmul x (xsum f n)=xsum (fun i=>gmul x (f i)) n:=by
 rw [gmul_comm,xsum_mul];exact xsum_congr fun i _=>gmul_comm _ _
theorem PolyLt.zero (n:Nat):PolyLt n (fun _=>0):=⟨fun _=>0,fun x=>by
 rw [xsum_congr (g:=fun _=>0) (fun i _=>zero_gmul _),xsum_zero]⟩
theorem PolyLt.add {n:Nat} {f g:UInt8->UInt8} (hf:PolyLt n f) (hg:PolyLt n g):PolyLt n (fun x=>f x^^^g x):=by
 obtain ⟨c,hc⟩:=hf
 obtain ⟨d,hd⟩:=hg
 exact ⟨fun i=>c i^^^d i,fun x=>by show f x^^^g x=_;rw [hc,hd,←xsum_add];exact xsum_congr fun i _=>(gmul_addL ..).symm⟩
theorem PolyLt.smul {n:Nat} {f:UInt8->UInt8} (hf:PolyLt n f) (k:UInt8):PolyLt n (fun x=>gmul k (f x)):=by
 obtain ⟨c,hc⟩:=hf
 exact ⟨fun i=>gmul k (c i),fun x=>by show gmul k (f x)=_;rw [hc,xsum_mulL];exact xsum_congr fun i _=>(gmul_assoc ..).symm⟩
theorem PolyLt.up {n:Nat} {f:UInt8->UInt8} (hf:PolyLt n f):PolyLt (n+1) f:=by
 obtain ⟨c,hc⟩:=hf
 refine ⟨fun i=>if i<n then c i else 0,fun x=>?_⟩
 rw [hc,xsum]
 simp only [Nat.lt_irrefl,if_false,zero_gmul,UInt8.xor_zero]
 exact xsum_congr fun i hi=>by rw [if_pos hi]
theorem PolyLt.mono {n m:Nat} {f:UInt8->UInt8} (hf:PolyLt n f) (h:n≤m):PolyLt m f:=by
 induction h with
 | refl=>exact hf
 | step _ ih=>exact ih.up
theorem PolyLt.const (k:UInt8):PolyLt 1 (fun _=>k):=⟨fun _=>k,fun x=>by simp [xsum,gpow,gmul_one]⟩
theorem PolyLt.mulx {n:Nat} {f:UInt8->UInt8} (hf:PolyLt n f):PolyLt (n+1) (fun x=>gmul (f x) x):=by
 obtain ⟨c,hc⟩:=hf
 refine ⟨fun i=>if i=0 then 0 else c (i-1),fun x=>?_⟩
 show gmul (f x) x=_
 rw [hc,xsum_mul,xsum_front]
 simp only [if_true,zero_gmul,UInt8.zero_xor,Nat.add_sub_cancel]
 exact xsum_congr fun i _=>by rw [if_neg (by omega),gmul_assoc,gpow_succ]
theorem PolyLt.lin {n:Nat} {f:UInt8->UInt8} (hf:PolyLt n f) (a:UInt8):PolyLt (n+1) (fun x=>gmul (f x) (x^^^a)):=by
 obtain ⟨c,hc⟩:=(hf.mulx.add (hf.smul a).up)
 exact ⟨c,fun x=>by show gmul (f x) (x^^^a)=_;rw [←hc,gmul_addR,gmul_comm (f x) a]⟩
theorem PolyLt.congr {n:Nat} {f g:UInt8->UInt8} (hf:PolyLt n f) (h:∀x,g x=f x):PolyLt n g:=by
 obtain ⟨c,hc⟩:=hf
 exact ⟨c,fun x=>(h x).trans (hc x)⟩
theorem PolyLt.split {n:Nat} {f:UInt8->UInt8} (hf:PolyLt (n+1) f):∃(k:UInt8) (g:UInt8->UInt8),PolyLt n g∧ ∀x,f x=k^^^gmul (g x) x:=by
 obtain ⟨c,hc⟩:=hf
 refine ⟨c 0,fun x=>xsum (fun d=>gmul (c (d+1)) (gpow x d)) n,⟨fun d=>c (d+1),fun x=>rfl⟩,fun x=>?_⟩
 rw [hc,xsum_front,xsum_mul]
 congr 1
 ·rw [gpow,gmul_one]
 ·exact xsum_congr fun i _=>by rw [gmul_assoc,gpow_succ]
theorem PolyLt.root:∀ {n:Nat} {f:UInt8->UInt8},PolyLt (n+1) f-> ∀a,∃g,PolyLt n g∧ ∀x,f x^^^f a=gmul (g x) (x^^^a)
 | 0,f,hf,a=>by
  obtain ⟨k,g,⟨c,hg⟩,hk⟩:=hf.split
  refine ⟨fun _=>0,PolyLt.zero 0,fun x=>?_⟩
  rw [hk,hk,hg,hg]
  simp [xsum,zero_gmul]
 | n+1,f,hf,a=>by
  obtain ⟨k,g,hg,hk⟩:=hf.split
  obtain ⟨q,hq,hqe⟩:=hg.root a
  refine ⟨fun x=>g x^^^gmul a (q x),hg.add (hq.smul a).up,fun x=>?_⟩
  rw [hk,hk,xor4,UInt8.xor_self,UInt8.zero_xor,gmul_addL,gmul_assoc,←hqe,gmul_addR,gmul_addR,gmul_comm a (g x),gmul_comm a (g a)]
  rw [UInt8.xor_assoc,←UInt8.xor_assoc (gmul (g x) a),UInt8.xor_self,UInt8.zero_xor]
theorem gmul_eq_zero {a b:UInt8} (h:gmul a b=0) (hb:b≠0):a=0:=by
 have:gmul (gmul a b) (ginv b)=0:=by rw [h,zero_gmul]
 rwa [gmul_assoc,gmul_ginv hb,gmul_one] at this
theorem xor_ne {a b:UInt8} (h:a≠b):a^^^b≠0:=fun h0=>h (by
 have:a^^^b^^^b=0^^^b:=by rw [h0]
 rwa [UInt8.xor_assoc,UInt8.xor_self,UInt8.xor_zero,UInt8.zero_xor] at this)
theorem PolyLt.zeros:∀ {n:Nat} {f:UInt8->UInt8},PolyLt n f-> ∀(a:Nat->UInt8),(∀i j,i<n->j<n->i≠j->a i≠a j)->(∀i,i<n->f (a i)=0)-> ∀x,f x=0
 | 0,f,⟨c,hc⟩,_,_,_,x=>by rw [hc];rfl
 | n+1,f,hf,a,ha,hz,x=>by
  obtain ⟨g,hg,hge⟩:=hf.root (a n)
  rw [hz n (by omega)] at hge
  simp only [UInt8.xor_zero] at hge
  have:=hg.zeros a (fun i j hi hj=>ha i j (by omega) (by omega)) (fun i hi=>by
   have h1:=hge (a i)
   rw [hz i (by omega)] at h1
   exact gmul_eq_zero h1.symm (xor_ne (ha i n (by omega) (by omega) (by omega)))) x
  rw [hge,this,zero_gmul]
section
variable (l:List Sh)
theorem ovr_poly (i:Nat):∀m,(m≤i->PolyLt (m+1) (fun x=>ovr l x i m))∧(i<m->PolyLt m (fun x=>ovr l x i m))
 | 0=>⟨fun _=>PolyLt.const 1,fun h=>by omega⟩
 | m+1=>by
  obtain ⟨h1,h2⟩:=ovr_poly i m
  refine ⟨fun h=>?_,fun h=>?_⟩
  ·exact ((h1 (by omega)).lin (u8 (l.getD m default).1)).congr fun x=>by rw [ovr,if_pos (by omega)]
  ·by_cases hm:m=i
   ·subst hm
    exact (h1 (Nat.le_refl _)).congr fun x=>by rw [ovr,if_neg (by omega)]
   ·exact ((h2 (by omega)).lin (u8 (l.getD m default).1)).congr fun x=>by rw [ovr,if_pos hm]
theorem ovr_ne (x:UInt8) (i:Nat):∀m,(∀t,t<m->t≠i->x≠u8 (l.getD t default).1)->ovr l x i m≠0
 | 0,_=>by simp [ovr]
 | m+1,h=>by
  have h1:=ovr_ne x i m (fun t ht=>h t (by omega))
  rw [ovr]
  split
  ·rename_i hm
   exact fun h0=>h1 (gmul_eq_zero h0 (xor_ne (h m (by omega) hm)))
  ·exact h1
theorem ovr_zero (x:UInt8) (i t:Nat):∀m,t<m->t≠i->x=u8 (l.getD t default).1->ovr l x i m=0
 | 0,h,_,_=>by omega
 | m+1,h,hti,hx=>by
  rw [ovr]
  by_cases hm:m=t
  ·subst hm;rw [if_pos hti,hx,UInt8.xor_self,gmul_zero]
  ·have:=ovr_zero x i t m (by omega) hti hx
   split
   ·rw [this,zero_gmul]
   ·exact this
def lag (v:Nat->UInt8) (x:UInt8) (n:Nat):UInt8:=xsum (fun i=>gmul (wgt l x i) (v i)) n
theorem lag_poly (v:Nat->UInt8):∀n,n≤l.length->PolyLt l.length (fun x=>lag l v x n)
 | 0,_=>(PolyLt.zero _).congr fun _=>rfl
 | n+1,h=>by
  refine ((lag_poly v n (by omega)).add ((((ovr_poly l n l.length).2 (by omega)).smul (gmul (ginv (ovr l (u8 (l.getD n default).1) n l.length)) (v n))))).congr fun x=>?_
  show lag l v x n^^^gmul (wgt l x n) (v n)=_
  congr 1
  rw [wgt,gmul_assoc,gmul_comm]
theorem xsum_one {f:Nat->UInt8} {k:Nat} (h:∀i,i≠k->f i=0):∀n,xsum f n=if k<n then f k else 0
 | 0=>by simp [xsum]
 | n+1=>by
  rw [xsum,xsum_one h n]
  by_cases h1:k<n
  ·rw [if_pos h1,if_pos (by omega),h n (by omega),UInt8.xor_zero]
  ·by_cases h2:k=n
   ·subst h2;simp
   ·rw [if_neg h1,if_neg (by omega),h n (fun e=>h2 e.symm)];rfl
theorem lag_at (v:Nat->UInt8) (hd:∀i j,i<l.length->j<l.length->i≠j->u8 (l.getD i default).1≠u8 (l.getD j default).1) (k:Nat) (hk:k<l.length):lag l v (u8 (l.getD k default).1) l.length=v k:=by
 have hw:∀i,gmul (wgt l (u8 (l.getD k default).1) i) (v i)=if i=k then v k else 0:=by
  intro i
  split
  ·rename_i e
   subst e
   rw [wgt,gmul_ginv (ovr_ne l _ _ _ fun t ht hti=>hd i t hk ht (fun e=>hti e.symm)),one_gmul]
  ·rename_i e
   rw [wgt,ovr_zero l _ i k l.length hk (fun h=>e h.symm) rfl,zero_gmul,zero_gmul]
 unfold lag
 rw [xsum_congr (fun i _=>hw i),xsum_one (k:=k) (fun i hi=>by rw [if_neg hi]),if_pos hk,if_pos rfl]
theorem lag_eq {p:UInt8->UInt8} (hp:PolyLt l.length p) (hd:∀i j,i<l.length->j<l.length->i≠j->u8 (l.getD i default).1≠u8 (l.getD j default).1) (x:UInt8):lag l (fun i=>p (u8 (l.getD i default).1)) x l.length=p x:=by
 have hz:=((lag_poly l (fun i=>p (u8 (l.getD i default).1)) l.length (Nat.le_refl _)).add hp).zeros (fun i=>u8 (l.getD i default).1) hd (fun i hi=>by rw [lag_at l _ hd i hi,UInt8.xor_self]) x
 have:lag l (fun i=>p (u8 (l.getD i default).1)) x l.length^^^p x^^^p x=0^^^p x:=by rw [hz]
 rwa [UInt8.xor_assoc,UInt8.xor_self,UInt8.xor_zero,UInt8.zero_xor] at this
end
theorem ares_lag (l:List Sh) (x:UInt8) (j:Nat) (hj:j<(l.getD 0 default).2.length):∀n,(ares l x n).getD j 0=lag l (fun i=>(l.getD i default).2.getD j 0) x n
 | 0=>by rw [ares,List.getD_eq_getElem?_getD,List.getElem?_replicate,if_pos hj];rfl
 | n+1=>by rw [ares_next l x n j hj,ares_lag l x j hj n];rfl
theorem splitB_poly (s r:List UInt8) (need:Nat) (hn:1≤need) (j:Nat):PolyLt need (fun x=>splitB s r need x j):=by
 refine ⟨fun d=>if d=0 then s.getD j 0 else r.getD ((d-1)*s.length+j) 0,fun x=>?_⟩
 obtain ⟨m,rfl⟩:∃m,need=m+1:=⟨need-1,by omega⟩
 show splitB s r (m+1) x j=_
 rw [splitB,hst_eq _ _ _ _ _ _ (Nat.le_refl _),xsum_front,UInt8.xor_comm]
 simp only [if_true,gpow,gmul_one,Nat.sub_self,Nat.zero_add,Nat.add_sub_cancel]
 congr 1
theorem splitB_zero (s r:List UInt8) (need:Nat) (j:Nat):splitB s r need 0 j=s.getD j 0:=by
 rw [splitB,hst_eq _ _ _ _ _ _ (Nat.le_refl _)]
 rw [xsum_congr (g:=fun _=>0) (fun i _=>by rw [gpow_succ,gmul_zero,gmul_zero]),xsum_zero,UInt8.zero_xor]
end Go.Proofs.YtejpabdmiagnnaaGreatDoor
namespace Go.Proofs.YtejpabdmiagnnaaGreatDoor
open Go.RowKit
theorem set_getD_ne {l:List Bool} {i j:Nat} (h:i≠j) (b:Bool):(l.set i b).getD j false=l.getD j false:=by
 rw [List.getD_eq_getElem?_getD,List.getD_eq_getElem?_getD,List.getElem?_set_ne h]
theorem chk_ok (first:Nat):∀(l:List Sh) (seen:List Bool),(∀p∈l,1≤p.1∧p.1≤255∧p.2.length=first∧p.2.length≤64)->(l.map (·.1)).Nodup->(∀p∈l,seen.getD p.1.toNat false=false)->chk first seen l=0
 | [],_,_,_,_=>rfl
 | q::l,seen,h,hn,hs=>by
  obtain ⟨h1,h2,h3,h4⟩:=h q (by simp)
  rw [List.map_cons,List.nodup_cons] at hn
  rw [chk,if_neg (by omega),if_neg (by rw [hs q (by simp)];decide),if_neg (by omega),if_neg (by omega)]
  refine chk_ok first l _ (fun p hp=>h p (by simp [hp])) hn.2 (fun p hp=>?_)
  obtain ⟨k1,k2,_,_⟩:=h p (by simp [hp])
  have hne:q.1≠p.1:=fun e=>hn.1 (List.mem_map.2 ⟨p,hp,e.symm⟩)
  rw [set_getD_ne (by omega)]
  exact hs p (by simp [hp])
theorem nodup_map_ {α β:Type} {f:α->β} (hf:∀a b,f a=f b->a=b):∀ {l:List α},l.Nodup->(l.map f).Nodup
 | [],_=>by simp
 | a::l,h=>by
  rw [List.nodup_cons] at h
  rw [List.map_cons,List.nodup_cons]
  refine ⟨fun hm=>?_,nodup_map_ hf h.2⟩
  obtain ⟨b,hb,e⟩:=List.mem_map.1 hm
  exact h.1 (hf b a e ▸ hb)
theorem nodup_at {l:List Nat} (h:l.Nodup) {i k:Nat} (hi:i<l.length) (hk:k<l.length) (hne:i≠k):l[i]≠l[k]:=by
 have hp:=List.pairwise_iff_getElem.1 h
 rcases Nat.lt_or_gt_of_ne hne with h1|h1
 ·exact hp i k hi hk h1
 ·exact fun e=>hp k i hk hi h1 e.symm
theorem u8_small {a:Nat} (h:a<256):(u8 (a:Int)).toNat=a:=by
 have:=bv_ofInt a
 rw [IntKind.wrap_u8] at this
 unfold bv at this
 omega
section
variable (s r:List UInt8) (K:Nat)
def mk (js:List Nat):List Sh:=js.map (splitS s r K)
theorem mk_at {js:List Nat} {i:Nat} (hi:i<js.length):(mk s r K js).getD i default=splitS s r K js[i]:=by
 rw [mk,List.getD_eq_getElem?_getD,List.getElem?_map,List.getElem?_eq_getElem hi];rfl
theorem mk_chk {js:List Nat} (hn:js.Nodup) (hj:∀j∈js,j<10) (hs:s.length≤64):chkE (mk s r K js)=0:=by
 cases js with
 | nil=>rfl
 | cons j0 js =>
  refine chk_ok _ _ _ (fun p hp=>?_) ?_ (fun p hp=>?_)
  ·obtain ⟨j,hj1,rfl⟩:=List.mem_map.1 hp
   have:=hj j hj1
   refine ⟨by show (1:Int)≤(j:Int)+1;omega,by show (j:Int)+1≤255;omega,?_,?_⟩
   ·show (splitD s r K _).length=_
    rw [mk_at s r K (show 0<(j0::js).length by simp)]
    show _=(splitD s r K _).length
    simp [splitD]
   ·show (splitD s r K _).length≤64
    simpa [splitD] using hs
  ·rw [mk,List.map_map]
   exact nodup_map_ (f:=fun j:Nat=>(j:Int)+1) (fun a b e=>by simp at e;omega) hn
  ·rw [List.getD_eq_getElem?_getD,List.getElem?_replicate];split<;>rfl
theorem range_getD_self (l:List UInt8):(List.range l.length).map (fun i=>l.getD i 0)=l:=by
 apply List.ext_getElem?
 intro i
 by_cases h:i<l.length
 ·simp [h]
 ·rw [List.getElem?_eq_none (by simp;omega),List.getElem?_eq_none (by omega)]
theorem rest_at {js:List Nat} (hn:js.Nodup) (hj:∀j∈js,j<10) (hs:s.length≤64) (hK:1≤K) (hl:K≤js.length) {x:Int} (h0:0≤x) (h1:x≤255) :
  atE (mk s r K js) x=0∧atD (mk s r K js) x=splitD s r K (u8 x):=by
 have hlen:(mk s r K js).length=js.length:=by simp [mk]
 have he:atE (mk s r K js) x=0:=by
  rw [atE,if_neg (by omega),if_neg (by omega)];exact mk_chk s r K hn hj hs
 refine ⟨he,?_⟩
 have hL:((mk s r K js).getD 0 default).2.length=s.length:=by
  rw [mk_at s r K (show 0<js.length by omega)];show (splitD s r K _).length=_;simp [splitD]
 rw [atD,if_pos he]
 have ha:=ares_len (mk s r K js) (u8 x) (mk s r K js).length
 rw [←range_getD_self (ares (mk s r K js) (u8 x) (mk s r K js).length),ha,hL,splitD]
 refine List.map_congr_left fun j hjm=>?_
 rw [List.mem_range] at hjm
 rw [ares_lag _ _ j (by omega)]
 have hd:∀i k,i<(mk s r K js).length->k<(mk s r K js).length->i≠k->u8 ((mk s r K js).getD i default).1≠u8 ((mk s r K js).getD k default).1:=by
  intro i k hi hk hik e
  rw [hlen] at hi hk
  rw [mk_at s r K hi,mk_at s r K hk] at e
  have e2:=congrArg UInt8.toNat e
  have q1:=hj js[i] (List.getElem_mem hi)
  have q2:=hj js[k] (List.getElem_mem hk)
  have e3:(u8 ((js[i]:Int)+1)).toNat=(u8 ((js[k]:Int)+1)).toNat:=e2
  rw [show (js[i]:Int)+1=((js[i]+1:Nat):Int) by omega,show (js[k]:Int)+1=((js[k]+1:Nat):Int) by omega,u8_small (by omega),u8_small (by omega)] at e3
  exact nodup_at hn hi hk hik (by omega)
 have:=lag_eq (mk s r K js) ((splitB_poly s r K hK j).mono (by omega)) hd (u8 x)
 rw [←this]
 refine xsum_congr fun i hi=>?_
 rw [hlen] at hi
 show gmul _ (((mk s r K js).getD i default).2.getD j 0)=gmul _ (splitB s r K (u8 ((mk s r K js).getD i default).1) j)
 rw [mk_at s r K hi]
 show gmul _ ((splitD s r K _).getD j 0)=_
 rw [splitD,range_getD _ _ hjm]
 rfl
theorem rest_zero {js:List Nat} (hn:js.Nodup) (hj:∀j∈js,j<10) (hs:s.length≤64) (hK:1≤K) (hl:K≤js.length):atD (mk s r K js) 0=s:=by
 rw [(rest_at s r K hn hj hs hK hl (Int.le_refl 0) (by omega)).2,splitD]
 rw [show (u8 0)=0 from rfl]
 conv=>rhs;rw [←range_getD_self s]
 exact List.map_congr_left fun j _=>splitB_zero ..
end
theorem nodup_sub:∀ {l m:List Nat},l.Nodup->(∀x∈l,x∈m)->l.length≤m.length
 | [],m,_,_=>by simp
 | a::l,m,hn,hs=>by
  rw [List.nodup_cons] at hn
  have ha:a∈m:=hs a (by simp)
  have:=nodup_sub (l:=l) (m:=m.erase a) hn.2 (fun x hx=>by
   have hne:x≠a:=fun e=>hn.1 (e ▸ hx)
   exact (List.mem_erase_of_ne hne).2 (hs x (by simp [hx])))
  rw [List.length_erase_of_mem ha] at this
  have:0<m.length:=List.length_pos_of_mem ha
  simp;omega
end Go.Proofs.YtejpabdmiagnnaaGreatDoor
namespace Go.Proofs.YtejpabdmiagnnaaGreatDoor
open Go.RowKit
set_option maxRecDepth 100000
def nm (i:Nat):List UInt8:=[109,u8 (48+(i:Int))]
theorem nm_good:∀i,i<10->nmE (nm i)=0:=by decide +kernel
theorem nm_rise:∀i,i<9->leS (nm (i+1)) (nm i)=false:=by decide +kernel
theorem nm_inj0:∀i,i<10-> ∀j,j<10->nm i=nm j->i=j:=by decide +kernel
theorem nm_inj {i j:Nat} (hi:i<10) (hj:j<10) (h:nm i=nm j):i=j:=nm_inj0 i hi j hj h
theorem nms_nm {n i:Nat} (h:i<n):(nms n).getD i default=nm i:=nms_at h
theorem hl_nms {n:Nat} (hn:n≤10) {i:Nat} (hi:i<n):hlE (nms n) i=0:=by
 have h0:nmE ((nms n).getD i default)=0:=by rw [nms_nm hi];exact nm_good i (by omega)
 cases i with
 | zero=>exact hl_zero h0
 | succ k =>
  rw [hl_ord h0 rfl,nms_nm hi,nms_nm (by omega),nm_rise k (by omega)]
  rfl
theorem ff_nms {n:Nat} (hn:n≤10):∀i,i≤n->ff (hlE (nms n)) i=0
 | 0,_=>rfl
 | i+1,hi=>by
  show (if _ then _ else _)=_
  rw [if_neg (by rw [ff_nms hn i (by omega)];omega),hl_nms hn (by omega)]
theorem prp_nms {n k:Nat} (h1:1≤n) (h8:n≤8) (k1:1≤k) (kn:k≤n):prpE (nms n) k=0:=by
 unfold prpE
 rw [if_neg (by unfold badN;rw [nms_len];omega),nms_len]
 exact ff_nms (by omega) n (Nat.le_refl n)
theorem idx_nms {n j:Nat} (hn:n≤10) (hj:j<n):idxS (nms n) (nm j)=j :=
 idx_at _ _ (by rw [nms_len];exact hj) (fun i hi e=>by rw [nms_nm (by omega)] at e;have:=nm_inj (by omega) (by omega) e;omega) (nms_nm hj)
theorem memI_mbr {n j:Nat} (hn:n≤10) (hj:j<n):memI ((List.range n).map mbr) (nm j)=j:=by
 have at_:∀i,i<n->(((List.range n).map mbr).getD i default).name=nm i:=fun i hi=>by rw [range_getD _ _ hi];rfl
 exact memI_at (by simp;exact hj) (fun i hi e=>by rw [at_ i (by omega)] at e;have:=nm_inj (by omega) (by omega) e;omega) (at_ j hj)
def rndW (seed:UInt64) (k:Nat):List UInt8:=stream (derive seed [115,104,97,114,101,115] 3) 0 (8*((k:Int)-1))
section
variable (seed:UInt64) {n k:Nat} (h1:1≤n) (h8:n≤8) (k1:1≤k) (kn:k≤n)
include h1 h8 k1 kn
theorem shrL_at {j:Nat} (hj:j<n):(shrL seed 3 n k).getD j default=splitS (words [secW seed 3]) (rndW seed k) k j:=by
 have hw8:(words [secW seed 3]).length=8:=by rw [words_len];rfl
 have hsl:(rndW seed k).length=(8*((k:Int)-1)).toNat:=by unfold rndW;rw [stream_len];unfold streamN;omega
 have hse:splitE (words [secW seed 3]) (rndW seed k) k n=0:=by
  unfold splitE
  rw [if_neg (by omega),if_neg (by omega),if_neg (by rw [hsl,hw8];omega)]
 show (splitL (words [secW seed 3]) (rndW seed k) k n).getD j default=_
 rw [splitL,if_pos hse,Int.toNat_natCast,Int.toNat_natCast,range_getD _ _ hj]
theorem prpS_at {j:Nat} (hj:j<n):(prpS seed 3 (nms n) k).getD j default=(splitS (words [secW seed 3]) (rndW seed k) k j).2:=by
 unfold prpS
 rw [if_pos (prp_nms h1 h8 k1 kn),nms_len,range_getD _ _ hj,shrL_at seed h1 h8 k1 kn hj]
theorem prpS_len:(prpS seed 3 (nms n) k).length=n:=by
 unfold prpS
 rw [if_pos (prp_nms h1 h8 k1 kn),nms_len];simp
theorem prpD_eq:prpD seed 3 (nms n) k=⟨pubW (secW seed 3),0,[],nms n,(List.range n).map (fun i=>digD (nm i) (splitS (words [secW seed 3]) (rndW seed k) k i).2),k,0⟩:=by
 unfold prpD
 rw [if_pos (prp_nms h1 h8 k1 kn),nms_len]
 congr 1
 exact List.map_congr_left fun i hi=>by
  have hi:=List.mem_range.1 hi
  rw [nms_nm hi,shrL_at seed h1 h8 k1 kn hi]
end
theorem share_len (seed:UInt64) (k j:Nat):(splitS (words [secW seed 3]) (rndW seed k) k j).2.length=8:=by
 show (splitD _ _ _ _).length=8
 unfold splitD
 rw [List.length_map,List.length_range,words_len];rfl
theorem chk_nms (seed:UInt64) {n k:Nat} (hn:n≤10) {d:Dep} (hh:d.holders=nms n) (hd:d.digests=(List.range n).map (fun i=>digD (nm i) (splitS (words [secW seed 3]) (rndW seed k) k i).2)) {j:Nat} (hj:j<n):chkD d (nm j) (splitS (words [secW seed 3]) (rndW seed k) k j).2=0:=by
 unfold chkD
 rw [hh,hd,idx_nms (by omega) hj,if_neg (by omega),if_neg (by rw [nms_len];simp),Int.toNat_natCast,range_getD _ _ hj,if_neg (by simp)]
end Go.Proofs.YtejpabdmiagnnaaGreatDoor
namespace Go.Proofs.YtejpabdmiagnnaaGreatDoor
open Go.RowKit
set_option maxRecDepth 100000
def pwm:Nat->Nat->Nat->Nat->Nat
 | 0,r,_,_=>r
 | f+1,r,a,n=>pwm f (if n%2=1 then r*a%2305843009213693951 else r) (a*a%2305843009213693951) (n/2)
theorem pwm_eq:∀(f r a n:Nat),n<2^f->pwm f r a n%2305843009213693951=r*a^n%2305843009213693951
 | 0,r,a,n,h=>by
  have:n=0:=by simpa using h
  subst this;simp [pwm]
 | f+1,r,a,n,h=>by
  have h2:n/2<2^f:=by rw [Nat.pow_succ] at h;omega
  unfold pwm
  rw [pwm_eq f _ _ _ h2]
  by_cases h1:n%2=1
  ·rw [if_pos h1];exact pow_half.1 h1
  ·rw [if_neg h1];exact pow_half.2 h1
def pubN (s:UInt64):Nat:=pwm 64 1 37 (expo s).toNat%2305843009213693951
theorem pubW_nat (s:UInt64):(pubW s).toNat=pubN s:=by
 have h:=(expo s).toNat_lt
 unfold pubW pubN
 rw [mq_nat,pwm_eq 64 1 37 _ (by simpa using h),Nat.one_mul]
theorem not_bad {s:UInt64} (h:2≤pubN s∧pubN s≤2305843009213693949):¬badP (pubW s):=by
 unfold badP wv
 rw [pubW_nat];omega
theorem bench_all:((List.range 256).all fun s=>decide (2≤pubN (secW (UInt64.ofNat s) 3)∧pubN (secW (UInt64.ofNat s) 3)≤2305843009213693949))=true:=by decide +kernel
theorem bench_ok {s:Nat} (h:s<256):¬badP (pubW (secW (UInt64.ofNat s) 3)):=by
 have:=List.all_eq_true.1 bench_all s (List.mem_range.2 h)
 exact not_bad (of_decide_eq_true this)
theorem ok41:¬badP (pubW 41):=not_bad (by decide +kernel)
theorem ok42:¬badP (pubW 42):=not_bad (by decide +kernel)
theorem shE_ok {p:UInt64} (h:¬badP p):shE p=0:=if_neg h
theorem agree {a b:UInt64} (ha:¬badP (pubW a)) (hb:¬badP (pubW b)):shK a (pubW b)=shK b (pubW a):=by
 unfold shK
 rw [if_neg ha,if_neg hb]
 congr 3
 apply mq_of
 unfold pubW
 rw [mq_nat,mq_nat,←Nat.pow_mod,←Nat.pow_mod,←Nat.pow_mul,←Nat.pow_mul,Nat.mul_comm]
theorem pub_ne1 {s:UInt64} (h:¬badP (pubW s)):pubW s≠1:=fun e=>h (by rw [e];decide)
theorem pub_ne0 {s:UInt64} (h:¬badP (pubW s)):pubW s≠0:=fun e=>h (by rw [e];decide)
end Go.Proofs.YtejpabdmiagnnaaGreatDoor
namespace Go.Proofs.YtejpabdmiagnnaaGreatDoor
open Go.RowKit
set_option maxRecDepth 100000
set_option maxHeartbeats 4000000
set_option linter.unusedVariables false
section
variable (key nonce:UInt64) (bound text:List UInt8)
theorem mixL_mixL:mixL key nonce (mixL key nonce text)=text:=by
 have hl:=mixL_len key nonce text
 rw [show mixL key nonce (mixL key nonce text)=(List.range (mixL key nonce text).length).map fun i=>(stream key nonce (mixL key nonce text).length).getD i 0^^^(mixL key nonce text).getD i 0 from rfl,hl]
 apply List.ext_getElem (by simp)
 intro i h1 h2
 simp only [List.getElem_map,List.getElem_range]
 rw [show (mixL key nonce text).getD i 0=(stream key nonce text.length).getD i 0^^^text.getD i 0 by unfold mixL;rw [map_range_getD _ _ h2],←UInt8.xor_assoc,UInt8.xor_self,UInt8.zero_xor]
 simp [h2]
theorem sealD_len (h:sealE bound text=0):(sealD key nonce bound text).length=text.length+16:=by
 rw [sealD,if_pos h,List.length_append,List.length_append,mixL_len,tagB_len,words_len];simp;omega
theorem sealE_zero:sealE bound text=0↔text.length≤1024∧bound.length≤1024:=by
 unfold sealE;split<;>constructor<;>intro h<;>first|omega|(cases h)
theorem seal_parts (h:sealE bound text=0):openN (sealD key nonce bound text)=nonce∧openH (sealD key nonce bound text)=mixL key nonce text∧(sealD key nonce bound text).drop ((sealD key nonce bound text).length-8)=tagB key nonce bound (mixL key nonce text):=by
 have hl:=sealD_len key nonce bound text h
 have hm:=mixL_len key nonce text
 have hw:(words [nonce]).length=8:=by rw [words_len];rfl
 have ht:=tagB_len key nonce bound (mixL key nonce text)
 refine ⟨?_,?_,?_⟩
 ·rw [openN,sealD,if_pos h,List.take_append_of_le_length (by omega),List.take_of_length_le (by omega),words1,wordOf_be]
 ·rw [openH,hl,sealD,if_pos h,List.drop_append_of_le_length (by omega),List.drop_eq_nil_of_le (by omega),List.nil_append,List.take_append_of_le_length (by omega),List.take_of_length_le (by omega)]
 ·rw [hl,sealD,if_pos h,←List.append_assoc,List.drop_append,List.drop_eq_nil_of_le (by rw [List.length_append];omega),List.nil_append,List.length_append,show text.length+16-8-((words [nonce]).length+(mixL key nonce text).length)=0 by omega,List.drop_zero]
theorem open_seal (h:sealE bound text=0):openE key bound (sealD key nonce bound text)=0∧openD key bound (sealD key nonce bound text)=text:=by
 obtain ⟨h1,h2,h3⟩:=seal_parts key nonce bound text h
 have hl:=sealD_len key nonce bound text h
 have hz:=(sealE_zero bound text).1 h
 have e:openE key bound (sealD key nonce bound text)=0:=by
  rw [openE,if_neg (by omega),if_neg (by omega),h1,h2,if_pos h3]
 refine ⟨e,?_⟩
 rw [openD,if_pos e,h1,h2,mixL_mixL key nonce text]
end
end Go.Proofs.YtejpabdmiagnnaaGreatDoor
namespace Go.Proofs.YtejpabdmiagnnaaGreatDoor
open Go.RowKit
section
variable (s:Nat) {n k:Nat} (text:List UInt8)
def secN (s:Nat):UInt64:=secW (u64 (s:Int)) 3
def shS (s k:Nat) (j:Nat):List UInt8:=(splitS (words [secN s]) (rndW (u64 (s:Int)) k) k j).2
def digS (s n k:Nat):List UInt64:=(List.range n).map fun i=>digD (nm i) (shS s k i)
theorem vD_eq (h1:1≤n) (h8:n≤8) (k1:1≤k) (kn:k≤n) (t:Bool):vD s n k text t=⟨pubW (secN s),pubW 41,sealD (shK 41 (pubW (secN s))) 9 [] text,nms n,digS s n k,k,if t then pubW 42 else 0⟩:=by
 have h:vD s n k text t=⟨(prpD (u64 s) 3 (nms n) k).pub,pubW 41,sealD (shK 41 (prpD (u64 s) 3 (nms n) k).pub) 9 [] text,(prpD (u64 s) 3 (nms n) k).holders,(prpD (u64 s) 3 (nms n) k).digests,(prpD (u64 s) 3 (nms n) k).need,if t then pubW 42 else (prpD (u64 s) 3 (nms n) k).target⟩:=rfl
 rw [h,prpD_eq (u64 s) h1 h8 k1 kn]
 rfl
theorem bench_sec (hs:s<256):¬badP (pubW (secN s)):=by
 have e:u64 (s:Int)=UInt64.ofNat s:=by
  apply UInt64.toNat_inj.1
  have h:=u64_wv (s:Int)
  unfold wv at h
  rw [UInt64.toNat_ofNat']
  omega
 unfold secN
 rw [e]
 exact bench_ok hs
theorem vfnd (hs:s<256) (h1:1≤n) (h8:n≤8) (k1:1≤k) (kn:k≤n) (t:Bool):fnd (vG s n k text t).deps (pubW (secN s))=1:=by
 have hv:=vD_eq s text h1 h8 k1 kn t
 refine fnd_at (show 1<2 by omega) (fun j hj=>?_) ?_
 ·have:j=0:=by omega
  subst this
  exact fun e=>pub_ne1 (bench_sec s hs) e.symm
 ·show (vD s n k text t).pub=_
  rw [hv]
theorem vret (hs:s<256) (h1:1≤n) (h8:n≤8) (k1:1≤k) (kn:k≤n):retE (vG s n k text true).deps (pubW (secN s))=0∧retD (vG s n k text true).deps (pubW (secN s))=vD s n k text true:=by
 have hf:=vfnd s text hs h1 h8 k1 kn true
 have hv:=vD_eq s text h1 h8 k1 kn true
 have hd:(vG s n k text true).deps.getD 1 default=vD s n k text true:=rfl
 have e:retE (vG s n k text true).deps (pubW (secN s))=0:=by
  unfold retE
  rw [hf,hd,if_pos (show 1<(vG s n k text true).deps.length from show 1<2 by omega),if_neg]
  rw [hv]
  exact pub_ne0 ok42
 refine ⟨e,?_⟩
 unfold retD
 rw [if_pos e,hf,hd]
theorem vchk (h1:1≤n) (h8:n≤8) (k1:1≤k) (kn:k≤n) {j:Nat} (hj:j<n):chkD (vD s n k text true) (nm j) (shS s k j)=0:=by
 rw [vD_eq s text h1 h8 k1 kn true]
 exact chk_nms (u64 s) (by omega) rfl rfl hj
theorem vrel (hs:s<256) (h1:1≤n) (h8:n≤8) (k1:1≤k) (kn:k≤n) {j:Nat} (hj:j<n):relE (vG s n k text true) (pubW (secN s)) (nm j) (shS s k j)=0∧relD (vG s n k text true) (pubW (secN s)) (nm j) (shS s k j)=shS s k j:=by
 obtain ⟨r1,r2⟩:=vret s text hs h1 h8 k1 kn
 have hm:memI (vG s n k text true).mems (nm j)=j:=memI_mbr (by omega) hj
 have e:relE (vG s n k text true) (pubW (secN s)) (nm j) (shS s k j)=0:=by
  unfold relE
  rw [if_neg (by omega),if_neg (by omega),r2]
  exact vchk s text h1 h8 k1 kn hj
 exact ⟨e,by unfold relD;rw [if_pos e]⟩
section
variable {js:List Nat} (hn:js.Nodup) (hj:∀j∈js,j<n)
include hn hj
theorem vlp (h1:1≤n) (h8:n≤8) (k1:1≤k) (kn:k≤n):∀i,i≤js.length->lpF (vD s n k text true) (js.map nm) (js.map (shS s k)) i=0
 | 0,_=>rfl
 | i+1,hi=>by
  show (if _ then _ else _)=_
  rw [if_neg (by rw [vlp h1 h8 k1 kn i (by omega)];omega)]
  have a1:(js.map nm).getD i default=nm js[i]:=by rw [List.getD_eq_getElem?_getD,List.getElem?_map,List.getElem?_eq_getElem (by omega)];rfl
  have a2:(js.map (shS s k)).getD i default=shS s k js[i]:=by rw [List.getD_eq_getElem?_getD,List.getElem?_map,List.getElem?_eq_getElem (by omega)];rfl
  unfold lpE
  rw [a1,a2,vchk s text h1 h8 k1 kn (hj _ (List.getElem_mem (by omega))),if_neg (by omega),if_neg]
  intro hm
  rw [←List.map_take] at hm
  obtain ⟨x,hx,e⟩:=List.mem_map.1 hm
  obtain ⟨m,hm,rfl⟩:=List.getElem_of_mem hx
  rw [List.length_take] at hm
  rw [List.getElem_take] at e
  have:=nm_inj (by have:=hj _ (List.getElem_mem (show m<js.length by omega));omega) (by have:=hj _ (List.getElem_mem (show i<js.length by omega));omega) e
  exact nodup_at hn (by omega) (by omega) (by omega) this
theorem vpts (h1:1≤n) (h8:n≤8) (k1:1≤k) (kn:k≤n):pts (vD s n k text true) (js.map nm) (js.map (shS s k)) js.length=mk (words [secN s]) (rndW (u64 (s:Int)) k) k js:=by
 have _:=hn
 rw [vD_eq s text h1 h8 k1 kn true]
 unfold pts mk
 apply List.ext_getElem (by simp)
 intro i h1 h2
 have hi:i<js.length:=by simpa using h2
 have a1:(js.map nm).getD i default=nm js[i]:=by rw [List.getD_eq_getElem?_getD,List.getElem?_map,List.getElem?_eq_getElem (by omega)];rfl
 have a2:(js.map (shS s k)).getD i default=shS s k js[i]:=by rw [List.getD_eq_getElem?_getD,List.getElem?_map,List.getElem?_eq_getElem (by omega)];rfl
 simp only [List.getElem_map,List.getElem_range]
 rw [a1,a2,idx_nms (by omega) (hj _ (List.getElem_mem hi))]
 rfl
theorem vfew (hs:s<256) (h1:1≤n) (h8:n≤8) (k1:1≤k) (kn:k≤n) (hl:js.length<k) (nonce:UInt64):rstE (vG s n k text true) (pubW (secN s)) (js.map nm) (js.map (shS s k)) nonce=41:=by
 obtain ⟨r1,r2⟩:=vret s text hs h1 h8 k1 kn
 have hv:=vD_eq s text h1 h8 k1 kn true
 unfold rstE
 rw [if_neg (by omega),if_neg (by simp),r2,if_neg (by rw [List.length_map,vlp s text hn hj h1 h8 k1 kn _ (Nat.le_refl _)];omega),if_pos]
 rw [hv,List.length_map]
 show (js.length:Int)<k
 omega
theorem vopen (hs:s<256) (h1:1≤n) (h8:n≤8) (k1:1≤k) (kn:k≤n) (hl:k≤js.length) (ht:text.length≤1024) (nonce:UInt64) :
  rstE (vG s n k text true) (pubW (secN s)) (js.map nm) (js.map (shS s k)) nonce=0∧openE (shK 42 (pubW (secN s))) [] (rstD (vG s n k text true) (pubW (secN s)) (js.map nm) (js.map (shS s k)) nonce)=0∧openD (shK 42 (pubW (secN s))) [] (rstD (vG s n k text true) (pubW (secN s)) (js.map nm) (js.map (shS s k)) nonce)=text:=by
 obtain ⟨r1,r2⟩:=vret s text hs h1 h8 k1 kn
 have hv:=vD_eq s text h1 h8 k1 kn true
 have hb:=bench_sec s hs
 have hw8:(words [secN s]).length=8:=by rw [words_len];rfl
 have j10:∀j∈js,j<10:=fun j h=>by have:=hj j h;omega
 obtain ⟨a1,-⟩:=rest_at (words [secN s]) (rndW (u64 (s:Int)) k) k hn j10 (by omega) k1 hl (x:=0) (by omega) (by omega)
 have a2:=rest_zero (words [secN s]) (rndW (u64 (s:Int)) k) k hn j10 (by omega) k1 hl
 have hz:sealE [] text=0:=(sealE_zero _ _).2 ⟨ht,by simp⟩
 have hw:wordOf (words [secN s])=secN s:=by rw [words1,wordOf_be]
 have ag1:shK (secN s) (pubW 41)=shK 41 (pubW (secN s)):=agree hb ok41
 have ag2:shK (secN s) (pubW 42)=shK 42 (pubW (secN s)):=agree hb ok42
 obtain ⟨o1,o2⟩:=open_seal (shK 41 (pubW (secN s))) 9 [] text hz
 have e0:rslE (vD s n k text true) (secN s) nonce=0:=by
  rw [hv]
  unfold rslE
  show (if shE (pubW 41)≠0 then _ else if openE (shK (secN s) (pubW 41)) [] (sealD (shK 41 (pubW (secN s))) 9 [] text)≠0 then _ else if shE (pubW 42)≠0 then _ else sealE [] (openD (shK (secN s) (pubW 41)) [] (sealD (shK 41 (pubW (secN s))) 9 [] text)))=(0:Int)
  rw [shE_ok ok41,shE_ok ok42,ag1,o1,o2,if_neg (by omega),if_neg (by omega),if_neg (by omega),hz]
 have e1:rslD (vD s n k text true) (secN s) nonce=sealD (shK 42 (pubW (secN s))) nonce [] text:=by
  unfold rslD
  rw [if_pos e0,hv]
  show sealD (shK (secN s) (pubW 42)) nonce [] (openD (shK (secN s) (pubW 41)) [] (sealD (shK 41 (pubW (secN s))) 9 [] text))=_
  rw [ag1,ag2,o2]
 have e2:rstE (vG s n k text true) (pubW (secN s)) (js.map nm) (js.map (shS s k)) nonce=0:=by
  unfold rstE
  rw [if_neg (by omega),if_neg (by simp),r2,List.length_map,vpts s text hn hj h1 h8 k1 kn,a1,a2,hw,vlp s text hn hj h1 h8 k1 kn _ (Nat.le_refl _),if_neg (by omega),if_neg,if_neg (by rintro (q|q);exact q rfl;exact q hw8),if_neg (by simp),e0]
  rw [hv]
  show ¬(js.length:Int)<k
  omega
 have e3:rstD (vG s n k text true) (pubW (secN s)) (js.map nm) (js.map (shS s k)) nonce=sealD (shK 42 (pubW (secN s))) nonce [] text:=by
  unfold rstD
  rw [if_pos e2,r2,List.length_map,vpts s text hn hj h1 h8 k1 kn,a2,hw,e1]
 obtain ⟨o3,o4⟩:=open_seal (shK 42 (pubW (secN s))) nonce [] text hz
 exact ⟨e2,by rw [e3];exact o3,by rw [e3];exact o4⟩
end
end
end Go.Proofs.YtejpabdmiagnnaaGreatDoor
namespace Go.Proofs.YtejpabdmiagnnaaGreatDoor
open Go.RowKit
theorem vS_len (s:Nat) {n k:Nat} (h1:1≤n) (h8:n≤8) (k1:1≤k) (kn:k≤n):(vS s n k).length=n:=prpS_len (u64 s) h1 h8 k1 kn
theorem vS_at (s:Nat) {n k:Nat} (h1:1≤n) (h8:n≤8) (k1:1≤k) (kn:k≤n) {j:Nat} (hj:j<n):(vS s n k).getD j default=shS s k j:=prpS_at (u64 s) h1 h8 k1 kn hj
theorem bench_small (s:Nat) {n k:Nat} (text:List UInt8) (t:Bool) (h1:1≤n) (h8:n≤8) (k1:1≤k) (kn:k≤n):(vG s n k text t).deps.length≤1000000∧(vG s n k text t).mems.length≤1000000∧(retD (vG s n k text t).deps (pubW (secN s))).holders.length≤1000000:=by
 refine ⟨by show 2≤_;omega,by show ((List.range n).map mbr).length≤_;simp;omega,?_⟩
 unfold retD
 split
 ·have hn:(nms n).length≤1000000:=by rw [nms_len];omega
  generalize fnd (vG s n k text t).deps (pubW (secN s))=i
  match i with
  | 0=>exact Nat.zero_le _
  | 1 =>
   show (vD s n k text t).holders.length≤_
   rw [vD_eq s text h1 h8 k1 kn t];exact hn
  | i+2=>exact Nat.zero_le _
 ·exact Nat.zero_le _
theorem bench (s:Nat) {n k:Nat} (text:List UInt8) (hs:s<256) (h1:1≤n) (h8:n≤8) (k1:1≤k) (kn:k≤n) (ht:text.length≤1024) :
  ∃(G:Grp) (D:Dep) (S:List (List UInt8)),Ret Tryz.prog 14 [ai s,ai n,ai k,.sl 1 (bytesA text),ao true] (.tup [.agg (grpO G),.agg (depC D),.own 1 (encA bysC S)])∧D.pub=pubW (secN s)∧S.length=n∧(∀j,j<n->(S.getD j default).length=8) ∧
   (∀j,j<n->Ret Tryz.prog 66 [.agg (grpC G),aw D.pub,as_ (nm j),.sl 1 (bytesA (S.getD j default))] (.tup [.own 1 (bytesA (S.getD j default)),ai 0])) ∧
   ∀(js:List Nat) (nonce:UInt64),js.Nodup->(∀j∈js,j<n)-> ∃(E:Int) (box:List UInt8),Ret Tryz.prog 18 [.agg (grpC G),aw D.pub,.sl 1 (encA strC (js.map nm)),.sl 1 (encA bysC (js.map fun j=>S.getD j default)),aw nonce] (.tup [.own 1 (bytesA box),ai E]) ∧
    (js.length<k->E=41)∧(k≤js.length->E=0∧openE (shK 42 D.pub) [] box=0∧openD (shK 42 D.pub) [] box=text):=by
 have hp:(vD s n k text true).pub=pubW (secN s):=by rw [vD_eq s text h1 h8 k1 kn true]
 obtain ⟨b1,b2,b3⟩:=bench_small s text true h1 h8 k1 kn
 have hs8:∀j,(shS s k j).length=8:=fun j=>share_len (u64 s) k j
 refine ⟨vG s n k text true,vD s n k text true,vS s n k,vaulted_ret s n k text true (by omega),hp,vS_len s h1 h8 k1 kn,fun j hj=>by rw [vS_at s h1 h8 k1 kn hj];exact hs8 j,fun j hj=>?_,fun js nonce hn hj=>?_⟩
 ·rw [hp,vS_at s h1 h8 k1 kn hj]
  have h:=release_ret (vG s n k text true) (pubW (secN s)) (nm j) (shS s k j) b1 b2 (by simp [nm]) (by rw [hs8];omega)
  obtain ⟨e1,e2⟩:=vrel s text hs h1 h8 k1 kn hj
  rwa [e1,e2] at h
 ·have em:(js.map fun j=>(vS s n k).getD j default)=js.map (shS s k):=List.map_congr_left fun j hjm=>vS_at s h1 h8 k1 kn (hj j hjm)
  rw [hp,em]
  refine ⟨_,_,restore_ret (vG s n k text true) (pubW (secN s)) (js.map nm) (js.map (shS s k)) nonce b1 b3 ?_ ?_ ?_,fun hl=>vfew s text hn hj hs h1 h8 k1 kn hl nonce,fun hl=>vopen s text hn hj hs h1 h8 k1 kn hl ht nonce⟩
  ·rw [List.length_map]
   have:=nodup_sub (m:=List.range n) hn fun j h=>List.mem_range.2 (hj j h)
   rw [List.length_range] at this
   omega
  ·intro i hi
   rw [List.length_map] at hi
   rw [List.getD_eq_getElem?_getD,List.getElem?_map,List.getElem?_eq_getElem hi]
   show (nm _).length≤1000
   simp [nm]
  ·intro i hi
   rw [List.length_map] at hi
   rw [List.getD_eq_getElem?_getD,List.getElem?_map,List.getElem?_eq_getElem hi]
   show (shS s k _).length≤1000
   rw [hs8];omega
end Go.Proofs.YtejpabdmiagnnaaGreatDoor
namespace Go.Proofs.YtejpabdmiagnnaaGreatDoor
open Go.RowKit
theorem benchV (s:Nat) {m k:Nat} (text:List UInt8) (t:Bool) (h1:1≤m) (h8:m≤8) (k1:1≤k) (km:k≤m) (ht:text.length≤1024) :
  ∃(D:Dep) (S:List (List UInt8)) (M:List Mem),Ret Tryz.prog 14 [ai s,ai m,ai k,.sl 1 (bytesA text),ao t] (.tup [.agg (grpO ⟨5,0,m,M,[⟨1,0,[],[],[],0,0⟩,D]⟩),.agg (depC D),.own 1 (encA bysC S)])∧S.length=m∧(∀j,j<m->(S.getD j default).length=8)∧D.holders.length≤8∧D.box.length≤2000∧M.length≤8:=by
 refine ⟨vD s m k text t,vS s m k,(List.range m).map mbr,vaulted_ret s m k text t (by omega),vS_len s h1 h8 k1 km,fun j hj=>by rw [vS_at s h1 h8 k1 km hj];exact share_len (u64 s) k j,?_,?_,by simp;omega⟩
 ·rw [vD_eq s text h1 h8 k1 km t]
  show (nms m).length≤8
  rw [nms_len];exact h8
 ·rw [vD_eq s text h1 h8 k1 km t]
  show (sealD _ _ _ text).length≤2000
  unfold sealD
  split
  ·rw [List.length_append,List.length_append,words_len,mixL_len,tagB_len]
   show 8*1+_≤2000
   omega
  ·exact Nat.zero_le _
end Go.Proofs.YtejpabdmiagnnaaGreatDoor
namespace Go.Proofs.YtejpabdmiagnnaaGreatDoor
open Go.RowKit
set_option maxRecDepth 100000
set_option maxHeartbeats 4000000
set_option linter.unusedVariables false
theorem awake39_ret:Ret Tryz.prog 20 [] (ao true):=by
 obtain ⟨G,D,S,hv,hp,hS,hS8,hrel,hrst⟩:=bench 7 (n:=3) (k:=2) [99,114,101,100,101,110,116,105,97,108] (by omega) (by omega) (by omega) (by omega) (by omega) (by decide)
 obtain ⟨E1,b1,r1,-,q1⟩:=hrst [0,2] 5 (by decide) (by decide)
 obtain ⟨e1,o1,o2⟩:=q1 (by decide)
 obtain ⟨E2,b2,r2,q2,-⟩:=hrst [0] 5 (by decide) (by decide)
 have e2:=q2 (by decide)
 subst e1;subst e2
 have l0:=hrel 0 (by omega)
 have l2:=hrel 2 (by omega)
 have n0:nm 0= [109,48]:=by decide
 have n2:nm 2= [109,50]:=by decide
 have s1:encA strC (List.map nm [0,2])= [.val (.string ⟨#[109,48]⟩),.val (.string ⟨#[109,50]⟩)]:=by rw [List.map_cons,List.map_cons,n0,n2];rfl
 have s2:encA bysC (List.map (fun j=>S.getD j default) [0,2])= [.sl 1 (bytesA (S.getD 0 default)),.sl 1 (bytesA (S.getD 2 default))]:=rfl
 have s3:encA strC (List.map nm [0])= [.val (.string ⟨#[109,48]⟩)]:=by rw [List.map_cons,n0];rfl
 have s4:encA bysC (List.map (fun j=>S.getD j default) [0])= [.sl 1 (bytesA (S.getD 0 default))]:=rfl
 rw [s1,s2] at r1
 rw [s3,s4] at r2
 rw [n0] at l0
 rw [n2] at l2
 have hop:=opened_ret D.pub b1
 rw [o1,o2] at hop
 have hP:prpE (nms 3) (2:Int)=0:=prp_nms (n:=3) (k:=2) (by omega) (by omega) (by omega) (by omega)
 have hPS:(prpS 7 3 (nms 3) (2:Int)).length=3:=prpS_len 7 (n:=3) (k:=2) (by omega) (by omega) (by omega) (by omega)
 have hPD:=prpD_eq 7 (n:=3) (k:=2) (by omega) (by omega) (by omega) (by omega)
 have hpp:=prepare_ret 7 3 (nms 3) 2 (by rw [nms_len];omega) (nms_len2 3)
 rw [hP] at hpp
 have hD1:(prpD 7 3 (nms 3) (2:Int)).pub=D.pub:=by rw [hp];exact congrArg Dep.pub hPD
 have hD2:(prpD 7 3 (nms 3) (2:Int)).digests.length=3:=by
  have:=congrArg (fun d:Dep=>d.digests.length) hPD
  simpa using this
 generalize prpD 7 3 (nms 3) (2:Int)=D0 at *
 generalize prpS 7 3 (nms 3) (2:Int)=S0 at *
 have hl0:(encA bysC S0).length=3:=by rw [encA_len (e:=1) (fun _=>rfl),hPS]
 have hlS:(encA bysC S).length=3:=by rw [encA_len (e:=1) (fun _=>rfl),hS]
 have a0:=bys_at (l:=S) (i:=0) (by omega)
 have a2:=bys_at (l:=S) (i:=2) (by omega)
 refine zO Tryz.func20 119 ?_
 refine zP 2 [{},yH [(0,{av:=some (AV.own 1 (encA strC (nms (nat_lit 3)))),b:=false}),(1,{av:=some (AV.tup [AV.agg [aw D0.pub,aw D0.peer,AV.own 1 (bytesA D0.box),AV.own 1 (encA strC D0.holders),AV.own 1 (wordsA D0.digests),ai D0.need,aw D0.target],AV.own 1 (encA bysC S0),ai 0]),b:=false})]] [.keep [3,2,1,0] [1,2019,501019,401019,301019]] [yI (names_ret (nat_lit 3) (by simp [hl0])),yB (Ret Tryz.prog (65:Nat) [AV.val (Value.int .u64 7),ai 3,AV.sl 1 (encA strC (nms (nat_lit 3))),ai 2] (AV.tup [AV.agg [aw D0.pub,aw D0.peer,AV.own 1 (bytesA D0.box),AV.own 1 (encA strC D0.holders),AV.own 1 (wordsA D0.digests),ai D0.need,aw D0.target],AV.own 1 (encA bysC S0),ai 0])) (hpp),yL 7 7] ?_
 refine zS ?_
 refine zP 1 [yH [(1,yV (ao false)),(3,{g:=false}),(4,{k:=(encA bysC S0).length,g:=false}),(5,{av:=some (ao false),g:=false}),(6,{b:=false}),(8,{g:=false}),(9,{g:=false}),(10,{k:=D0.digests.length,g:=false}),(11,{av:=some (ao false),g:=false}),(12,{b:=false})]] [.keep [35,3,2,1,0] [1,2019,501019,401019,301019]] [yB (ao ((0:Int) != (0:Int))=ao false) (by simp [hl0]),yR false,yR false,yR ((encA bysC S0).length),yR false,yB (ao ((↑(encA bysC S0).length:Int) != (3:Int))=ao false) (by simp [hl0]),yR false,yR false,yR false,yR false,yB ((wordsA D0.digests).length=D0.digests.length) (wordsA_len _),yR false,yB (ao ((↑D0.digests.length:Int) != (3:Int))=ao false) (by simp [hD2]),yR false] ?_
 refine zF 35 ?_
 refine zK ?_
 refine then_n ?_
 refine zP 7 [yH [(0,yV (AV.arr (bytesA [99,114,101,100,101,110,116,105,97,108]))),(1,yV (AV.val (Value.string (ByteArray.mk #[99,114,101,100,101,110,116,105,97,108])))),(2,{av:=some (AV.tup [AV.agg [ai G.epoch,aw G.head,ai G.thr,AV.own 4 (encA memC G.mems),AV.own 7 (encA depC G.deps)],AV.agg [aw D.pub,aw D.peer,AV.sl 1 (bytesA D.box),AV.sl 1 (encA strC D.holders),AV.sl 1 (wordsA D.digests),ai D.need,aw D.target],AV.own 1 (encA bysC S)]),b:=false})],{hs:=[(4,{k:=0}),(5,yV (AV.sl 1 (bytesA (S.getD (0:Nat) default)))),(6,yV (AV.tup [AV.own 1 (bytesA (S.getD (0:Nat) default)),ai 0]))],T:=11},{hs:=[(4,{k:=2}),(5,yV (AV.sl 1 (bytesA (S.getD (2:Nat) default)))),(6,yV (AV.tup [AV.own 1 (bytesA (S.getD (2:Nat) default)),ai 0]))],T:=11},yH [(7,yV (AV.tup [AV.own 1 (bytesA b1),ai 0]))],yH [(3,yV (AV.tup [AV.val (Value.string (ByteArray.mk #[99,114,101,100,101,110,116,105,97,108])),ao ((0:Int) == (0:Int))]))],yH [(6,yV (AV.tup [AV.own 1 (bytesA b2),ai 41]))],yH [(4,yV (ao true)),(7,yV (ao true)),(11,yV (ao true)),(15,yV (ao true)),(22,yV (ao true)),(26,yV (ao true))]] [.keep [0,16,14,13,12,11,10,9,8,7,6,5,4,35,3,2,1] [1071,5,4,3039,501039,401039,1,2019,501019,401019,301019]] [yR (bytesA [99,114,101,100,101,110,116,105,97,108]),yB ((0:Nat)<(bytesA [99,114,101,100,101,110,116,105,97,108]).length) (by decide),yB (Ret Tryz.prog (14:Nat) [ai 7,ai 3,ai 2,AV.sl 1 (bytesA [99,114,101,100,101,110,116,105,97,108]),ao true] (AV.tup [AV.agg [ai G.epoch,aw G.head,ai G.thr,AV.own 4 (encA memC G.mems),AV.own 7 (encA depC G.deps)],AV.agg [aw D.pub,aw D.peer,AV.sl 1 (bytesA D.box),AV.sl 1 (encA strC D.holders),AV.sl 1 (wordsA D.digests),ai D.need,aw D.target],AV.own 1 (encA bysC S)])) (hv),yL 5 5,yL 7 7,yB ((0:Int)=(↑(0:Nat):Int)) (by simp [hl0]),yO ((0:Nat)<(encA bysC S).length),yB ((encA bysC S)[(0:Nat)]?=some (AV.sl 1 (bytesA (S.getD (0:Nat) default)))) (encA_at (f:=bysC) (e:=1) (k:=0) (j:=0) (fun _=>rfl) (by omega) rfl),yB (Ret Tryz.prog (66:Nat) [AV.agg [ai G.epoch,aw G.head,ai G.thr,AV.sl 4 (encA memC G.mems),AV.sl 7 (encA depC G.deps)],aw D.pub,AV.val (Value.string (ByteArray.mk #[109,48])),AV.sl 1 (bytesA (S.getD (0:Nat) default))] (AV.tup [AV.own 1 (bytesA (S.getD (0:Nat) default)),ai 0])) (l0),yI (valR_bytes (S.getD (0:Nat) default)),yB ((2:Int)=(↑(2:Nat):Int)) (by simp [hl0]),yO ((2:Nat)<(encA bysC S).length),yB ((encA bysC S)[(2:Nat)]?=some (AV.sl 1 (bytesA (S.getD (2:Nat) default)))) (encA_at (f:=bysC) (e:=1) (k:=2) (j:=0) (fun _=>rfl) (by omega) rfl),yB (Ret Tryz.prog (66:Nat) [AV.agg [ai G.epoch,aw G.head,ai G.thr,AV.sl 4 (encA memC G.mems),AV.sl 7 (encA depC G.deps)],aw D.pub,AV.val (Value.string (ByteArray.mk #[109,50])),AV.sl 1 (bytesA (S.getD (2:Nat) default))] (AV.tup [AV.own 1 (bytesA (S.getD (2:Nat) default)),ai 0])) (l2),yI (valR_bytes (S.getD (2:Nat) default)),yB (Ret Tryz.prog (18:Nat) [AV.agg [ai G.epoch,aw G.head,ai G.thr,AV.sl 4 (encA memC G.mems),AV.sl 7 (encA depC G.deps)],aw D.pub,AV.sl 1 [AV.val (Value.string (ByteArray.mk #[109,48])),AV.val (Value.string (ByteArray.mk #[109,50]))],AV.sl 1 [AV.sl 1 (bytesA (S.getD (0:Nat) default)),AV.sl 1 (bytesA (S.getD (2:Nat) default))],AV.val (Value.int .u64 5)] (AV.tup [AV.own 1 (bytesA b1),ai 0])) (r1),yI (valR_bytes b1),yB (Ret Tryz.prog (67:Nat) [aw D.pub,AV.sl 1 (bytesA b1)] (AV.tup [AV.val (Value.string (ByteArray.mk #[99,114,101,100,101,110,116,105,97,108])),ao ((0:Int) == (0:Int))])) (hop),yB (Ret Tryz.prog (18:Nat) [AV.agg [ai G.epoch,aw G.head,ai G.thr,AV.sl 4 (encA memC G.mems),AV.sl 7 (encA depC G.deps)],aw D.pub,AV.sl 1 [AV.val (Value.string (ByteArray.mk #[109,48]))],AV.sl 1 [AV.sl 1 (bytesA (S.getD (0:Nat) default))],AV.val (Value.int .u64 5)] (AV.tup [AV.own 1 (bytesA b2),ai 41])) (r2),yI (valR_bytes b2),yB (ao (wv D0.pub == wv D.pub)=ao true) (by simp [hD1]),yR true,yR true,yR (ao true),yR true,yR true,yR true,yR (ao true),yR true,yR true,yR true,yR (ao true),yR true,yR true,yR true,yB (((0:Int) == (0:Int))=true) (decide_eq_true (by omega)),yB (((0:Int) == (0:Int))=true) (decide_eq_true (by omega)),yB (ao ((ByteArray.mk #[99,114,101,100,101,110,116,105,97,108]).toList == (ByteArray.mk #[99,114,101,100,101,110,116,105,97,108]).toList)=ao true) (by simp [hl0]),yB (((0:Int) == (0:Int))=true) (decide_eq_true (by omega)),yR true,yR true,yR (ao true),yR true] ?_
 refine zR ?_
 refine zV [yR (Value.bool true)]
end Go.Proofs.YtejpabdmiagnnaaGreatDoor
namespace Go.Proofs.YtejpabdmiagnnaaGreatDoor
open Go.RowKit
set_option maxRecDepth 100000
set_option maxHeartbeats 4000000
set_option linter.unusedVariables false
theorem flip_ret (b:List UInt8) (n:Nat) (hn:n<4096) (hb:b.length≤1000000):∃L:List UInt8,L.length=max 1 b.length∧Ret Tryz.prog 51 [.sl 1 (bytesA b),ai n] (.own 1 (bytesA L)):=by
 have hbl:(bytesA b).length=b.length:=bytesA_len b
 by_cases h:b.length=0
 ·refine ⟨[u8 n],by simp [h],?_⟩
  refine zO Tryz.func51 28 ?_
  refine zQ 1 [{}] [] ?_
  refine zS ?_
  refine zP 1 [yH [(1,{k:=b.length})]] [.keep [8,4,0,1] []] [yB ((bytesA b).length=b.length) (by assumption)] ?_
  refine zTb 8 ((↑b.length:Int) == (0:Int)) (decide_eq_true (by omega)) ?_
  refine zP 1 [yH [(1,yV (ab (u8 (↑n:Int)))),(2,yV (AV.arr (bytesA [u8 (↑n:Int)])))]] [.keep [4,8,0,1] [11]] [yI (avb_conv ((↑n:Int))),yR [ab (u8 (↑n:Int))]] ?_
  refine zR ?_
  refine then_r ?_
  refine zV [yR (bytesA [u8 (↑n:Int)])]
 obtain ⟨j,hj,hj2⟩:∃j:Nat,((n:Int).tmod (b.length:Int))=j∧j<b.length:=⟨n%b.length,by rw [Int.tmod_eq_emod_of_nonneg (by omega)];omega,Nat.mod_lt _ (by omega)⟩
 refine ⟨b.set j (b.getD j 0^^^u8 (1*2^min (wv (u64 ↑(msk (↑n) 7))).toNat IntKind.u8.bits)),by simp;omega,?_⟩
 refine zO Tryz.func51 28 ?_
 refine zQ 1 [{}] [] ?_
 refine zS ?_
 refine zP 1 [yH [(1,{k:=b.length})]] [.keep [8,4,0,1] []] [yB ((bytesA b).length=b.length) (by assumption)] ?_
 refine zFb 8 ((↑b.length:Int) == (0:Int)) (decide_eq_false (by omega)) ?_
 refine zK ?_
 refine then_n ?_
 refine zP 3 [yH [(1,{b:=false})],yH [(3,{k:=b.length}),(4,yV (ai (↑j:Int))),(5,{k:=j}),(6,yV (ab (b.getD j 0))),(8,yV (ai (↑(msk (↑n:Int) (7:Nat)):Int))),(9,yV (aw (u64 (↑(msk (↑n:Int) (7:Nat)):Int)))),(10,yV (ab (u8 ((1:Int)*(2:Int)^min (wv (u64 (↑(msk (↑n:Int) (7:Nat)):Int))).toNat IntKind.u8.bits)))),(11,yV (ab (b.getD j (0:UInt8)^^^u8 ((1:Int)*(2:Int)^min (wv (u64 (↑(msk (↑n:Int) (7:Nat)):Int))).toNat IntKind.u8.bits)))),(12,{k:=j}),(13,yV (AV.arr (bytesA (b.set j (b.getD j (0:UInt8)^^^u8 ((1:Int)*(2:Int)^min (wv (u64 (↑(msk (↑n:Int) (7:Nat)):Int))).toNat IntKind.u8.bits))))))],{}] [.keep [4,5,8,0,1] [13]] [yB (plainR (bytesA b)) (plainR_bytes _),yO (((0:Nat)+(bytesA b).length)*(1:Nat)≤(140737488355328:Nat)),yB ((bytesA b).length=b.length) (by assumption),yB (ai ((↑n:Int).tmod (↑b.length:Int))=ai (↑j:Int)) (congrArg (fun n=>AV.val (.int .i64 n)) hj),yO ((↑b.length:Int)≠(0:Int)),yR (↑j:Int),yO (j<(bytesA b).length),yB ((bytesA b)[j]?=some (ab (b.getD j 0))) (bytesA_at (by omega)),yB (ai (IntKind.i64.wrap (↑(BitVec.ofInt IntKind.i64.bits (↑n:Int)&&&BitVec.ofInt IntKind.i64.bits (7:Int)).toNat:Int))=ai (↑(msk (↑n:Int) (7:Nat)):Int)) (avi_msk ((↑n:Int)) 7 (by omega)),yI (avw_conv (↑(msk (↑n:Int) (7:Nat)):Int)),yI (avb_conv ((1:Int)*(2:Int)^min (wv (u64 (↑(msk (↑n:Int) (7:Nat)):Int))).toNat IntKind.u8.bits)),yB ((0:Int)≤wv (u64 (↑(msk (↑n:Int) (7:Nat)):Int))) (wv_nn _),yI (avb_xor (b.getD j 0) (u8 ((1:Int)*(2:Int)^min (wv (u64 (↑(msk (↑n:Int) (7:Nat)):Int))).toNat IntKind.u8.bits))),yR (↑j:Int),yO (j<(bytesA b).length),yB ((bytesA b).set j (ab (b.getD j (0:UInt8)^^^u8 ((1:Int)*(2:Int)^min (wv (u64 (↑(msk (↑n:Int) (7:Nat)):Int))).toNat IntKind.u8.bits)))=bytesA (b.set j (b.getD j (0:UInt8)^^^u8 ((1:Int)*(2:Int)^min (wv (u64 (↑(msk (↑n:Int) (7:Nat)):Int))).toNat IntKind.u8.bits)))) (bytesA_set _ _ _),yO (j+(1:Nat)≤(bytesA b).length)] ?_
 refine zR ?_
 refine zV [yR (bytesA (b.set j (b.getD j (0:UInt8)^^^u8 ((1:Int)*(2:Int)^min (wv (u64 (↑(msk (↑n:Int) (7:Nat)):Int))).toNat IntKind.u8.bits))))]
theorem flipc_ret (b:List UInt8) (n:Int) (hb:b.length≤1000000):∃L:List UInt8,L.length=max 1 b.length∧Ret Tryz.prog 16 [.sl 1 (bytesA b),ai n] (.own 1 (bytesA L)):=by
 have hm:=modI_lt n (n:=4096) (by decide)
 obtain ⟨L,hL,hf⟩:=flip_ret b (modI n 4096) (by omega) hb
 refine ⟨L,hL,?_⟩
 refine zO Tryz.func16 9 ?_
 refine zP 2 [{},yH [(2,yV (ai (↑(modI n (4096:Int)):Int))),(3,yV (AV.own 1 (bytesA L)))]] [.keep [4,0,1] [8]] [yI (mod_ret n ((4096:Int)) (by omega) (by omega)),yB (Ret Tryz.prog (51:Nat) [AV.sl 1 (bytesA b),ai (↑(modI n (4096:Int)):Int)] (AV.own 1 (bytesA L))) (hf),yI (valR_bytes L)] ?_
 refine zR ?_
 refine zV [yR (bytesA L)]
end Go.Proofs.YtejpabdmiagnnaaGreatDoor
