import Derived.Test.YtejpabdmiagnnaaGreatDoorZrRec9
set_option linter.all false
namespace Go.Proofs.YtejpabdmiagnnaaGreatDoor
open Go.RowKit
section
variable {d:Dep} {hs shs:List (List UInt8)}
theorem pts_getD {i k:Nat} (hk:k<i):(pts d hs shs i).getD k default=(idxS d.holders (hs.getD k default)+1,shs.getD k default):=by
 unfold pts
 rw [range_getD _ _ hk]
theorem lpF_all:∀ {n:Nat},lpF d hs shs n=0-> ∀j,j<n->lpE d hs shs j=0
 | 0,_,j,hj=>by omega
 | n+1,h,j,hj=>by
  have h1:lpF d hs shs n=0:=by
   apply Decidable.byContradiction
   intro hne
   have:lpF d hs shs (n+1)=lpF d hs shs n:=by show (if _ then _ else _)=_;rw [if_pos hne]
   omega
  have h2:lpE d hs shs n=0:=by
   have:lpF d hs shs (n+1)=lpE d hs shs n:=by show (if _ then _ else _)=_;rw [if_neg (by omega)]
   omega
  by_cases e:j=n
  ·subst e;exact h2
  ·exact lpF_all h1 j (by omega)
theorem lpE_chk {j:Nat} (h:lpE d hs shs j=0):chkD d (hs.getD j default) (shs.getD j default)=0:=by
 apply Decidable.byContradiction
 intro hne
 unfold lpE at h
 rw [if_pos hne] at h
 exact hne h
theorem chk_idx {h s:List UInt8} (hc:chkD d h s=0):∃i:Nat,idxS d.holders h=i∧i<d.holders.length∧d.holders.getD i default=h:=by
 rcases idx_cases d.holders h with e|r
 ·exact absurd hc (by unfold chkD;rw [if_pos (by omega)];omega)
 ·exact r
theorem mem_take {i j:Nat} (hi:i<hs.length) (hj:j<i):hs.getD j default∈hs.take i:=by
 refine List.mem_iff_getElem.2 ⟨j,by rw [List.length_take];omega,?_⟩
 rw [List.getElem_take,List.getD_eq_getElem?_getD,List.getElem?_eq_getElem (by omega)];rfl
theorem dup_yes {i j:Nat} (hi:i<hs.length) (h0:lpF d hs shs i=0) (hc:chkD d (hs.getD i default) (shs.getD i default)=0) (hj:j<i) (e:idxS d.holders (hs.getD j default)=idxS d.holders (hs.getD i default)):hs.getD i default∈hs.take i:=by
 obtain ⟨a,ha,_,ha3⟩:=chk_idx (lpE_chk (lpF_all h0 j hj))
 obtain ⟨b,hb,_,hb3⟩:=chk_idx hc
 have:a=b:=by omega
 subst this
 rw [←hb3,ha3]
 exact mem_take hi hj
theorem dup_no {i:Nat} (hi:i<hs.length) (h:∀j,j<i->idxS d.holders (hs.getD j default)≠idxS d.holders (hs.getD i default)):hs.getD i default ∉ hs.take i:=by
 intro hm
 obtain ⟨j,hj,e⟩:=List.mem_iff_getElem.1 hm
 rw [List.length_take] at hj
 refine h j (by omega) (congrArg _ ?_)
 rw [←e,List.getElem_take,List.getD_eq_getElem?_getD,List.getElem?_eq_getElem (by omega)];rfl
end
end Go.Proofs.YtejpabdmiagnnaaGreatDoor
