import Derived.Test.YtjgbhhnghedgdaaGreatDoorZvGrQ
set_option linter.all false
namespace Go.Proofs.YtjgbhhnghedgdaaGreatDoor
open Go.RowKit
set_option maxRecDepth 100000
set_option maxHeartbeats 4000000
instance:Inhabited fC:=⟨⟨0,0,0,[],0,0,0,⟨0,0,[],[],[],0,0⟩,0,0,[]⟩⟩
def Rl (W:UInt64) (v:ic):Prop:=∃j:Nat,j<10∧ ∃z:Nat,z<16∧v=⟨(eK j).name,(z:Int),bS (300+u64 (j:Int)) (z:Int) W 18,dh (300+u64 (j:Int)) z 4⟩
theorem IQ {l:List ic} {v w:ic} (h:w∈lA l v):w=v∨w∈l:=by
 unfold lA at h
 rcases List.mem_append.1 h with h|h
 ·rcases List.mem_append.1 h with h|h
  ·exact .inr (List.mem_of_mem_take h)
  ·exact .inl (List.mem_singleton.1 h)
 ·exact .inr (List.mem_of_mem_drop h)
theorem HV {e:fC} (he:e.ak= []) (nx:Nat->Int) (dH:Nat):∀i,i≤10->cJ (bB e nx dH i).1=cJ e∧ ∀v∈(bB e nx dH i).1.ak,Rl (cJ e) v
 | 0,_=>⟨rfl,fun v hv=>by rw [show (bB e nx dH 0).1.ak=e.ak from rfl,he] at hv;cases hv⟩
 | i+1,hi=>by
  obtain ⟨h1,h2⟩:=HV he nx dH i ag
  unfold bB
  generalize bB e nx dH i=S at *
  split
  ·rename_i q
   have hl:=AD q.2
   have cf:pc S.1 (eK i).name (300+u64 i) 4 (S.2 i)= {S.1 with ak:=lA S.1.ak ⟨(eK i).name,np 4 (S.2 i),mN (300+u64 i) 4 (S.2 i) (cJ S.1),mM (300+u64 i) 4 (S.2 i)⟩}:=if_neg (fun w=>w q.2)
   show cJ (pc _ _ _ _ _)=_∧ ∀v∈(pc _ _ _ _ _).ak,_
   rw [cf]
   refine ⟨h1,fun v hv=>?_⟩
   rcases IQ hv with rfl|hv
   ·obtain ⟨z,hz,NF⟩:∃z:Nat,S.2 i=z∧z<16:=⟨(S.2 i).toNat,ag,ag⟩
    have nb:¬iZ 4 (S.2 i):=by
     unfold iZ ct
     have:(2:Nat)^(4:Int).toNat=16:=rfl
     omega
    refine ⟨i,ag,z,NF,?_⟩
    rw [show np 4 (S.2 i)=S.2 i from if_neg nb,show mN (300+u64 i) 4 (S.2 i) (cJ S.1)=bS (300+u64 i) (S.2 i) (cJ S.1) 18 from if_neg nb,show mM (300+u64 i) 4 (S.2 i)=dh (300+u64 i) (S.2 i).toNat (4:Int).toNat from if_neg nb,h1,hz]
    rfl
   ·exact h2 v hv
  ·exact ⟨h1,h2⟩
theorem Si {l N:List (List UInt8)} (h:l.Nodup) (hs:∀x∈l,x∈N):l.length≤N.length:=by
 induction l generalizing N with
 | nil=>exact Nat.zero_le _
 | cons x l ih =>
  obtain ⟨h1,h2⟩:=List.nodup_cons.1 h
  have hx:=hs x (List.mem_cons_self ..)
  have:=ih (N:=N.erase x) h2 fun y hy=>(List.mem_erase_of_ne (fun e:y=x=>h1 (by rw [←e];exact hy))).2 (hs y (List.mem_cons_of_mem _ hy))
  rw [List.length_erase_of_mem hx] at this
  have:=List.length_pos_of_mem hx
  rw [List.length_cons];omega
theorem meet {A B N:List (List UInt8)} (hA:A.Nodup) (hB:B.Nodup) (sA:∀x∈A,x∈N) (sB:∀x∈B,x∈N) (h:N.length<A.length+B.length):∃x,x∈A∧x∈B:=by
 apply Classical.byContradiction
 intro q
 have:=Si (l:=A++B) (N:=N) (List.nodup_append.2 ⟨hA,hB,fun a ha b hb e=>q ⟨a,ha,e ▸ hb⟩⟩) fun x hx=>(List.mem_append.1 hx).elim (sA x) (sB x)
 rw [List.length_append] at this
 omega
def PS (s:List UInt8):Prop:=s.length≤9223372036854775807
end Go.Proofs.YtjgbhhnghedgdaaGreatDoor
