import Derived.Test.YtejpabdmiagnnaaGreatDoorZrRC
import Derived.Test.YtejpabdmiagnnaaGreatDoorZrV8
import Derived.Test.YtejpabdmiagnnaaGreatDoorZrCast
import Derived.Test.YtejpabdmiagnnaaGreatDoorZrRJ
set_option linter.all false
namespace Go.Proofs.YtejpabdmiagnnaaGreatDoor
open Go.RowKit
def resIds (P:Program) (s:AS) (rs:List ResultVar) (r:AV):List Nat :=
 match resL P s rs with
 | some (xs,_)=>(match (match xs with| [x]=>giveT s x r|xs=>giveT s (.tup xs) r) with
  | some (ids,_)=>ids
  | none=>[])
 | none=>[]
theorem resIds_eq {P:Program} {s:AS} {rs:List ResultVar} {r:AV} {xs:List AV} {C1:List Prop} {ids:List Nat} {D:List Prop} (hg:(match xs with| [x]=>giveT s x r|xs=>giveT s (.tup xs) r)=some (ids,D)) (hr:resL P s rs=some (xs,C1)):resIds P s rs r=ids:=by
 unfold resIds
 rw [hr]
 cases xs with
 | nil =>
  have hg:giveT s (.tup []) r=some (ids,D):=hg
  show (match giveT s (.tup []) r with|some (ids,_)=>ids|none=>[])=ids
  rw [hg]
 | cons x t =>
  cases t with
  | nil =>
   have hg:giveT s x r=some (ids,D):=hg
   show (match giveT s x r with|some (ids,_)=>ids|none=>[])=ids
   rw [hg]
  | cons y t =>
   have hg:giveT s (.tup (x::y::t)) r=some (ids,D):=hg
   show (match giveT s (.tup (x::y::t)) r with|some (ids,_)=>ids|none=>[])=ids
   rw [hg]
section
variable {P:Program} {S0:Zone} {w0 w:World} {n:Nat} {s:AS} {a:Act} {φ:Nat->Option Nat}
theorem evRes_ids (hs:SimO S0 w0 n [] s a w φ) {fn:Func} {r:AV} {C:List Prop} (he:evRes P s fn.results.toList r=some C) (hC:AllP C) :
  ∃v,(results fn a.tmps).run P w= .ok v w∧(blocks φ (resIds P s fn.results.toList r)).Nodup∧Giv (Free S0 w φ []) w v r (blocks φ (resIds P s fn.results.toList r)):=by
 unfold evRes at he
 split at he
 ·rename_i xs C1 hr
  split at he
  ·rename_i ids D hg
   split at he
   ·rename_i hn
    cases he
    have hids:resIds P s fn.results.toList r=ids:=resIds_eq hg hr
    obtain ⟨hC1,hD⟩:=allP_app.1 hC
    obtain ⟨vs,hrun,hl,hd⟩:=resL_ok hs _ _ _ hr hC1
    have hm:(fn.results.mapM (resRun a)).run P w= .ok vs.toArray w:=by
     rw [Array.mapM_eq_mapM_toList,Sem.run_map,hrun];rfl
    have hres:(results fn a.tmps).run P w= .ok (if h:vs.toArray.size=1 then vs.toArray[0] else .tuple vs.toArray) w:=by
     have he:results fn a.tmps=(do let vs ←fn.results.mapM (resRun a);pure (if h:vs.size=1 then vs[0] else .tuple vs):Sem Value):=by
      unfold results
      congr 1
     rw [he,Sem.run_bind,hm]
     rfl
    rw [hids]
    refine ⟨_,hres,nodup_blocks hs (nodupB_ok hn),?_⟩
    split at hg
    ·rename_i x
     cases vs with
     | nil=>simp at hl
     | cons v vs =>
      have:vs= []:=by simpa using hl
      subst this
      exact giveT_ok hs (hd 0 v x rfl rfl) hg hD
    ·rename_i hne
     have hsz:¬vs.toArray.size=1:=by
      intro h1
      have h2:xs.length=1:=by rw [←hl];simpa using h1
      obtain ⟨x,rfl⟩:=List.length_eq_one_iff.1 h2
      exact hne x rfl
     rw [dif_neg hsz]
     exact giveT_ok hs (.tup vs xs hl hd) hg hD
   ·cases he
  ·cases he
 ·cases he
end
def rowsM (s:AS):List (Nat×Row)->Option (List Prop)
 | []=>some []
 | (k,q)::l=>match look s.H k,rowsM s l with
  | some ⟨e,p,f,cs⟩,some C=>(match Nat.beq e q.e,p == q.pure,(!q.full || f) with|true,true,true=>some ((cs=q.cells)::C)|_,_,_=>none)
  | _,_=>none
theorem rowsM_at {s:AS}:∀ {l:List (Nat×Row)} {C:List Prop},rowsM s l=some C->AllP C-> ∀k q,look l k=some q-> ∃q0,look s.H k=some q0∧q0.e=q.e∧q0.pure=q.pure∧(q.full=true->q0.full=true)∧q0.cells=q.cells
 | [],C,h,hC,k,q,hq=>by cases hq
 | (k',q')::l,C,h,hC,k,q,hq=>by
  simp only [rowsM] at h
  split at h
  ·rename_i e p f cs C1 h1 h2
   split at h
   ·rename_i he hp hf
    cases h
    rw [look_cons] at hq
    by_cases ek:k'=k
    ·rw [if_pos ek] at hq;injection hq with hq;subst hq;subst ek
     refine ⟨_,h1,Nat.eq_of_beq_eq_true he,by simpa using hp,fun hq=>?_,hC.1⟩
     simp only [hq,Bool.not_true,Bool.false_or] at hf
     exact hf
    ·rw [if_neg ek] at hq;exact rowsM_at h2 hC.2 k q hq
   ·cases h
  ·cases h
def evResM (P:Program) (s:AS) (rs:List ResultVar) (r:AV) (H':List (Nat×Row)):Option (List Prop) :=
 match evRes P s rs r,rowsM (retireAll s (resIds P s rs r++restOf (H'.map (·.1)) s.H)) H' with
 | some C,some D=>some (C++D)
 | _,_=>none
def DoneM (P:Program) (rs:List ResultVar) (r:AV) (H':List (Nat×Row)):Exit->AS->Prop
 | .normal,s=>∃l s2 C,wk l s=some s2∧evResM P s2 rs r H'=some C∧AllP C
 | .ret,s=>∃l s2 C,wk l s=some s2∧evResM P s2 rs r H'=some C∧AllP C
 | _,_=>False
theorem look_map_fst {H:List (Nat×Row)}:∀ {k:Nat},k∈H.map (·.1)-> ∃q,look H k=some q:=by
 induction H with
 | nil=>intro k h;cases h
 | cons p H ih =>
  obtain ⟨j,x⟩:=p
  intro k h
  rw [look_cons]
  by_cases e:j=k
  ·exact ⟨x,by rw [if_pos e]⟩
  ·rw [if_neg e]
   simp only [List.map_cons,List.mem_cons] at h
   exact ih (h.resolve_left (Ne.symm e))
theorem RetM.of_body {P:Program} {f:FuncId} {fn:Func} {c:Code} {args:List AV} {H H':List (Nat×Row)} {r:AV} (hf:P.funcs[f]?=some fn) (hb:fn.body=some c) (n:Nat) (hn:fn.ntmps=n) (hargs:args.length≤n) (h:AWP P n c (DoneM P fn.results.toList r H') ⟨argsF 0 args,H⟩):RetM P f args H r H':=by
 intro w S φ vs hgood hphi hL hl hrep
 let Z:Zone:=⟨fun b=>S b∨w.heap.size≤b∨InR φ b,fun b=>InR φ b,fun id=>if 1000000000000≤id then φ id else none,[]⟩
 have hfree:∀b,S b->Free Z w φ [] b:=fun b hb=>⟨(hL.sep b hb).1,by simp,fun id hid=>(hL.sep b hb).2 ⟨id,hid⟩,Or.inl hb⟩
 have hS0:SimO Z w n [] ⟨argsF 0 args,H⟩ {tmps:=vs.toArray++Array.replicate (fn.ntmps-vs.toArray.size) undef,defers:=[]} w φ:=by
  refine ⟨by simp;omega,rfl,⟨rfl,rfl,rfl,Nat.le_refl _,fun _ _ _=>rfl,hgood,fun b hb ⟨id,hid⟩=>hphi id b hid hb⟩,fun i av hi=>?_,fun id q hq=>?_,hL.only,hL.inj,fun id g hg=>⟨⟨?_,.inr ⟨id,hg⟩⟩,hL.lt id g hg⟩,fun _ _ _ h=>(by cases h),fun b hb=>.inr hb⟩
  ·obtain ⟨k,rfl,hk⟩:=look_argsF args 0 i av hi
   have hkl:k<vs.length:=by have:=(List.getElem?_eq_some_iff.1 hk).1;omega
   have hv:vs[k]?=some vs[k]:=List.getElem?_eq_getElem hkl
   have e:(vs.toArray++Array.replicate (fn.ntmps-vs.toArray.size) undef).getD (0+k) undef=vs[k]:=by
    rw [Nat.zero_add,Array.getD_eq_getD_getElem?,Array.getElem?_append_left (by simpa using hkl)]
    simp [hkl]
   simp only [e]
   exact (hrep k vs[k] av hv hk).mono (fun _ _ h=>h) (fun b hb=>⟨hfree b hb,rfl⟩) (fun _ _ _ _ _=>rfl)
  ·have hrow:=hL.rows id q hq
   unfold RowDen at hrow ⊢
   cases hg:φ id with
   | none=>rw [hg] at hrow;exact hrow
   | some g =>
    rw [hg] at hrow
    obtain ⟨cur,te,fr,u1,u2,u3,u4,u5⟩:=hrow
    refine ⟨cur,te,fr,u1,u2,u3,u4,fun j u x hu hx=>?_⟩
    have:=u5 j u x hu hx
    unfold CellDen at this ⊢
    cases hp:q.pure with
    | true=>rw [hp] at this;exact this.mono fun b hb=>⟨hfree b hb,rfl⟩
    | false=>rw [hp] at this;exact this.mono (fun _ _ h=>h) (fun b hb=>⟨hfree b hb,rfl⟩) (fun _ _ _ _ _=>rfl)
  ·rcases Nat.lt_or_ge id 1000000000000 with h|h
   ·exact .inl h
   ·right;show (if 1000000000000≤id then φ id else none)=some g;rw [if_pos h];exact hg
 refine calls_of_swp hf hb (Z:=Z) rfl (fun b hb=>.inr hb) (Q:=DoneM P fn.results.toList r H') (fun e s hq=>by cases e<;>first|exact .inl rfl|exact .inr rfl|exact hq.elim) (h Z w _ w ⟨φ,hS0⟩) fun e s0 a' w' hq _ ⟨φ0,hs0⟩=>?_
 have fin0:∀(s':AS) (φ1:Nat->Option Nat),SimO Z w n [] s' a' w' φ1->(∃C,evResM P s' fn.results.toList r H'=some C∧AllP C)-> ∃v,(results fn a'.tmps).run P w'= .ok v w'∧ ∃v' O φ',Ending.returned v= .returned v'∧Back S w w' φ φ' O H' v' r:=by
  rintro s' φ1 hs' ⟨C,he,hC⟩
  unfold evResM at he
  split at he
  ·rename_i C1 D h1 h2
   cases he
   obtain ⟨hC1,hD⟩:=allP_app.1 hC
   obtain ⟨v,hrun,hnd,hgiv⟩:=evRes_ids hs' h1 hC1
   generalize hids:resIds P s' fn.results.toList r=ids at *
   obtain ⟨O',hR,hO1,-,hO2,hrow1,-⟩:=retireO (ids++restOf (H'.map (·.1)) s'.H) s' φ1 [] hs'
   have hat:=rowsM_at h2 hD
   generalize hφ2:(fun id=>if id∈ids++restOf (H'.map (·.1)) s'.H then none else φ1 id)=φ2 at hR
   have e2:∀id,φ2 id=if id∈ids++restOf (H'.map (·.1)) s'.H then none else φ1 id:=fun id=>by rw [←hφ2]
   have sub:∀id g,φ2 id=some g->φ1 id=some g∧id ∉ ids:=fun id g hg=>by
    rw [e2] at hg
    split at hg
    ·cases hg
    ·rename_i hno;exact ⟨hg,fun hm=>hno (by simp [hm])⟩
   let φ':Nat->Option Nat:=fun id=>if (look H' id).isSome then φ2 id else none
   have e':∀id g,φ' id=some g->φ2 id=some g∧(look H' id).isSome:=fun id g hg=>by
    have hg:(if (look H' id).isSome then φ2 id else none)=some g:=hg
    split at hg
    ·rename_i h;exact ⟨hg,h⟩
    ·cases hg
   have all:∀id q,look (retireAll s' (ids++restOf (H'.map (·.1)) s'.H)).H id=some q-> ∃q',look H' id=some q':=by
    intro id q hq
    obtain ⟨hno,q0,hq0,-⟩:=hrow1 id q hq
    refine look_map_fst (Classical.byContradiction fun hm=>?_)
    rcases look_restOf (H'.map (·.1)) s'.H id hm with h|h
    ·rw [hq0] at h;cases h
    ·exact hno (by simp [h])
   have hO:∀g,g∈blocks φ1 ids->g∈O':=fun g hg=>by
    obtain ⟨i,hi,hgi⟩:=mem_blocks hg
    exact hO2 i (by simp [hi]) g hgi
   have rngX:∀id g,φ1 id=some g->w.heap.size≤g∨InR φ g:=fun id g hg=>(hs'.rng id g hg).1.2
   have haft:∀b,Free Z w' φ2 O' b->After S w w' φ φ' (blocks φ1 ids) b:=by
    intro b ⟨f1,f2,f3,f4⟩
    refine ⟨?_,fun hm=>f2 (hO b hm),fun ⟨id,hid⟩=>f3 id (e' id b hid).1⟩
    rcases f4 with h|h|h
    ·exact .inl h
    ·exact .inr ⟨.inl h,f1⟩
    ·exact .inr ⟨.inr h,f1⟩
   refine ⟨v,hrun,v,blocks φ1 ids,φ',rfl,⟨hs'.bel.os,hs'.bel.tape,hs'.bel.output,hs'.bel.size,fun b hb hx=>hs'.bel.block b hb hx,hnd,fun g hg=>?_,fun id g hg=>rngX id g (sub id g (e' id g hg).1).1,fun id g hge hg=>?_,⟨fun b hb=>⟨?_,hb.2.2⟩,fun id hid=>?_,fun id id' g hg hg'=>?_,fun id g hg=>?_,fun id q hq=>?_⟩,hgiv.mono fun b hb=>?_⟩⟩
   ·obtain ⟨i,hi,hgi⟩:=mem_blocks hg
    refine ⟨rngX i g hgi,(hs'.rng i g hgi).2,fun ⟨id,hid⟩=>?_⟩
    obtain ⟨s1,s2⟩:=sub id g (e' id g hid).1
    exact s2 (hs'.inj id i g s1 hgi ▸ hi)
   ·rcases (hs'.rng id g (sub id g (e' id g hg).1).1).1.1 with h|h
    ·omega
    ·have h:(if 1000000000000≤id then φ id else none)=some g:=h
     rw [if_pos hge] at h;exact h
   ·rcases hb.1 with h|h
    ·exact Nat.lt_of_lt_of_le (hL.sep b h).1 hs'.bel.size
    ·exact h.2
   ·show (if (look H' id).isSome then φ2 id else none)=none
    rw [hid];rfl
   ·exact hs'.inj id id' g (sub id g (e' id g hg).1).1 (sub id' g (e' id' g hg').1).1
   ·exact (hs'.rng id g (sub id g (e' id g hg).1).1).2
   ·obtain ⟨q0,u1,u2,u3,u4,u5⟩:=hat id q hq
    have hrow:=hR.rows id q0 u1
    have e:φ' id=φ2 id:=by
     show (if (look H' id).isSome then φ2 id else none)=φ2 id
     rw [hq];rfl
    rw [e]
    have hI:∀i x,infoOf (retireAll s' (ids++restOf (H'.map (·.1)) s'.H)).H φ2 i=some x->infoOf H' φ' i=some x:=by
     intro i x hx
     obtain ⟨ee,m,b⟩:=x
     obtain ⟨p,hp,h3,h4,h5⟩:=info_some hx
     obtain ⟨p',hp'⟩:=all i p hp
     obtain ⟨p0,v1,v2,-,-,v5⟩:=hat i p' hp'
     rw [hp] at v1;injection v1 with v1;subst v1
     rw [info_of hp',←v2,←v5,h3,h4]
     have:φ' i=φ2 i:=by
      show (if (look H' i).isSome then φ2 i else none)=φ2 i
      rw [hp'];rfl
     rw [this,h5]
    unfold RowDen at hrow ⊢
    cases hg:φ2 id with
    | none=>rw [hg] at hrow;exact u5 ▸ hrow
    | some g =>
     rw [hg] at hrow
     obtain ⟨cur,te,fr,v1,v2,v3,v4,v5⟩:=hrow
     refine ⟨cur,te,fr,v1,v2,by rw [←u5];exact v3,fun hfu=>by rw [←u5];exact v4 (u4 hfu),fun j u x hu hx=>?_⟩
     have:=v5 j u x hu (by rw [u5];exact hx)
     unfold CellDen at this ⊢
     rw [u3] at this
     cases hp:q.pure with
     | true=>rw [hp] at this;exact this.mono fun b hb=>⟨haft b hb,rfl⟩
     | false=>rw [hp] at this;exact this.mono hI (fun b hb=>⟨haft b hb,rfl⟩) (fun _ _ _ _ _=>rfl)
   ·refine ⟨?_,fun hm=>?_,fun ⟨id,hid⟩=>hb.2.2.1 id (sub id b (e' id b hid).1).1⟩
    ·rcases hb.2.2.2 with h|h|h
     ·exact .inl h
     ·exact .inr ⟨.inl h,hb.1⟩
     ·exact .inr ⟨.inr h,hb.1⟩
    ·obtain ⟨i,-,hgi⟩:=mem_blocks hm
     exact hb.2.2.1 i hgi
  ·cases he
 have fin:(∃l s2 C,wk l s0=some s2∧evResM P s2 fn.results.toList r H'=some C∧AllP C)-> ∃v,(results fn a'.tmps).run P w'= .ok v w'∧ ∃v' O φ',Ending.returned v= .returned v'∧Back S w w' φ φ' O H' v' r:=by
  rintro ⟨l,s2,C,hw,he,hC⟩
  obtain ⟨φ2,h2⟩:=wk_ok l hw Z w n a' w' ⟨φ0,hs0⟩
  exact fin0 s2 φ2 h2 ⟨C,he,hC⟩
 cases e with
 | normal=>exact fin hq
 | ret=>exact fin hq
 | _=>exact hq.elim
theorem RetM.of_fn {P:Program} {f:FuncId} {fn:Func} {args:List AV} {H H':List (Nat×Row)} {r:AV} (hf:P.funcs[f]?=some fn) (hb:fn.body.isSome=true) (n:Nat) (hn:fn.ntmps=n) (hargs:Nat.ble args.length n=true) (h:AWP P n (bodyOf fn) (DoneM P fn.results.toList r H') ⟨argsF 0 args,H⟩):RetM P f args H r H':=by
 cases hbody:fn.body with
 | none=>rw [hbody] at hb;cases hb
 | some c =>
  have e:bodyOf fn=c:=by unfold bodyOf;rw [hbody]
  rw [e] at h
  exact RetM.of_body hf hbody n hn (Nat.le_of_ble_eq_true hargs) h
theorem DoneM.ret_ {P:Program} {rs:List ResultVar} {r:AV} {H':List (Nat×Row)} {s s2:AS} {C:List Prop} (l:List Wk) (hw:wk l s=some s2) (he:evResM P s2 rs r H'=some C) (hC:AllP C):DoneM P rs r H' .ret s:=⟨l,s2,C,hw,he,hC⟩
end Go.Proofs.YtejpabdmiagnnaaGreatDoor
namespace Go.Proofs.YtejpabdmiagnnaaGreatDoor
open Go.RowKit
set_option maxRecDepth 100000
set_option maxHeartbeats 4000000
set_option linter.unusedVariables false
def dkN (l:List Int) (k:Nat) (n:Int):Nat:=if k<l.length then modI (l.getD k 0) n else 0
def dkA (l:List Int) (k:Nat):Nat:=if k<l.length then k+1 else k
theorem new_ret (l:List Int):Ret Tryz.prog 12 [.sl 1 (intsA l)] (.box [.sl 1 (intsA l),ai (0:Nat)]):=by
 refine zO Tryz.func12 6 ?_
 refine zP 2 [{},{}] [.keep [2,0] [5]] [] ?_
 refine zR ?_
 refine zV [yR [AV.sl 1 (intsA l),ai 0]]
theorem next_retm (l:List Int) (k:Nat) (n:Int) (hk:k≤l.length) (hl:l.length≤9223372036854775807) (h1:1≤n) (h2:n≤9223372036854775807):RetM Tryz.prog 13 [.addr 1000000000000 0,ai n] [(1000000000000,⟨1,false,true,[.sl 1 (intsA l),ai k]⟩)] (ai (dkN l k n)) [(1000000000000,⟨1,false,true,[.sl 1 (intsA l),ai (dkA l k)]⟩)]:=by
 by_cases h:k<l.length
 ·have e1:dkN l k n=modI (l.getD k 0) n:=if_pos h
  have e2:dkA l k=k+1:=if_pos h
  have ew:IntKind.i64.wrap ((k:Int)+1)=((k+1:Nat):Int):=by rw [IntKind.wrap_i64];omega
  have ev:IntKind.i64.wrap (((k+1:Nat):Int)-1)=(k:Int):=by rw [IntKind.wrap_i64];omega
  rw [e1,e2]
  refine RetM.of_fn Tryz.func13 (by kernel_rfl) 35 (by kernel_rfl) (by kernel_rfl) ?_
  refine zQ 1 [{}] [] ?_
  refine zS ?_
  refine zP 1 [{hs:=[(8,{k:=l.length})],T:=9}] [.keep [14,4,0,1] [1000000000000]] [yB ((intsA l).length=l.length) (intsA_len _)] ?_
  refine zFd 14 ((↑k:Int)≥(↑l.length:Int)) ?_
  refine zK ?_
  refine then_n ?_
  refine zP 2 [yH [(4,yV (ai (↑(k+(1:Nat)):Int)))],{hs:=[(8,yV (ai (↑k:Int))),(9,{k:=k}),(10,yV (ai (l.getD k (0:Int)))),(12,yV (ai (↑(modI (l.getD k (0:Int)) n):Int)))],T:=12}] [.keep [4,14,0,1] [1000000000000]] [yB (ai (IntKind.i64.wrap ((↑k:Int)+1))=ai (↑(k+(1:Nat)):Int)) (av_i64 (by omega) (by omega)),yL 2 2,yB (ai (IntKind.i64.wrap ((↑(k+(1:Nat)):Int)-1))=ai (↑k:Int)) (congrArg (fun n=>AV.val (.int .i64 n)) ev),yR (↑k:Int),yB (k<(intsA l).length) (by simp only [intsA_len];omega),yB ((intsA l)[k]?=some (ai (l.getD k (0:Int)))) (intsA_at (by omega)),yI (mod_ret (l.getD k (0:Int)) n (by assumption) (by assumption))] ?_
  refine zR ?_
  refine DoneM.ret_ [] (s2:=AS.mk [(4,ai (↑(modI (l.getD k (0:Int)) n):Int)),(14,ao (decide ((↑k:Int)≥(↑l.length:Int)))),(0,AV.addr 1000000000000 0),(1,ai n)] [(1000000000000,Row.mk 1 false true [AV.sl 1 (intsA l),ai (↑(k+(1:Nat)):Int)])]) (by kernel_rfl) (C:=[Value.int .i64 (↑(modI (l.getD k (0:Int)) n):Int)=Value.int .i64 (↑(modI (l.getD k (0:Int)) n):Int),[AV.sl 1 (intsA l),ai (↑(k+(1:Nat)):Int)]= [AV.sl 1 (intsA l),ai (↑(k+(1:Nat)):Int)]]) (by kernel_rfl) ⟨rfl,rfl,trivial⟩
 ·have e1:dkN l k n=0:=if_neg h
  have e2:dkA l k=k:=if_neg h
  rw [e1,e2]
  refine RetM.of_fn Tryz.func13 (by kernel_rfl) 35 (by kernel_rfl) (by kernel_rfl) ?_
  refine zQ 1 [{}] [] ?_
  refine zS ?_
  refine zP 1 [{hs:=[(8,{k:=l.length})],T:=9}] [.keep [14,4,0,1] [1000000000000]] [yB ((intsA l).length=l.length) (intsA_len _)] ?_
  refine zTd 14 ((↑k:Int)≥(↑l.length:Int)) ?_
  refine zQ 1 [{}] [] ?_
  refine zR ?_
  refine then_r ?_
  refine DoneM.ret_ [] (s2:=AS.mk [(4,ai 0),(14,ao (decide ((↑k:Int)≥(↑l.length:Int)))),(0,AV.addr 1000000000000 0),(1,ai n)] [(1000000000000,Row.mk 1 false true [AV.sl 1 (intsA l),ai (↑k:Int)])]) (by kernel_rfl) (C:=[Value.int .i64 0=Value.int .i64 (↑(0:Nat):Int),[AV.sl 1 (intsA l),ai (↑k:Int)]= [AV.sl 1 (intsA l),ai (↑k:Int)]]) (by kernel_rfl) ⟨rfl,rfl,trivial⟩
theorem dkA_le {l:List Int} {k:Nat} (h:k≤l.length):dkA l k≤l.length:=by unfold dkA;split<;>omega
theorem dkN_lt (l:List Int) (k:Nat) {n:Int} (h:1≤n):(dkN l k n:Int)<n:=by
 unfold dkN
 split
 ·unfold modI
  have:=Int.emod_lt_of_pos (l.getD k 0%18446744073709551616) (show 0<n by omega)
  have:=Int.emod_nonneg (l.getD k 0%18446744073709551616) (show n≠0 by omega)
  omega
 ·omega
end Go.Proofs.YtejpabdmiagnnaaGreatDoor
