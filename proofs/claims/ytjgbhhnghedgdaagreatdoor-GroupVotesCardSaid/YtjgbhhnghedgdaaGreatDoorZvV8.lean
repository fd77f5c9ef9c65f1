import Derived.Test.YtjgbhhnghedgdaaGreatDoorZvRC
import Derived.Test.YtjgbhhnghedgdaaGreatDoorProg
import Derived.Shelf.Unicode.ValidAny
set_option linter.all false
namespace Go.Proofs.YtjgbhhnghedgdaaGreatDoor
open Go.RowKit
open Go.RowKit Go.Shelf Go.Lib
theorem Vq {S:Nat->Prop} {w:World} {v u:Value} (h:cz S w v (.val u)):v=u:=by cases h;rfl
def PB:Ren:=⟨fun|196=>86|259=>134|n=>n,fun|9=>9|4=>4|3=>3|5=>5|12=>12|119=>178|0=>0|46=>66|139=>181|138=>180|53=>22|n=>n,fun|3=>0|4=>1|n=>n⟩
theorem HD:Lays.n196 Tryz.prog PB:={
 mixed:=by kernel_rfl
 f196:=Tryz.func86.trans (congrArg some (by kernel_rfl))
 f259:=Tryz.func134.trans (congrArg some (by kernel_rfl))
 t0:=Tryz.underlying0
 a0:=Tryz.isAgg0
 z0:=Tryz.sizeOf0
 v0:=Tryz.zeroValue0
 t3:=Tryz.underlying3
 a3:=Tryz.isAgg3
 z3:=Tryz.sizeOf3
 v3:=Tryz.zeroValue3
 t4:=Tryz.underlying4
 a4:=Tryz.isAgg4
 z4:=Tryz.sizeOf4
 v4:=Tryz.zeroValue4
 t5:=Tryz.underlying5
 a5:=Tryz.isAgg5
 z5:=Tryz.sizeOf5
 v5:=Tryz.zeroValue5
 t9:=Tryz.underlying9
 a9:=Tryz.isAgg9
 z9:=Tryz.sizeOf9
 v9:=Tryz.zeroValue9
 t12:=Tryz.underlying12
 a12:=Tryz.isAgg12
 z12:=Tryz.sizeOf12
 v12:=Tryz.zeroValue12
 t46:=Tryz.underlying66
 a46:=Tryz.isAgg66
 z46:=Tryz.sizeOf66
 v46:=Tryz.zeroValue66
 t53:=Tryz.underlying22
 a53:=Tryz.isAgg22
 z53:=Tryz.sizeOf22
 v53:=Tryz.zeroValue22
 t119:=Tryz.underlying178
 a119:=Tryz.isAgg178
 z119:=Tryz.sizeOf178
 t138:=Tryz.underlying180
 a138:=Tryz.isAgg180
 z138:=Tryz.sizeOf180
 v138:=Tryz.zeroValue180
 t139:=Tryz.underlying181
 a139:=Tryz.isAgg181
 z139:=Tryz.sizeOf181
 v139:=Tryz.zeroValue181
 g3:=by kernel_rfl
 g4:=by kernel_rfl}
theorem kF (s:List UInt8) (hs:s.length≤9223372036854775807):bG Tryz.prog 86 [cV s] (ao (Lib.validD s)):=by
 intro w S vs ko hS hl hr
 obtain ⟨v,rfl⟩:=List.length_eq_one_iff.1 hl
 have e:=Vq (hr 0 v _ rfl rfl)
 subst e
 refine (Any.utf8_ValidString HD ⟨s.toArray⟩ w (by simpa [ByteArray.size] using hs) ko).mono fun e w' ⟨he,hb⟩=>?_
 exact ⟨_,[],he,hb,List.nodup_nil,by simp,.inl (.inl (.rep (.val _)))⟩
theorem Md (x y:UInt64):AV.val (.int .u64 ((wv x).tmod (wv y)))=aw (x%y):=by
 have e:(wv x).tmod (wv y)=wv (x%y):=by
  unfold wv;rw [UInt64.toNat_mod,Int.tmod_eq_emod_of_nonneg ag];rfl
 rw [e]
abbrev ez:AV:=.val (.int .u64 0)
def oW (P:Program) (n:Nat) (l:List qa) (wl:List Wk) (c:Code) (s:AS):Option (AS×List Prop) :=
 match lj P n l c s with
 | some (s1,C)=>(match wk wl s1 with|some s2=>some (s2,C)|none=>none)
 | none=>none
theorem bg.qm {P:Program} {n:Nat} {c:Code} {Q:Exit->AS->Prop} {s s':AS} {C:List Prop} (k:Nat) (l:List qa) (wl:List Wk) (hk:Nat.beq l.length k=true) (he:oW P n l wl c s=some (s',C)) (hC:bx C) (h:bg P n (qY k c) Q s'):bg P n c Q s:=by
 unfold oW at he
 split at he
 ·rename_i s1 C1 h1
  split at he
  ·rename_i s2 h2
   cases he
   exact bg.mj k l hk h1 hC (bg.wk wl h2 h)
  ·cases he
 ·cases he
def ql (r:Option (AS×List Prop)):AS:=match r with|some (s',_)=>s'|none=>⟨[],[]⟩
def pI (r:Option (AS×List Prop)):Option (List Prop):=match r with|some (_,C)=>some C|none=>none
theorem jd {r:Option (AS×List Prop)} {C:List Prop} (h:pI r=some C):r=some (ql r,C):=by
 unfold pI at h
 split at h
 ·cases h;rfl
 ·cases h
def Rq (l:List Wk) (s:AS):AS:=match wk l s with|some s'=>s'|none=>⟨[],[]⟩
def Rr (l:List Wk) (s:AS):Bool:=(wk l s).isSome
theorem Er {l:List Wk} {s:AS} (h:Rr l s=true):wk l s=some (Rq l s):=by
 unfold Rr at h
 unfold Rq
 cases hw:wk l s with
 | some _=>rfl
 | none=>rw [hw] at h;cases h
section
variable {P:Program} {n:Nat} {c:Code} {Q:Exit->AS->Prop} {s:AS} {C:List Prop}
theorem bg.rz (l:List Wk) (he:Rr l s=true) (h:bg P n c Q (Rq l s)):bg P n c Q s:=bg.wk l (Er he) h
theorem bg.H6 (k:Nat) (l:List qa) (hk:Nat.beq l.length k=true) (he:pI (lj P n l c s)=some C) (hC:bx C) (h:bg P n (qY k c) Q (ql (lj P n l c s))):bg P n c Q s:=bg.mj k l hk (jd he) hC h
theorem bg.uY (k:Nat) (l:List qa) (wl:List Wk) (hk:Nat.beq l.length k=true) (he:pI (oW P n l wl c s)=some C) (hC:bx C) (h:bg P n (qY k c) Q (ql (oW P n l wl c s))):bg P n c Q s:=bg.qm k l wl hk (jd he) hC h
theorem bg.Sc (x:qa) (he:pI (tl P n c x s)=some C) (hC:bx C) (h:Q .normal (ql (tl P n c x s))):bg P n c Q s:=bg.PL x (jd he) hC h
end
theorem bQ.Vt {s s2:AS} (l:List Wk) (he:wk l s=some s2):bQ s s2:=bQ.of l he rfl
theorem bg.at_ {P:Program} {n:Nat} {c:Code} {Q:Exit->AS->Prop} {s:AS} (s':AS) (he:s=s') (h:bg P n c Q s'):bg P n c Q s:=he ▸ h
theorem aI.MU {S0:bn} {w0 w:World} {n:Nat} {O:List Nat} {s s':AS} {a:Act} {φ:Nat->Option Nat} (hF:∀i,look s'.F i=look s.F i) (hH:∀i,look s'.H i=look s.H i) (h:aI S0 w0 n O s a w φ):aI S0 w0 n O s' a w φ:=by
 have hI:az s'.H φ=az s.H φ:=by funext i;unfold az;rw [hH]
 exact ⟨h.j8,h.ke,h.da,fun i x hx=>by rw [hI];exact h.cC i x (by rw [←hF];exact hx),fun i r hr=>by rw [hI];exact h.rows i r (by rw [←hH];exact hr),fun i hi=>h.only i (by rw [←hH];exact hi),h.inj,h.cY,h.apart,h.new⟩
def F6 {α:Type} (k:Nat) (y:α):List (Nat×α)->List (Nat×α)
 | []=>[]
 | p::l=>(match Nat.beq p.1 k with|true=>(k,y)::l|false=>p::F6 k y l)
theorem rX {α:Type} {k:Nat} {y:α}:∀ {F:List (Nat×α)},look F k=some y∨look F k=none-> ∀i,look (F6 k y F) i=look F i
 | [],_,_=>rfl
 | (j,z)::l,h,i=>by
  rw [aD] at h
  rw [aD]
  simp only [F6]
  rcases bI j k with ⟨hb,e⟩|⟨hb,e⟩
  ·rw [hb]
   subst e
   rw [if_pos rfl] at h
   show look ((j,y)::l) i=_
   rw [aD]
   split
   ·exact (h.resolve_right fun q=>by cases q).symm
   ·rfl
  ·rw [hb]
   rw [if_neg e] at h
   show look ((j,z)::F6 k y l) i=_
   rw [aD,rX h i]
def o9 (s:AS) (id:Nat):List AV:=match look s.H id with|some r=>r.cells|none=>[]
def EE (s2:AS):List Nat->AS->AS×List Prop
 | [],s=>(s,[])
 | k::l,s=>match EE s2 l ⟨F6 k (ka s2 k) s.F,s.H⟩ with|(s',C)=>(s',(ka s k=ka s2 k)::C)
def AZ (s2:AS):List Nat->AS->AS×List Prop
 | [],s=>(s,[])
 | k::l,s=>match look s.H k with
  | some r=>(match AZ s2 l ⟨s.F,F6 k ⟨r.e,r.pure,r.full,o9 s2 k⟩ s.H⟩ with|(s',C)=>(s',(o9 s k=o9 s2 k)::C))
  | none=>(s,[])
def Ov (l:List Wk) (fs hs:List Nat) (s s2:AS):Option (AS×List Prop):=match wk l s with
 | some s1=>(match EE s2 fs s1 with|(s3,C)=>(match AZ s2 hs s3 with|(s4,D)=>some (s4,C++D)))
 | none=>none
theorem A2 {S0:bn} {w0 w:World} {n:Nat} {a:Act} {φ:Nat->Option Nat} {s2:AS}:∀(l:List Nat) (s:AS),bx (EE s2 l s).2->aI S0 w0 n [] s a w φ->aI S0 w0 n [] (EE s2 l s).1 a w φ
 | [],_,_,h=>h
 | k::l,s,hC,h=>by
  obtain ⟨h1,h2⟩:=hC
  have h1:ka s k=ka s2 k:=h1
  have hl:look s.F k=some (ka s2 k)∨look s.F k=none:=by
   unfold ka at h1 ⊢
   cases hk:look s.F k with
   | none=>exact .inr rfl
   | some x=>rw [hk] at h1;exact .inl (congrArg some h1)
  exact A2 l _ h2 (aI.MU (fun i=>rX hl i) (fun _=>rfl) h)
theorem AY {S0:bn} {w0 w:World} {n:Nat} {a:Act} {φ:Nat->Option Nat} {s2:AS}:∀(l:List Nat) (s:AS),bx (AZ s2 l s).2->aI S0 w0 n [] s a w φ->aI S0 w0 n [] (AZ s2 l s).1 a w φ
 | [],_,_,h=>h
 | k::l,s,hC,h=>by
  unfold AZ at hC ⊢
  cases hk:look s.H k with
  | none=>rw [hk] at hC;exact h
  | some r =>
   rw [hk] at hC
   obtain ⟨h1,h2⟩:=hC
   have h1:o9 s k=o9 s2 k:=h1
   refine AY l _ h2 (aI.MU (s:=s) (fun _=>rfl) (fun i=>rX (.inl ?_) i) h)
   rw [hk,←h1]
   unfold o9
   rw [hk]
theorem bQ.Vu {s s2:AS} {C:List Prop} (l:List Wk) (fs hs:List Nat) (he:Ov l fs hs s s2=some (s2,C)) (hC:bx C):bQ s s2:=by
 unfold Ov at he
 split at he
 ·rename_i s1 h1
  have h2:=Option.some.inj he
  have e1:=congrArg (·.1) h2
  have e2:=congrArg (·.2) h2
  simp only at e1 e2
  rw [←e2] at hC
  obtain ⟨c1,c2⟩:=bO.1 hC
  intro S0 w0 n a w km
  obtain ⟨φ,h⟩:=uD l h1 S0 w0 n a w km
  have h3:=AY (s2:=s2) hs _ c2 (A2 (s2:=s2) fs _ c1 h)
  rw [e1] at h3
  exact ⟨φ,h3⟩
 ·cases he
def pH (P:Program) (s:AS) (rs:List ResultVar) (r:AV):List Nat :=
 match FY P s rs with
 | some (xs,_)=>(match (match xs with| [x]=>lM s x r|xs=>lM s (.cw xs) r) with
  | some (ids,_)=>ids
  | none=>[])
 | none=>[]
theorem FZ {P:Program} {s:AS} {rs:List ResultVar} {r:AV} {xs:List AV} {C1:List Prop} {ids:List Nat} {D:List Prop} (hg:(match xs with| [x]=>lM s x r|xs=>lM s (.cw xs) r)=some (ids,D)) (hr:FY P s rs=some (xs,C1)):pH P s rs r=ids:=by
 unfold pH
 rw [hr]
 cases xs with
 | nil =>
  have hg:lM s (.cw []) r=some (ids,D):=hg
  show (match lM s (.cw []) r with|some (ids,_)=>ids|none=>[])=ids
  rw [hg]
 | cons x t =>
  cases t with
  | nil =>
   have hg:lM s x r=some (ids,D):=hg
   show (match lM s x r with|some (ids,_)=>ids|none=>[])=ids
   rw [hg]
  | cons y t =>
   have hg:lM s (.cw (x::y::t)) r=some (ids,D):=hg
   show (match lM s (.cw (x::y::t)) r with|some (ids,_)=>ids|none=>[])=ids
   rw [hg]
section
variable {P:Program} {S0:bn} {w0 w:World} {n:Nat} {s:AS} {a:Act} {φ:Nat->Option Nat}
theorem GF (hs:aI S0 w0 n [] s a w φ) {fn:Func} {r:AV} {C:List Prop} (he:ov P s fn.results.toList r=some C) (hC:bx C) :
  ∃v,(results fn a.tmps).run P w= .ok v w∧(blocks φ (pH P s fn.results.toList r)).Nodup∧tQ (aP S0 w φ []) w v r (blocks φ (pH P s fn.results.toList r)):=by
 unfold ov at he
 split at he
 ·rename_i xs C1 hr
  split at he
  ·rename_i ids D hg
   split at he
   ·rename_i hn
    cases he
    have LC:pH P s fn.results.toList r=ids:=FZ hg hr
    obtain ⟨i3,hD⟩:=bO.1 hC
    obtain ⟨vs,bT,hl,hd⟩:=yx hs _ _ _ hr i3
    have hm:(fn.results.mapM (nT a)).run P w= .ok vs.toArray w:=by
     rw [Array.mapM_eq_mapM_toList,Sem.run_map,bT];rfl
    have I4:(results fn a.tmps).run P w= .ok (if h:vs.toArray.size=1 then vs.toArray[0] else .tuple vs.toArray) w:=by
     have he:results fn a.tmps=(do let vs ←fn.results.mapM (nT a);pure (if h:vs.size=1 then vs[0] else .tuple vs):Sem Value):=by
      unfold results
      congr 1
     rw [he,Sem.run_bind,hm]
     rfl
    rw [LC]
    refine ⟨_,I4,kx hs (gT hn),?_⟩
    split at hg
    ·rename_i x
     cases vs with
     | nil=>simp at hl
     | cons v vs =>
      have:vs= []:=by simpa using hl
      subst this
      exact qP hs (hd 0 v x rfl rfl) hg hD
    ·rename_i cS
     have dv:¬vs.toArray.size=1:=by
      intro h1
      have h2:xs.length=1:=by rw [←hl];simpa using h1
      obtain ⟨x,rfl⟩:=List.length_eq_one_iff.1 h2
      exact cS x rfl
     rw [dif_neg dv]
     exact qP hs (.cw vs xs hl hd) hg hD
   ·cases he
  ·cases he
 ·cases he
end
def EH (s:AS):List (Nat×Row)->Option (List Prop)
 | []=>some []
 | (k,q)::l=>match look s.H k,EH s l with
  | some ⟨e,p,f,cs⟩,some C=>(match Nat.beq e q.e,p == q.pure,(!q.full || f) with|true,true,true=>some ((cs=q.cells)::C)|_,_,_=>none)
  | _,_=>none
theorem A3 {s:AS}:∀ {l:List (Nat×Row)} {C:List Prop},EH s l=some C->bx C-> ∀k q,look l k=some q-> ∃q0,look s.H k=some q0∧q0.e=q.e∧q0.pure=q.pure∧(q.full=true->q0.full=true)∧q0.cells=q.cells
 | [],C,h,hC,k,q,hq=>by cases hq
 | (k',q')::l,C,h,hC,k,q,hq=>by
  simp only [EH] at h
  split at h
  ·rename_i e p f cs C1 h1 h2
   split at h
   ·rename_i he hp hf
    cases h
    rw [aD] at hq
    by_cases ek:k'=k
    ·rw [if_pos ek] at hq;injection hq with hq;subst hq;subst ek
     refine ⟨_,h1,Nat.eq_of_beq_eq_true he,by simpa using hp,fun hq=>?_,hC.1⟩
     simp only [hq,Bool.not_true,Bool.false_or] at hf
     exact hf
    ·rw [if_neg ek] at hq;exact A3 h2 hC.2 k q hq
   ·cases h
  ·cases h
def ou (P:Program) (s:AS) (rs:List ResultVar) (r:AV) (H':List (Nat×Row)):Option (List Prop) :=
 match ov P s rs r,EH (aR s (pH P s rs r++gv (H'.map (·.1)) s.H)) H' with
 | some C,some D=>some (C++D)
 | _,_=>none
def lQ (P:Program) (rs:List ResultVar) (r:AV) (H':List (Nat×Row)):Exit->AS->Prop
 | .normal,s=>∃l s2 C,wk l s=some s2∧ou P s2 rs r H'=some C∧bx C
 | .ret,s=>∃l s2 C,wk l s=some s2∧ou P s2 rs r H'=some C∧bx C
 | _,_=>False
theorem za {H:List (Nat×Row)}:∀ {k:Nat},k∈H.map (·.1)-> ∃q,look H k=some q:=by
 induction H with
 | nil=>intro k h;cases h
 | cons p H ih =>
  obtain ⟨j,x⟩:=p
  intro k h
  rw [aD]
  by_cases e:j=k
  ·exact ⟨x,by rw [if_pos e]⟩
  ·rw [if_neg e]
   simp only [List.map_cons,List.mem_cons] at h
   exact ih (h.resolve_left (Ne.symm e))
theorem gn.qA {P:Program} {f:FuncId} {fn:Func} {c:Code} {args:List AV} {H H':List (Nat×Row)} {r:AV} (hf:P.funcs[f]?=some fn) (hb:fn.body=some c) (n:Nat) (hn:fn.ntmps=n) (gZ:args.length≤n) (h:bg P n c (lQ P fn.results.toList r H') ⟨lx 0 args,H⟩):gn P f args H r H':=by
 intro w S φ vs ko SP hL hl bU
 let Z:bn:=⟨fun b=>S b∨w.heap.size≤b∨l_ φ b,fun b=>l_ φ b,fun id=>if 1000000000000≤id then φ id else none,[]⟩
 have vJ:∀b,S b->aP Z w φ [] b:=fun b hb=>⟨(hL.sep b hb).1,by simp,fun id hid=>(hL.sep b hb).2 ⟨id,hid⟩,Or.inl hb⟩
 have MO:aI Z w n [] ⟨lx 0 args,H⟩ {tmps:=vs.toArray++Array.replicate (fn.ntmps-vs.toArray.size) undef,defers:=[]} w φ:=by
  refine ⟨by simp;omega,rfl,⟨rfl,rfl,rfl,Nat.le_refl _,fun _ _ _=>rfl,ko,fun b hb ⟨id,hid⟩=>SP id b hid hb⟩,fun i av hi=>?_,fun id q hq=>?_,hL.only,hL.inj,fun id g hg=>⟨⟨?_,.inr ⟨id,hg⟩⟩,hL.lt id g hg⟩,fun _ _ _ h=>(by cases h),fun b hb=>.inr hb⟩
  ·obtain ⟨k,rfl,hk⟩:=m5 args 0 i av hi
   have iY:k<vs.length:=by have:=(List.getElem?_eq_some_iff.1 hk).1;omega
   have hv:vs[k]?=some vs[k]:=List.getElem?_eq_getElem iY
   have e:(vs.toArray++Array.replicate (fn.ntmps-vs.toArray.size) undef).getD (0+k) undef=vs[k]:=by
    rw [Nat.zero_add,Array.getD_eq_getD_getElem?,Array.getElem?_append_left (by simpa using iY)]
    simp [iY]
   simp only [e]
   exact (bU k vs[k] av hv hk).mono (fun _ _ h=>h) (fun b hb=>⟨vJ b hb,rfl⟩) (fun _ _ _ _ _=>rfl)
  ·have aQ:=hL.rows id q hq
   unfold bJ at aQ ⊢
   cases hg:φ id with
   | none=>rw [hg] at aQ;exact aQ
   | some g =>
    rw [hg] at aQ
    obtain ⟨cur,te,fr,u1,u2,u3,u4,u5⟩:=aQ
    refine ⟨cur,te,fr,u1,u2,u3,u4,fun j u x hu hx=>?_⟩
    have:=u5 j u x hu hx
    unfold bh at this ⊢
    cases hp:q.pure with
    | true=>rw [hp] at this;exact this.mono fun b hb=>⟨vJ b hb,rfl⟩
    | false=>rw [hp] at this;exact this.mono (fun _ _ h=>h) (fun b hb=>⟨vJ b hb,rfl⟩) (fun _ _ _ _ _=>rfl)
  ·rcases Nat.lt_or_ge id 1000000000000 with h|h
   ·exact .inl h
   ·right;show (if 1000000000000≤id then φ id else none)=some g;rw [if_pos h];exact hg
 refine ri hf hb (Z:=Z) rfl (fun b hb=>.inr hb) (Q:=lQ P fn.results.toList r H') (fun e s hq=>by cases e<;>first|exact .inl rfl|exact .inr rfl|exact hq.elim) (h Z w _ w ⟨φ,MO⟩) fun e s0 a' w' hq _ ⟨R7,km⟩=>?_
 have T6:∀(s':AS) (iM:Nat->Option Nat),aI Z w n [] s' a' w' iM->(∃C,ou P s' fn.results.toList r H'=some C∧bx C)-> ∃v,(results fn a'.tmps).run P w'= .ok v w'∧ ∃v' O b_,Ending.returned v= .returned v'∧Kz S w w' φ b_ O H' v' r:=by
  rintro s' iM bY ⟨C,he,hC⟩
  unfold ou at he
  split at he
  ·rename_i C1 D h1 h2
   cases he
   obtain ⟨i3,hD⟩:=bO.1 hC
   obtain ⟨v,bT,iI,r8⟩:=GF bY h1 i3
   generalize LC:pH P s' fn.results.toList r=ids at *
   obtain ⟨O',hR,WA,-,TQ,BD,-⟩:=yw (ids++gv (H'.map (·.1)) s'.H) s' iM [] bY
   have gM:=A3 h2 hD
   generalize Su:(fun id=>if id∈ids++gv (H'.map (·.1)) s'.H then none else iM id)=kq at hR
   have e2:∀id,kq id=if id∈ids++gv (H'.map (·.1)) s'.H then none else iM id:=fun id=>by rw [←Su]
   have sub:∀id g,kq id=some g->iM id=some g∧id ∉ ids:=fun id g hg=>by
    rw [e2] at hg
    split at hg
    ·cases hg
    ·rename_i gr;exact ⟨hg,fun hm=>gr (by simp [hm])⟩
   let b_:Nat->Option Nat:=fun id=>if (look H' id).isSome then kq id else none
   have e':∀id g,b_ id=some g->kq id=some g∧(look H' id).isSome:=fun id g hg=>by
    have hg:(if (look H' id).isSome then kq id else none)=some g:=hg
    split at hg
    ·rename_i h;exact ⟨hg,h⟩
    ·cases hg
   have all:∀id q,look (aR s' (ids++gv (H'.map (·.1)) s'.H)).H id=some q-> ∃q',look H' id=some q':=by
    intro id q hq
    obtain ⟨gr,q0,RG,-⟩:=BD id q hq
    refine za (Classical.byContradiction fun hm=>?_)
    rcases n0 (H'.map (·.1)) s'.H id hm with h|h
    ·rw [RG] at h;cases h
    ·exact gr (by simp [h])
   have hO:∀g,g∈blocks iM ids->g∈O':=fun g hg=>by
    obtain ⟨i,hi,NV⟩:=iD hg
    exact TQ i (by simp [hi]) g NV
   have PG:∀id g,iM id=some g->w.heap.size≤g∨l_ φ g:=fun id g hg=>(bY.cY id g hg).1.2
   have QV:∀b,aP Z w' kq O' b->FI S w w' φ b_ (blocks iM ids) b:=by
    intro b ⟨f1,f2,f3,f4⟩
    refine ⟨?_,fun hm=>f2 (hO b hm),fun ⟨id,hid⟩=>f3 id (e' id b hid).1⟩
    rcases f4 with h|h|h
    ·exact .inl h
    ·exact .inr ⟨.inl h,f1⟩
    ·exact .inr ⟨.inr h,f1⟩
   refine ⟨v,bT,v,blocks iM ids,b_,rfl,⟨bY.da.os,bY.da.tape,bY.da.output,bY.da.size,fun b hb hx=>bY.da.block b hb hx,iI,fun g hg=>?_,fun id g hg=>PG id g (sub id g (e' id g hg).1).1,fun id g vI hg=>?_,⟨fun b hb=>⟨?_,hb.2.2⟩,fun id hid=>?_,fun id pe g hg jq=>?_,fun id g hg=>?_,fun id q hq=>?_⟩,r8.mono fun b hb=>?_⟩⟩
   ·obtain ⟨i,hi,NV⟩:=iD hg
    refine ⟨PG i g NV,(bY.cY i g NV).2,fun ⟨id,hid⟩=>?_⟩
    obtain ⟨s1,s2⟩:=sub id g (e' id g hid).1
    exact s2 (bY.inj id i g s1 NV ▸ hi)
   ·rcases (bY.cY id g (sub id g (e' id g hg).1).1).1.1 with h|h
    ·omega
    ·have h:(if 1000000000000≤id then φ id else none)=some g:=h
     rw [if_pos vI] at h;exact h
   ·rcases hb.1 with h|h
    ·exact Nat.lt_of_lt_of_le (hL.sep b h).1 bY.da.size
    ·exact h.2
   ·show (if (look H' id).isSome then kq id else none)=none
    rw [hid];rfl
   ·exact bY.inj id pe g (sub id g (e' id g hg).1).1 (sub pe g (e' pe g jq).1).1
   ·exact (bY.cY id g (sub id g (e' id g hg).1).1).2
   ·obtain ⟨q0,u1,u2,u3,u4,u5⟩:=gM id q hq
    have aQ:=hR.rows id q0 u1
    have e:b_ id=kq id:=by
     show (if (look H' id).isSome then kq id else none)=kq id
     rw [hq];rfl
    rw [e]
    have hI:∀i x,az (aR s' (ids++gv (H'.map (·.1)) s'.H)).H kq i=some x->az H' b_ i=some x:=by
     intro i x hx
     obtain ⟨ee,m,b⟩:=x
     obtain ⟨p,hp,h3,h4,h5⟩:=aS hx
     obtain ⟨p',E_⟩:=all i p hp
     obtain ⟨p0,v1,v2,-,-,v5⟩:=gM i p' E_
     rw [hp] at v1;injection v1 with v1;subst v1
     rw [bt E_,←v2,←v5,h3,h4]
     have:b_ i=kq i:=by
      show (if (look H' i).isSome then kq i else none)=kq i
      rw [E_];rfl
     rw [this,h5]
    unfold bJ at aQ ⊢
    cases hg:kq id with
    | none=>rw [hg] at aQ;exact u5 ▸ aQ
    | some g =>
     rw [hg] at aQ
     obtain ⟨cur,te,fr,v1,v2,v3,v4,v5⟩:=aQ
     refine ⟨cur,te,fr,v1,v2,by rw [←u5];exact v3,fun nr=>by rw [←u5];exact v4 (u4 nr),fun j u x hu hx=>?_⟩
     have:=v5 j u x hu (by rw [u5];exact hx)
     unfold bh at this ⊢
     rw [u3] at this
     cases hp:q.pure with
     | true=>rw [hp] at this;exact this.mono fun b hb=>⟨QV b hb,rfl⟩
     | false=>rw [hp] at this;exact this.mono hI (fun b hb=>⟨QV b hb,rfl⟩) (fun _ _ _ _ _=>rfl)
   ·refine ⟨?_,fun hm=>?_,fun ⟨id,hid⟩=>hb.2.2.1 id (sub id b (e' id b hid).1).1⟩
    ·rcases hb.2.2.2 with h|h|h
     ·exact .inl h
     ·exact .inr ⟨.inl h,hb.1⟩
     ·exact .inr ⟨.inr h,hb.1⟩
    ·obtain ⟨i,-,NV⟩:=iD hm
     exact hb.2.2.1 i NV
  ·cases he
 have fin:(∃l s2 C,wk l s0=some s2∧ou P s2 fn.results.toList r H'=some C∧bx C)-> ∃v,(results fn a'.tmps).run P w'= .ok v w'∧ ∃v' O b_,Ending.returned v= .returned v'∧Kz S w w' φ b_ O H' v' r:=by
  rintro ⟨l,s2,C,hw,he,hC⟩
  obtain ⟨kq,h2⟩:=uD l hw Z w n a' w' ⟨R7,km⟩
  exact T6 s2 kq h2 ⟨C,he,hC⟩
 cases e with
 | normal=>exact fin hq
 | ret=>exact fin hq
 | _=>exact hq.elim
theorem gn.Im {P:Program} {f:FuncId} {fn:Func} {args:List AV} {H H':List (Nat×Row)} {r:AV} (hf:P.funcs[f]?=some fn) (hb:fn.body.isSome=true) (n:Nat) (hn:fn.ntmps=n) (gZ:Nat.ble args.length n=true) (h:bg P n (dE fn) (lQ P fn.results.toList r H') ⟨lx 0 args,H⟩):gn P f args H r H':=by
 cases vN:fn.body with
 | none=>rw [vN] at hb;cases hb
 | some c =>
  have e:dE fn=c:=by unfold dE;rw [vN]
  rw [e] at h
  exact gn.qA hf vN n hn (Nat.le_of_ble_eq_true gZ) h
theorem lQ.K6 {P:Program} {rs:List ResultVar} {r:AV} {H':List (Nat×Row)} {s s2:AS} {C:List Prop} (l:List Wk) (hw:wk l s=some s2) (he:ou P s2 rs r H'=some C) (hC:bx C):lQ P rs r H' .ret s:=⟨l,s2,C,hw,he,hC⟩
theorem lQ.tX {P:Program} {rs:List ResultVar} {r:AV} {H':List (Nat×Row)} {s s2:AS} {C:List Prop} (l:List Wk) (hw:wk l s=some s2) (he:ou P s2 rs r H'=some C) (hC:bx C):lQ P rs r H' .normal s:=⟨l,s2,C,hw,he,hC⟩
end Go.Proofs.YtjgbhhnghedgdaaGreatDoor
