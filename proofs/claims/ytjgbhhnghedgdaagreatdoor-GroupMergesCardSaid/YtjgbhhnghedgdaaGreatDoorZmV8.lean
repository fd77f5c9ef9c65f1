import Derived.Test.YtjgbhhnghedgdaaGreatDoorZmRC
import Derived.Test.YtjgbhhnghedgdaaGreatDoorProg
import Derived.Shelf.Unicode.ValidAny
set_option linter.all false
namespace Go.Proofs.YtjgbhhnghedgdaaGreatDoor
open Go.RowKit
open Go.RowKit Go.Shelf Go.Lib
theorem UD {S:Nat->Prop} {w:World} {v u:Value} (h:cB S w v (.val u)):v=u:=by cases h;rfl
def Ph:Ren:=⟨fun|196=>86|259=>134|n=>n,fun|9=>9|4=>4|3=>3|5=>5|12=>12|119=>178|0=>0|46=>66|139=>181|138=>180|53=>22|n=>n,fun|3=>0|4=>1|n=>n⟩
theorem Hr:Lays.n196 Tryz.prog Ph:={
 mixed:=by kernel_rfl
 f196:=Tryz.func86.trans (congrArg some (by kernel_rfl))
 f259:=Tryz.func134.trans (congrArg some (by kernel_rfl))
 t0:=Tryz.underlying0
 a0:=Tryz.isAgg0
 z0:=Tryz.sizeOf0
 v0:=Tryz.zeroValue0
 t3:=Tryz.underlying3
 a3:=Tryz.isAgg3
 z3:=Tryz.sizeOf3
 v3:=Tryz.zeroValue3
 t4:=Tryz.underlying4
 a4:=Tryz.isAgg4
 z4:=Tryz.sizeOf4
 v4:=Tryz.zeroValue4
 t5:=Tryz.underlying5
 a5:=Tryz.isAgg5
 z5:=Tryz.sizeOf5
 v5:=Tryz.zeroValue5
 t9:=Tryz.underlying9
 a9:=Tryz.isAgg9
 z9:=Tryz.sizeOf9
 v9:=Tryz.zeroValue9
 t12:=Tryz.underlying12
 a12:=Tryz.isAgg12
 z12:=Tryz.sizeOf12
 v12:=Tryz.zeroValue12
 t46:=Tryz.underlying66
 a46:=Tryz.isAgg66
 z46:=Tryz.sizeOf66
 v46:=Tryz.zeroValue66
 t53:=Tryz.underlying22
 a53:=Tryz.isAgg22
 z53:=Tryz.sizeOf22
 v53:=Tryz.zeroValue22
 t119:=Tryz.underlying178
 a119:=Tryz.isAgg178
 z119:=Tryz.sizeOf178
 t138:=Tryz.underlying180
 a138:=Tryz.isAgg180
 z138:=Tryz.sizeOf180
 v138:=Tryz.zeroValue180
 t139:=Tryz.underlying181
 a139:=Tryz.isAgg181
 z139:=Tryz.sizeOf181
 v139:=Tryz.zeroValue181
 g3:=by kernel_rfl
 g4:=by kernel_rfl}
theorem kp (s:List UInt8) (hs:s.length≤9223372036854775807):bC Tryz.prog 86 [cQ s] (ao (Lib.validD s)):=by
 intro w S vs j7 hS hl hr
 obtain ⟨v,rfl⟩:=List.length_eq_one_iff.1 hl
 have e:=UD (hr 0 v _ rfl rfl)
 subst e
 refine (Any.utf8_ValidString Hr ⟨s.toArray⟩ w (by simpa [ByteArray.size] using hs) j7).mono fun e w' ⟨he,hb⟩=>?_
 exact ⟨_,[],he,hb,List.nodup_nil,by simp,.inl (.inl (.rep (.val _)))⟩
theorem L3 (x y:UInt64):AV.val (.int .u64 ((wv x).tmod (wv y)))=aw (x%y):=by
 have e:(wv x).tmod (wv y)=wv (x%y):=by
  unfold wv;rw [UInt64.toNat_mod,Int.tmod_eq_emod_of_nonneg ah];rfl
 rw [e]
abbrev cN:AV:=.val (.int .u64 0)
def ot (P:Program) (n:Nat) (l:List pP) (wl:List Wk) (c:Code) (s:AS):Option (AS×List Prop) :=
 match kT P n l c s with
 | some (s1,C)=>(match wk wl s1 with|some s2=>some (s2,C)|none=>none)
 | none=>none
theorem bf.jZ {P:Program} {n:Nat} {c:Code} {Q:Exit->AS->Prop} {s s':AS} {C:List Prop} (k:Nat) (l:List pP) (wl:List Wk) (hk:Nat.beq l.length k=true) (he:ot P n l wl c s=some (s',C)) (hC:bz C) (h:bf P n (qD k c) Q s'):bf P n c Q s:=by
 unfold ot at he
 split at he
 ·rename_i s1 C1 h1
  split at he
  ·rename_i s2 h2
   cases he
   exact bf.jJ k l hk h1 hC (bf.wk wl h2 h)
  ·cases he
 ·cases he
def pZ (r:Option (AS×List Prop)):AS:=match r with|some (s',_)=>s'|none=>⟨[],[]⟩
def pd (r:Option (AS×List Prop)):Option (List Prop):=match r with|some (_,C)=>some C|none=>none
theorem iS {r:Option (AS×List Prop)} {C:List Prop} (h:pd r=some C):r=some (pZ r,C):=by
 unfold pd at h
 split at h
 ·cases h;rfl
 ·cases h
def QV (l:List Wk) (s:AS):AS:=match wk l s with|some s'=>s'|none=>⟨[],[]⟩
def QW (l:List Wk) (s:AS):Bool:=(wk l s).isSome
theorem Ej {l:List Wk} {s:AS} (h:QW l s=true):wk l s=some (QV l s):=by
 unfold QW at h
 unfold QV
 cases hw:wk l s with
 | some _=>rfl
 | none=>rw [hw] at h;cases h
section
variable {P:Program} {n:Nat} {c:Code} {Q:Exit->AS->Prop} {s:AS} {C:List Prop}
theorem bf.r9 (l:List Wk) (he:QW l s=true) (h:bf P n c Q (QV l s)):bf P n c Q s:=bf.wk l (Ej he) h
theorem bf.HS (k:Nat) (l:List pP) (hk:Nat.beq l.length k=true) (he:pd (kT P n l c s)=some C) (hC:bz C) (h:bf P n (qD k c) Q (pZ (kT P n l c s))):bf P n c Q s:=bf.jJ k l hk (iS he) hC h
theorem bf.ue (k:Nat) (l:List pP) (wl:List Wk) (hk:Nat.beq l.length k=true) (he:pd (ot P n l wl c s)=some C) (hC:bz C) (h:bf P n (qD k c) Q (pZ (ot P n l wl c s))):bf P n c Q s:=bf.jZ k l wl hk (iS he) hC h
theorem bf.RB (x:pP) (he:pd (sD P n c x s)=some C) (hC:bz C) (h:Q .normal (pZ (sD P n c x s))):bf P n c Q s:=bf.OG x (iS he) hC h
end
theorem bU.UG {s s2:AS} (l:List Wk) (he:wk l s=some s2):bU s s2:=bU.of l he rfl
theorem aO.ME {S0:bn} {w0 w:World} {n:Nat} {O:List Nat} {s s':AS} {a:Act} {φ:Nat->Option Nat} (hF:∀i,look s'.F i=look s.F i) (hH:∀i,look s'.H i=look s.H i) (h:aO S0 w0 n O s a w φ):aO S0 w0 n O s' a w φ:=by
 have hI:az s'.H φ=az s.H φ:=by funext i;unfold az;rw [hH]
 exact ⟨h.jS,h.jV,h.cZ,fun i x hx=>by rw [hI];exact h.cC i x (by rw [←hF];exact hx),fun i r hr=>by rw [hI];exact h.rows i r (by rw [←hH];exact hr),fun i hi=>h.only i (by rw [←hH];exact hi),h.inj,h.cY,h.apart,h.new⟩
def FP {α:Type} (k:Nat) (y:α):List (Nat×α)->List (Nat×α)
 | []=>[]
 | p::l=>(match Nat.beq p.1 k with|true=>(k,y)::l|false=>p::FP k y l)
theorem ry {α:Type} {k:Nat} {y:α}:∀ {F:List (Nat×α)},look F k=some y∨look F k=none-> ∀i,look (FP k y F) i=look F i
 | [],_,_=>rfl
 | (j,z)::l,h,i=>by
  rw [aF] at h
  rw [aF]
  simp only [FP]
  rcases bK j k with ⟨hb,e⟩|⟨hb,e⟩
  ·rw [hb]
   subst e
   rw [if_pos rfl] at h
   show look ((j,y)::l) i=_
   rw [aF]
   split
   ·exact (h.resolve_right fun q=>by cases q).symm
   ·rfl
  ·rw [hb]
   rw [if_neg e] at h
   show look ((j,z)::FP k y l) i=_
   rw [aF,ry h i]
def oA (s:AS) (id:Nat):List AV:=match look s.H id with|some r=>r.cells|none=>[]
def Ex (s2:AS):List Nat->AS->AS×List Prop
 | [],s=>(s,[])
 | k::l,s=>match Ex s2 l ⟨FP k (jU s2 k) s.F,s.H⟩ with|(s',C)=>(s',(jU s k=jU s2 k)::C)
def Ay (s2:AS):List Nat->AS->AS×List Prop
 | [],s=>(s,[])
 | k::l,s=>match look s.H k with
  | some r=>(match Ay s2 l ⟨s.F,FP k ⟨r.e,r.pure,r.full,oA s2 k⟩ s.H⟩ with|(s',C)=>(s',(oA s k=oA s2 k)::C))
  | none=>(s,[])
def N8 (l:List Wk) (fs hs:List Nat) (s s2:AS):Option (AS×List Prop):=match wk l s with
 | some s1=>(match Ex s2 fs s1 with|(s3,C)=>(match Ay s2 hs s3 with|(s4,D)=>some (s4,C++D)))
 | none=>none
theorem Az {S0:bn} {w0 w:World} {n:Nat} {a:Act} {φ:Nat->Option Nat} {s2:AS}:∀(l:List Nat) (s:AS),bz (Ex s2 l s).2->aO S0 w0 n [] s a w φ->aO S0 w0 n [] (Ex s2 l s).1 a w φ
 | [],_,_,h=>h
 | k::l,s,hC,h=>by
  obtain ⟨h1,h2⟩:=hC
  have h1:jU s k=jU s2 k:=h1
  have hl:look s.F k=some (jU s2 k)∨look s.F k=none:=by
   unfold jU at h1 ⊢
   cases hk:look s.F k with
   | none=>exact .inr rfl
   | some x=>rw [hk] at h1;exact .inl (congrArg some h1)
  exact Az l _ h2 (aO.ME (fun i=>ry hl i) (fun _=>rfl) h)
theorem Ax {S0:bn} {w0 w:World} {n:Nat} {a:Act} {φ:Nat->Option Nat} {s2:AS}:∀(l:List Nat) (s:AS),bz (Ay s2 l s).2->aO S0 w0 n [] s a w φ->aO S0 w0 n [] (Ay s2 l s).1 a w φ
 | [],_,_,h=>h
 | k::l,s,hC,h=>by
  unfold Ay at hC ⊢
  cases hk:look s.H k with
  | none=>rw [hk] at hC;exact h
  | some r =>
   rw [hk] at hC
   obtain ⟨h1,h2⟩:=hC
   have h1:oA s k=oA s2 k:=h1
   refine Ax l _ h2 (aO.ME (s:=s) (fun _=>rfl) (fun i=>ry (.inl ?_) i) h)
   rw [hk,←h1]
   unfold oA
   rw [hk]
theorem bU.UH {s s2:AS} {C:List Prop} (l:List Wk) (fs hs:List Nat) (he:N8 l fs hs s s2=some (s2,C)) (hC:bz C):bU s s2:=by
 unfold N8 at he
 split at he
 ·rename_i s1 h1
  have h2:=Option.some.inj he
  have e1:=congrArg (·.1) h2
  have e2:=congrArg (·.2) h2
  simp only at e1 e2
  rw [←e2] at hC
  obtain ⟨c1,c2⟩:=bT.1 hC
  intro S0 w0 n a w lP
  obtain ⟨φ,h⟩:=wB l h1 S0 w0 n a w lP
  have h3:=Ax (s2:=s2) hs _ c2 (Az (s2:=s2) fs _ c1 h)
  rw [e1] at h3
  exact ⟨φ,h3⟩
 ·cases he
end Go.Proofs.YtjgbhhnghedgdaaGreatDoor
