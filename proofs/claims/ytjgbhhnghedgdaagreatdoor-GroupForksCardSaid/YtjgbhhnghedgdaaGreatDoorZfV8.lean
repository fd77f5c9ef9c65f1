import Derived.Test.YtjgbhhnghedgdaaGreatDoorZfRC
import Derived.Test.YtjgbhhnghedgdaaGreatDoorProg
import Derived.Shelf.Unicode.ValidAny
set_option linter.all false
namespace Go.Proofs.YtjgbhhnghedgdaaGreatDoor
open Go.RowKit
open Go.RowKit Go.Shelf Go.Lib
theorem VM {S:Nat->Prop} {w:World} {v u:Value} (h:cz S w v (.val u)):v=u:=by cases h;rfl
def Qv:Ren:=⟨fun|196=>86|259=>134|n=>n,fun|9=>9|4=>4|3=>3|5=>5|12=>12|119=>178|0=>0|46=>66|139=>181|138=>180|53=>22|n=>n,fun|3=>0|4=>1|n=>n⟩
theorem Ib:Lays.n196 Tryz.prog Qv:={
 mixed:=by kernel_rfl
 f196:=Tryz.func86.trans (congrArg some (by kernel_rfl))
 f259:=Tryz.func134.trans (congrArg some (by kernel_rfl))
 t0:=Tryz.underlying0
 a0:=Tryz.isAgg0
 z0:=Tryz.sizeOf0
 v0:=Tryz.zeroValue0
 t3:=Tryz.underlying3
 a3:=Tryz.isAgg3
 z3:=Tryz.sizeOf3
 v3:=Tryz.zeroValue3
 t4:=Tryz.underlying4
 a4:=Tryz.isAgg4
 z4:=Tryz.sizeOf4
 v4:=Tryz.zeroValue4
 t5:=Tryz.underlying5
 a5:=Tryz.isAgg5
 z5:=Tryz.sizeOf5
 v5:=Tryz.zeroValue5
 t9:=Tryz.underlying9
 a9:=Tryz.isAgg9
 z9:=Tryz.sizeOf9
 v9:=Tryz.zeroValue9
 t12:=Tryz.underlying12
 a12:=Tryz.isAgg12
 z12:=Tryz.sizeOf12
 v12:=Tryz.zeroValue12
 t46:=Tryz.underlying66
 a46:=Tryz.isAgg66
 z46:=Tryz.sizeOf66
 v46:=Tryz.zeroValue66
 t53:=Tryz.underlying22
 a53:=Tryz.isAgg22
 z53:=Tryz.sizeOf22
 v53:=Tryz.zeroValue22
 t119:=Tryz.underlying178
 a119:=Tryz.isAgg178
 z119:=Tryz.sizeOf178
 t138:=Tryz.underlying180
 a138:=Tryz.isAgg180
 z138:=Tryz.sizeOf180
 v138:=Tryz.zeroValue180
 t139:=Tryz.underlying181
 a139:=Tryz.isAgg181
 z139:=Tryz.sizeOf181
 v139:=Tryz.zeroValue181
 g3:=by kernel_rfl
 g4:=by kernel_rfl}
theorem kC (s:List UInt8) (hs:s.length≤9223372036854775807):bA Tryz.prog 86 [di s] (ao (Lib.validD s)):=by
 intro w S vs km hS hl hr
 obtain ⟨v,rfl⟩:=List.length_eq_one_iff.1 hl
 have e:=VM (hr 0 v _ rfl rfl)
 subst e
 refine (Any.utf8_ValidString Ib ⟨s.toArray⟩ w (by simpa [ByteArray.size] using hs) km).mono fun e w' ⟨he,hb⟩=>?_
 exact ⟨_,[],he,hb,List.nodup_nil,by simp,.inl (.inl (.rep (.val _)))⟩
theorem MY (x y:UInt64):AV.val (.int .u64 ((wv x).tmod (wv y)))=aw (x%y):=by
 have e:(wv x).tmod (wv y)=wv (x%y):=by
  unfold wv;rw [UInt64.toNat_mod,Int.tmod_eq_emod_of_nonneg ag];rfl
 rw [e]
abbrev dY:AV:=.val (.int .u64 0)
def oP (P:Program) (n:Nat) (l:List qd) (wl:List Wk) (c:Code) (s:AS):Option (AS×List Prop) :=
 match lg P n l c s with
 | some (s1,C)=>(match wk wl s1 with|some s2=>some (s2,C)|none=>none)
 | none=>none
theorem bf.pe {P:Program} {n:Nat} {c:Code} {Q:Exit->AS->Prop} {s s':AS} {C:List Prop} (k:Nat) (l:List qd) (wl:List Wk) (hk:Nat.beq l.length k=true) (he:oP P n l wl c s=some (s',C)) (hC:bw C) (h:bf P n (q8 k c) Q s'):bf P n c Q s:=by
 unfold oP at he
 split at he
 ·rename_i s1 C1 h1
  split at he
  ·rename_i s2 h2
   cases he
   exact bf.nQ k l hk h1 hC (bf.wk wl h2 h)
  ·cases he
 ·cases he
def qs (r:Option (AS×List Prop)):AS:=match r with|some (s',_)=>s'|none=>⟨[],[]⟩
def pI (r:Option (AS×List Prop)):Option (List Prop):=match r with|some (_,C)=>some C|none=>none
theorem i_ {r:Option (AS×List Prop)} {C:List Prop} (h:pI r=some C):r=some (qs r,C):=by
 unfold pI at h
 split at h
 ·cases h;rfl
 ·cases h
def R9 (l:List Wk) (s:AS):AS:=match wk l s with|some s'=>s'|none=>⟨[],[]⟩
def R_ (l:List Wk) (s:AS):Bool:=(wk l s).isSome
theorem E3 {l:List Wk} {s:AS} (h:R_ l s=true):wk l s=some (R9 l s):=by
 unfold R_ at h
 unfold R9
 cases hw:wk l s with
 | some _=>rfl
 | none=>rw [hw] at h;cases h
section
variable {P:Program} {n:Nat} {c:Code} {Q:Exit->AS->Prop} {s:AS} {C:List Prop}
theorem bf.tD (l:List Wk) (he:R_ l s=true) (h:bf P n c Q (R9 l s)):bf P n c Q s:=bf.wk l (E3 he) h
theorem bf.IJ (k:Nat) (l:List qd) (hk:Nat.beq l.length k=true) (he:pI (lg P n l c s)=some C) (hC:bw C) (h:bf P n (q8 k c) Q (qs (lg P n l c s))):bf P n c Q s:=bf.nQ k l hk (i_ he) hC h
theorem bf.uY (k:Nat) (l:List qd) (wl:List Wk) (hk:Nat.beq l.length k=true) (he:pI (oP P n l wl c s)=some C) (hC:bw C) (h:bf P n (q8 k c) Q (qs (oP P n l wl c s))):bf P n c Q s:=bf.pe k l wl hk (i_ he) hC h
theorem bf.SP (x:qd) (he:pI (tq P n c x s)=some C) (hC:bw C) (h:Q .normal (qs (tq P n c x s))):bf P n c Q s:=bf.QD x (i_ he) hC h
end
theorem bO.VP {s s2:AS} (l:List Wk) (he:wk l s=some s2):bO s s2:=bO.of l he rfl
theorem aJ.NH {S0:bo} {w0 w:World} {n:Nat} {O:List Nat} {s s':AS} {a:Act} {φ:Nat->Option Nat} (hF:∀i,look s'.F i=look s.F i) (hH:∀i,look s'.H i=look s.H i) (h:aJ S0 w0 n O s a w φ):aJ S0 w0 n O s' a w φ:=by
 have hI:az s'.H φ=az s.H φ:=by funext i;unfold az;rw [hH]
 exact ⟨h.j7,h.j_,h.cX,fun i x hx=>by rw [hI];exact h.cA i x (by rw [←hF];exact hx),fun i r hr=>by rw [hI];exact h.rows i r (by rw [←hH];exact hr),fun i hi=>h.only i (by rw [←hH];exact hi),h.inj,h.cW,h.apart,h.new⟩
def GH {α:Type} (k:Nat) (y:α):List (Nat×α)->List (Nat×α)
 | []=>[]
 | p::l=>(match Nat.beq p.1 k with|true=>(k,y)::l|false=>p::GH k y l)
theorem r8 {α:Type} {k:Nat} {y:α}:∀ {F:List (Nat×α)},look F k=some y∨look F k=none-> ∀i,look (GH k y F) i=look F i
 | [],_,_=>rfl
 | (j,z)::l,h,i=>by
  rw [aD] at h
  rw [aD]
  simp only [GH]
  rcases bE j k with ⟨hb,e⟩|⟨hb,e⟩
  ·rw [hb]
   subst e
   rw [if_pos rfl] at h
   show look ((j,y)::l) i=_
   rw [aD]
   split
   ·exact (h.resolve_right fun q=>by cases q).symm
   ·rfl
  ·rw [hb]
   rw [if_neg e] at h
   show look ((j,z)::GH k y l) i=_
   rw [aD,r8 h i]
def oW (s:AS) (id:Nat):List AV:=match look s.H id with|some r=>r.cells|none=>[]
def Fi (s2:AS):List Nat->AS->AS×List Prop
 | [],s=>(s,[])
 | k::l,s=>match Fi s2 l ⟨GH k (j9 s2 k) s.F,s.H⟩ with|(s',C)=>(s',(j9 s k=j9 s2 k)::C)
def Be (s2:AS):List Nat->AS->AS×List Prop
 | [],s=>(s,[])
 | k::l,s=>match look s.H k with
  | some r=>(match Be s2 l ⟨s.F,GH k ⟨r.e,r.pure,r.full,oW s2 k⟩ s.H⟩ with|(s',C)=>(s',(oW s k=oW s2 k)::C))
  | none=>(s,[])
def Pl (l:List Wk) (fs hs:List Nat) (s s2:AS):Option (AS×List Prop):=match wk l s with
 | some s1=>(match Fi s2 fs s1 with|(s3,C)=>(match Be s2 hs s3 with|(s4,D)=>some (s4,C++D)))
 | none=>none
theorem Bf {S0:bo} {w0 w:World} {n:Nat} {a:Act} {φ:Nat->Option Nat} {s2:AS}:∀(l:List Nat) (s:AS),bw (Fi s2 l s).2->aJ S0 w0 n [] s a w φ->aJ S0 w0 n [] (Fi s2 l s).1 a w φ
 | [],_,_,h=>h
 | k::l,s,hC,h=>by
  obtain ⟨h1,h2⟩:=hC
  have h1:j9 s k=j9 s2 k:=h1
  have hl:look s.F k=some (j9 s2 k)∨look s.F k=none:=by
   unfold j9 at h1 ⊢
   cases hk:look s.F k with
   | none=>exact .inr rfl
   | some x=>rw [hk] at h1;exact .inl (congrArg some h1)
  exact Bf l _ h2 (aJ.NH (fun i=>r8 hl i) (fun _=>rfl) h)
theorem Bd {S0:bo} {w0 w:World} {n:Nat} {a:Act} {φ:Nat->Option Nat} {s2:AS}:∀(l:List Nat) (s:AS),bw (Be s2 l s).2->aJ S0 w0 n [] s a w φ->aJ S0 w0 n [] (Be s2 l s).1 a w φ
 | [],_,_,h=>h
 | k::l,s,hC,h=>by
  unfold Be at hC ⊢
  cases hk:look s.H k with
  | none=>rw [hk] at hC;exact h
  | some r =>
   rw [hk] at hC
   obtain ⟨h1,h2⟩:=hC
   have h1:oW s k=oW s2 k:=h1
   refine Bd l _ h2 (aJ.NH (s:=s) (fun _=>rfl) (fun i=>r8 (.inl ?_) i) h)
   rw [hk,←h1]
   unfold oW
   rw [hk]
theorem bO.VQ {s s2:AS} {C:List Prop} (l:List Wk) (fs hs:List Nat) (he:Pl l fs hs s s2=some (s2,C)) (hC:bw C):bO s s2:=by
 unfold Pl at he
 split at he
 ·rename_i s1 h1
  have h2:=Option.some.inj he
  have e1:=congrArg (·.1) h2
  have e2:=congrArg (·.2) h2
  simp only at e1 e2
  rw [←e2] at hC
  obtain ⟨c1,c2⟩:=bN.1 hC
  intro S0 w0 n a w l9
  obtain ⟨φ,h⟩:=xn l h1 S0 w0 n a w l9
  have h3:=Bd (s2:=s2) hs _ c2 (Bf (s2:=s2) fs _ c1 h)
  rw [e1] at h3
  exact ⟨φ,h3⟩
 ·cases he
end Go.Proofs.YtjgbhhnghedgdaaGreatDoor
