import Derived.Test.YtjgbhhnghedgdaaGreatDoorZaRC
import Derived.Test.YtjgbhhnghedgdaaGreatDoorProg
import Derived.Shelf.Unicode.ValidAny
set_option linter.all false
namespace Go.Proofs.YtjgbhhnghedgdaaGreatDoor
open Go.RowKit
open Go.RowKit Go.Shelf Go.Lib
theorem Ue {S:Nat->Prop} {w:World} {v u:Value} (h:cz S w v (.val u)):v=u:=by cases h;rfl
def OT:Ren:=⟨fun|196=>86|259=>134|n=>n,fun|9=>9|4=>4|3=>3|5=>5|12=>12|119=>178|0=>0|46=>66|139=>181|138=>180|53=>22|n=>n,fun|3=>0|4=>1|n=>n⟩
theorem GV:Lays.n196 Tryz.prog OT:={
 mixed:=by kernel_rfl
 f196:=Tryz.func86.trans (congrArg some (by kernel_rfl))
 f259:=Tryz.func134.trans (congrArg some (by kernel_rfl))
 t0:=Tryz.underlying0
 a0:=Tryz.isAgg0
 z0:=Tryz.sizeOf0
 v0:=Tryz.zeroValue0
 t3:=Tryz.underlying3
 a3:=Tryz.isAgg3
 z3:=Tryz.sizeOf3
 v3:=Tryz.zeroValue3
 t4:=Tryz.underlying4
 a4:=Tryz.isAgg4
 z4:=Tryz.sizeOf4
 v4:=Tryz.zeroValue4
 t5:=Tryz.underlying5
 a5:=Tryz.isAgg5
 z5:=Tryz.sizeOf5
 v5:=Tryz.zeroValue5
 t9:=Tryz.underlying9
 a9:=Tryz.isAgg9
 z9:=Tryz.sizeOf9
 v9:=Tryz.zeroValue9
 t12:=Tryz.underlying12
 a12:=Tryz.isAgg12
 z12:=Tryz.sizeOf12
 v12:=Tryz.zeroValue12
 t46:=Tryz.underlying66
 a46:=Tryz.isAgg66
 z46:=Tryz.sizeOf66
 v46:=Tryz.zeroValue66
 t53:=Tryz.underlying22
 a53:=Tryz.isAgg22
 z53:=Tryz.sizeOf22
 v53:=Tryz.zeroValue22
 t119:=Tryz.underlying178
 a119:=Tryz.isAgg178
 z119:=Tryz.sizeOf178
 t138:=Tryz.underlying180
 a138:=Tryz.isAgg180
 z138:=Tryz.sizeOf180
 v138:=Tryz.zeroValue180
 t139:=Tryz.underlying181
 a139:=Tryz.isAgg181
 z139:=Tryz.sizeOf181
 v139:=Tryz.zeroValue181
 g3:=by kernel_rfl
 g4:=by kernel_rfl}
theorem kj (s:List UInt8) (hs:s.length≤9223372036854775807):bK Tryz.prog 86 [db s] (ao (Lib.validD s)):=by
 intro w S vs jZ hS hl hr
 obtain ⟨v,rfl⟩:=List.length_eq_one_iff.1 hl
 have e:=Ue (hr 0 v _ rfl rfl)
 subst e
 refine (Any.utf8_ValidString GV ⟨s.toArray⟩ w (by simpa [ByteArray.size] using hs) jZ).mono fun e w' ⟨he,hb⟩=>?_
 exact ⟨_,[],he,hb,List.nodup_nil,by simp,.inl (.inl (.rep (.val _)))⟩
theorem LD (x y:UInt64):AV.val (.int .u64 ((wv x).tmod (wv y)))=aw (x%y):=by
 have e:(wv x).tmod (wv y)=wv (x%y):=by
  unfold wv;rw [UInt64.toNat_mod,Int.tmod_eq_emod_of_nonneg ah];rfl
 rw [e]
abbrev cO:AV:=.val (.int .u64 0)
def ob (P:Program) (n:Nat) (l:List pB) (wl:List Wk) (c:Code) (s:AS):Option (AS×List Prop) :=
 match kP P n l c s with
 | some (s1,C)=>(match wk wl s1 with|some s2=>some (s2,C)|none=>none)
 | none=>none
theorem bf.jW {P:Program} {n:Nat} {c:Code} {Q:Exit->AS->Prop} {s s':AS} {C:List Prop} (k:Nat) (l:List pB) (wl:List Wk) (hk:Nat.beq l.length k=true) (he:ob P n l wl c s=some (s',C)) (hC:bx C) (h:bf P n (qn k c) Q s'):bf P n c Q s:=by
 unfold ob at he
 split at he
 ·rename_i s1 C1 h1
  split at he
  ·rename_i s2 h2
   cases he
   exact bf.i9 k l hk h1 hC (bf.wk wl h2 h)
  ·cases he
 ·cases he
def pN (r:Option (AS×List Prop)):AS:=match r with|some (s',_)=>s'|none=>⟨[],[]⟩
def oY (r:Option (AS×List Prop)):Option (List Prop):=match r with|some (_,C)=>some C|none=>none
theorem iR {r:Option (AS×List Prop)} {C:List Prop} (h:oY r=some C):r=some (pN r,C):=by
 unfold oY at h
 split at h
 ·cases h;rfl
 ·cases h
def QA (l:List Wk) (s:AS):AS:=match wk l s with|some s'=>s'|none=>⟨[],[]⟩
def QB (l:List Wk) (s:AS):Bool:=(wk l s).isSome
theorem DM {l:List Wk} {s:AS} (h:QB l s=true):wk l s=some (QA l s):=by
 unfold QB at h
 unfold QA
 cases hw:wk l s with
 | some _=>rfl
 | none=>rw [hw] at h;cases h
section
variable {P:Program} {n:Nat} {c:Code} {Q:Exit->AS->Prop} {s:AS} {C:List Prop}
theorem bf.sv (l:List Wk) (he:QB l s=true) (h:bf P n c Q (QA l s)):bf P n c Q s:=bf.wk l (DM he) h
theorem bf.Ho (k:Nat) (l:List pB) (hk:Nat.beq l.length k=true) (he:oY (kP P n l c s)=some C) (hC:bx C) (h:bf P n (qn k c) Q (pN (kP P n l c s))):bf P n c Q s:=bf.i9 k l hk (iR he) hC h
theorem bf.tQ (k:Nat) (l:List pB) (wl:List Wk) (hk:Nat.beq l.length k=true) (he:oY (ob P n l wl c s)=some C) (hC:bx C) (h:bf P n (qn k c) Q (pN (ob P n l wl c s))):bf P n c Q s:=bf.jW k l wl hk (iR he) hC h
theorem bf.Rc (x:pB) (he:oY (se P n c x s)=some C) (hC:bx C) (h:Q .normal (pN (se P n c x s))):bf P n c Q s:=bf.Oh x (iR he) hC h
end
theorem bS.Uh {s s2:AS} (l:List Wk) (he:wk l s=some s2):bS s s2:=bS.of l he rfl
theorem aL.Mi {S0:bm} {w0 w:World} {n:Nat} {O:List Nat} {s s':AS} {a:Act} {φ:Nat->Option Nat} (hF:∀i,look s'.F i=look s.F i) (hH:∀i,look s'.H i=look s.H i) (h:aL S0 w0 n O s a w φ):aL S0 w0 n O s' a w φ:=by
 have hI:az s'.H φ=az s.H φ:=by funext i;unfold az;rw [hH]
 exact ⟨h.jP,h.jS,h.cX,fun i x hx=>by rw [hI];exact h.cC i x (by rw [←hF];exact hx),fun i r hr=>by rw [hI];exact h.rows i r (by rw [←hH];exact hr),fun i hi=>h.only i (by rw [←hH];exact hi),h.inj,h.cW,h.apart,h.new⟩
def Fh {α:Type} (k:Nat) (y:α):List (Nat×α)->List (Nat×α)
 | []=>[]
 | p::l=>(match Nat.beq p.1 k with|true=>(k,y)::l|false=>p::Fh k y l)
theorem q9 {α:Type} {k:Nat} {y:α}:∀ {F:List (Nat×α)},look F k=some y∨look F k=none-> ∀i,look (Fh k y F) i=look F i
 | [],_,_=>rfl
 | (j,z)::l,h,i=>by
  rw [aE] at h
  rw [aE]
  simp only [Fh]
  rcases bJ j k with ⟨hb,e⟩|⟨hb,e⟩
  ·rw [hb]
   subst e
   rw [if_pos rfl] at h
   show look ((j,y)::l) i=_
   rw [aE]
   split
   ·exact (h.resolve_right fun q=>by cases q).symm
   ·rfl
  ·rw [hb]
   rw [if_neg e] at h
   show look ((j,z)::Fh k y l) i=_
   rw [aE,q9 h i]
def oq (s:AS) (id:Nat):List AV:=match look s.H id with|some r=>r.cells|none=>[]
def D0 (s2:AS):List Nat->AS->AS×List Prop
 | [],s=>(s,[])
 | k::l,s=>match D0 s2 l ⟨Fh k (jR s2 k) s.F,s.H⟩ with|(s',C)=>(s',(jR s k=jR s2 k)::C)
def zM (s2:AS):List Nat->AS->AS×List Prop
 | [],s=>(s,[])
 | k::l,s=>match look s.H k with
  | some r=>(match zM s2 l ⟨s.F,Fh k ⟨r.e,r.pure,r.full,oq s2 k⟩ s.H⟩ with|(s',C)=>(s',(oq s k=oq s2 k)::C))
  | none=>(s,[])
def ND (l:List Wk) (fs hs:List Nat) (s s2:AS):Option (AS×List Prop):=match wk l s with
 | some s1=>(match D0 s2 fs s1 with|(s3,C)=>(match zM s2 hs s3 with|(s4,D)=>some (s4,C++D)))
 | none=>none
theorem zU {S0:bm} {w0 w:World} {n:Nat} {a:Act} {φ:Nat->Option Nat} {s2:AS}:∀(l:List Nat) (s:AS),bx (D0 s2 l s).2->aL S0 w0 n [] s a w φ->aL S0 w0 n [] (D0 s2 l s).1 a w φ
 | [],_,_,h=>h
 | k::l,s,hC,h=>by
  obtain ⟨h1,h2⟩:=hC
  have h1:jR s k=jR s2 k:=h1
  have hl:look s.F k=some (jR s2 k)∨look s.F k=none:=by
   unfold jR at h1 ⊢
   cases hk:look s.F k with
   | none=>exact .inr rfl
   | some x=>rw [hk] at h1;exact .inl (congrArg some h1)
  exact zU l _ h2 (aL.Mi (fun i=>q9 hl i) (fun _=>rfl) h)
theorem zJ {S0:bm} {w0 w:World} {n:Nat} {a:Act} {φ:Nat->Option Nat} {s2:AS}:∀(l:List Nat) (s:AS),bx (zM s2 l s).2->aL S0 w0 n [] s a w φ->aL S0 w0 n [] (zM s2 l s).1 a w φ
 | [],_,_,h=>h
 | k::l,s,hC,h=>by
  unfold zM at hC ⊢
  cases hk:look s.H k with
  | none=>rw [hk] at hC;exact h
  | some r =>
   rw [hk] at hC
   obtain ⟨h1,h2⟩:=hC
   have h1:oq s k=oq s2 k:=h1
   refine zJ l _ h2 (aL.Mi (s:=s) (fun _=>rfl) (fun i=>q9 (.inl ?_) i) h)
   rw [hk,←h1]
   unfold oq
   rw [hk]
theorem bS.Ui {s s2:AS} {C:List Prop} (l:List Wk) (fs hs:List Nat) (he:ND l fs hs s s2=some (s2,C)) (hC:bx C):bS s s2:=by
 unfold ND at he
 split at he
 ·rename_i s1 h1
  have h2:=Option.some.inj he
  have e1:=congrArg (·.1) h2
  have e2:=congrArg (·.2) h2
  simp only at e1 e2
  rw [←e2] at hC
  obtain ⟨c1,c2⟩:=bQ.1 hC
  intro S0 w0 n a w lH
  obtain ⟨φ,h⟩:=vQ l h1 S0 w0 n a w lH
  have h3:=zJ (s2:=s2) hs _ c2 (zU (s2:=s2) fs _ c1 h)
  rw [e1] at h3
  exact ⟨φ,h3⟩
 ·cases he
end Go.Proofs.YtjgbhhnghedgdaaGreatDoor
