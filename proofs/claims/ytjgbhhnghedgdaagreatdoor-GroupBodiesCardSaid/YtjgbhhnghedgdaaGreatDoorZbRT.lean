import Derived.Test.YtjgbhhnghedgdaaGreatDoorZbRS
import Derived.Test.YtjgbhhnghedgdaaGreatDoorZbRI
set_option linter.all false
namespace Go.Proofs.YtjgbhhnghedgdaaGreatDoor
open Go.RowKit
section
variable {S0:bo} {w0 w:World} {n:Nat} {s:AS} {a:Act} {φ:Nat->Option Nat} {g:Nat}
def yC (S0:bo) (φ:Nat->Option Nat) (g:Nat):bo:=⟨fun b=>S0.S b∧b≠g,fun b=>∃id,φ id=some b,S0.fix,S0.si⟩
theorem uS:aM (yC S0 φ g) w φ []=aM S0 w φ [g]:=by
 funext b
 apply propext
 unfold aM yC
 simp only [List.not_mem_nil,not_false_eq_true,true_and,List.mem_singleton]
 exact ⟨fun ⟨h1,h2,h3,h4⟩=>⟨h1,h4,h2,h3⟩,fun ⟨h1,h2,h3,h4⟩=>⟨h1,h3,h4,h2⟩⟩
theorem aJ.aside (h:aJ S0 w0 n [g] s a w φ) (hg:g<w.heap.size):k9 S0 w0 (yC S0 φ g) w []∧aJ (yC S0 φ g) w n [] s a w φ:=by
 have hX:∀b,(∃id,φ id=some b)->w0.heap.size≤b∨S0.X b:=fun b ⟨id,hid⟩=>(h.cY id b hid).1.2
 refine ⟨⟨h.cZ,fun b hb=>hb.1,hX,rfl,rfl,List.nodup_nil,fun r hr=>by cases hr⟩,⟨h.jQ,h.jT,⟨rfl,rfl,rfl,Nat.le_refl _,fun _ _ _=>rfl,h.cZ.mH,fun b hb=>h.sD hb⟩,?_,?_,h.only,h.inj,fun id b hid=>⟨⟨(h.cY id b hid).1.1,.inr ⟨id,hid⟩⟩,(h.cY id b hid).2⟩,fun _ _ _=>by simp,?_⟩⟩
 ·rw [uS];exact h.cG
 ·rw [uS];exact h.rows
 ·rintro b (hb|⟨id,hid⟩)
  ·exact ⟨h.new b (.inl (Nat.le_trans h.cZ.size hb)),aj⟩
  ·exact ⟨h.new b (hX b ⟨id,hid⟩),fun e=>h.apart id b hid (by simp [e])⟩
def vn (S1:bo) (g:Nat):bo:=⟨fun b=>S1.S b∨b=g,fun b=>S1.X b∨b=g,S1.fix,S1.si⟩
theorem wP {S1:bo} (hS:¬S1.S g):aM (vn S1 g) w φ [g]=aM S1 w φ []:=by
 funext b
 apply propext
 unfold aM vn
 simp only [List.not_mem_nil,not_false_eq_true,true_and,List.mem_singleton]
 constructor
 ·rintro ⟨h1,h2,h3,h4|h4⟩
  ·exact ⟨h1,h3,h4⟩
  ·exact absurd h4 h2
 ·rintro ⟨h1,h3,h4⟩
  exact ⟨h1,fun e=>hS (e ▸ h4),h3,.inl h4⟩
theorem aJ.back {S1:bo} {w1:World} (h:aJ S1 w1 n [] s a w φ) (hg:g<w1.heap.size) (hS:¬S1.S g) (hX:¬S1.X g) (hT:¬TB g):aJ (vn S1 g) w1 n [g] s a w φ:=by
 refine ⟨h.jQ,h.jT,⟨h.cZ.os,h.cZ.tape,h.cZ.output,h.cZ.size,fun k hk hx=>h.cZ.block k hk fun q=>hx (.inl q),h.cZ.g0,?_⟩,?_,?_,h.only,h.inj,fun id b hid=>⟨⟨(h.cY id b hid).1.1,(h.cY id b hid).1.2.imp (fun q=>q) .inl⟩,(h.cY id b hid).2⟩,?_,?_⟩
 ·rintro b hb (q|q)
  ·exact h.cZ.gx b hb q
  ·exact hT (q ▸ hb)
 ·rw [wP hS];exact h.cG
 ·rw [wP hS];exact h.rows
 ·intro id b hid hm
  have e:b=g:=by simpa using hm
  subst e
  rcases (h.cY id b hid).1.2 with q|q
  ·omega
  ·exact hX q
 ·rintro b (q|q|q)
  ·exact .inl (h.new b (.inl q))
  ·exact .inl (h.new b (.inr q))
  ·exact .inr q
end
section
variable {P:Program} {S0:bo} {w0 w:World} {n:Nat} {s:AS} {a:Act} {Q:Exit->Act->World->Prop}
structure Aside (S0:bo) (w0:World) (g:Nat) (o:Obj):Prop where
 lt:g<w0.heap.size
 S:¬S0.S g
 X:¬S0.X g
 tb:¬TB g
 obj:w0.heap[g]?=some o
theorem Bp {o:Oper} {t d:Nat} {z:Value} (ho:o.op= .alloc t) (hd:o.dst=some d) (Oj:d<n) (hz:(P.info? t).bind (·.zero)=some z) (h:iv S0 w0 n s a w) :
  o.wp P a w (fun a' w'=>∃g S1,w0.heap.size≤g∧k9 S0 w0 S1 w' []∧Aside S1 w' g (.cells z.cells t (0,0))∧iv S1 w' n (lr s d (.val (.pointer (some ⟨g,0,none⟩)))) a' w') Q:=by
 obtain ⟨φ,hs⟩:=h
 have cp:(execOp a.eval o).run P w= .ok (.value (.pointer (some ⟨w.heap.size,0,none⟩))) {w with heap:=w.heap.push (.cells z.cells t (0,0))}:=by
  unfold execOp
  simp [ho,Instr.alloc,iO hz,newVar,newRow]
 refine cV cp ?_
 rw [hd]
 have h1:=hs.await w.heap.size (Nat.le_refl _)
 have h2:=h1.vW (w':={w with heap:=w.heap.push (.cells z.cells t (0,0))}) (fun g hg=>by simp at hg;rw [hg];exact .inl hs.cZ.size) rfl rfl rfl (by simp) (fun b hb _=>cL w _ b hb)
 have h3:=h2.put Oj (v:=.pointer (some ⟨w.heap.size,0,none⟩)) (.rep (.val _))
 obtain ⟨k1,k2⟩:=h3.aside (by simp)
 refine ⟨w.heap.size,_,hs.cZ.size,k1,⟨by simp,fun q=>q.2 rfl,fun ⟨id,hid⟩=>h3.apart id _ hid (by simp),fun hb=>?_,dO w _⟩,⟨φ,k2⟩⟩
 have:=hs.cZ.g0.lt hb
 have:=hs.cZ.size
 omega
theorem Dx {g t d:Nat} {z:Value} (hA:Aside S0 w0 g (.cells z.cells t (0,0))) (hd:d<1000000000000) (gh:look s.H d=none) (h:iv S0 w0 n s a w) (hv:a.tmps.getD d undef= .pointer (some ⟨g,0,none⟩)) :
  iv (vn S0 g) w0 n ⟨(d,.addr d 0)::cU s.F d,(d,⟨rF P t,false,true,z.cells.toList.map bC⟩)::s.H⟩ a w:=by
 obtain ⟨φ,hs⟩:=h
 have h1:=hs.back hA.lt hA.S hA.X hA.tb
 have dC:=hs.cZ.size
 have hg:w.heap[g]?=some (.cells z.cells t (0,0)):=(hs.cZ.block g hA.lt hA.X).trans hA.obj
 have h2:=h1.wX (id:=d) (r:=⟨rF P t,false,true,z.cells.toList.map bC⟩) ⟨.inl hd,.inr (.inr rfl)⟩ (Nat.lt_of_lt_of_le hA.lt dC) (by simp) gh ⟨z.cells,t,(0,0),hg,by simp,by simp,by simp,fun j u x hu hx=>by
  simp only [List.getElem?_map] at hx
  have:z.cells.toList[j]?=some u:=by simpa using hu
  rw [this] at hx;injection hx with hx;subst hx
  exact .rep (fP u)⟩
 refine ⟨_,h2.jQ,h2.jT,h2.cZ,fun i av hi=>?_,h2.rows,h2.only,h2.inj,h2.cY,h2.apart,h2.new⟩
 rw [aD] at hi
 by_cases e:d=i
 ·subst e
  rw [if_pos rfl] at hi;injection hi with hi;subst hi
  rw [hv]
  exact .addr d 0 _ _ _ (by
   show az ((d,(⟨rF P t,false,true,z.cells.toList.map bC⟩:Row))::s.H) _ d=_
   rw [bu (r:=⟨rF P t,false,true,z.cells.toList.map bC⟩) (by rw [aD,if_pos rfl])]
   unfold fG;rw [if_pos rfl])
 ·rw [if_neg e,bH,if_neg e] at hi
  exact h2.cG i av hi
end
def l8 (Fs:List Nat) (P:Program) (n T:Nat) (ops:List Oper) (hs:List (Nat×Hint)) (R:List (List Nat)):List Nat->List Nat->List Nat->Bool->List AV->List (Nat×AV)->List (Nat×Row)->Option (List nS×List Prop)
 | [],done,last,first,old,kept,H=>(match yx P ops hs R done Fs last first old kept H (ops.take T) 0 [] with
  | some (col,C)=>some ([⟨col,kept,H⟩],C)
  | none=>none)
 | W::rest,done,last,first,old,kept,H=>(match yx P ops hs R done (W::rest++Fs) last first old kept H (ops.take T) 0 [],ops[W]? with
  | some (col,C),some o=>(match x8 P ops n ⟨jn ops col (bm o)++kept,H⟩ o (gw hs W) with
   | some (Tr,x,H',D)=>(match l8 Fs P n T ops hs R rest (done++ [W]) [W] false ((col.map Tr).set W x) (er Tr kept) H' with
    | some (l,E)=>some (⟨col,kept,H⟩::l,C++(D++E))
    | none=>none)
   | none=>none)
  | _,_=>none)
def DA (Fs:List Nat) (P:Program) (T:Nat) (ops:List Oper) (hs:List (Nat×Hint)) (R:List (List Nat)) (rest done last:List Nat) (first:Bool) (old:List AV) (st:nS):Prop :=
 ∃C,yx P ops hs R done (rest++Fs) last first old st.kept st.H (ops.take T) 0 []=some (st.col,C)∧bz C
theorem tK {Fs:List Nat} {P:Program} {n T:Nat} {ops:List Oper} {hs:List (Nat×Hint)} {R:List (List Nat)}:∀(rest done last:List Nat) (first:Bool) (old:List AV) (kept:List (Nat×AV)) (H:List (Nat×Row)) (l:List nS) (E:List Prop),
  l8 Fs P n T ops hs R rest done last first old kept H=some (l,E)->bz E ->
  (l.getD 0 default).kept=kept∧(l.getD 0 default).H=H∧DA Fs P T ops hs R rest done last first old (l.getD 0 default) ∧
  ∀(i W:Nat),rest[i]?=some W-> ∃o Tr x D,ops[W]?=some o∧x8 P ops n ⟨jn ops (l.getD i default).col (bm o)++(l.getD i default).kept,(l.getD i default).H⟩ o (gw hs W)=some (Tr,x,(l.getD (i+1) default).H,D)∧bz D ∧
   (l.getD (i+1) default).kept=er Tr (l.getD i default).kept∧DA Fs P T ops hs R (rest.drop (i+1)) (done++rest.take (i+1)) [W] false (((l.getD i default).col.map Tr).set W x) (l.getD (i+1) default)
 | [],done,last,first,old,kept,H,l,E,he,hE=>by
  simp only [l8] at he
  split at he
  ·rename_i col C hc
   cases he
   exact ⟨rfl,rfl,⟨_,hc,hE⟩,fun i W h=>by simp at h⟩
  ·cases he
 | W::rest,done,last,first,old,kept,H,l,E,he,hE=>by
  simp only [l8] at he
  split at he
  ·rename_i col C o hc ho
   split at he
   ·rename_i Tr x H' D hw
    split at he
    ·rename_i l' E' MQ
     cases he
     obtain ⟨hC,Sn⟩:=bP.1 hE
     obtain ⟨hD,Sm⟩:=bP.1 Sn
     obtain ⟨h1,h2,h3,h4⟩:=tK rest _ _ _ _ _ _ _ _ MQ Sm
     refine ⟨rfl,rfl,⟨_,hc,hC⟩,fun i W' hi=>?_⟩
     cases i with
     | zero =>
      simp at hi;subst hi
      exact ⟨o,Tr,x,D,ho,by rw [←h2] at hw;exact hw,hD,h1,by simpa using h3⟩
     | succ i =>
      obtain ⟨o',QS,x',D',k1,k2,k3,k4,k5⟩:=h4 i W' (by simpa using hi)
      refine ⟨o',QS,x',D',k1,k2,k3,k4,?_⟩
      have e:done++(W::rest).take (i+1+1)=done++ [W]++rest.take (i+1):=by simp
      rw [e]
      exact k5
    ·cases he
   ·cases he
  ·cases he
theorem ED {P:Program} {n:Nat} {F:List (Nat×AV)} {H H':List (Nat×Row)} {o:Oper} {h:Hint} {Tr:AV->AV} {X:AV} {C:List Prop} (ea:Ov P n ⟨F,H⟩ o h=some (Tr,X,H',C)) (v:Value):Tr (.val v)= .val v:=by
 have uw:∀l:List Nat,iV l (.val v)= .val v:=by
  intro l
  induction l with
  | nil=>rfl
  | cons x l ih=>first|exact ih|(simp only [iV];exact ih)
 unfold Ov at ea
 split at ea
 ·split at ea
  ·cases ea
   unfold Jy
   split<;>rfl
  ·cases ea
 ·split at ea
  ·cases ea;rfl
  ·cases ea
 ·split at ea
  ·split at ea
   ·cases ea
    simp only [uw]
   ·cases ea
  ·split at ea
   ·cases ea
    simp only [uw]
   ·cases ea
  ·cases ea
 ·split at ea
  ·cases ea;rfl
  ·cases ea
 ·split at ea
  ·split at ea
   ·cases ea;rfl
   ·cases ea
  ·cases ea
 ·cases ea
theorem IU {P:Program} {n:Nat} {ops:List Oper} {F:List (Nat×AV)} {H H':List (Nat×Row)} {o:Oper} {h:Hint} {Tr:AV->AV} {X:AV} {C:List Prop} (ea:x8 P ops n ⟨F,H⟩ o h=some (Tr,X,H',C)) (v:Value):Tr (.val v)= .val v:=by
 unfold x8 at ea
 split at ea
 ·exact ED ea v
 ·split at ea
  ·split at ea
   ·split at ea
    ·rename_i he
     cases ea
     exact ED he v
    ·cases ea
   ·cases ea
  ·cases ea
def jz (P:Program) (n:Nat) (o:Oper):Option (Nat×Nat×Value) :=
 match o.guard,o.op,o.dst with
 | none,.alloc t,some d=>(match (P.info? t).bind (·.zero),Nat.blt d n,Nat.blt d 1000000000000 with
  | some z,true,true=>some (d,t,z)
  | _,_,_=>none)
 | _,_,_=>none
theorem jy {P:Program} {n:Nat} {o:Oper} {d t:Nat} {z:Value} (h:jz P n o=some (d,t,z)):o.guard=none∧o.op= .alloc t∧o.dst=some d∧(P.info? t).bind (·.zero)=some z∧d<n∧d<1000000000000:=by
 unfold jz at h
 split at h
 ·rename_i t' d' hg ho hd
  split at h
  ·rename_i z' hz h1 h2
   injection h with h
   injection h with e1 e2
   injection e2 with e2 e3
   subst e1;subst e2;subst e3
   exact ⟨hg,ho,hd,hz,by simpa [Nat.blt_eq] using h1,by simpa [Nat.blt_eq] using h2⟩
  ·cases h
 ·cases h
def Fh (g:Nat):Value:=.pointer (some ⟨g,0,none⟩)
def oC (Fs:List Nat) (G:Nat->Nat) (col:List AV):List AV:=col.mapIdx fun q x=>if q∈Fs then .val (Fh (G q)) else x
theorem ti {Fs:List Nat} {G:Nat->Nat} {col:List AV} {q:Nat} (h:q∈Fs):(oC Fs G col)[q]?=col[q]?.map fun _=>.val (Fh (G q)):=by
 unfold oC
 rw [List.getElem?_mapIdx]
 cases col[q]?<;>simp [h]
theorem ma {Fs:List Nat} {G:Nat->Nat} {col:List AV} {q:Nat} (h:q ∉ Fs):(oC Fs G col)[q]?=col[q]?:=by
 unfold oC
 rw [List.getElem?_mapIdx]
 cases col[q]?<;>simp [h]
theorem Df {ops:List Oper} {Fs:List Nat} {G:Nat->Nat} {col:List AV}:∀(l:List Nat),(∀d∈l,d ∉ Fs)->jn ops (oC Fs G col) l=jn ops col l
 | [],_=>rfl
 | d::l,h=>by
  simp only [jn,ma (h d (by simp)),Df l fun e he=>h e (by simp [he])]
def NR (P:Program) (s:AS) (d t:Nat) (z:Value):AS:=⟨(d,.addr d 0)::cU s.F d,(d,⟨rF P t,false,true,z.cells.toList.map bC⟩)::s.H⟩
def yP (P:Program) (n:Nat) (ops:List Oper):List Nat->AS->Option AS
 | [],s=>some s
 | f::l,s=>(match ops[f]? with
  | some o=>(match jz P n o with
   | some (d,t,z)=>(match look s.H d with
    | none=>yP P n ops l (NR P s d t z)
    | some _=>none)
   | none=>none)
  | none=>none)
theorem Aside.next {S1:bo} {w1:World} {g g':Nat} {o:Obj} (h:Aside S1 w1 g' o) (cX:g'≠g):Aside (vn S1 g) w1 g' o :=
 ⟨h.lt,fun q=>q.elim h.S cX,fun q=>q.elim h.X cX,h.tb,h.obj⟩
theorem k9.back {S0 S1:bo} {w0 w1:World} {g:Nat} (h:k9 S0 w0 S1 w1 []) (hg:w0.heap.size≤g) (hS:S0.S g):k9 S0 w0 (vn S1 g) w1 [] :=
 ⟨h.kept,fun b q=>q.elim (h.sub b) fun e=>e ▸ hS,fun b q=>q.elim (h.X b) fun e=>.inl (e ▸ hg),h.fix,h.si,List.nodup_nil,fun r hr=>by cases hr⟩
section
variable {P:Program} {n:Nat} {ops:List Oper} {S0:bo} {w0 w1 w:World} {a:Act} {G:Nat->Nat}
theorem wY (L1:∀b,w0.heap.size≤b->S0.S b):∀(Fs:List Nat) (s s':AS) (S1:bo),Fs.Nodup->yP P n ops Fs s=some s'->k9 S0 w0 S1 w1 [] ->
  (∀f∈Fs,∀o d t z,ops[f]?=some o->jz P n o=some (d,t,z)->w0.heap.size≤G f∧Aside S1 w1 (G f) (.cells z.cells t (0,0))∧a.tmps.getD d undef=Fh (G f)) ->
  (∀f∈Fs,∀f'∈Fs,f≠f'->G f≠G f')->iv S1 w1 n s a w-> ∃S2,k9 S0 w0 S2 w1 []∧iv S2 w1 n s' a w
 | [],s,s',S1,_,he,hz,_,_,hs=>by cases he;exact ⟨S1,hz,hs⟩
 | f::l,s,s',S1,hn,he,hz,hA,hG,hs=>by
  simp only [yP] at he
  split at he
  ·rename_i o ho
   split at he
   ·rename_i d t z hf
    split at he
    ·rename_i hl
     obtain ⟨h1,h2,h3⟩:=hA f (by simp) o d t z ho hf
     have hk:=Dx (P:=P) h2 (jy hf).2.2.2.2.2 hl hs h3
     rw [List.nodup_cons] at hn
     refine wY L1 l _ s' (vn S1 (G f)) hn.2 he (hz.back h1 (L1 _ h1)) (fun f' KS o' d' t' z' ra Gv=>?_) (fun f1 h1 f2 h2 cX=>hG f1 (by simp [h1]) f2 (by simp [h2]) cX) hk
     obtain ⟨k1,k2,k3⟩:=hA f' (by simp [KS]) o' d' t' z' ra Gv
     exact ⟨k1,k2.next (hG f' (by simp [KS]) f (by simp) fun e=>hn.1 (e ▸ KS)),k3⟩
    ·cases he
   ·cases he
  ·cases he
end
theorem Aside.move {S1 S2:bo} {w1 w2:World} {ms:List Nat} {g:Nat} {o:Obj} (h:Aside S1 w1 g o) (k:k9 S1 w1 S2 w2 ms):Aside S2 w2 g o :=
 ⟨Nat.lt_of_lt_of_le h.lt k.kept.size,fun q=>h.S (k.sub g q),fun q=>(k.X g q).elim (fun e=>by have:=h.lt;omega) h.X,h.tb,(k.kept.block g h.lt h.X).trans h.obj⟩
def Kp (ops:List Oper) (T:Nat) (Fs:List Nat) (R:List (List Nat)):Bool:=(List.range T).all fun q=> !(hit (R.getD q []) Fs) && match ops[q]? with|some o=> !(hit (bm o) Fs)|none=>true
def NQ (Fs Ws:List Nat):Bool:=Fs.all fun f=> !(Ws.any (Nat.beq f))
def K6 (P:Program) (n:Nat) (ops:List Oper) (Fs:List Nat):Bool:=Fs.all fun f=>match ops[f]? with|some o=>(jz P n o).isSome && (bm o).isEmpty|none=>false
def tf (P:Program) (n T:Nat) (Ws Fs:List Nat) (ops:List Oper) (hs:List (Nat×Hint)) (s:AS):Option (List nS×List Prop) :=
 match lF ops.toArray n,Nat.ble T ops.length,vj (mn (ops.take T) []) Ws,wW T Ws,nodupB Ws,wW T Fs,nodupB Fs,NQ Fs Ws,Kp ops T Fs (mn (ops.take T) []),K6 P n ops Fs with
 | true,true,true,true,true,true,true,true,true,true=>l8 Fs P n T ops hs (mn (ops.take T) []) Ws [] [] true [] (nB ((ops.take T).filterMap (·.dst)) s.F) s.H
 | _,_,_,_,_,_,_,_,_,_=>none
def Ao (late:List Nat) (col:List AV):List AV:=col.mapIdx fun q x=>match late.any (Nat.beq q) with|true=>.dead|false=>x
theorem HQ {late:List Nat} {col:List AV} {q:Nat}:(Ao late col)[q]?=col[q]?.map fun x=>match late.any (Nat.beq q) with|true=>.dead|false=>x:=by
 unfold Ao;rw [List.getElem?_mapIdx]
def AG (P:Program) (n T:Nat) (Ws Fs late:List Nat) (ops:List Oper) (l:List nS):Option AS:=yP P n ops Fs ⟨jc (ops.take T) (Ao late (l.getD Ws.length default).col)++(l.getD Ws.length default).kept,(l.getD Ws.length default).H⟩
def yl (P:Program) (n T:Nat) (Ws Fs:List Nat) (ops:List Oper) (hs:List (Nat×Hint)) (s:AS):Option (AS×List Prop) :=
 match P.follows .mixedOrders,oF ops.toArray T,tf P n T Ws Fs ops hs s with
 | true,true,some (l,C)=>(match AG P n T Ws Fs [] ops l with
  | some s1=>(match j6 P n ops hs (ops.drop T) T s1 with
   | some (s',D)=>some (s',C++D)
   | none=>none)
  | none=>none)
 | _,_,_=>none
structure rO (P:Program) (n:Nat) (ops:List Oper) (Fs:List Nat) (L:Nat->Bool) (G:Nat->Nat) (S0:bo) (w0:World) (S1:bo) (w1:World):Prop where
 z:k9 S0 w0 S1 w1 []
 aside:∀f∈Fs,L f=true->w0.heap.size≤G f∧ ∃o d t z,ops[f]?=some o∧jz P n o=some (d,t,z)∧Aside S1 w1 (G f) (.cells z.cells t (0,0))
 inj:∀f∈Fs,∀f'∈Fs,L f=true->L f'=true->f≠f'->G f≠G f'
theorem rO.skip {P:Program} {n:Nat} {ops:List Oper} {Fs:List Nat} {L:Nat->Bool} {G:Nat->Nat} {S0 S1:bo} {w0 w1:World} (h:rO P n ops Fs L G S0 w0 S1 w1) {k:Nat} (hk:k ∉ Fs):rO P n ops Fs (eS L k) G S0 w0 S1 w1:=by
 have e:∀f∈Fs,eS L k f=L f:=fun f hf=>by
  have cX:f≠k:=fun e=>by subst e;exact hk hf
  unfold eS;rw [if_neg cX]
 exact ⟨h.z,fun f hf hL=>h.aside f hf (e f hf ▸ hL),fun f hf f' KS h1 h2=>h.inj f hf f' KS (e f hf ▸ h1) (e f' KS ▸ h2)⟩
section
variable {P:Program} {n T:Nat} {ops:List Oper} {Fs:List Nat} {L:Nat->Bool} {G:Nat->Nat} {S0 S1:bo} {w0 w1 w:World} {a:Act} {Q:Exit->Act->World->Prop} {col:List AV} {kept:List (Nat×AV)} {H:List (Nat×Row)} {k d t:Nat} {z:Value} {o:Oper}
theorem CE (im:(ops.filterMap (·.dst)).Nodup) (hk:k<T) (ho:ops[k]?=some o) (hf:jz P n o=some (d,t,z)) (Es:k∈Fs) (AM:L k=false)
  (fy:∀i x,look kept i=some x-> ∀j p,j<T->ops[j]?=some p->p.dst≠some i) (hF:rO P n ops Fs L G S0 w0 S1 w1) (hs:iv S1 w1 n ⟨dR ops (oC Fs G col) L T++kept,H⟩ a w) :
  o.wp P a w (fun a' w'=>∃S2 w2 G',rO P n ops Fs (eS L k) G' S0 w0 S2 w2∧iv S2 w2 n ⟨dR ops (oC Fs G' col) (eS L k) T++kept,H⟩ a' w') Q:=by
 obtain ⟨-,p2,p3,p4,p5,p6⟩:=jy hf
 refine Oper.wp_mono ?_ (Bp p2 p3 p5 p4 hs)
 rintro a' w' ⟨g,S2,h1,h2,h3,φ,h4⟩
 have cX:∀f,L f=true->f≠k:=fun f hL e=>by subst e;rw [AM] at hL;cases hL
 have e9:∀f,f≠k->eS L k f=L f:=fun f e=>by unfold eS;rw [if_neg e]
 have dj:∀f∈Fs,L f=true->G f≠g:=fun f Gv hL e=>by
  obtain ⟨-,o',d',t',z',-,-,hA⟩:=hF.aside f Gv hL
  have:=hA.lt
  omega
 refine ⟨S2,w',fun q=>if q=k then g else G q,⟨by simpa using hF.z.trans h2,fun f Gv hL=>?_,fun f Gv f' PK hL QK e=>?_⟩,⟨φ,aJ.sub h4 fun i x hx=>?_⟩⟩
 ·by_cases e:f=k
  ·subst e
   simp only [if_pos]
   exact ⟨Nat.le_trans hF.z.kept.size h1,o,d,t,z,ho,hf,h3⟩
  ·rw [e9 f e] at hL
   obtain ⟨k1,o',d',t',z',k2,k3,k4⟩:=hF.aside f Gv hL
   simp only [if_neg e]
   exact ⟨k1,o',d',t',z',k2,k3,k4.move h2⟩
 ·by_cases e1:f=k
  ·have e2:f'≠k:=fun e2=>e (e1.trans e2.symm)
   rw [e9 f' e2] at QK
   simp only [if_pos e1,if_neg e2]
   exact fun q=>dj f' PK QK q.symm
  ·rw [e9 f e1] at hL
   by_cases e2:f'=k
   ·simp only [if_pos e2,if_neg e1]
    exact dj f Gv hL
   ·rw [e9 f' e2] at QK
    simp only [if_neg e1,if_neg e2]
    exact hF.inj f Gv f' PK hL QK e
 ·rw [bM] at hx
  left
  show look ((d,_)::cU _ d) i=some x
  rw [aD]
  cases hl:look (dR ops (oC Fs (fun q=>if q=k then g else G q) col) (eS L k) T) i with
  | some y =>
   rw [hl] at hx
   simp at hx;subst hx
   obtain ⟨j,p,j1,j2,j3,j4,j5⟩:=kK _ _ _ _ _ _ hl
   by_cases e:j=k
   ·subst e
    rw [ho] at j3;injection j3 with j3;subst j3
    rw [p3] at j4;injection j4 with j4
    rw [if_pos j4]
    rw [ti Es] at j5
    cases hc:col[j]? with
    | none=>rw [hc] at j5;cases j5
    | some c =>
     rw [hc] at j5
     simp at j5
     rw [←j5];rfl
   ·have hid:d≠i:=fun q=>e (oo (ops:=ops.toArray) (by simpa using im) (by simpa using j3) (by simpa using ho) j4 (q ▸ p3))
    rw [if_neg hid,bH,if_neg hid,bM]
    rw [e9 j e] at j2
    have hj:(oC Fs G col)[j]?=some y:=by
     by_cases hm:j∈Fs
     ·rw [ti hm] at j5 ⊢
      rw [←j5,if_neg e]
     ·rw [ma hm] at j5 ⊢
      exact j5
    rw [gq im _ L T j i p y j1 j2 j3 j4 hj]
    rfl
  | none =>
   rw [hl] at hx
   simp at hx
   have hid:d≠i:=fun q=>fy i x hx k o hk ho (q ▸ p3)
   rw [if_neg hid,bH,if_neg hid,bM,jg fun j p hj hp=>fy i x hx j p hj hp,hx]
   rfl
end
def JF (P:Program) (n T:Nat) (Ws Fs:List Nat) (ops:List Oper) (st:Nat->nS) (S0:bo) (w0:World) (L:Nat->Bool) (a':Act) (w':World):Prop :=
 ∃i S1 w1 G,i≤Ws.length∧(∀(j W:Nat),Ws[j]?=some W->(L W=true↔j<i))∧rO P n ops Fs L G S0 w0 S1 w1∧iv S1 w1 n ⟨dR ops (oC Fs G (st i).col) L T++(st i).kept,(st i).H⟩ a' w'
section
variable {P:Program} {ops:List Oper} {S0:bo} {w0:World} {Q:Exit->Act->World->Prop}
theorem Et {n T:Nat} {Ws Fs:List Nat} {hs:List (Nat×Hint)} {s:AS} {l:List nS} {C1:List Prop} (he:tf P n T Ws Fs ops hs s=some (l,C1)) (iJ:bz C1) {a:Act} {w:World} (gb:iv S0 w0 n s a w) :
  lF ops.toArray n=true∧(JF P n T Ws Fs ops (fun i=>l.getD i default) S0 w0 (fun k=>(Array.replicate ops.toArray.size false).getD k false) a {w with drawn:=w.drawn+1}) ∧
  (∀k o (L:Nat->Bool) a' w',k<T->ops.toArray[k]?=some o->L k=false->(∀d∈bm o,L d=true)->(∀j p,L j=true->ops.toArray[j]?=some p-> ∀d∈bm p,L d=true)->(∀j,T≤j->L j=false)->JF P n T Ws Fs ops (fun i=>l.getD i default) S0 w0 L a' w' ->
   (if Region.wanted o (yielded ops.toArray a'.tmps)=true then o.wp P a' w' (fun rL fw=>JF P n T Ws Fs ops (fun i=>l.getD i default) S0 w0 (eS L k) rL fw) Q else JF P n T Ws Fs ops (fun i=>l.getD i default) S0 w0 (eS L k) (a'.put o.dst undef) w')) ∧
  (∀(late:List Nat) (s1:AS) (L:Nat->Bool) a' w',(∀k∈late,k ∉ Ws∧k ∉ Fs)->AG P n T Ws Fs late ops l=some s1->(∀k,k<T->k ∉ late->L k=true)->JF P n T Ws Fs ops (fun i=>l.getD i default) S0 w0 L a' w'-> ∃S2 w1,k9 S0 w0 S2 w1 []∧iv S2 w1 n s1 a' w'):=by
 unfold tf at he
 split at he
 case h_2=>cases he
 rename_i hB hT vJ MT KN PB RD L0 gh sG
 have dS:=he
 obtain ⟨s9,im,vr⟩:=fT hB
 have xP:(ops.filterMap (·.dst)).Nodup:=by simpa using im
 have R9:T≤ops.length:=by simpa [Nat.ble_eq] using hT
 have Cv:∀(k:Nat) (o:Oper),ops[k]?=some o-> ∀d∈bm o,d<k:=fun k o h=>s9 k o (by simpa using h)
 have MV:∀(k:Nat) (o:Oper) (s:Nat),ops[k]?=some o->o.dst=some s->s<n:=fun k o s h=>vr k o s (by simpa using h)
 generalize Sc:mn (ops.take T) []=R at dS vJ gh
 have hR:tl ops R:=by
  rw [←Sc]
  refine qR ops (ops.take T) [] (fun k o _ L _ _ j hj=>by simp at hj) (fun j o h=>?_) Cv
  simpa using bW _ _ _ _ h
 obtain ⟨xQ,PX,Nb,p9⟩:=tK _ _ _ _ _ _ _ _ _ dS iJ
 have MT:=qy T Ws MT
 have KN:=iC KN
 generalize MN:(fun i=>l.getD i default)=st at *
 have Qo:∀i,l.getD i default=st i:=fun i=>by rw [←MN]
 simp only [Qo] at xQ PX Nb p9
 have fy:∀i,i≤Ws.length-> ∀(k:Nat) (x:AV),look (st i).kept k=some x-> ∀(j:Nat) (p:Oper),j<T->ops[j]?=some p->p.dst≠some k:=by
  intro i
  induction i with
  | zero =>
   intro _ k x hx j p hj hp
   rw [xQ] at hx
   exact (kq ops T k).1 (fR _ _ _ _ hx).2 j p hj hp
  | succ i ih =>
   intro hi k x hx
   obtain ⟨o,Tr,X,D',-,-,-,k4,-⟩:=p9 i (Ws[i]' aj) (List.getElem?_eq_getElem aj)
   rw [k4,cz] at hx
   cases hl:look (st i).kept k with
   | none=>rw [hl] at hx;cases hx
   | some y=>exact ih aj k y hl
 have vI:∀i,i≤Ws.length-> ∃last first old,DA Fs P T ops hs R (Ws.drop i) (Ws.take i) last first old (st i):=by
  intro i hi
  cases i with
  | zero=>exact ⟨_,_,_,by simpa using Nb⟩
  | succ i =>
   obtain ⟨o,Tr,X,D',-,-,-,-,k5⟩:=p9 i (Ws[i]' aj) (List.getElem?_eq_getElem aj)
   exact ⟨_,_,_,by simpa using k5⟩
 have Nc:∀f∈Fs,f ∉ Ws:=fun f hf hw=>by
  have:=List.all_eq_true.1 L0 f hf
  rw [any_beq.2 hw] at this;cases this
 have uJ:∀q,q<T-> ∀f∈Fs,f ∉ R.getD q []:=fun q hq f hf hr=>by
  have:=List.all_eq_true.1 gh q (List.mem_range.2 hq)
  rw [n_.2 ⟨f,hr,hf⟩] at this;simp at this
 have LZ:∀q o,q<T->ops[q]?=some o-> ∀f∈bm o,f ∉ Fs:=fun q o hq ho f hr hf=>by
  have:=List.all_eq_true.1 gh q (List.mem_range.2 hq)
  rw [ho] at this
  simp only [n_.2 ⟨f,hr,hf⟩] at this
  simp at this
 have RX:∀f∈Fs,∃o d t z,ops[f]?=some o∧jz P n o=some (d,t,z):=fun f hf=>by
  have:=List.all_eq_true.1 sG f hf
  cases ho:ops[f]? with
  | none=>rw [ho] at this;cases this
  | some o =>
   rw [ho] at this
   cases Is:jz P n o with
   | none=>simp [Is] at this
   | some x=>exact ⟨o,x.1,x.2.1,x.2.2,rfl,Is⟩
 have PB:=qy T Fs PB
 have RD:=iC RD
 obtain ⟨φ,lJ⟩:=gb
 refine ⟨hB,?_,?_,?_⟩
 ·refine ⟨0,S0,w0,fun _=>0,aj,fun j W _=>by show (Array.replicate ops.toArray.size false).getD W false=true↔_;rw [getD_replicate_false];simp,⟨k9.refl lJ.cZ,fun f _ hL=>?_,fun f _ f' _ hL=>?_⟩,φ,?_⟩
  ·change (Array.replicate ops.toArray.size false).getD f false=true at hL
   rw [getD_replicate_false] at hL;cases hL
  ·change (Array.replicate ops.toArray.size false).getD f false=true at hL
   rw [getD_replicate_false] at hL;cases hL
  rw [nj _ _ _ (fun k=>getD_replicate_false _ _)]
  have hg:aJ S0 w0 n [] s a w.drew φ:=lJ.grow ((Below.refl _ _).drew)
  rw [PX,xQ]
  exact aJ.sub (F:=s.F) hg fun i x hx=>.inl (fR _ _ _ _ (by simpa using hx)).1
 ·intro k o L a' w' hk ho AM jd xS Ax ⟨i,S1,w1,G,hi,hW,Nh,gb⟩
  have ra:ops[k]?=some o:=by simpa using ho
  have gm:∀(j:Nat) (p:Oper),L j=true->ops[j]?=some p-> ∀d∈bm p,L d=true:=fun j p hj hp=>xS j p hj (by simpa using hp)
  have pe:∀j∈R.getD k [],L j=true:=hR k o ra L gm jd
  have qa:∀q,L q=true-> ∀j∈R.getD q [],L j=true:=fun q hq j hj=>by
   cases Ib:ops[q]? with
   | some p=>exact hR q p Ib L gm (fun d hd=>gm q p hq Ib d hd) j hj
   | none =>
    exfalso
    have h1:ops.length≤q:=List.getElem?_eq_none_iff.1 Ib
    have:=Ax q aj
    rw [hq] at this;cases this
  have PQ:∀d∈bm o,L d=true∧d<T:=fun d hd=>⟨jd d hd,by have:=Cv k o ra d hd;omega⟩
  have uE:∀i',i≤i'-> ∀q,q<T->(∀j∈R.getD q [],L j=true)->hit (R.getD q []) (Ws.drop i'++Fs)=false:=by
   intro i' jk q Uq hq
   cases hh:hit (R.getD q []) (Ws.drop i'++Fs) with
   | false=>rfl
   | true =>
    exfalso
    obtain ⟨x,h1,h2⟩:=n_.1 hh
    rcases List.mem_append.1 h2 with h2|h2
    case inr=>exact uJ q Uq x h2 h1
    obtain ⟨j,hj⟩:=List.mem_iff_getElem?.1 h2
    rw [List.getElem?_drop] at hj
    have:=(hW _ x hj).1 (hq x h1)
    omega
  have hlen:∀i,i≤Ws.length->(st i).col.length=T:=fun i hi=>by
   obtain ⟨last,first,old,Cd,FG,K3⟩:=vI i hi
   obtain ⟨d1,-,-⟩:=jA _ 0 [] _ _ FG K3 rfl
   rw [d1,List.length_take];omega
  by_cases Es:k∈Fs
  ·obtain ⟨o',d,t,z,f1,f2⟩:=RX k Es
   rw [ra] at f1;cases f1
   have jY:Region.wanted o (yielded ops.toArray a'.tmps)=true:=by unfold Region.wanted;rw [(jy f2).1]
   rw [if_pos jY]
   refine Oper.wp_mono ?_ (CE xP hk ra f2 Es AM (fy i hi) Nh gb)
   rintro rL fw ⟨S2,w2,G',g1,g2⟩
   refine ⟨i,S2,w2,G',hi,fun j2 W2 h2=>?_,g1,g2⟩
   have e:W2≠k:=fun e=>by subst e;exact Nc _ Es (List.mem_of_getElem? h2)
   unfold eS;rw [if_neg e];exact hW j2 W2 h2
  by_cases KP:k∈Ws
  ·obtain ⟨j,hj⟩:=List.mem_iff_getElem?.1 KP
   have MU:j<Ws.length:=(List.getElem?_eq_some_iff.1 hj).1
   have LV:¬j<i:=fun h=>by have:=(hW j k hj).2 h;rw [AM] at this;cases this
   have e:j=i:=by
    rcases Nat.lt_or_ge i j with h|h
    ·obtain ⟨j',rfl⟩:∃j',j=j'+1:=⟨j-1,aj⟩
     have KH:Ws[j']?=some (Ws[j']' aj):=List.getElem?_eq_getElem aj
     have h1:=pe _ (rE R Ws vJ j' _ k KH hj)
     have:=(hW j' _ KH).1 h1
     omega
    ·omega
   subst e
   obtain ⟨o',Tr,x,D',k1,k2,k3,k4,Cc,k5,k6⟩:=p9 j k hj
   rw [ra] at k1;cases k1
   simp only [List.nil_append] at k5
   obtain ⟨c1,c2,c3⟩:=jA _ 0 [] _ _ k5 k6 rfl
   simp only [Nat.zero_add] at c1 c3
   have R_:(ops.take T).length=T:=by rw [List.length_take];omega
   have Of:k ∉ Ws.drop (j+1):=fun hm=>by
    obtain ⟨j2,Bw⟩:=List.mem_iff_getElem?.1 hm
    rw [List.getElem?_drop] at Bw
    have:=lW KN hj Bw
    omega
   have RN:k∈Ws.take (j+1):=List.mem_iff_getElem?.2 ⟨j,by rw [List.getElem?_take,if_pos aj];exact hj⟩
   have hold:((((st j).col.map Tr).set k x).getD k .dead)=x:=by
    obtain ⟨last,first,old,Cd,FG,K3⟩:=vI j hi
    obtain ⟨d1,-,-⟩:=jA _ 0 [] _ _ FG K3 rfl
    rw [Nat.zero_add,R_] at d1
    rw [List.getD_eq_getElem?_getD,List.getElem?_set_self (by rw [List.length_map];omega)];rfl
   have iW:=vY (P:=P) (S0:=S1) (w0:=w1) (Q:=Q) (n:=n) (T:=T) (col:=oC Fs G (st j).col) (col':=oC Fs G (st (j+1)).col) (L:=L) (a:=a') (w:=w') xP hk ra PQ (fy j hi) (by rw [Df _ (LZ k o hk ra)];exact k2) k3 (by
    intro q z hq Pp Si hz
    by_cases Th:q∈Fs
    ·left
     rw [ti Th] at hz ⊢
     rw [List.getElem?_eq_getElem (by rw [hlen j hi];exact hq)]
     cases hc:(st (j+1)).col[q]? with
     | none=>rw [hc] at hz;cases hz
     | some c =>
      rw [hc] at hz
      simp only [Option.map_some] at hz ⊢
      rw [IU k2];exact hz
    rw [ma Th] at hz ⊢
    have Ib:(ops.take T)[q]?=some (ops[q]' aj):=by rw [List.getElem?_take,if_pos hq];exact List.getElem?_eq_getElem aj
    obtain ⟨x',D2,e1,e2,e3⟩:=c3 q _ Ib
    rw [e1] at hz;injection hz with hz;subst hz
    unfold qu at e3
    split at e3
    ·split at e3
     ·split at e3
      ·rename_i xx CC ea
       split at e3
       ·cases e3
        exact kg Pp e2.1
       ·rename_i gh
        exfalso
        cases hh:hit (R.getD q []) [k] with
        | false=>exact gh rfl hh
        | true =>
         obtain ⟨y,h1,h2⟩:=n_.1 hh
         have:y=k:=by simpa using h2
         subst this
         have:=qa q Si y h1
         rw [AM] at this;cases this
      ·cases e3
     ·cases e3
      exact kg Pp rfl
    ·cases e3
     exact .inr rfl) (by
    have Eo:(ops.take T)[k]?=some o:=by rw [List.getElem?_take,if_pos hk];exact ra
    obtain ⟨x',D2,e1,e2,e3⟩:=c3 k _ Eo
    rw [ma Es,e1]
    unfold qu at e3
    have r1:(Ws.drop (j+1)++Fs).any (Nat.beq k)=false:=by
     cases hh:(Ws.drop (j+1)++Fs).any (Nat.beq k) with
     | false=>rfl
     | true=>exact (List.mem_append.1 (any_beq.1 hh)).elim (fun q=>absurd q Of) (fun q=>absurd q Es)
    have r2:=uE (j+1) aj k hk pe
    have r3:(Ws.take (j+1)).any (Nat.beq k)=true:=any_beq.2 RN
    rw [r1,r2,r3] at e3
    simp only at e3
    injection e3 with e3;injection e3 with e3 _
    rw [←e3,hold]) gb
   have fin:∀rL fw,iv S1 w1 n ⟨dR ops (oC Fs G (st (j+1)).col) (eS L k) T++er Tr (st j).kept,(st (j+1)).H⟩ rL fw->JF P n T Ws Fs ops st S0 w0 (eS L k) rL fw:=by
    intro rL fw h
    refine ⟨j+1,S1,w1,G,aj,fun j2 W2 h2=>?_,Nh.skip Es,by rw [k4];exact h⟩
    by_cases e:W2=k
    ·subst e
     have:=lW KN hj h2
     unfold eS;rw [if_pos rfl];simp;omega
    ·unfold eS;rw [if_neg e,hW j2 W2 h2]
     have:j2≠j:=fun e2=>by subst e2;rw [hj] at h2;cases h2;exact e rfl
     omega
   split
   ·rename_i hw
    rw [if_pos hw] at iW
    exact Oper.wp_mono fin iW
   ·rename_i hw
    rw [if_neg hw] at iW
    exact fin _ _ iW
  ·obtain ⟨last,first,old,Cc,k5,k6⟩:=vI i hi
   obtain ⟨c1,c2,c3⟩:=jA _ 0 [] _ _ k5 k6 rfl
   simp only [Nat.zero_add] at c1 c3
   have Eo:(ops.take T)[k]?=some o:=by rw [List.getElem?_take,if_pos hk];exact ra
   obtain ⟨x',D2,e1,e2,e3⟩:=c3 k _ Eo
   unfold qu at e3
   have r1:(Ws.drop i++Fs).any (Nat.beq k)=false:=by
    cases hh:(Ws.drop i++Fs).any (Nat.beq k) with
    | false=>rfl
    | true=>exact (List.mem_append.1 (any_beq.1 hh)).elim (fun q=>absurd (List.mem_of_mem_drop q) KP) (fun q=>absurd q Es)
   have r2:=uE i (Nat.le_refl _) k hk pe
   have r3:(Ws.take i).any (Nat.beq k)=false:=by
    cases hh:(Ws.take i).any (Nat.beq k) with
    | false=>rfl
    | true=>exact absurd (List.mem_of_mem_take (any_beq.1 hh)) KP
   have r4:(Ws.take i).any (fun W=>(R.getD W []).any (Nat.beq k))=false:=by
    cases hh:(Ws.take i).any (fun W=>(R.getD W []).any (Nat.beq k)) with
    | false=>rfl
    | true =>
     exfalso
     obtain ⟨W,h1,h2⟩:=List.any_eq_true.1 hh
     obtain ⟨j,hj⟩:=List.mem_iff_getElem?.1 h1
     rw [List.getElem?_take] at hj
     split at hj
     ·rename_i LV
      have:=qa W ((hW j W hj).2 LV) k (any_beq.1 h2)
      rw [AM] at this;cases this
     ·cases hj
   rw [r1,r2,r3,r4] at e3
   simp only at e3
   have ea:∃C',sL P ops ⟨jn ops ((st i).col.take k) (bm o)++(st i).kept,(st i).H⟩ o (gw hs k)=some (x',C')∧bz C':=by
    split at e3
    ·rename_i xx CC ea
     split at e3
     ·cases e3;exact ⟨_,ea,e2.2⟩
     ·cases e3;exact ⟨_,ea,e2⟩
    ·cases e3
   obtain ⟨C',ea,PZ⟩:=ea
   rw [rC ops _ k _ (Cv k o ra)] at ea
   have iW:=tJ (P:=P) (S0:=S1) (w0:=w1) (Q:=Q) (n:=n) (T:=T) (L:=L) (a:=a') (w:=w') (col:=oC Fs G (st i).col) xP MV hk ra PQ (fy i hi) (by rw [Df _ (LZ k o hk ra)];exact ea) PZ (by rw [ma Es];exact e1) gb
   have fin:∀rL fw,iv S1 w1 n ⟨dR ops (oC Fs G (st i).col) (eS L k) T++(st i).kept,(st i).H⟩ rL fw->JF P n T Ws Fs ops st S0 w0 (eS L k) rL fw:=by
    intro rL fw h
    refine ⟨i,S1,w1,G,hi,fun j2 W2 h2=>?_,Nh.skip Es,h⟩
    have e:W2≠k:=fun e=>by subst e;exact KP (List.mem_of_getElem? h2)
    unfold eS;rw [if_neg e];exact hW j2 W2 h2
   split
   ·rename_i hw
    rw [if_pos hw] at iW
    exact Oper.wp_mono fin iW
   ·rename_i hw
    rw [if_neg hw] at iW
    exact fin _ _ iW
 ·intro late s1 L a' w' LU Cw gj ⟨i,S1,w1,G,hi,hW,Nh,gb⟩
  unfold AG at Cw
  rw [Qo] at Cw
  have Ew:∀f∈Fs,L f=true:=fun f hf=>gj f (PB f hf) fun q=>(LU f q).2 hf
  have e:i=Ws.length:=by
   rcases Nat.lt_or_ge i Ws.length with h|h
   ·have KH:Ws[i]?=some (Ws[i]'h):=List.getElem?_eq_getElem h
    have:=(hW i _ KH).1 (gj _ (MT _ (List.getElem_mem h)) fun q=>(LU _ q).1 (List.getElem_mem h))
    omega
   ·omega
  subst e
  have hlen:(st Ws.length).col.length=T:=by
   obtain ⟨last,first,old,Cd,FG,K3⟩:=vI Ws.length hi
   obtain ⟨d1,-,-⟩:=jA _ 0 [] _ _ FG K3 rfl
   rw [d1,List.length_take];omega
  have Rv:∀f∈Fs,∀o d t z,ops[f]?=some o->jz P n o=some (d,t,z)->a'.tmps.getD d undef=Fh (G f):=fun f hf o d t z ho Is=>by
   obtain ⟨cE,bY⟩:=gb
   have lD:look (dR ops (oC Fs G (st Ws.length).col) L T++(st Ws.length).kept) d=some (.val (Fh (G f))):=by
    rw [bM,gq xP _ L T f d o (.val (Fh (G f))) (PB f hf) (Ew f hf) ho (jy Is).2.2.1 (by rw [ti hf,List.getElem?_eq_getElem (by rw [hlen];exact PB f hf)];rfl)]
    rfl
   exact bK (bY.cG d _ lD)
  have l0:∀b,w0.heap.size≤b->S0.S b:=fun b hb=>lJ.new b (.inl hb)
  have Cm:iv S1 w1 n ⟨jc (ops.take T) (Ao late (st Ws.length).col)++(st Ws.length).kept,(st Ws.length).H⟩ a' w':=by
   obtain ⟨cE,bY⟩:=gb
   refine ⟨cE,aJ.sub bY fun i x hx=>?_⟩
   rw [bM] at hx ⊢
   cases hh:look (jc (ops.take T) (Ao late (st Ws.length).col)) i with
   | some y =>
    rw [hh] at hx
    simp at hx;subst hx
    obtain ⟨k,o,h1,h2,h3⟩:=kM _ _ _ _ hh
    have vG:k<T:=by have:=(List.getElem?_eq_some_iff.1 h1).1;rw [List.length_take] at this;omega
    rw [HQ] at h3
    cases hc:(st Ws.length).col[k]? with
    | none=>rw [hc] at h3;cases h3
    | some z =>
     rw [hc] at h3
     simp only [Option.map_some,Option.some.injEq] at h3
     by_cases iH:late.any (Nat.beq k)=true
     ·rw [iH] at h3
      exact .inr h3.symm
     simp only [Bool.not_eq_true] at iH
     rw [iH] at h3
     subst h3
     by_cases Es:k∈Fs
     ·right
      obtain ⟨last,first,old,Cd,FG,K3⟩:=vI Ws.length hi
      obtain ⟨-,-,c3⟩:=jA _ 0 [] _ _ FG K3 rfl
      obtain ⟨x',D2,e1,e2,e3⟩:=c3 k o h1
      simp only [Nat.zero_add] at e1 e3
      unfold qu at e3
      rw [any_beq.2 (List.mem_append.2 (.inr Es))] at e3
      simp only at e3
      rw [hc] at e1;injection e1 with e1
      injection e3 with e3;injection e3 with e3 _
      rw [e1,←e3]
     ·left
      rw [gq xP _ L T k i o z vG (gj k vG fun q=>by rw [any_beq.2 q] at iH;cases iH) (bW _ _ _ _ h1) h2 (by rw [ma Es];exact hc)];rfl
   | none =>
    rw [hh] at hx
    simp at hx
    left
    rw [jg fun j p hj hp=>fy _ (Nat.le_refl _) i x hx j p hj hp]
    simpa using hx
  obtain ⟨S2,KG,mZ⟩:=wY (P:=P) (n:=n) (ops:=ops) (S0:=S0) (w0:=w0) (w1:=w1) (w:=w') (a:=a') (G:=G) l0 Fs _ s1 S1 RD Cw Nh.z (fun f hf o d t z ho Is=>by
   obtain ⟨k1,o',d',t',z',k2,k3,k4⟩:=Nh.aside f hf (Ew f hf)
   rw [ho] at k2;cases k2
   rw [Is] at k3;cases k3
   exact ⟨k1,k4,Rv f hf o d t z ho Is⟩) (fun f hf f' KS cX=>Nh.inj f hf f' KS (Ew f hf) (Ew f' KS) cX) Cm
  exact ⟨S2,w1,KG,mZ⟩
theorem CV {n T:Nat} {Ws Fs:List Nat} {hs:List (Nat×Hint)} {s s':AS} {C:List Prop} (he:yl P n T Ws Fs ops hs s=some (s',C)) (hC:bz C) {a:Act} {w:World} (gb:iv S0 w0 n s a w) (hQ:∀a' w',m5 S0 w0 n s' a' w'->Q .normal a' w'):P.follows .mixedOrders=true∧wpAny P .any ops.toArray Q ops.toArray.size (Array.replicate ops.toArray.size false) a {w with drawn:=w.drawn+1}:=by
 unfold yl at he
 split at he
 case h_2=>cases he
 rename_i l C1 hm hT hh
 split at he
 case h_2=>cases he
 rename_i s1 Cw
 split at he
 case h_2=>cases he
 rename_i s2 D oN
 cases he
 obtain ⟨iJ,hD⟩:=bP.1 hC
 obtain ⟨hB,h1,h2,h3⟩:=Et (Q:=Q) hh iJ gb
 unfold oF at hT
 simp only [Bool.and_eq_true,decide_eq_true_eq] at hT
 obtain ⟨⟨⟨Gy,K2⟩,K1⟩,K0⟩:=hT
 refine ⟨hm,nf (n:=n) Gy K2 K1 K0 hB (JF P n T Ws Fs ops (fun i=>l.getD i default) S0 w0) (fun k o L a' w' hk ho AM hd hc Ax hJ=>h2 k o L a' w' hk ho AM hd hc Ax hJ) ?_ ops.toArray.size _ a _ ⟨by simp,fun k o hk=>?_⟩ h1 (fun j _=>by rw [getD_replicate_false]) (by simp)⟩
 ·intro L a' w' gj Ax hJ
  obtain ⟨S2,w1,KG,mZ⟩:=h3 [] s1 L a' w' (fun k hk=>by cases hk) Cw (fun k hk _=>gj k hk) hJ
  have kf:=jO (S0:=S2) (w0:=w1) (Q:=Q) _ _ _ _ _ oN hD a' w' mZ fun a2 w2 h2=>hQ a2 w2 (m5.after KG h2.one)
  simpa using kf
 ·rw [getD_replicate_false] at hk;cases hk
def NM (M q:Nat) (Ws Fs:List Nat) (o:Oper):Bool:=Nat.blt q M && !(Ws.any (Nat.beq q)) && !(Fs.any (Nat.beq q)) && (List.range M).all fun k=>Nat.beq k q || (bm o).any (Nat.beq k)
theorem Dv {M q:Nat} {Ws Fs:List Nat} {o:Oper} (h:NM M q Ws Fs o=true):q<M∧q ∉ Ws∧q ∉ Fs∧ ∀k,k<M->k≠q->k∈bm o:=by
 unfold NM at h
 simp only [Bool.and_eq_true] at h
 obtain ⟨⟨⟨h1,h2⟩,h3⟩,h4⟩:=h
 refine ⟨by simpa [Nat.blt_eq] using h1,fun q=>(by rw [any_beq.2 q] at h2;cases h2),fun q=>(by rw [any_beq.2 q] at h3;cases h3),fun k hk cX=>?_⟩
 have:=List.all_eq_true.1 h4 k (List.mem_range.2 hk)
 rw [Bool.or_eq_true] at this
 exact this.elim (fun e=>absurd (Nat.eq_of_beq_eq_true e) cX) any_beq.1
def uR (s:AS) (d:Nat):AS:=match look s.F d with|some x=>⟨(d,x)::cU s.F d,s.H⟩|none=>s
theorem FN {S0:bo} {w0 w:World} {n:Nat} {s:AS} {d:Nat} {a:Act} (h:iv S0 w0 n s a w):iv S0 w0 n (uR s d) a w:=by
 unfold uR
 split
 ·rename_i x hx
  obtain ⟨φ,h⟩:=h
  refine ⟨φ,aJ.sub (F:=s.F) h fun i y hy=>.inl ?_⟩
  rw [aD] at hy
  split at hy
  ·rename_i e;subst e;cases hy;exact hx
  ·rename_i e;rw [bH,if_neg e] at hy;exact hy
 ·exact h
def yk (P:Program) (n M q:Nat) (Ws Fs:List Nat) (ops:List Oper) (hs:List (Nat×Hint)) (s:AS):Option (AS×AS×AS×List Prop) :=
 match P.follows .mixedOrders,oF ops.toArray (M+1),tf P n M Ws Fs ops hs s,ops[M]?,ops[q]? with
 | true,true,some (l,C),some o,some p=>(match NM M q Ws Fs o,o.guard,p.guard,p.dst,AG P n M Ws Fs [] ops l,AG P n M Ws Fs [q] ops l with
  | true,none,none,some d,some sa,some sb=>(match A_ P n sa o (gw hs M),A_ P n sb o (gw hs M) with
   | some (sA,D1),some (sB,D2)=>(match A_ P n sB p (gw hs q) with
    | some (sC,D3)=>(match j6 P n ops hs (ops.drop (M+1)) (M+1) sC with
     | some (s',D4)=>some (s',uR sA d,sC,C++(D1++(D2++(D3++D4))))
     | none=>none)
    | none=>none)
   | _,_=>none)
  | _,_,_,_,_,_=>none)
 | _,_,_,_,_=>none
theorem CU {n M q:Nat} {Ws Fs:List Nat} {hs:List (Nat×Hint)} {s s' x:AS} {C:List Prop} (he:yk P n M q Ws Fs ops hs s=some (s',x,x,C)) (hC:bz C) {a:Act} {w:World} (gb:iv S0 w0 n s a w) (hQ:∀a' w',m5 S0 w0 n s' a' w'->Q .normal a' w'):P.follows .mixedOrders=true∧wpAny P .any ops.toArray Q ops.toArray.size (Array.replicate ops.toArray.size false) a {w with drawn:=w.drawn+1}:=by
 unfold yk at he
 split at he
 case h_2=>cases he
 rename_i l C1 o p hm hT hh ho hp
 split at he
 case h_2=>cases he
 rename_i d sa sb R6 Uu Us VP Un Um
 split at he
 case h_2=>cases he
 rename_i sA D1 sB D2 hA Vk
 split at he
 case h_2=>cases he
 rename_i sC D3 Vj
 split at he
 case h_2=>cases he
 rename_i s2 D4 oN
 have he:=Option.some.inj he
 have e1:s2=s':=congrArg (·.1) he
 have e2:uR sA d=x:=congrArg (·.2.1) he
 have e3:sC=x:=congrArg (·.2.2.1) he
 have e4:C1++(D1++(D2++(D3++D4)))=C:=congrArg (·.2.2.2) he
 subst e1
 have e5:uR sA d=sC:=e2.trans e3.symm
 rw [←e4] at hC
 obtain ⟨iJ,hC⟩:=bP.1 hC
 obtain ⟨Vh,hC⟩:=bP.1 hC
 obtain ⟨Vg,hC⟩:=bP.1 hC
 obtain ⟨Vf,Ve⟩:=bP.1 hC
 obtain ⟨b1,b2,b3,b4⟩:=Dv R6
 obtain ⟨hB,h1,h2,h3⟩:=Et (Q:=Q) hh iJ gb
 unfold oF at hT
 simp only [Bool.and_eq_true,decide_eq_true_eq] at hT
 obtain ⟨⟨⟨Gy,K2⟩,K1⟩,K0⟩:=hT
 let J:(Nat->Bool)->Act->World->Prop:=fun L a' w'=>(L M=false∧JF P n M Ws Fs ops (fun i=>l.getD i default) S0 w0 L a' w')∨(L M=true∧ ∃S2 w2,k9 S0 w0 S2 w2 []∧((L q=true∧iv S2 w2 n sC a' w')∨(L q=false∧iv S2 w2 n sB a' w')))
 have jY:∀(o:Oper) (a':Act),o.guard=none->Region.wanted o (yielded ops.toArray a'.tmps)=true:=fun o a' hg=>by unfold Region.wanted;rw [hg]
 refine ⟨hm,nf (n:=n) Gy K2 K1 K0 hB J ?_ ?_ ops.toArray.size _ a _ ⟨by simp,fun k o hk=>?_⟩ (.inl ⟨getD_replicate_false _ _,h1⟩) (fun j _=>by rw [getD_replicate_false]) (by simp)⟩
 ·intro k o1 L a' w' hk Ti AM hd hc Ax hJ
  have Gt:ops[k]?=some o1:=by simpa using Ti
  have cX:q≠M:=aj
  by_cases ek:k=M
  ·subst ek
   rw [ho] at Gt;cases Gt
   rw [if_pos (jY o a' Uu)]
   have TH:=hJ.resolve_right fun h=>by rw [AM] at h;cases h.1
   have gj:∀j,j<k->j≠q->L j=true:=fun j hj RP=>hd j (b4 j hj RP)
   have pk:eS L k k=true:=by unfold eS;rw [if_pos rfl]
   have pq:eS L k q=L q:=by unfold eS;rw [if_neg cX]
   cases hq:L q with
   | true =>
    obtain ⟨S2,w1,KG,mZ⟩:=h3 [] sa L a' w' (fun k hk=>by cases hk) Un (fun j hj _=>by
     by_cases e:j=q
     ·rw [e];exact hq
     ·exact gj j hj e) TH.2
    exact Oper.wp_mono (fun rL fw h=>.inr ⟨pk,S2,w1,KG,.inl ⟨by rw [pq];exact hq,by rw [←e5];exact FN h⟩⟩) (oe hA Vh S2 w1 a' w' Q mZ)
   | false =>
    obtain ⟨S2,w1,KG,mZ⟩:=h3 [q] sb L a' w' (fun k hk=>by obtain rfl:=List.mem_singleton.1 hk;exact ⟨b2,b3⟩) Um (fun j hj RP=>gj j hj fun e=>RP (by simp [e])) TH.2
    exact Oper.wp_mono (fun rL fw h=>.inr ⟨pk,S2,w1,KG,.inr ⟨by rw [pq];exact hq,h⟩⟩) (oe Vk Vg S2 w1 a' w' Q mZ)
  ·have Tp:k<M:=aj
   have pM:eS L k M=L M:=by unfold eS;rw [if_neg fun e=>ek e.symm]
   rcases hJ with ⟨hM,hJ⟩|⟨hM,S2,w2,hz,hJ⟩
   ·have:=h2 k o1 L a' w' Tp Ti AM hd hc (fun j hj=>by
     by_cases e:j=M
     ·rw [e];exact hM
     ·exact Ax j aj) hJ
    split
    ·rename_i hw
     rw [if_pos hw] at this
     exact Oper.wp_mono (fun rL fw h=>.inl ⟨by rw [pM];exact hM,h⟩) this
    ·rename_i hw
     rw [if_neg hw] at this
     exact .inl ⟨by rw [pM];exact hM,this⟩
   ·have Vx:k=q:=Classical.byContradiction fun e=>by
     have:=hc M o hM (by simpa using ho) k (b4 k Tp e)
     rw [AM] at this;cases this
    subst Vx
    rw [hp] at Gt;cases Gt
    rw [if_pos (jY p a' Us)]
    have hs:=(hJ.resolve_left fun h=>by rw [AM] at h;cases h.1).2
    exact Oper.wp_mono (fun rL fw h=>.inr ⟨by rw [pM];exact hM,S2,w2,hz,.inl ⟨by unfold eS;rw [if_pos rfl],h⟩⟩) (oe Vj Vf S2 w2 a' w' Q hs)
 ·intro L a' w' gj Ax hJ
  have hM:=gj M aj
  have hq:=gj q aj
  obtain ⟨-,S2,w2,hz,hJ⟩:=hJ.resolve_left fun h=>by rw [hM] at h;cases h.1
  have hs:=(hJ.resolve_right fun h=>by rw [hq] at h;cases h.1).2
  have kf:=jO (S0:=S2) (w0:=w2) (Q:=Q) _ _ _ _ _ oN Ve a' w' hs fun a2 w2 h2=>hQ a2 w2 (m5.after hz h2.one)
  simpa using kf
 ·rw [getD_replicate_false] at hk;cases hk
end
def ya (P:Program) (n T:Nat) (Ws Fs:List Nat) (hs:List (Nat×Hint)) (c:Code) (s:AS):Option (AS×List Prop) :=
 match c with
 | .region _ ⟨l⟩ true=>yl P n T Ws Fs l hs s
 | _=>none
theorem bf.Q2 {P:Program} {n:Nat} {c:Code} {Q:Exit->AS->Prop} {s s':AS} {C:List Prop} (T:Nat) (Ws Fs:List Nat) (hs:List (Nat×Hint)) (he:ya P n T Ws Fs hs c s=some (s',C)) (hC:bz C) (h:Q .normal s'):bf P n c Q s:=by
 intro S0 w0 a w gb
 unfold ya at he
 split at he
 ·exact CV (S0:=S0) (w0:=w0) he hC gb fun a' w' bY=>⟨s',h,bY⟩
 ·cases he
def mI (P:Program) (n M q:Nat) (Ws Fs:List Nat) (hs:List (Nat×Hint)) (c:Code) (s:AS):Option (AS×AS×AS×List Prop) :=
 match c with
 | .region _ ⟨l⟩ true=>yk P n M q Ws Fs l hs s
 | _=>none
def Mu (r:Option (AS×AS×AS×List Prop)):Option (AS×List Prop):=match r with|some (s',_,_,C)=>some (s',C)|none=>none
def LF (r:Option (AS×AS×AS×List Prop)):AS:=match r with|some (_,x,_,_)=>x|none=>⟨[],[]⟩
def LD (r:Option (AS×AS×AS×List Prop)):AS:=match r with|some (_,_,y,_)=>y|none=>⟨[],[]⟩
theorem bf.Q0 {P:Program} {n:Nat} {c:Code} {Q:Exit->AS->Prop} {s s':AS} {C:List Prop} (M q:Nat) (Ws Fs:List Nat) (hs:List (Nat×Hint)) (hx:LF (mI P n M q Ws Fs hs c s)=LD (mI P n M q Ws Fs hs c s)) (he:Mu (mI P n M q Ws Fs hs c s)=some (s',C)) (hC:bz C) (h:Q .normal s'):bf P n c Q s:=by
 intro S0 w0 a w gb
 generalize hr:mI P n M q Ws Fs hs c s=r at he hx
 match r,he,hx with
 | some (_,x,y,_),he,hx =>
  have he:some (_,_)=some (s',C):=he
  injection he with he
  injection he with e1 e2
  have hx:x=y:=hx
  subst e1 e2 hx
  unfold mI at hr
  split at hr
  ·exact CU (S0:=S0) (w0:=w0) hr hC gb fun a' w' bY=>⟨_,h,bY⟩
  ·cases hr
end Go.Proofs.YtjgbhhnghedgdaaGreatDoor
