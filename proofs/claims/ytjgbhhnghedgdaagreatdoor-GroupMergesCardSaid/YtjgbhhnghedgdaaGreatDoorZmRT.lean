import Derived.Test.YtjgbhhnghedgdaaGreatDoorZmRS
import Derived.Test.YtjgbhhnghedgdaaGreatDoorZmRI
set_option linter.all false
namespace Go.Proofs.YtjgbhhnghedgdaaGreatDoor
open Go.RowKit
section
variable {S0:bn} {w0 w:World} {n:Nat} {s:AS} {a:Act} {φ:Nat->Option Nat} {g:Nat}
def zH (S0:bn) (φ:Nat->Option Nat) (g:Nat):bn:=⟨fun b=>S0.S b∧b≠g,fun b=>∃id,φ id=some b,S0.fix,S0.sG⟩
theorem ve:aQ (zH S0 φ g) w φ []=aQ S0 w φ [g]:=by
 funext b
 apply propext
 unfold aQ zH
 simp only [List.not_mem_nil,not_false_eq_true,true_and,List.mem_singleton]
 exact ⟨fun ⟨h1,h2,h3,h4⟩=>⟨h1,h4,h2,h3⟩,fun ⟨h1,h2,h3,h4⟩=>⟨h1,h3,h4,h2⟩⟩
theorem aO.aside (h:aO S0 w0 n [g] s a w φ) (hg:g<w.heap.size):lf S0 w0 (zH S0 φ g) w []∧aO (zH S0 φ g) w n [] s a w φ:=by
 have hX:∀b,(∃id,φ id=some b)->w0.heap.size≤b∨S0.X b:=fun b ⟨id,hid⟩=>(h.cY id b hid).1.2
 refine ⟨⟨h.cZ,fun b hb=>hb.1,hX,rfl,rfl,List.nodup_nil,fun r hr=>by cases hr⟩,⟨h.jS,h.jV,⟨rfl,rfl,rfl,Nat.le_refl _,fun _ _ _=>rfl,h.cZ.mP,fun b hb=>h.sU hb⟩,?_,?_,h.only,h.inj,fun id b hid=>⟨⟨(h.cY id b hid).1.1,.inr ⟨id,hid⟩⟩,(h.cY id b hid).2⟩,fun _ _ _=>by simp,?_⟩⟩
 ·rw [ve];exact h.cC
 ·rw [ve];exact h.rows
 ·rintro b (hb|⟨id,hid⟩)
  ·exact ⟨h.new b (.inl (Nat.le_trans h.cZ.size hb)),ah⟩
  ·exact ⟨h.new b (hX b ⟨id,hid⟩),fun e=>h.apart id b hid (by simp [e])⟩
def vI (S1:bn) (g:Nat):bn:=⟨fun b=>S1.S b∨b=g,fun b=>S1.X b∨b=g,S1.fix,S1.sG⟩
theorem xn {S1:bn} (hS:¬S1.S g):aQ (vI S1 g) w φ [g]=aQ S1 w φ []:=by
 funext b
 apply propext
 unfold aQ vI
 simp only [List.not_mem_nil,not_false_eq_true,true_and,List.mem_singleton]
 constructor
 ·rintro ⟨h1,h2,h3,h4|h4⟩
  ·exact ⟨h1,h3,h4⟩
  ·exact absurd h4 h2
 ·rintro ⟨h1,h3,h4⟩
  exact ⟨h1,fun e=>hS (e ▸ h4),h3,.inl h4⟩
theorem aO.back {S1:bn} {w1:World} (h:aO S1 w1 n [] s a w φ) (hg:g<w1.heap.size) (hS:¬S1.S g) (hX:¬S1.X g) (hT:¬TB g):aO (vI S1 g) w1 n [g] s a w φ:=by
 refine ⟨h.jS,h.jV,⟨h.cZ.os,h.cZ.tape,h.cZ.output,h.cZ.size,fun k hk hx=>h.cZ.block k hk fun q=>hx (.inl q),h.cZ.g0,?_⟩,?_,?_,h.only,h.inj,fun id b hid=>⟨⟨(h.cY id b hid).1.1,(h.cY id b hid).1.2.imp (fun q=>q) .inl⟩,(h.cY id b hid).2⟩,?_,?_⟩
 ·rintro b hb (q|q)
  ·exact h.cZ.gx b hb q
  ·exact hT (q ▸ hb)
 ·rw [xn hS];exact h.cC
 ·rw [xn hS];exact h.rows
 ·intro id b hid hm
  have e:b=g:=by simpa using hm
  subst e
  rcases (h.cY id b hid).1.2 with q|q
  ·omega
  ·exact hX q
 ·rintro b (q|q|q)
  ·exact .inl (h.new b (.inl q))
  ·exact .inl (h.new b (.inr q))
  ·exact .inr q
end
section
variable {P:Program} {S0:bn} {w0 w:World} {n:Nat} {s:AS} {a:Act} {Q:Exit->Act->World->Prop}
structure Aside (S0:bn) (w0:World) (g:Nat) (o:Obj):Prop where
 lt:g<w0.heap.size
 S:¬S0.S g
 X:¬S0.X g
 tb:¬TB g
 obj:w0.heap[g]?=some o
theorem B_ {o:Oper} {t d:Nat} {z:Value} (ho:o.op= .alloc t) (hd:o.dst=some d) (OX:d<n) (hz:(P.info? t).bind (·.zero)=some z) (h:ix S0 w0 n s a w) :
  o.wp P a w (fun a' w'=>∃g S1,w0.heap.size≤g∧lf S0 w0 S1 w' []∧Aside S1 w' g (.cells z.cells t (0,0))∧ix S1 w' n (lx s d (.val (.pointer (some ⟨g,0,none⟩)))) a' w') Q:=by
 obtain ⟨φ,hs⟩:=h
 have cw:(execOp a.eval o).run P w= .ok (.value (.pointer (some ⟨w.heap.size,0,none⟩))) {w with heap:=w.heap.push (.cells z.cells t (0,0))}:=by
  unfold execOp
  simp [ho,Instr.alloc,iO hz,newVar,newRow]
 refine cU cw ?_
 rw [hd]
 have h1:=hs.await w.heap.size (Nat.le_refl _)
 have h2:=h1.wK (w':={w with heap:=w.heap.push (.cells z.cells t (0,0))}) (fun g hg=>by simp at hg;rw [hg];exact .inl hs.cZ.size) rfl rfl rfl (by simp) (fun b hb _=>cL w _ b hb)
 have h3:=h2.put OX (v:=.pointer (some ⟨w.heap.size,0,none⟩)) (.rep (.val _))
 obtain ⟨k1,k2⟩:=h3.aside (by simp)
 refine ⟨w.heap.size,_,hs.cZ.size,k1,⟨by simp,fun q=>q.2 rfl,fun ⟨id,hid⟩=>h3.apart id _ hid (by simp),fun hb=>?_,dM w _⟩,⟨φ,k2⟩⟩
 have:=hs.cZ.g0.lt hb
 have:=hs.cZ.size
 omega
theorem Ec {g t d:Nat} {z:Value} (hA:Aside S0 w0 g (.cells z.cells t (0,0))) (hd:d<1000000000000) (fM:look s.H d=none) (h:ix S0 w0 n s a w) (hv:a.tmps.getD d undef= .pointer (some ⟨g,0,none⟩)) :
  ix (vI S0 g) w0 n ⟨(d,.addr d 0)::cP s.F d,(d,⟨rV P t,false,true,z.cells.toList.map bE⟩)::s.H⟩ a w:=by
 obtain ⟨φ,hs⟩:=h
 have h1:=hs.back hA.lt hA.S hA.X hA.tb
 have dw:=hs.cZ.size
 have hg:w.heap[g]?=some (.cells z.cells t (0,0)):=(hs.cZ.block g hA.lt hA.X).trans hA.obj
 have h2:=h1.xz (id:=d) (r:=⟨rV P t,false,true,z.cells.toList.map bE⟩) ⟨.inl hd,.inr (.inr rfl)⟩ (Nat.lt_of_lt_of_le hA.lt dw) (by simp) fM ⟨z.cells,t,(0,0),hg,by simp,by simp,by simp,fun j u x hu hx=>by
  simp only [List.getElem?_map] at hx
  have:z.cells.toList[j]?=some u:=by simpa using hu
  rw [this] at hx;injection hx with hx;subst hx
  exact .rep (fV u)⟩
 refine ⟨_,h2.jS,h2.jV,h2.cZ,fun i av hi=>?_,h2.rows,h2.only,h2.inj,h2.cY,h2.apart,h2.new⟩
 rw [aF] at hi
 by_cases e:d=i
 ·subst e
  rw [if_pos rfl] at hi;injection hi with hi;subst hi
  rw [hv]
  exact .addr d 0 _ _ _ (by
   show az ((d,(⟨rV P t,false,true,z.cells.toList.map bE⟩:Row))::s.H) _ d=_
   rw [bu (r:=⟨rV P t,false,true,z.cells.toList.map bE⟩) (by rw [aF,if_pos rfl])]
   unfold fI;rw [if_pos rfl])
 ·rw [if_neg e,bJ,if_neg e] at hi
  exact h2.cC i av hi
end
def mb (Fs:List Nat) (P:Program) (n T:Nat) (ops:List Oper) (hs:List (Nat×Hint)) (R:List (List Nat)):List Nat->List Nat->List Nat->Bool->List AV->List (Nat×AV)->List (Nat×Row)->Option (List n0×List Prop)
 | [],done,last,first,old,kept,H=>(match zx P ops hs R done Fs last first old kept H (ops.take T) 0 [] with
  | some (col,C)=>some ([⟨col,kept,H⟩],C)
  | none=>none)
 | W::rest,done,last,first,old,kept,H=>(match zx P ops hs R done (W::rest++Fs) last first old kept H (ops.take T) 0 [],ops[W]? with
  | some (col,C),some o=>(match y7 P ops n ⟨jo ops col (bl o)++kept,H⟩ o (gC hs W) with
   | some (Tr,x,H',D)=>(match mb Fs P n T ops hs R rest (done++ [W]) [W] false ((col.map Tr).set W x) (d_ Tr kept) H' with
    | some (l,E)=>some (⟨col,kept,H⟩::l,C++(D++E))
    | none=>none)
   | none=>none)
  | _,_=>none)
def Ef (Fs:List Nat) (P:Program) (T:Nat) (ops:List Oper) (hs:List (Nat×Hint)) (R:List (List Nat)) (rest done last:List Nat) (first:Bool) (old:List AV) (st:n0):Prop :=
 ∃C,zx P ops hs R done (rest++Fs) last first old st.kept st.H (ops.take T) 0 []=some (st.col,C)∧bz C
theorem tY {Fs:List Nat} {P:Program} {n T:Nat} {ops:List Oper} {hs:List (Nat×Hint)} {R:List (List Nat)}:∀(rest done last:List Nat) (first:Bool) (old:List AV) (kept:List (Nat×AV)) (H:List (Nat×Row)) (l:List n0) (E:List Prop),
  mb Fs P n T ops hs R rest done last first old kept H=some (l,E)->bz E ->
  (l.getD 0 default).kept=kept∧(l.getD 0 default).H=H∧Ef Fs P T ops hs R rest done last first old (l.getD 0 default) ∧
  ∀(i W:Nat),rest[i]?=some W-> ∃o Tr x D,ops[W]?=some o∧y7 P ops n ⟨jo ops (l.getD i default).col (bl o)++(l.getD i default).kept,(l.getD i default).H⟩ o (gC hs W)=some (Tr,x,(l.getD (i+1) default).H,D)∧bz D ∧
   (l.getD (i+1) default).kept=d_ Tr (l.getD i default).kept∧Ef Fs P T ops hs R (rest.drop (i+1)) (done++rest.take (i+1)) [W] false (((l.getD i default).col.map Tr).set W x) (l.getD (i+1) default)
 | [],done,last,first,old,kept,H,l,E,he,hE=>by
  simp only [mb] at he
  split at he
  ·rename_i col C hc
   cases he
   exact ⟨rfl,rfl,⟨_,hc,hE⟩,fun i W h=>by simp at h⟩
  ·cases he
 | W::rest,done,last,first,old,kept,H,l,E,he,hE=>by
  simp only [mb] at he
  split at he
  ·rename_i col C o hc ho
   split at he
   ·rename_i Tr x H' D hw
    split at he
    ·rename_i l' E' Nt
     cases he
     obtain ⟨hC,S5⟩:=bT.1 hE
     obtain ⟨hD,S4⟩:=bT.1 S5
     obtain ⟨h1,h2,h3,h4⟩:=tY rest _ _ _ _ _ _ _ _ Nt S4
     refine ⟨rfl,rfl,⟨_,hc,hC⟩,fun i W' hi=>?_⟩
     cases i with
     | zero =>
      simp at hi;subst hi
      exact ⟨o,Tr,x,D,ho,by rw [←h2] at hw;exact hw,hD,h1,by simpa using h3⟩
     | succ i =>
      obtain ⟨o',Ru,x',D',k1,k2,k3,k4,k5⟩:=h4 i W' (by simpa using hi)
      refine ⟨o',Ru,x',D',k1,k2,k3,k4,?_⟩
      have e:done++(W::rest).take (i+1+1)=done++ [W]++rest.take (i+1):=by simp
      rw [e]
      exact k5
    ·cases he
   ·cases he
  ·cases he
theorem Fi {P:Program} {n:Nat} {F:List (Nat×AV)} {H H':List (Nat×Row)} {o:Oper} {h:Hint} {Tr:AV->AV} {X:AV} {C:List Prop} (ea:O8 P n ⟨F,H⟩ o h=some (Tr,X,H',C)) (v:Value):Tr (.val v)= .val v:=by
 have uL:∀l:List Nat,im l (.val v)= .val v:=by
  intro l
  induction l with
  | nil=>rfl
  | cons x l ih=>first|exact ih|(simp only [im];exact ih)
 unfold O8 at ea
 split at ea
 ·split at ea
  ·cases ea
   unfold J8
   split<;>rfl
  ·cases ea
 ·split at ea
  ·cases ea;rfl
  ·cases ea
 ·split at ea
  ·split at ea
   ·cases ea
    simp only [uL]
   ·cases ea
  ·split at ea
   ·cases ea
    simp only [uL]
   ·cases ea
  ·cases ea
 ·split at ea
  ·cases ea;rfl
  ·cases ea
 ·split at ea
  ·split at ea
   ·cases ea;rfl
   ·cases ea
  ·cases ea
 ·cases ea
theorem Jr {P:Program} {n:Nat} {ops:List Oper} {F:List (Nat×AV)} {H H':List (Nat×Row)} {o:Oper} {h:Hint} {Tr:AV->AV} {X:AV} {C:List Prop} (ea:y7 P ops n ⟨F,H⟩ o h=some (Tr,X,H',C)) (v:Value):Tr (.val v)= .val v:=by
 unfold y7 at ea
 split at ea
 ·exact Fi ea v
 ·split at ea
  ·split at ea
   ·split at ea
    ·rename_i he
     cases ea
     exact Fi he v
    ·cases ea
   ·cases ea
  ·cases ea
def jA (P:Program) (n:Nat) (o:Oper):Option (Nat×Nat×Value) :=
 match o.guard,o.op,o.dst with
 | none,.alloc t,some d=>(match (P.info? t).bind (·.zero),Nat.blt d n,Nat.blt d 1000000000000 with
  | some z,true,true=>some (d,t,z)
  | _,_,_=>none)
 | _,_,_=>none
theorem jz {P:Program} {n:Nat} {o:Oper} {d t:Nat} {z:Value} (h:jA P n o=some (d,t,z)):o.guard=none∧o.op= .alloc t∧o.dst=some d∧(P.info? t).bind (·.zero)=some z∧d<n∧d<1000000000000:=by
 unfold jA at h
 split at h
 ·rename_i t' d' hg ho hd
  split at h
  ·rename_i z' hz h1 h2
   injection h with h
   injection h with e1 e2
   injection e2 with e2 e3
   subst e1;subst e2;subst e3
   exact ⟨hg,ho,hd,hz,by simpa [Nat.blt_eq] using h1,by simpa [Nat.blt_eq] using h2⟩
  ·cases h
 ·cases h
def FV (g:Nat):Value:=.pointer (some ⟨g,0,none⟩)
def oN (Fs:List Nat) (G:Nat->Nat) (col:List AV):List AV:=col.mapIdx fun q x=>if q∈Fs then .val (FV (G q)) else x
theorem tA {Fs:List Nat} {G:Nat->Nat} {col:List AV} {q:Nat} (h:q∈Fs):(oN Fs G col)[q]?=col[q]?.map fun _=>.val (FV (G q)):=by
 unfold oN
 rw [List.getElem?_mapIdx]
 cases col[q]?<;>simp [h]
theorem mg {Fs:List Nat} {G:Nat->Nat} {col:List AV} {q:Nat} (h:q ∉ Fs):(oN Fs G col)[q]?=col[q]?:=by
 unfold oN
 rw [List.getElem?_mapIdx]
 cases col[q]?<;>simp [h]
theorem DT {ops:List Oper} {Fs:List Nat} {G:Nat->Nat} {col:List AV}:∀(l:List Nat),(∀d∈l,d ∉ Fs)->jo ops (oN Fs G col) l=jo ops col l
 | [],_=>rfl
 | d::l,h=>by
  simp only [jo,mg (h d (by simp)),DT l fun e he=>h e (by simp [he])]
def Oz (P:Program) (s:AS) (d t:Nat) (z:Value):AS:=⟨(d,.addr d 0)::cP s.F d,(d,⟨rV P t,false,true,z.cells.toList.map bE⟩)::s.H⟩
def zM (P:Program) (n:Nat) (ops:List Oper):List Nat->AS->Option AS
 | [],s=>some s
 | f::l,s=>(match ops[f]? with
  | some o=>(match jA P n o with
   | some (d,t,z)=>(match look s.H d with
    | none=>zM P n ops l (Oz P s d t z)
    | some _=>none)
   | none=>none)
  | none=>none)
theorem Aside.next {S1:bn} {w1:World} {g g':Nat} {o:Obj} (h:Aside S1 w1 g' o) (cW:g'≠g):Aside (vI S1 g) w1 g' o :=
 ⟨h.lt,fun q=>q.elim h.S cW,fun q=>q.elim h.X cW,h.tb,h.obj⟩
theorem lf.back {S0 S1:bn} {w0 w1:World} {g:Nat} (h:lf S0 w0 S1 w1 []) (hg:w0.heap.size≤g) (hS:S0.S g):lf S0 w0 (vI S1 g) w1 [] :=
 ⟨h.kept,fun b q=>q.elim (h.sub b) fun e=>e ▸ hS,fun b q=>q.elim (h.X b) fun e=>.inl (e ▸ hg),h.fix,h.sG,List.nodup_nil,fun r hr=>by cases hr⟩
section
variable {P:Program} {n:Nat} {ops:List Oper} {S0:bn} {w0 w1 w:World} {a:Act} {G:Nat->Nat}
theorem xA (MA:∀b,w0.heap.size≤b->S0.S b):∀(Fs:List Nat) (s s':AS) (S1:bn),Fs.Nodup->zM P n ops Fs s=some s'->lf S0 w0 S1 w1 [] ->
  (∀f∈Fs,∀o d t z,ops[f]?=some o->jA P n o=some (d,t,z)->w0.heap.size≤G f∧Aside S1 w1 (G f) (.cells z.cells t (0,0))∧a.tmps.getD d undef=FV (G f)) ->
  (∀f∈Fs,∀f'∈Fs,f≠f'->G f≠G f')->ix S1 w1 n s a w-> ∃S2,lf S0 w0 S2 w1 []∧ix S2 w1 n s' a w
 | [],s,s',S1,_,he,hz,_,_,hs=>by cases he;exact ⟨S1,hz,hs⟩
 | f::l,s,s',S1,hn,he,hz,hA,hG,hs=>by
  simp only [zM] at he
  split at he
  ·rename_i o ho
   split at he
   ·rename_i d t z hf
    split at he
    ·rename_i hl
     obtain ⟨h1,h2,h3⟩:=hA f (by simp) o d t z ho hf
     have hk:=Ec (P:=P) h2 (jz hf).2.2.2.2.2 hl hs h3
     rw [List.nodup_cons] at hn
     refine xA MA l _ s' (vI S1 (G f)) hn.2 he (hz.back h1 (MA _ h1)) (fun f' Lr o' d' t' z' rA Hc=>?_) (fun f1 h1 f2 h2 cW=>hG f1 (by simp [h1]) f2 (by simp [h2]) cW) hk
     obtain ⟨k1,k2,k3⟩:=hA f' (by simp [Lr]) o' d' t' z' rA Hc
     exact ⟨k1,k2.next (hG f' (by simp [Lr]) f (by simp) fun e=>hn.1 (e ▸ Lr)),k3⟩
    ·cases he
   ·cases he
  ·cases he
end
theorem Aside.move {S1 S2:bn} {w1 w2:World} {ms:List Nat} {g:Nat} {o:Obj} (h:Aside S1 w1 g o) (k:lf S1 w1 S2 w2 ms):Aside S2 w2 g o :=
 ⟨Nat.lt_of_lt_of_le h.lt k.kept.size,fun q=>h.S (k.sub g q),fun q=>(k.X g q).elim (fun e=>by have:=h.lt;omega) h.X,h.tb,(k.kept.block g h.lt h.X).trans h.obj⟩
def K0 (ops:List Oper) (T:Nat) (Fs:List Nat) (R:List (List Nat)):Bool:=(List.range T).all fun q=> !(hit (R.getD q []) Fs) && match ops[q]? with|some o=> !(hit (bl o) Fs)|none=>true
def Oy (Fs Ws:List Nat):Bool:=Fs.all fun f=> !(Ws.any (Nat.beq f))
def LH (P:Program) (n:Nat) (ops:List Oper) (Fs:List Nat):Bool:=Fs.all fun f=>match ops[f]? with|some o=>(jA P n o).isSome && (bl o).isEmpty|none=>false
def tw (P:Program) (n T:Nat) (Ws Fs:List Nat) (ops:List Oper) (hs:List (Nat×Hint)) (s:AS):Option (List n0×List Prop) :=
 match lK ops.toArray n,Nat.ble T ops.length,vB (mA (ops.take T) []) Ws,xy T Ws,nodupB Ws,xy T Fs,nodupB Fs,Oy Fs Ws,K0 ops T Fs (mA (ops.take T) []),LH P n ops Fs with
 | true,true,true,true,true,true,true,true,true,true=>mb Fs P n T ops hs (mA (ops.take T) []) Ws [] [] true [] (nI ((ops.take T).filterMap (·.dst)) s.F) s.H
 | _,_,_,_,_,_,_,_,_,_=>none
def Bc (late:List Nat) (col:List AV):List AV:=col.mapIdx fun q x=>match late.any (Nat.beq q) with|true=>.dead|false=>x
theorem Ir {late:List Nat} {col:List AV} {q:Nat}:(Bc late col)[q]?=col[q]?.map fun x=>match late.any (Nat.beq q) with|true=>.dead|false=>x:=by
 unfold Bc;rw [List.getElem?_mapIdx]
def Bv (P:Program) (n T:Nat) (Ws Fs late:List Nat) (ops:List Oper) (l:List n0):Option AS:=zM P n ops Fs ⟨jb (ops.take T) (Bc late (l.getD Ws.length default).col)++(l.getD Ws.length default).kept,(l.getD Ws.length default).H⟩
def zj (P:Program) (n T:Nat) (Ws Fs:List Nat) (ops:List Oper) (hs:List (Nat×Hint)) (s:AS):Option (AS×List Prop) :=
 match P.follows .mixedOrders,oQ ops.toArray T,tw P n T Ws Fs ops hs s with
 | true,true,some (l,C)=>(match Bv P n T Ws Fs [] ops l with
  | some s1=>(match j8 P n ops hs (ops.drop T) T s1 with
   | some (s',D)=>some (s',C++D)
   | none=>none)
  | none=>none)
 | _,_,_=>none
structure r7 (P:Program) (n:Nat) (ops:List Oper) (Fs:List Nat) (L:Nat->Bool) (G:Nat->Nat) (S0:bn) (w0:World) (S1:bn) (w1:World):Prop where
 z:lf S0 w0 S1 w1 []
 aside:∀f∈Fs,L f=true->w0.heap.size≤G f∧ ∃o d t z,ops[f]?=some o∧jA P n o=some (d,t,z)∧Aside S1 w1 (G f) (.cells z.cells t (0,0))
 inj:∀f∈Fs,∀f'∈Fs,L f=true->L f'=true->f≠f'->G f≠G f'
theorem r7.skip {P:Program} {n:Nat} {ops:List Oper} {Fs:List Nat} {L:Nat->Bool} {G:Nat->Nat} {S0 S1:bn} {w0 w1:World} (h:r7 P n ops Fs L G S0 w0 S1 w1) {k:Nat} (hk:k ∉ Fs):r7 P n ops Fs (eQ L k) G S0 w0 S1 w1:=by
 have e:∀f∈Fs,eQ L k f=L f:=fun f hf=>by
  have cW:f≠k:=fun e=>by subst e;exact hk hf
  unfold eQ;rw [if_neg cW]
 exact ⟨h.z,fun f hf hL=>h.aside f hf (e f hf ▸ hL),fun f hf f' Lr h1 h2=>h.inj f hf f' Lr (e f hf ▸ h1) (e f' Lr ▸ h2)⟩
section
variable {P:Program} {n T:Nat} {ops:List Oper} {Fs:List Nat} {L:Nat->Bool} {G:Nat->Nat} {S0 S1:bn} {w0 w1 w:World} {a:Act} {Q:Exit->Act->World->Prop} {col:List AV} {kept:List (Nat×AV)} {H:List (Nat×Row)} {k d t:Nat} {z:Value} {o:Oper}
theorem Dl (ir:(ops.filterMap (·.dst)).Nodup) (hk:k<T) (ho:ops[k]?=some o) (hf:jA P n o=some (d,t,z)) (E4:k∈Fs) (BB:L k=false)
  (fz:∀i x,look kept i=some x-> ∀j p,j<T->ops[j]?=some p->p.dst≠some i) (hF:r7 P n ops Fs L G S0 w0 S1 w1) (hs:ix S1 w1 n ⟨dQ ops (oN Fs G col) L T++kept,H⟩ a w) :
  o.wp P a w (fun a' w'=>∃S2 w2 G',r7 P n ops Fs (eQ L k) G' S0 w0 S2 w2∧ix S2 w2 n ⟨dQ ops (oN Fs G' col) (eQ L k) T++kept,H⟩ a' w') Q:=by
 obtain ⟨-,p2,p3,p4,p5,p6⟩:=jz hf
 refine Oper.wp_mono ?_ (B_ p2 p3 p5 p4 hs)
 rintro a' w' ⟨g,S2,h1,h2,h3,φ,h4⟩
 have cW:∀f,L f=true->f≠k:=fun f hL e=>by subst e;rw [BB] at hL;cases hL
 have ez:∀f,f≠k->eQ L k f=L f:=fun f e=>by unfold eQ;rw [if_neg e]
 have dk:∀f∈Fs,L f=true->G f≠g:=fun f Hc hL e=>by
  obtain ⟨-,o',d',t',z',-,-,hA⟩:=hF.aside f Hc hL
  have:=hA.lt
  omega
 refine ⟨S2,w',fun q=>if q=k then g else G q,⟨by simpa using hF.z.trans h2,fun f Hc hL=>?_,fun f Hc f' Qg hL Rk e=>?_⟩,⟨φ,aO.sub h4 fun i x hx=>?_⟩⟩
 ·by_cases e:f=k
  ·subst e
   simp only [if_pos]
   exact ⟨Nat.le_trans hF.z.kept.size h1,o,d,t,z,ho,hf,h3⟩
  ·rw [ez f e] at hL
   obtain ⟨k1,o',d',t',z',k2,k3,k4⟩:=hF.aside f Hc hL
   simp only [if_neg e]
   exact ⟨k1,o',d',t',z',k2,k3,k4.move h2⟩
 ·by_cases e1:f=k
  ·have e2:f'≠k:=fun e2=>e (e1.trans e2.symm)
   rw [ez f' e2] at Rk
   simp only [if_pos e1,if_neg e2]
   exact fun q=>dk f' Qg Rk q.symm
  ·rw [ez f e1] at hL
   by_cases e2:f'=k
   ·simp only [if_pos e2,if_neg e1]
    exact dk f Hc hL
   ·rw [ez f' e2] at Rk
    simp only [if_neg e1,if_neg e2]
    exact hF.inj f Hc f' Qg hL Rk e
 ·rw [bQ] at hx
  left
  show look ((d,_)::cP _ d) i=some x
  rw [aF]
  cases hl:look (dQ ops (oN Fs (fun q=>if q=k then g else G q) col) (eQ L k) T) i with
  | some y =>
   rw [hl] at hx
   simp at hx;subst hx
   obtain ⟨j,p,j1,j2,j3,j4,j5⟩:=kL _ _ _ _ _ _ hl
   by_cases e:j=k
   ·subst e
    rw [ho] at j3;injection j3 with j3;subst j3
    rw [p3] at j4;injection j4 with j4
    rw [if_pos j4]
    rw [tA E4] at j5
    cases hc:col[j]? with
    | none=>rw [hc] at j5;cases j5
    | some c =>
     rw [hc] at j5
     simp at j5
     rw [←j5];rfl
   ·have hid:d≠i:=fun q=>e (oz (ops:=ops.toArray) (by simpa using ir) (by simpa using j3) (by simpa using ho) j4 (q ▸ p3))
    rw [if_neg hid,bJ,if_neg hid,bQ]
    rw [ez j e] at j2
    have hj:(oN Fs G col)[j]?=some y:=by
     by_cases hm:j∈Fs
     ·rw [tA hm] at j5 ⊢
      rw [←j5,if_neg e]
     ·rw [mg hm] at j5 ⊢
      exact j5
    rw [gy ir _ L T j i p y j1 j2 j3 j4 hj]
    rfl
  | none =>
   rw [hl] at hx
   simp at hx
   have hid:d≠i:=fun q=>fz i x hx k o hk ho (q ▸ p3)
   rw [if_neg hid,bJ,if_neg hid,bQ,jf fun j p hj hp=>fz i x hx j p hj hp,hx]
   rfl
end
def JF (P:Program) (n T:Nat) (Ws Fs:List Nat) (ops:List Oper) (st:Nat->n0) (S0:bn) (w0:World) (L:Nat->Bool) (a':Act) (w':World):Prop :=
 ∃i S1 w1 G,i≤Ws.length∧(∀(j W:Nat),Ws[j]?=some W->(L W=true↔j<i))∧r7 P n ops Fs L G S0 w0 S1 w1∧ix S1 w1 n ⟨dQ ops (oN Fs G (st i).col) L T++(st i).kept,(st i).H⟩ a' w'
section
variable {P:Program} {ops:List Oper} {S0:bn} {w0:World} {Q:Exit->Act->World->Prop}
theorem E5 {n T:Nat} {Ws Fs:List Nat} {hs:List (Nat×Hint)} {s:AS} {l:List n0} {C1:List Prop} (he:tw P n T Ws Fs ops hs s=some (l,C1)) (iJ:bz C1) {a:Act} {w:World} (gk:ix S0 w0 n s a w) :
  lK ops.toArray n=true∧(JF P n T Ws Fs ops (fun i=>l.getD i default) S0 w0 (fun k=>(Array.replicate ops.toArray.size false).getD k false) a {w with drawn:=w.drawn+1}) ∧
  (∀k o (L:Nat->Bool) a' w',k<T->ops.toArray[k]?=some o->L k=false->(∀d∈bl o,L d=true)->(∀j p,L j=true->ops.toArray[j]?=some p-> ∀d∈bl p,L d=true)->(∀j,T≤j->L j=false)->JF P n T Ws Fs ops (fun i=>l.getD i default) S0 w0 L a' w' ->
   (if Region.wanted o (yielded ops.toArray a'.tmps)=true then o.wp P a' w' (fun r5 fy=>JF P n T Ws Fs ops (fun i=>l.getD i default) S0 w0 (eQ L k) r5 fy) Q else JF P n T Ws Fs ops (fun i=>l.getD i default) S0 w0 (eQ L k) (a'.put o.dst undef) w')) ∧
  (∀(late:List Nat) (s1:AS) (L:Nat->Bool) a' w',(∀k∈late,k ∉ Ws∧k ∉ Fs)->Bv P n T Ws Fs late ops l=some s1->(∀k,k<T->k ∉ late->L k=true)->JF P n T Ws Fs ops (fun i=>l.getD i default) S0 w0 L a' w'-> ∃S2 w1,lf S0 w0 S2 w1 []∧ix S2 w1 n s1 a' w'):=by
 unfold tw at he
 split at he
 case h_2=>cases he
 rename_i hB hT wj Nv Lk P_ Sg Ci fM tp
 have dC:=he
 obtain ⟨qQ,ir,vN⟩:=f_ hB
 have yy:(ops.filterMap (·.dst)).Nodup:=by simpa using ir
 have SK:T≤ops.length:=by simpa [Nat.ble_eq] using hT
 have Dd:∀(k:Nat) (o:Oper),ops[k]?=some o-> ∀d∈bl o,d<k:=fun k o h=>qQ k o (by simpa using h)
 have Nw:∀(k:Nat) (o:Oper) (s:Nat),ops[k]?=some o->o.dst=some s->s<n:=fun k o s h=>vN k o s (by simpa using h)
 generalize SP:mA (ops.take T) []=R at dC wj fM
 have hR:tD ops R:=by
  rw [←SP]
  refine ra ops (ops.take T) [] (fun k o _ L _ _ j hj=>by simp at hj) (fun j o h=>?_) Dd
  simpa using bZ _ _ _ _ h
 obtain ⟨yz,Qt,NN,ql⟩:=tY _ _ _ _ _ _ _ _ _ dC iJ
 have Nv:=qM T Ws Nv
 have Lk:=iD Lk
 generalize Nq:(fun i=>l.getD i default)=st at *
 have QX:∀i,l.getD i default=st i:=fun i=>by rw [←Nq]
 simp only [QX] at yz Qt NN ql
 have fz:∀i,i≤Ws.length-> ∀(k:Nat) (x:AV),look (st i).kept k=some x-> ∀(j:Nat) (p:Oper),j<T->ops[j]?=some p->p.dst≠some k:=by
  intro i
  induction i with
  | zero =>
   intro _ k x hx j p hj hp
   rw [yz] at hx
   exact (ku ops T k).1 (fX _ _ _ _ hx).2 j p hj hp
  | succ i ih =>
   intro hi k x hx
   obtain ⟨o,Tr,X,D',-,-,-,k4,-⟩:=ql i (Ws[i]' ah) (List.getElem?_eq_getElem ah)
   rw [k4,cy] at hx
   cases hl:look (st i).kept k with
   | none=>rw [hl] at hx;cases hx
   | some y=>exact ih ah k y hl
 have wi:∀i,i≤Ws.length-> ∃last first old,Ef Fs P T ops hs R (Ws.drop i) (Ws.take i) last first old (st i):=by
  intro i hi
  cases i with
  | zero=>exact ⟨_,_,_,by simpa using NN⟩
  | succ i =>
   obtain ⟨o,Tr,X,D',-,-,-,-,k5⟩:=ql i (Ws[i]' ah) (List.getElem?_eq_getElem ah)
   exact ⟨_,_,_,by simpa using k5⟩
 have NQ:∀f∈Fs,f ∉ Ws:=fun f hf hw=>by
  have:=List.all_eq_true.1 Ci f hf
  rw [any_beq.2 hw] at this;cases this
 have uX:∀q,q<T-> ∀f∈Fs,f ∉ R.getD q []:=fun q hq f hf hr=>by
  have:=List.all_eq_true.1 fM q (List.mem_range.2 hq)
  rw [om.2 ⟨f,hr,hf⟩] at this;simp at this
 have Mz:∀q o,q<T->ops[q]?=some o-> ∀f∈bl o,f ∉ Fs:=fun q o hq ho f hr hf=>by
  have:=List.all_eq_true.1 fM q (List.mem_range.2 hq)
  rw [ho] at this
  simp only [om.2 ⟨f,hr,hf⟩] at this
  simp at this
 have Sz:∀f∈Fs,∃o d t z,ops[f]?=some o∧jA P n o=some (d,t,z):=fun f hf=>by
  have:=List.all_eq_true.1 tp f hf
  cases ho:ops[f]? with
  | none=>rw [ho] at this;cases this
  | some o =>
   rw [ho] at this
   cases I7:jA P n o with
   | none=>simp [I7] at this
   | some x=>exact ⟨o,x.1,x.2.1,x.2.2,rfl,I7⟩
 have P_:=qM T Fs P_
 have Sg:=iD Sg
 obtain ⟨φ,lP⟩:=gk
 refine ⟨hB,?_,?_,?_⟩
 ·refine ⟨0,S0,w0,fun _=>0,ah,fun j W _=>by show (Array.replicate ops.toArray.size false).getD W false=true↔_;rw [getD_replicate_false];simp,⟨lf.refl lP.cZ,fun f _ hL=>?_,fun f _ f' _ hL=>?_⟩,φ,?_⟩
  ·change (Array.replicate ops.toArray.size false).getD f false=true at hL
   rw [getD_replicate_false] at hL;cases hL
  ·change (Array.replicate ops.toArray.size false).getD f false=true at hL
   rw [getD_replicate_false] at hL;cases hL
  rw [nv _ _ _ (fun k=>getD_replicate_false _ _)]
  have hg:aO S0 w0 n [] s a w.drew φ:=lP.grow ((Below.refl _ _).drew)
  rw [Qt,yz]
  exact aO.sub (F:=s.F) hg fun i x hx=>.inl (fX _ _ _ _ (by simpa using hx)).1
 ·intro k o L a' w' hk ho BB jc yE Bl ⟨i,S1,w1,G,hi,hW,NU,gk⟩
  have rA:ops[k]?=some o:=by simpa using ho
  have gF:∀(j:Nat) (p:Oper),L j=true->ops[j]?=some p-> ∀d∈bl p,L d=true:=fun j p hj hp=>yE j p hj (by simpa using hp)
  have pA:∀j∈R.getD k [],L j=true:=hR k o rA L gF jc
  have qn:∀q,L q=true-> ∀j∈R.getD q [],L j=true:=fun q hq j hj=>by
   cases IQ:ops[q]? with
   | some p=>exact hR q p IQ L gF (fun d hd=>gF q p hq IQ d hd) j hj
   | none =>
    exfalso
    have h1:ops.length≤q:=List.getElem?_eq_none_iff.1 IQ
    have:=Bl q ah
    rw [hq] at this;cases this
  have Ql:∀d∈bl o,L d=true∧d<T:=fun d hd=>⟨jc d hd,by have:=Dd k o rA d hd;omega⟩
  have uT:∀i',i≤i'-> ∀q,q<T->(∀j∈R.getD q [],L j=true)->hit (R.getD q []) (Ws.drop i'++Fs)=false:=by
   intro i' ji q U6 hq
   cases hh:hit (R.getD q []) (Ws.drop i'++Fs) with
   | false=>rfl
   | true =>
    exfalso
    obtain ⟨x,h1,h2⟩:=om.1 hh
    rcases List.mem_append.1 h2 with h2|h2
    case inr=>exact uX q U6 x h2 h1
    obtain ⟨j,hj⟩:=List.mem_iff_getElem?.1 h2
    rw [List.getElem?_drop] at hj
    have:=(hW _ x hj).1 (hq x h1)
    omega
  have hlen:∀i,i≤Ws.length->(st i).col.length=T:=fun i hi=>by
   obtain ⟨last,first,old,Cd,Gm,LD⟩:=wi i hi
   obtain ⟨d1,-,-⟩:=jC _ 0 [] _ _ Gm LD rfl
   rw [d1,List.length_take];omega
  by_cases E4:k∈Fs
  ·obtain ⟨o',d,t,z,f1,f2⟩:=Sz k E4
   rw [rA] at f1;cases f1
   have j0:Region.wanted o (yielded ops.toArray a'.tmps)=true:=by unfold Region.wanted;rw [(jz f2).1]
   rw [if_pos j0]
   refine Oper.wp_mono ?_ (Dl yy hk rA f2 E4 BB (fz i hi) NU gk)
   rintro r5 fy ⟨S2,w2,G',g1,g2⟩
   refine ⟨i,S2,w2,G',hi,fun j2 W2 h2=>?_,g1,g2⟩
   have e:W2≠k:=fun e=>by subst e;exact NQ _ E4 (List.mem_of_getElem? h2)
   unfold eQ;rw [if_neg e];exact hW j2 W2 h2
  by_cases Ln:k∈Ws
  ·obtain ⟨j,hj⟩:=List.mem_iff_getElem?.1 Ln
   have Mu:j<Ws.length:=(List.getElem?_eq_some_iff.1 hj).1
   have Mv:¬j<i:=fun h=>by have:=(hW j k hj).2 h;rw [BB] at this;cases this
   have e:j=i:=by
    rcases Nat.lt_or_ge i j with h|h
    ·obtain ⟨j',rfl⟩:∃j',j=j'+1:=⟨j-1,ah⟩
     have Le:Ws[j']?=some (Ws[j']' ah):=List.getElem?_eq_getElem ah
     have h1:=pA _ (rU R Ws wj j' _ k Le hj)
     have:=(hW j' _ Le).1 h1
     omega
    ·omega
   subst e
   obtain ⟨o',Tr,x,D',k1,k2,k3,k4,Cc,k5,k6⟩:=ql j k hj
   rw [rA] at k1;cases k1
   simp only [List.nil_append] at k5
   obtain ⟨c1,c2,c3⟩:=jC _ 0 [] _ _ k5 k6 rfl
   simp only [Nat.zero_add] at c1 c3
   have SL:(ops.take T).length=T:=by rw [List.length_take];omega
   have OT:k ∉ Ws.drop (j+1):=fun hm=>by
    obtain ⟨j2,yC⟩:=List.mem_iff_getElem?.1 hm
    rw [List.getElem?_drop] at yC
    have:=l0 Lk hj yC
    omega
   have Sq:k∈Ws.take (j+1):=List.mem_iff_getElem?.2 ⟨j,by rw [List.getElem?_take,if_pos ah];exact hj⟩
   have hold:((((st j).col.map Tr).set k x).getD k .dead)=x:=by
    obtain ⟨last,first,old,Cd,Gm,LD⟩:=wi j hi
    obtain ⟨d1,-,-⟩:=jC _ 0 [] _ _ Gm LD rfl
    rw [Nat.zero_add,SL] at d1
    rw [List.getD_eq_getElem?_getD,List.getElem?_set_self (by rw [List.length_map];omega)];rfl
   have iX:=wM (P:=P) (S0:=S1) (w0:=w1) (Q:=Q) (n:=n) (T:=T) (col:=oN Fs G (st j).col) (col':=oN Fs G (st (j+1)).col) (L:=L) (a:=a') (w:=w') yy hk rA Ql (fz j hi) (by rw [DT _ (Mz k o hk rA)];exact k2) k3 (by
    intro q z hq PV SW hz
    by_cases TX:q∈Fs
    ·left
     rw [tA TX] at hz ⊢
     rw [List.getElem?_eq_getElem (by rw [hlen j hi];exact hq)]
     cases hc:(st (j+1)).col[q]? with
     | none=>rw [hc] at hz;cases hz
     | some c =>
      rw [hc] at hz
      simp only [Option.map_some] at hz ⊢
      rw [Jr k2];exact hz
    rw [mg TX] at hz ⊢
    have IQ:(ops.take T)[q]?=some (ops[q]' ah):=by rw [List.getElem?_take,if_pos hq];exact List.getElem?_eq_getElem ah
    obtain ⟨x',D2,e1,e2,e3⟩:=c3 q _ IQ
    rw [e1] at hz;injection hz with hz;subst hz
    unfold qJ at e3
    split at e3
    ·split at e3
     ·split at e3
      ·rename_i xx CC ea
       split at e3
       ·cases e3
        exact km PV e2.1
       ·rename_i fM
        exfalso
        cases hh:hit (R.getD q []) [k] with
        | false=>exact fM rfl hh
        | true =>
         obtain ⟨y,h1,h2⟩:=om.1 hh
         have:y=k:=by simpa using h2
         subst this
         have:=qn q SW y h1
         rw [BB] at this;cases this
      ·cases e3
     ·cases e3
      exact km PV rfl
    ·cases e3
     exact .inr rfl) (by
    have E0:(ops.take T)[k]?=some o:=by rw [List.getElem?_take,if_pos hk];exact rA
    obtain ⟨x',D2,e1,e2,e3⟩:=c3 k _ E0
    rw [mg E4,e1]
    unfold qJ at e3
    have r1:(Ws.drop (j+1)++Fs).any (Nat.beq k)=false:=by
     cases hh:(Ws.drop (j+1)++Fs).any (Nat.beq k) with
     | false=>rfl
     | true=>exact (List.mem_append.1 (any_beq.1 hh)).elim (fun q=>absurd q OT) (fun q=>absurd q E4)
    have r2:=uT (j+1) ah k hk pA
    have r3:(Ws.take (j+1)).any (Nat.beq k)=true:=any_beq.2 Sq
    rw [r1,r2,r3] at e3
    simp only at e3
    injection e3 with e3;injection e3 with e3 _
    rw [←e3,hold]) gk
   have fin:∀r5 fy,ix S1 w1 n ⟨dQ ops (oN Fs G (st (j+1)).col) (eQ L k) T++d_ Tr (st j).kept,(st (j+1)).H⟩ r5 fy->JF P n T Ws Fs ops st S0 w0 (eQ L k) r5 fy:=by
    intro r5 fy h
    refine ⟨j+1,S1,w1,G,ah,fun j2 W2 h2=>?_,NU.skip E4,by rw [k4];exact h⟩
    by_cases e:W2=k
    ·subst e
     have:=l0 Lk hj h2
     unfold eQ;rw [if_pos rfl];simp;omega
    ·unfold eQ;rw [if_neg e,hW j2 W2 h2]
     have:j2≠j:=fun e2=>by subst e2;rw [hj] at h2;cases h2;exact e rfl
     omega
   split
   ·rename_i hw
    rw [if_pos hw] at iX
    exact Oper.wp_mono fin iX
   ·rename_i hw
    rw [if_neg hw] at iX
    exact fin _ _ iX
  ·obtain ⟨last,first,old,Cc,k5,k6⟩:=wi i hi
   obtain ⟨c1,c2,c3⟩:=jC _ 0 [] _ _ k5 k6 rfl
   simp only [Nat.zero_add] at c1 c3
   have E0:(ops.take T)[k]?=some o:=by rw [List.getElem?_take,if_pos hk];exact rA
   obtain ⟨x',D2,e1,e2,e3⟩:=c3 k _ E0
   unfold qJ at e3
   have r1:(Ws.drop i++Fs).any (Nat.beq k)=false:=by
    cases hh:(Ws.drop i++Fs).any (Nat.beq k) with
    | false=>rfl
    | true=>exact (List.mem_append.1 (any_beq.1 hh)).elim (fun q=>absurd (List.mem_of_mem_drop q) Ln) (fun q=>absurd q E4)
   have r2:=uT i (Nat.le_refl _) k hk pA
   have r3:(Ws.take i).any (Nat.beq k)=false:=by
    cases hh:(Ws.take i).any (Nat.beq k) with
    | false=>rfl
    | true=>exact absurd (List.mem_of_mem_take (any_beq.1 hh)) Ln
   have r4:(Ws.take i).any (fun W=>(R.getD W []).any (Nat.beq k))=false:=by
    cases hh:(Ws.take i).any (fun W=>(R.getD W []).any (Nat.beq k)) with
    | false=>rfl
    | true =>
     exfalso
     obtain ⟨W,h1,h2⟩:=List.any_eq_true.1 hh
     obtain ⟨j,hj⟩:=List.mem_iff_getElem?.1 h1
     rw [List.getElem?_take] at hj
     split at hj
     ·rename_i Mv
      have:=qn W ((hW j W hj).2 Mv) k (any_beq.1 h2)
      rw [BB] at this;cases this
     ·cases hj
   rw [r1,r2,r3,r4] at e3
   simp only at e3
   have ea:∃C',s6 P ops ⟨jo ops ((st i).col.take k) (bl o)++(st i).kept,(st i).H⟩ o (gC hs k)=some (x',C')∧bz C':=by
    split at e3
    ·rename_i xx CC ea
     split at e3
     ·cases e3;exact ⟨_,ea,e2.2⟩
     ·cases e3;exact ⟨_,ea,e2⟩
    ·cases e3
   obtain ⟨C',ea,Qv⟩:=ea
   rw [rS ops _ k _ (Dd k o rA)] at ea
   have iX:=tX (P:=P) (S0:=S1) (w0:=w1) (Q:=Q) (n:=n) (T:=T) (L:=L) (a:=a') (w:=w') (col:=oN Fs G (st i).col) yy Nw hk rA Ql (fz i hi) (by rw [DT _ (Mz k o hk rA)];exact ea) Qv (by rw [mg E4];exact e1) gk
   have fin:∀r5 fy,ix S1 w1 n ⟨dQ ops (oN Fs G (st i).col) (eQ L k) T++(st i).kept,(st i).H⟩ r5 fy->JF P n T Ws Fs ops st S0 w0 (eQ L k) r5 fy:=by
    intro r5 fy h
    refine ⟨i,S1,w1,G,hi,fun j2 W2 h2=>?_,NU.skip E4,h⟩
    have e:W2≠k:=fun e=>by subst e;exact Ln (List.mem_of_getElem? h2)
    unfold eQ;rw [if_neg e];exact hW j2 W2 h2
   split
   ·rename_i hw
    rw [if_pos hw] at iX
    exact Oper.wp_mono fin iX
   ·rename_i hw
    rw [if_neg hw] at iX
    exact fin _ _ iX
 ·intro late s1 L a' w' Mt De fY ⟨i,S1,w1,G,hi,hW,NU,gk⟩
  unfold Bv at De
  rw [QX] at De
  have E_:∀f∈Fs,L f=true:=fun f hf=>fY f (P_ f hf) fun q=>(Mt f q).2 hf
  have e:i=Ws.length:=by
   rcases Nat.lt_or_ge i Ws.length with h|h
   ·have Le:Ws[i]?=some (Ws[i]'h):=List.getElem?_eq_getElem h
    have:=(hW i _ Le).1 (fY _ (Nv _ (List.getElem_mem h)) fun q=>(Mt _ q).1 (List.getElem_mem h))
    omega
   ·omega
  subst e
  have hlen:(st Ws.length).col.length=T:=by
   obtain ⟨last,first,old,Cd,Gm,LD⟩:=wi Ws.length hi
   obtain ⟨d1,-,-⟩:=jC _ 0 [] _ _ Gm LD rfl
   rw [d1,List.length_take];omega
  have R9:∀f∈Fs,∀o d t z,ops[f]?=some o->jA P n o=some (d,t,z)->a'.tmps.getD d undef=FV (G f):=fun f hf o d t z ho I7=>by
   obtain ⟨cA,b7⟩:=gk
   have lH:look (dQ ops (oN Fs G (st Ws.length).col) L T++(st Ws.length).kept) d=some (.val (FV (G f))):=by
    rw [bQ,gy yy _ L T f d o (.val (FV (G f))) (P_ f hf) (E_ f hf) ho (jz I7).2.2.1 (by rw [tA hf,List.getElem?_eq_getElem (by rw [hlen];exact P_ f hf)];rfl)]
    rfl
   exact bM (b7.cC d _ lH)
  have l7:∀b,w0.heap.size≤b->S0.S b:=fun b hb=>lP.new b (.inl hb)
  have C7:ix S1 w1 n ⟨jb (ops.take T) (Bc late (st Ws.length).col)++(st Ws.length).kept,(st Ws.length).H⟩ a' w':=by
   obtain ⟨cA,b7⟩:=gk
   refine ⟨cA,aO.sub b7 fun i x hx=>?_⟩
   rw [bQ] at hx ⊢
   cases hh:look (jb (ops.take T) (Bc late (st Ws.length).col)) i with
   | some y =>
    rw [hh] at hx
    simp at hx;subst hx
    obtain ⟨k,o,h1,h2,h3⟩:=kN _ _ _ _ hh
    have wg:k<T:=by have:=(List.getElem?_eq_some_iff.1 h1).1;rw [List.length_take] at this;omega
    rw [Ir] at h3
    cases hc:(st Ws.length).col[k]? with
    | none=>rw [hc] at h3;cases h3
    | some z =>
     rw [hc] at h3
     simp only [Option.map_some,Option.some.injEq] at h3
     by_cases iH:late.any (Nat.beq k)=true
     ·rw [iH] at h3
      exact .inr h3.symm
     simp only [Bool.not_eq_true] at iH
     rw [iH] at h3
     subst h3
     by_cases E4:k∈Fs
     ·right
      obtain ⟨last,first,old,Cd,Gm,LD⟩:=wi Ws.length hi
      obtain ⟨-,-,c3⟩:=jC _ 0 [] _ _ Gm LD rfl
      obtain ⟨x',D2,e1,e2,e3⟩:=c3 k o h1
      simp only [Nat.zero_add] at e1 e3
      unfold qJ at e3
      rw [any_beq.2 (List.mem_append.2 (.inr E4))] at e3
      simp only at e3
      rw [hc] at e1;injection e1 with e1
      injection e3 with e3;injection e3 with e3 _
      rw [e1,←e3]
     ·left
      rw [gy yy _ L T k i o z wg (fY k wg fun q=>by rw [any_beq.2 q] at iH;cases iH) (bZ _ _ _ _ h1) h2 (by rw [mg E4];exact hc)];rfl
   | none =>
    rw [hh] at hx
    simp at hx
    left
    rw [jf fun j p hj hp=>fz _ (Nat.le_refl _) i x hx j p hj hp]
    simpa using hx
  obtain ⟨S2,Ld,ng⟩:=xA (P:=P) (n:=n) (ops:=ops) (S0:=S0) (w0:=w0) (w1:=w1) (w:=w') (a:=a') (G:=G) l7 Fs _ s1 S1 Sg De NU.z (fun f hf o d t z ho I7=>by
   obtain ⟨k1,o',d',t',z',k2,k3,k4⟩:=NU.aside f hf (E_ f hf)
   rw [ho] at k2;cases k2
   rw [I7] at k3;cases k3
   exact ⟨k1,k4,R9 f hf o d t z ho I7⟩) (fun f hf f' Lr cW=>NU.inj f hf f' Lr (E_ f hf) (E_ f' Lr) cW) C7
  exact ⟨S2,w1,Ld,ng⟩
theorem DD {n T:Nat} {Ws Fs:List Nat} {hs:List (Nat×Hint)} {s s':AS} {C:List Prop} (he:zj P n T Ws Fs ops hs s=some (s',C)) (hC:bz C) {a:Act} {w:World} (gk:ix S0 w0 n s a w) (hQ:∀a' w',ni S0 w0 n s' a' w'->Q .normal a' w'):P.follows .mixedOrders=true∧wpAny P .any ops.toArray Q ops.toArray.size (Array.replicate ops.toArray.size false) a {w with drawn:=w.drawn+1}:=by
 unfold zj at he
 split at he
 case h_2=>cases he
 rename_i l C1 hm hT hh
 split at he
 case h_2=>cases he
 rename_i s1 De
 split at he
 case h_2=>cases he
 rename_i s2 D oX
 cases he
 obtain ⟨iJ,hD⟩:=bT.1 hC
 obtain ⟨hB,h1,h2,h3⟩:=E5 (Q:=Q) hh iJ gk
 unfold oQ at hT
 simp only [Bool.and_eq_true,decide_eq_true_eq] at hT
 obtain ⟨⟨⟨He,LC⟩,LB⟩,LA⟩:=hT
 refine ⟨hm,nr (n:=n) He LC LB LA hB (JF P n T Ws Fs ops (fun i=>l.getD i default) S0 w0) (fun k o L a' w' hk ho BB hd hc Bl hJ=>h2 k o L a' w' hk ho BB hd hc Bl hJ) ?_ ops.toArray.size _ a _ ⟨by simp,fun k o hk=>?_⟩ h1 (fun j _=>by rw [getD_replicate_false]) (by simp)⟩
 ·intro L a' w' fY Bl hJ
  obtain ⟨S2,w1,Ld,ng⟩:=h3 [] s1 L a' w' (fun k hk=>by cases hk) De (fun k hk _=>fY k hk) hJ
  have kk:=jQ (S0:=S2) (w0:=w1) (Q:=Q) _ _ _ _ _ oX hD a' w' ng fun a2 w2 h2=>hQ a2 w2 (ni.after Ld h2.one)
  simpa using kk
 ·rw [getD_replicate_false] at hk;cases hk
def Ow (M q:Nat) (Ws Fs:List Nat) (o:Oper):Bool:=Nat.blt q M && !(Ws.any (Nat.beq q)) && !(Fs.any (Nat.beq q)) && (List.range M).all fun k=>Nat.beq k q || (bl o).any (Nat.beq k)
theorem Ea {M q:Nat} {Ws Fs:List Nat} {o:Oper} (h:Ow M q Ws Fs o=true):q<M∧q ∉ Ws∧q ∉ Fs∧ ∀k,k<M->k≠q->k∈bl o:=by
 unfold Ow at h
 simp only [Bool.and_eq_true] at h
 obtain ⟨⟨⟨h1,h2⟩,h3⟩,h4⟩:=h
 refine ⟨by simpa [Nat.blt_eq] using h1,fun q=>(by rw [any_beq.2 q] at h2;cases h2),fun q=>(by rw [any_beq.2 q] at h3;cases h3),fun k hk cW=>?_⟩
 have:=List.all_eq_true.1 h4 k (List.mem_range.2 hk)
 rw [Bool.or_eq_true] at this
 exact this.elim (fun e=>absurd (Nat.eq_of_beq_eq_true e) cW) any_beq.1
def vc (s:AS) (d:Nat):AS:=match look s.F d with|some x=>⟨(d,x)::cP s.F d,s.H⟩|none=>s
theorem Gt {S0:bn} {w0 w:World} {n:Nat} {s:AS} {d:Nat} {a:Act} (h:ix S0 w0 n s a w):ix S0 w0 n (vc s d) a w:=by
 unfold vc
 split
 ·rename_i x hx
  obtain ⟨φ,h⟩:=h
  refine ⟨φ,aO.sub (F:=s.F) h fun i y hy=>.inl ?_⟩
  rw [aF] at hy
  split at hy
  ·rename_i e;subst e;cases hy;exact hx
  ·rename_i e;rw [bJ,if_neg e] at hy;exact hy
 ·exact h
def zi (P:Program) (n M q:Nat) (Ws Fs:List Nat) (ops:List Oper) (hs:List (Nat×Hint)) (s:AS):Option (AS×AS×AS×List Prop) :=
 match P.follows .mixedOrders,oQ ops.toArray (M+1),tw P n M Ws Fs ops hs s,ops[M]?,ops[q]? with
 | true,true,some (l,C),some o,some p=>(match Ow M q Ws Fs o,o.guard,p.guard,p.dst,Bv P n M Ws Fs [] ops l,Bv P n M Ws Fs [q] ops l with
  | true,none,none,some d,some sa,some sb=>(match BU P n sa o (gC hs M),BU P n sb o (gC hs M) with
   | some (sA,D1),some (sB,D2)=>(match BU P n sB p (gC hs q) with
    | some (sC,D3)=>(match j8 P n ops hs (ops.drop (M+1)) (M+1) sC with
     | some (s',D4)=>some (s',vc sA d,sC,C++(D1++(D2++(D3++D4))))
     | none=>none)
    | none=>none)
   | _,_=>none)
  | _,_,_,_,_,_=>none)
 | _,_,_,_,_=>none
theorem DC {n M q:Nat} {Ws Fs:List Nat} {hs:List (Nat×Hint)} {s s' x:AS} {C:List Prop} (he:zi P n M q Ws Fs ops hs s=some (s',x,x,C)) (hC:bz C) {a:Act} {w:World} (gk:ix S0 w0 n s a w) (hQ:∀a' w',ni S0 w0 n s' a' w'->Q .normal a' w'):P.follows .mixedOrders=true∧wpAny P .any ops.toArray Q ops.toArray.size (Array.replicate ops.toArray.size false) a {w with drawn:=w.drawn+1}:=by
 unfold zi at he
 split at he
 case h_2=>cases he
 rename_i l C1 o p hm hT hh ho hp
 split at he
 case h_2=>cases he
 rename_i d sa sb SI U_ U8 Ww U3 U2
 split at he
 case h_2=>cases he
 rename_i sA D1 sB D2 hA VW
 split at he
 case h_2=>cases he
 rename_i sC D3 VV
 split at he
 case h_2=>cases he
 rename_i s2 D4 oX
 have he:=Option.some.inj he
 have e1:s2=s':=congrArg (·.1) he
 have e2:vc sA d=x:=congrArg (·.2.1) he
 have e3:sC=x:=congrArg (·.2.2.1) he
 have e4:C1++(D1++(D2++(D3++D4)))=C:=congrArg (·.2.2.2) he
 subst e1
 have e5:vc sA d=sC:=e2.trans e3.symm
 rw [←e4] at hC
 obtain ⟨iJ,hC⟩:=bT.1 hC
 obtain ⟨VT,hC⟩:=bT.1 hC
 obtain ⟨VS,hC⟩:=bT.1 hC
 obtain ⟨VR,VQ⟩:=bT.1 hC
 obtain ⟨b1,b2,b3,b4⟩:=Ea SI
 obtain ⟨hB,h1,h2,h3⟩:=E5 (Q:=Q) hh iJ gk
 unfold oQ at hT
 simp only [Bool.and_eq_true,decide_eq_true_eq] at hT
 obtain ⟨⟨⟨He,LC⟩,LB⟩,LA⟩:=hT
 let J:(Nat->Bool)->Act->World->Prop:=fun L a' w'=>(L M=false∧JF P n M Ws Fs ops (fun i=>l.getD i default) S0 w0 L a' w')∨(L M=true∧ ∃S2 w2,lf S0 w0 S2 w2 []∧((L q=true∧ix S2 w2 n sC a' w')∨(L q=false∧ix S2 w2 n sB a' w')))
 have j0:∀(o:Oper) (a':Act),o.guard=none->Region.wanted o (yielded ops.toArray a'.tmps)=true:=fun o a' hg=>by unfold Region.wanted;rw [hg]
 refine ⟨hm,nr (n:=n) He LC LB LA hB J ?_ ?_ ops.toArray.size _ a _ ⟨by simp,fun k o hk=>?_⟩ (.inl ⟨getD_replicate_false _ _,h1⟩) (fun j _=>by rw [getD_replicate_false]) (by simp)⟩
 ·intro k o1 L a' w' hk TY BB hd hc Bl hJ
  have Ha:ops[k]?=some o1:=by simpa using TY
  have cW:q≠M:=ah
  by_cases ek:k=M
  ·subst ek
   rw [ho] at Ha;cases Ha
   rw [if_pos (j0 o a' U_)]
   have Uk:=hJ.resolve_right fun h=>by rw [BB] at h;cases h.1
   have fY:∀j,j<k->j≠q->L j=true:=fun j hj Ss=>hd j (b4 j hj Ss)
   have pk:eQ L k k=true:=by unfold eQ;rw [if_pos rfl]
   have pq:eQ L k q=L q:=by unfold eQ;rw [if_neg cW]
   cases hq:L q with
   | true =>
    obtain ⟨S2,w1,Ld,ng⟩:=h3 [] sa L a' w' (fun k hk=>by cases hk) U3 (fun j hj _=>by
     by_cases e:j=q
     ·rw [e];exact hq
     ·exact fY j hj e) Uk.2
    exact Oper.wp_mono (fun r5 fy h=>.inr ⟨pk,S2,w1,Ld,.inl ⟨by rw [pq];exact hq,by rw [←e5];exact Gt h⟩⟩) (ou hA VT S2 w1 a' w' Q ng)
   | false =>
    obtain ⟨S2,w1,Ld,ng⟩:=h3 [q] sb L a' w' (fun k hk=>by obtain rfl:=List.mem_singleton.1 hk;exact ⟨b2,b3⟩) U2 (fun j hj Ss=>fY j hj fun e=>Ss (by simp [e])) Uk.2
    exact Oper.wp_mono (fun r5 fy h=>.inr ⟨pk,S2,w1,Ld,.inr ⟨by rw [pq];exact hq,h⟩⟩) (ou VW VS S2 w1 a' w' Q ng)
  ·have T5:k<M:=ah
   have pM:eQ L k M=L M:=by unfold eQ;rw [if_neg fun e=>ek e.symm]
   rcases hJ with ⟨hM,hJ⟩|⟨hM,S2,w2,hz,hJ⟩
   ·have:=h2 k o1 L a' w' T5 TY BB hd hc (fun j hj=>by
     by_cases e:j=M
     ·rw [e];exact hM
     ·exact Bl j ah) hJ
    split
    ·rename_i hw
     rw [if_pos hw] at this
     exact Oper.wp_mono (fun r5 fy h=>.inl ⟨by rw [pM];exact hM,h⟩) this
    ·rename_i hw
     rw [if_neg hw] at this
     exact .inl ⟨by rw [pM];exact hM,this⟩
   ·have V_:k=q:=Classical.byContradiction fun e=>by
     have:=hc M o hM (by simpa using ho) k (b4 k T5 e)
     rw [BB] at this;cases this
    subst V_
    rw [hp] at Ha;cases Ha
    rw [if_pos (j0 p a' U8)]
    have hs:=(hJ.resolve_left fun h=>by rw [BB] at h;cases h.1).2
    exact Oper.wp_mono (fun r5 fy h=>.inr ⟨by rw [pM];exact hM,S2,w2,hz,.inl ⟨by unfold eQ;rw [if_pos rfl],h⟩⟩) (ou VV VR S2 w2 a' w' Q hs)
 ·intro L a' w' fY Bl hJ
  have hM:=fY M ah
  have hq:=fY q ah
  obtain ⟨-,S2,w2,hz,hJ⟩:=hJ.resolve_left fun h=>by rw [hM] at h;cases h.1
  have hs:=(hJ.resolve_right fun h=>by rw [hq] at h;cases h.1).2
  have kk:=jQ (S0:=S2) (w0:=w2) (Q:=Q) _ _ _ _ _ oX VQ a' w' hs fun a2 w2 h2=>hQ a2 w2 (ni.after hz h2.one)
  simpa using kk
 ·rw [getD_replicate_false] at hk;cases hk
end
def y_ (P:Program) (n T:Nat) (Ws Fs:List Nat) (hs:List (Nat×Hint)) (c:Code) (s:AS):Option (AS×List Prop) :=
 match c with
 | .region _ ⟨l⟩ true=>zj P n T Ws Fs l hs s
 | _=>none
theorem bf.RD {P:Program} {n:Nat} {c:Code} {Q:Exit->AS->Prop} {s s':AS} {C:List Prop} (T:Nat) (Ws Fs:List Nat) (hs:List (Nat×Hint)) (he:y_ P n T Ws Fs hs c s=some (s',C)) (hC:bz C) (h:Q .normal s'):bf P n c Q s:=by
 intro S0 w0 a w gk
 unfold y_ at he
 split at he
 ·exact DD (S0:=S0) (w0:=w0) he hC gk fun a' w' b7=>⟨s',h,b7⟩
 ·cases he
def mQ (P:Program) (n M q:Nat) (Ws Fs:List Nat) (hs:List (Nat×Hint)) (c:Code) (s:AS):Option (AS×AS×AS×List Prop) :=
 match c with
 | .region _ ⟨l⟩ true=>zi P n M q Ws Fs l hs s
 | _=>none
def M4 (r:Option (AS×AS×AS×List Prop)):Option (AS×List Prop):=match r with|some (s',_,_,C)=>some (s',C)|none=>none
def Mh (r:Option (AS×AS×AS×List Prop)):AS:=match r with|some (_,x,_,_)=>x|none=>⟨[],[]⟩
def Mg (r:Option (AS×AS×AS×List Prop)):AS:=match r with|some (_,_,y,_)=>y|none=>⟨[],[]⟩
theorem bf.RC {P:Program} {n:Nat} {c:Code} {Q:Exit->AS->Prop} {s s':AS} {C:List Prop} (M q:Nat) (Ws Fs:List Nat) (hs:List (Nat×Hint)) (hx:Mh (mQ P n M q Ws Fs hs c s)=Mg (mQ P n M q Ws Fs hs c s)) (he:M4 (mQ P n M q Ws Fs hs c s)=some (s',C)) (hC:bz C) (h:Q .normal s'):bf P n c Q s:=by
 intro S0 w0 a w gk
 generalize hr:mQ P n M q Ws Fs hs c s=r at he hx
 match r,he,hx with
 | some (_,x,y,_),he,hx =>
  have he:some (_,_)=some (s',C):=he
  injection he with he
  injection he with e1 e2
  have hx:x=y:=hx
  subst e1 e2 hx
  unfold mQ at hr
  split at hr
  ·exact DC (S0:=S0) (w0:=w0) hr hC gk fun a' w' b7=>⟨_,h,b7⟩
  ·cases hr
end Go.Proofs.YtjgbhhnghedgdaaGreatDoor
