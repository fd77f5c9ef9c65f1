import Derived.Test.YtjgbhhnghedgdaaGreatDoorZfRS
import Derived.Test.YtjgbhhnghedgdaaGreatDoorZfRI
set_option linter.all false
namespace Go.Proofs.YtjgbhhnghedgdaaGreatDoor
open Go.RowKit
section
variable {S0:bo} {w0 w:World} {n:Nat} {s:AS} {a:Act} {φ:Nat->Option Nat} {g:Nat}
def AB (S0:bo) (φ:Nat->Option Nat) (g:Nat):bo:=⟨fun b=>S0.S b∧b≠g,fun b=>∃id,φ id=some b,S0.fix,S0.tu⟩
theorem vX:aO (AB S0 φ g) w φ []=aO S0 w φ [g]:=by
 funext b
 apply propext
 unfold aO AB
 simp only [List.not_mem_nil,not_false_eq_true,true_and,List.mem_singleton]
 exact ⟨fun ⟨h1,h2,h3,h4⟩=>⟨h1,h4,h2,h3⟩,fun ⟨h1,h2,h3,h4⟩=>⟨h1,h3,h4,h2⟩⟩
theorem aJ.aside (h:aJ S0 w0 n [g] s a w φ) (hg:g<w.heap.size):lz S0 w0 (AB S0 φ g) w []∧aJ (AB S0 φ g) w n [] s a w φ:=by
 have hX:∀b,(∃id,φ id=some b)->w0.heap.size≤b∨S0.X b:=fun b ⟨id,hid⟩=>(h.cW id b hid).1.2
 refine ⟨⟨h.cX,fun b hb=>hb.1,hX,rfl,rfl,List.nodup_nil,fun r hr=>by cases hr⟩,⟨h.j7,h.j_,⟨rfl,rfl,rfl,Nat.le_refl _,fun _ _ _=>rfl,h.cX.m7,fun b hb=>h.tI hb⟩,?_,?_,h.only,h.inj,fun id b hid=>⟨⟨(h.cW id b hid).1.1,.inr ⟨id,hid⟩⟩,(h.cW id b hid).2⟩,fun _ _ _=>by simp,?_⟩⟩
 ·rw [vX];exact h.cA
 ·rw [vX];exact h.rows
 ·rintro b (hb|⟨id,hid⟩)
  ·exact ⟨h.new b (.inl (Nat.le_trans h.cX.size hb)),ag⟩
  ·exact ⟨h.new b (hX b ⟨id,hid⟩),fun e=>h.apart id b hid (by simp [e])⟩
def wP (S1:bo) (g:Nat):bo:=⟨fun b=>S1.S b∨b=g,fun b=>S1.X b∨b=g,S1.fix,S1.tu⟩
theorem ye {S1:bo} (hS:¬S1.S g):aO (wP S1 g) w φ [g]=aO S1 w φ []:=by
 funext b
 apply propext
 unfold aO wP
 simp only [List.not_mem_nil,not_false_eq_true,true_and,List.mem_singleton]
 constructor
 ·rintro ⟨h1,h2,h3,h4|h4⟩
  ·exact ⟨h1,h3,h4⟩
  ·exact absurd h4 h2
 ·rintro ⟨h1,h3,h4⟩
  exact ⟨h1,fun e=>hS (e ▸ h4),h3,.inl h4⟩
theorem aJ.back {S1:bo} {w1:World} (h:aJ S1 w1 n [] s a w φ) (hg:g<w1.heap.size) (hS:¬S1.S g) (hX:¬S1.X g) (hT:¬TB g):aJ (wP S1 g) w1 n [g] s a w φ:=by
 refine ⟨h.j7,h.j_,⟨h.cX.os,h.cX.tape,h.cX.output,h.cX.size,fun k hk hx=>h.cX.block k hk fun q=>hx (.inl q),h.cX.g0,?_⟩,?_,?_,h.only,h.inj,fun id b hid=>⟨⟨(h.cW id b hid).1.1,(h.cW id b hid).1.2.imp (fun q=>q) .inl⟩,(h.cW id b hid).2⟩,?_,?_⟩
 ·rintro b hb (q|q)
  ·exact h.cX.gx b hb q
  ·exact hT (q ▸ hb)
 ·rw [ye hS];exact h.cA
 ·rw [ye hS];exact h.rows
 ·intro id b hid hm
  have e:b=g:=by simpa using hm
  subst e
  rcases (h.cW id b hid).1.2 with q|q
  ·omega
  ·exact hX q
 ·rintro b (q|q|q)
  ·exact .inl (h.new b (.inl q))
  ·exact .inl (h.new b (.inr q))
  ·exact .inr q
end
section
variable {P:Program} {S0:bo} {w0 w:World} {n:Nat} {s:AS} {a:Act} {Q:Exit->Act->World->Prop}
structure Aside (S0:bo) (w0:World) (g:Nat) (o:Obj):Prop where
 lt:g<w0.heap.size
 S:¬S0.S g
 X:¬S0.X g
 tb:¬TB g
 obj:w0.heap[g]?=some o
theorem CP {o:Oper} {t d:Nat} {z:Value} (ho:o.op= .alloc t) (hd:o.dst=some d) (Qa:d<n) (hz:(P.info? t).bind (·.zero)=some z) (h:iI S0 w0 n s a w) :
  o.wp P a w (fun a' w'=>∃g S1,w0.heap.size≤g∧lz S0 w0 S1 w' []∧Aside S1 w' g (.cells z.cells t (0,0))∧iI S1 w' n (lO s d (.val (.pointer (some ⟨g,0,none⟩)))) a' w') Q:=by
 obtain ⟨φ,hs⟩:=h
 have bZ:(execOp a.eval o).run P w= .ok (.value (.pointer (some ⟨w.heap.size,0,none⟩))) {w with heap:=w.heap.push (.cells z.cells t (0,0))}:=by
  unfold execOp
  simp [ho,Instr.alloc,i5 hz,newVar,newRow]
 refine cS bZ ?_
 rw [hd]
 have h1:=hs.await w.heap.size (Nat.le_refl _)
 have h2:=h1.xw (w':={w with heap:=w.heap.push (.cells z.cells t (0,0))}) (fun g hg=>by simp at hg;rw [hg];exact .inl hs.cX.size) rfl rfl rfl (by simp) (fun b hb _=>cG w _ b hb)
 have h3:=h2.put Qa (v:=.pointer (some ⟨w.heap.size,0,none⟩)) (.rep (.val _))
 obtain ⟨k1,k2⟩:=h3.aside (by simp)
 refine ⟨w.heap.size,_,hs.cX.size,k1,⟨by simp,fun q=>q.2 rfl,fun ⟨id,hid⟩=>h3.apart id _ hid (by simp),fun hb=>?_,dR w _⟩,⟨φ,k2⟩⟩
 have:=hs.cX.g0.lt hb
 have:=hs.cX.size
 omega
theorem EV {g t d:Nat} {z:Value} (hA:Aside S0 w0 g (.cells z.cells t (0,0))) (hd:d<1000000000000) (fO:look s.H d=none) (h:iI S0 w0 n s a w) (hv:a.tmps.getD d undef= .pointer (some ⟨g,0,none⟩)) :
  iI (wP S0 g) w0 n ⟨(d,.addr d 0)::cP s.F d,(d,⟨sJ P t,false,true,z.cells.toList.map bB⟩)::s.H⟩ a w:=by
 obtain ⟨φ,hs⟩:=h
 have h1:=hs.back hA.lt hA.S hA.X hA.tb
 have dB:=hs.cX.size
 have hg:w.heap[g]?=some (.cells z.cells t (0,0)):=(hs.cX.block g hA.lt hA.X).trans hA.obj
 have h2:=h1.yn (id:=d) (r:=⟨sJ P t,false,true,z.cells.toList.map bB⟩) ⟨.inl hd,.inr (.inr rfl)⟩ (Nat.lt_of_lt_of_le hA.lt dB) (by simp) fO ⟨z.cells,t,(0,0),hg,by simp,by simp,by simp,fun j u x hu hx=>by
  simp only [List.getElem?_map] at hx
  have:z.cells.toList[j]?=some u:=by simpa using hu
  rw [this] at hx;injection hx with hx;subst hx
  exact .rep (gk u)⟩
 refine ⟨_,h2.j7,h2.j_,h2.cX,fun i av hi=>?_,h2.rows,h2.only,h2.inj,h2.cW,h2.apart,h2.new⟩
 rw [aD] at hi
 by_cases e:d=i
 ·subst e
  rw [if_pos rfl] at hi;injection hi with hi;subst hi
  rw [hv]
  exact .addr d 0 _ _ _ (by
   show az ((d,(⟨sJ P t,false,true,z.cells.toList.map bB⟩:Row))::s.H) _ d=_
   rw [br (r:=⟨sJ P t,false,true,z.cells.toList.map bB⟩) (by rw [aD,if_pos rfl])]
   unfold fU;rw [if_pos rfl])
 ·rw [if_neg e,bD,if_neg e] at hi
  exact h2.cA i av hi
end
def mz (Fs:List Nat) (P:Program) (n T:Nat) (ops:List Oper) (hs:List (Nat×Hint)) (R:List (List Nat)):List Nat->List Nat->List Nat->Bool->List AV->List (Nat×AV)->List (Nat×Row)->Option (List oA×List Prop)
 | [],done,last,first,old,kept,H=>(match Aw P ops hs R done Fs last first old kept H (ops.take T) 0 [] with
  | some (col,C)=>some ([⟨col,kept,H⟩],C)
  | none=>none)
 | W::rest,done,last,first,old,kept,H=>(match Aw P ops hs R done (W::rest++Fs) last first old kept H (ops.take T) 0 [],ops[W]? with
  | some (col,C),some o=>(match z7 P ops n ⟨jB ops col (bh o)++kept,H⟩ o (gQ hs W) with
   | some (Tr,x,H',D)=>(match mz Fs P n T ops hs R rest (done++ [W]) [W] false ((col.map Tr).set W x) (eu Tr kept) H' with
    | some (l,E)=>some (⟨col,kept,H⟩::l,C++(D++E))
    | none=>none)
   | none=>none)
  | _,_=>none)
def E0 (Fs:List Nat) (P:Program) (T:Nat) (ops:List Oper) (hs:List (Nat×Hint)) (R:List (List Nat)) (rest done last:List Nat) (first:Bool) (old:List AV) (st:oA):Prop :=
 ∃C,Aw P ops hs R done (rest++Fs) last first old st.kept st.H (ops.take T) 0 []=some (st.col,C)∧bw C
theorem uP {Fs:List Nat} {P:Program} {n T:Nat} {ops:List Oper} {hs:List (Nat×Hint)} {R:List (List Nat)}:∀(rest done last:List Nat) (first:Bool) (old:List AV) (kept:List (Nat×AV)) (H:List (Nat×Row)) (l:List oA) (E:List Prop),
  mz Fs P n T ops hs R rest done last first old kept H=some (l,E)->bw E ->
  (l.getD 0 default).kept=kept∧(l.getD 0 default).H=H∧E0 Fs P T ops hs R rest done last first old (l.getD 0 default) ∧
  ∀(i W:Nat),rest[i]?=some W-> ∃o Tr x D,ops[W]?=some o∧z7 P ops n ⟨jB ops (l.getD i default).col (bh o)++(l.getD i default).kept,(l.getD i default).H⟩ o (gQ hs W)=some (Tr,x,(l.getD (i+1) default).H,D)∧bw D ∧
   (l.getD (i+1) default).kept=eu Tr (l.getD i default).kept∧E0 Fs P T ops hs R (rest.drop (i+1)) (done++rest.take (i+1)) [W] false (((l.getD i default).col.map Tr).set W x) (l.getD (i+1) default)
 | [],done,last,first,old,kept,H,l,E,he,hE=>by
  simp only [mz] at he
  split at he
  ·rename_i col C hc
   cases he
   exact ⟨rfl,rfl,⟨_,hc,hE⟩,fun i W h=>by simp at h⟩
  ·cases he
 | W::rest,done,last,first,old,kept,H,l,E,he,hE=>by
  simp only [mz] at he
  split at he
  ·rename_i col C o hc ho
   split at he
   ·rename_i Tr x H' D hw
    split at he
    ·rename_i l' E' OJ
     cases he
     obtain ⟨hC,Ug⟩:=bN.1 hE
     obtain ⟨hD,Uf⟩:=bN.1 Ug
     obtain ⟨h1,h2,h3,h4⟩:=uP rest _ _ _ _ _ _ _ _ OJ Uf
     refine ⟨rfl,rfl,⟨_,hc,hC⟩,fun i W' hi=>?_⟩
     cases i with
     | zero =>
      simp at hi;subst hi
      exact ⟨o,Tr,x,D,ho,by rw [←h2] at hw;exact hw,hD,h1,by simpa using h3⟩
     | succ i =>
      obtain ⟨o',SG,x',D',k1,k2,k3,k4,k5⟩:=h4 i W' (by simpa using hi)
      refine ⟨o',SG,x',D',k1,k2,k3,k4,?_⟩
      have e:done++(W::rest).take (i+1+1)=done++ [W]++rest.take (i+1):=by simp
      rw [e]
      exact k5
    ·cases he
   ·cases he
  ·cases he
theorem F_ {P:Program} {n:Nat} {F:List (Nat×AV)} {H H':List (Nat×Row)} {o:Oper} {h:Hint} {Tr:AV->AV} {X:AV} {C:List Prop} (eC:Ql P n ⟨F,H⟩ o h=some (Tr,X,H',C)) (v:Value):Tr (.val v)= .val v:=by
 have vw:∀l:List Nat,iD l (.val v)= .val v:=by
  intro l
  induction l with
  | nil=>rfl
  | cons x l ih=>first|exact ih|(simp only [iD];exact ih)
 unfold Ql at eC
 split at eC
 ·split at eC
  ·cases eC
   unfold K3
   split<;>rfl
  ·cases eC
 ·split at eC
  ·cases eC;rfl
  ·cases eC
 ·split at eC
  ·split at eC
   ·cases eC
    simp only [vw]
   ·cases eC
  ·split at eC
   ·cases eC
    simp only [vw]
   ·cases eC
  ·cases eC
 ·split at eC
  ·cases eC;rfl
  ·cases eC
 ·split at eC
  ·split at eC
   ·cases eC;rfl
   ·cases eC
  ·cases eC
 ·cases eC
theorem Km {P:Program} {n:Nat} {ops:List Oper} {F:List (Nat×AV)} {H H':List (Nat×Row)} {o:Oper} {h:Hint} {Tr:AV->AV} {X:AV} {C:List Prop} (eC:z7 P ops n ⟨F,H⟩ o h=some (Tr,X,H',C)) (v:Value):Tr (.val v)= .val v:=by
 unfold z7 at eC
 split at eC
 ·exact F_ eC v
 ·split at eC
  ·split at eC
   ·split at eC
    ·rename_i he
     cases eC
     exact F_ he v
    ·cases eC
   ·cases eC
  ·cases eC
def jN (P:Program) (n:Nat) (o:Oper):Option (Nat×Nat×Value) :=
 match o.guard,o.op,o.dst with
 | none,.alloc t,some d=>(match (P.info? t).bind (·.zero),Nat.blt d n,Nat.blt d 1000000000000 with
  | some z,true,true=>some (d,t,z)
  | _,_,_=>none)
 | _,_,_=>none
theorem jM {P:Program} {n:Nat} {o:Oper} {d t:Nat} {z:Value} (h:jN P n o=some (d,t,z)):o.guard=none∧o.op= .alloc t∧o.dst=some d∧(P.info? t).bind (·.zero)=some z∧d<n∧d<1000000000000:=by
 unfold jN at h
 split at h
 ·rename_i t' d' hg ho hd
  split at h
  ·rename_i z' hz h1 h2
   injection h with h
   injection h with e1 e2
   injection e2 with e2 e3
   subst e1;subst e2;subst e3
   exact ⟨hg,ho,hd,hz,by simpa [Nat.blt_eq] using h1,by simpa [Nat.blt_eq] using h2⟩
  ·cases h
 ·cases h
def GL (g:Nat):Value:=.pointer (some ⟨g,0,none⟩)
def pa (Fs:List Nat) (G:Nat->Nat) (col:List AV):List AV:=col.mapIdx fun q x=>if q∈Fs then .val (GL (G q)) else x
theorem uo {Fs:List Nat} {G:Nat->Nat} {col:List AV} {q:Nat} (h:q∈Fs):(pa Fs G col)[q]?=col[q]?.map fun _=>.val (GL (G q)):=by
 unfold pa
 rw [List.getElem?_mapIdx]
 cases col[q]?<;>simp [h]
theorem mD {Fs:List Nat} {G:Nat->Nat} {col:List AV} {q:Nat} (h:q ∉ Fs):(pa Fs G col)[q]?=col[q]?:=by
 unfold pa
 rw [List.getElem?_mapIdx]
 cases col[q]?<;>simp [h]
theorem ED {ops:List Oper} {Fs:List Nat} {G:Nat->Nat} {col:List AV}:∀(l:List Nat),(∀d∈l,d ∉ Fs)->jB ops (pa Fs G col) l=jB ops col l
 | [],_=>rfl
 | d::l,h=>by
  simp only [jB,mD (h d (by simp)),ED l fun e he=>h e (by simp [he])]
def PL (P:Program) (s:AS) (d t:Nat) (z:Value):AS:=⟨(d,.addr d 0)::cP s.F d,(d,⟨sJ P t,false,true,z.cells.toList.map bB⟩)::s.H⟩
def AE (P:Program) (n:Nat) (ops:List Oper):List Nat->AS->Option AS
 | [],s=>some s
 | f::l,s=>(match ops[f]? with
  | some o=>(match jN P n o with
   | some (d,t,z)=>(match look s.H d with
    | none=>AE P n ops l (PL P s d t z)
    | some _=>none)
   | none=>none)
  | none=>none)
theorem Aside.next {S1:bo} {w1:World} {g g':Nat} {o:Obj} (h:Aside S1 w1 g' o) (cU:g'≠g):Aside (wP S1 g) w1 g' o :=
 ⟨h.lt,fun q=>q.elim h.S cU,fun q=>q.elim h.X cU,h.tb,h.obj⟩
theorem lz.back {S0 S1:bo} {w0 w1:World} {g:Nat} (h:lz S0 w0 S1 w1 []) (hg:w0.heap.size≤g) (hS:S0.S g):lz S0 w0 (wP S1 g) w1 [] :=
 ⟨h.kept,fun b q=>q.elim (h.sub b) fun e=>e ▸ hS,fun b q=>q.elim (h.X b) fun e=>.inl (e ▸ hg),h.fix,h.tu,List.nodup_nil,fun r hr=>by cases hr⟩
section
variable {P:Program} {n:Nat} {ops:List Oper} {S0:bo} {w0 w1 w:World} {a:Act} {G:Nat->Nat}
theorem yo (NB:∀b,w0.heap.size≤b->S0.S b):∀(Fs:List Nat) (s s':AS) (S1:bo),Fs.Nodup->AE P n ops Fs s=some s'->lz S0 w0 S1 w1 [] ->
  (∀f∈Fs,∀o d t z,ops[f]?=some o->jN P n o=some (d,t,z)->w0.heap.size≤G f∧Aside S1 w1 (G f) (.cells z.cells t (0,0))∧a.tmps.getD d undef=GL (G f)) ->
  (∀f∈Fs,∀f'∈Fs,f≠f'->G f≠G f')->iI S1 w1 n s a w-> ∃S2,lz S0 w0 S2 w1 []∧iI S2 w1 n s' a w
 | [],s,s',S1,_,he,hz,_,_,hs=>by cases he;exact ⟨S1,hz,hs⟩
 | f::l,s,s',S1,hn,he,hz,hA,hG,hs=>by
  simp only [AE] at he
  split at he
  ·rename_i o ho
   split at he
   ·rename_i d t z hf
    split at he
    ·rename_i hl
     obtain ⟨h1,h2,h3⟩:=hA f (by simp) o d t z ho hf
     have hk:=EV (P:=P) h2 (jM hf).2.2.2.2.2 hl hs h3
     rw [List.nodup_cons] at hn
     refine yo NB l _ s' (wP S1 (G f)) hn.2 he (hz.back h1 (NB _ h1)) (fun f' Mn o' d' t' z' r_ HZ=>?_) (fun f1 h1 f2 h2 cU=>hG f1 (by simp [h1]) f2 (by simp [h2]) cU) hk
     obtain ⟨k1,k2,k3⟩:=hA f' (by simp [Mn]) o' d' t' z' r_ HZ
     exact ⟨k1,k2.next (hG f' (by simp [Mn]) f (by simp) fun e=>hn.1 (e ▸ Mn)),k3⟩
    ·cases he
   ·cases he
  ·cases he
end
theorem Aside.move {S1 S2:bo} {w1 w2:World} {ms:List Nat} {g:Nat} {o:Obj} (h:Aside S1 w1 g o) (k:lz S1 w1 S2 w2 ms):Aside S2 w2 g o :=
 ⟨Nat.lt_of_lt_of_le h.lt k.kept.size,fun q=>h.S (k.sub g q),fun q=>(k.X g q).elim (fun e=>by have:=h.lt;omega) h.X,h.tb,(k.kept.block g h.lt h.X).trans h.obj⟩
def LY (ops:List Oper) (T:Nat) (Fs:List Nat) (R:List (List Nat)):Bool:=(List.range T).all fun q=> !(hit (R.getD q []) Fs) && match ops[q]? with|some o=> !(hit (bh o) Fs)|none=>true
def PK (Fs Ws:List Nat):Bool:=Fs.all fun f=> !(Ws.any (Nat.beq f))
def MD (P:Program) (n:Nat) (ops:List Oper) (Fs:List Nat):Bool:=Fs.all fun f=>match ops[f]? with|some o=>(jN P n o).isSome && (bh o).isEmpty|none=>false
def uj (P:Program) (n T:Nat) (Ws Fs:List Nat) (ops:List Oper) (hs:List (Nat×Hint)) (s:AS):Option (List oA×List Prop) :=
 match lZ ops.toArray n,Nat.ble T ops.length,wJ (mP (ops.take T) []) Ws,ym T Ws,nodupB Ws,ym T Fs,nodupB Fs,PK Fs Ws,LY ops T Fs (mP (ops.take T) []),MD P n ops Fs with
 | true,true,true,true,true,true,true,true,true,true=>mz Fs P n T ops hs (mP (ops.take T) []) Ws [] [] true [] (n0 ((ops.take T).filterMap (·.dst)) s.F) s.H
 | _,_,_,_,_,_,_,_,_,_=>none
def BM (late:List Nat) (col:List AV):List AV:=col.mapIdx fun q x=>match late.any (Nat.beq q) with|true=>.dead|false=>x
theorem Jl {late:List Nat} {col:List AV} {q:Nat}:(BM late col)[q]?=col[q]?.map fun x=>match late.any (Nat.beq q) with|true=>.dead|false=>x:=by
 unfold BM;rw [List.getElem?_mapIdx]
def B5 (P:Program) (n T:Nat) (Ws Fs late:List Nat) (ops:List Oper) (l:List oA):Option AS:=AE P n ops Fs ⟨jn (ops.take T) (BM late (l.getD Ws.length default).col)++(l.getD Ws.length default).kept,(l.getD Ws.length default).H⟩
def Ak (P:Program) (n T:Nat) (Ws Fs:List Nat) (ops:List Oper) (hs:List (Nat×Hint)) (s:AS):Option (AS×List Prop) :=
 match P.follows .mixedOrders,pd ops.toArray T,uj P n T Ws Fs ops hs s with
 | true,true,some (l,C)=>(match B5 P n T Ws Fs [] ops l with
  | some s1=>(match kn P n ops hs (ops.drop T) T s1 with
   | some (s',D)=>some (s',C++D)
   | none=>none)
  | none=>none)
 | _,_,_=>none
structure sR (P:Program) (n:Nat) (ops:List Oper) (Fs:List Nat) (L:Nat->Bool) (G:Nat->Nat) (S0:bo) (w0:World) (S1:bo) (w1:World):Prop where
 z:lz S0 w0 S1 w1 []
 aside:∀f∈Fs,L f=true->w0.heap.size≤G f∧ ∃o d t z,ops[f]?=some o∧jN P n o=some (d,t,z)∧Aside S1 w1 (G f) (.cells z.cells t (0,0))
 inj:∀f∈Fs,∀f'∈Fs,L f=true->L f'=true->f≠f'->G f≠G f'
theorem sR.skip {P:Program} {n:Nat} {ops:List Oper} {Fs:List Nat} {L:Nat->Bool} {G:Nat->Nat} {S0 S1:bo} {w0 w1:World} (h:sR P n ops Fs L G S0 w0 S1 w1) {k:Nat} (hk:k ∉ Fs):sR P n ops Fs (fi L k) G S0 w0 S1 w1:=by
 have e:∀f∈Fs,fi L k f=L f:=fun f hf=>by
  have cU:f≠k:=fun e=>by subst e;exact hk hf
  unfold fi;rw [if_neg cU]
 exact ⟨h.z,fun f hf hL=>h.aside f hf (e f hf ▸ hL),fun f hf f' Mn h1 h2=>h.inj f hf f' Mn (e f hf ▸ h1) (e f' Mn ▸ h2)⟩
section
variable {P:Program} {n T:Nat} {ops:List Oper} {Fs:List Nat} {L:Nat->Bool} {G:Nat->Nat} {S0 S1:bo} {w0 w1 w:World} {a:Act} {Q:Exit->Act->World->Prop} {col:List AV} {kept:List (Nat×AV)} {H:List (Nat×Row)} {k d t:Nat} {z:Value} {o:Oper}
theorem D6 (iF:(ops.filterMap (·.dst)).Nodup) (hk:k<T) (ho:ops[k]?=some o) (hf:jN P n o=some (d,t,z)) (FU:k∈Fs) (Cb:L k=false)
  (fM:∀i x,look kept i=some x-> ∀j p,j<T->ops[j]?=some p->p.dst≠some i) (hF:sR P n ops Fs L G S0 w0 S1 w1) (hs:iI S1 w1 n ⟨dV ops (pa Fs G col) L T++kept,H⟩ a w) :
  o.wp P a w (fun a' w'=>∃S2 w2 G',sR P n ops Fs (fi L k) G' S0 w0 S2 w2∧iI S2 w2 n ⟨dV ops (pa Fs G' col) (fi L k) T++kept,H⟩ a' w') Q:=by
 obtain ⟨-,p2,p3,p4,p5,p6⟩:=jM hf
 refine Oper.wp_mono ?_ (CP p2 p3 p5 p4 hs)
 rintro a' w' ⟨g,S2,h1,h2,h3,φ,h4⟩
 have cU:∀f,L f=true->f≠k:=fun f hL e=>by subst e;rw [Cb] at hL;cases hL
 have eF:∀f,f≠k->fi L k f=L f:=fun f e=>by unfold fi;rw [if_neg e]
 have cZ:∀f∈Fs,L f=true->G f≠g:=fun f HZ hL e=>by
  obtain ⟨-,o',d',t',z',-,-,hA⟩:=hF.aside f HZ hL
  have:=hA.lt
  omega
 refine ⟨S2,w',fun q=>if q=k then g else G q,⟨by simpa using hF.z.trans h2,fun f HZ hL=>?_,fun f HZ f' Rt hL Sw e=>?_⟩,⟨φ,aJ.sub h4 fun i x hx=>?_⟩⟩
 ·by_cases e:f=k
  ·subst e
   simp only [if_pos]
   exact ⟨Nat.le_trans hF.z.kept.size h1,o,d,t,z,ho,hf,h3⟩
  ·rw [eF f e] at hL
   obtain ⟨k1,o',d',t',z',k2,k3,k4⟩:=hF.aside f HZ hL
   simp only [if_neg e]
   exact ⟨k1,o',d',t',z',k2,k3,k4.move h2⟩
 ·by_cases e1:f=k
  ·have e2:f'≠k:=fun e2=>e (e1.trans e2.symm)
   rw [eF f' e2] at Sw
   simp only [if_pos e1,if_neg e2]
   exact fun q=>cZ f' Rt Sw q.symm
  ·rw [eF f e1] at hL
   by_cases e2:f'=k
   ·simp only [if_pos e2,if_neg e1]
    exact cZ f HZ hL
   ·rw [eF f' e2] at Sw
    simp only [if_neg e1,if_neg e2]
    exact hF.inj f HZ f' Rt hL Sw e
 ·rw [bJ] at hx
  left
  show look ((d,_)::cP _ d) i=some x
  rw [aD]
  cases hl:look (dV ops (pa Fs (fun q=>if q=k then g else G q) col) (fi L k) T) i with
  | some y =>
   rw [hl] at hx
   simp at hx;subst hx
   obtain ⟨j,p,j1,j2,j3,j4,j5⟩:=kX _ _ _ _ _ _ hl
   by_cases e:j=k
   ·subst e
    rw [ho] at j3;injection j3 with j3;subst j3
    rw [p3] at j4;injection j4 with j4
    rw [if_pos j4]
    rw [uo FU] at j5
    cases hc:col[j]? with
    | none=>rw [hc] at j5;cases j5
    | some c =>
     rw [hc] at j5
     simp at j5
     rw [←j5];rfl
   ·have hid:d≠i:=fun q=>e (oV (ops:=ops.toArray) (by simpa using iF) (by simpa using j3) (by simpa using ho) j4 (q ▸ p3))
    rw [if_neg hid,bD,if_neg hid,bJ]
    rw [eF j e] at j2
    have hj:(pa Fs G col)[j]?=some y:=by
     by_cases hm:j∈Fs
     ·rw [uo hm] at j5 ⊢
      rw [←j5,if_neg e]
     ·rw [mD hm] at j5 ⊢
      exact j5
    rw [gN iF _ L T j i p y j1 j2 j3 j4 hj]
    rfl
  | none =>
   rw [hl] at hx
   simp at hx
   have hid:d≠i:=fun q=>fM i x hx k o hk ho (q ▸ p3)
   rw [if_neg hid,bD,if_neg hid,bJ,jt fun j p hj hp=>fM i x hx j p hj hp,hx]
   rfl
end
def JF (P:Program) (n T:Nat) (Ws Fs:List Nat) (ops:List Oper) (st:Nat->oA) (S0:bo) (w0:World) (L:Nat->Bool) (a':Act) (w':World):Prop :=
 ∃i S1 w1 G,i≤Ws.length∧(∀(j W:Nat),Ws[j]?=some W->(L W=true↔j<i))∧sR P n ops Fs L G S0 w0 S1 w1∧iI S1 w1 n ⟨dV ops (pa Fs G (st i).col) L T++(st i).kept,(st i).H⟩ a' w'
section
variable {P:Program} {ops:List Oper} {S0:bo} {w0:World} {Q:Exit->Act->World->Prop}
theorem FV {n T:Nat} {Ws Fs:List Nat} {hs:List (Nat×Hint)} {s:AS} {l:List oA} {C1:List Prop} (he:uj P n T Ws Fs ops hs s=some (l,C1)) (iX:bw C1) {a:Act} {w:World} (gB:iI S0 w0 n s a w) :
  lZ ops.toArray n=true∧(JF P n T Ws Fs ops (fun i=>l.getD i default) S0 w0 (fun k=>(Array.replicate ops.toArray.size false).getD k false) a {w with drawn:=w.drawn+1}) ∧
  (∀k o (L:Nat->Bool) a' w',k<T->ops.toArray[k]?=some o->L k=false->(∀d∈bh o,L d=true)->(∀j p,L j=true->ops.toArray[j]?=some p-> ∀d∈bh p,L d=true)->(∀j,T≤j->L j=false)->JF P n T Ws Fs ops (fun i=>l.getD i default) S0 w0 L a' w' ->
   (if Region.wanted o (yielded ops.toArray a'.tmps)=true then o.wp P a' w' (fun sP fL=>JF P n T Ws Fs ops (fun i=>l.getD i default) S0 w0 (fi L k) sP fL) Q else JF P n T Ws Fs ops (fun i=>l.getD i default) S0 w0 (fi L k) (a'.put o.dst undef) w')) ∧
  (∀(late:List Nat) (s1:AS) (L:Nat->Bool) a' w',(∀k∈late,k ∉ Ws∧k ∉ Fs)->B5 P n T Ws Fs late ops l=some s1->(∀k,k<T->k ∉ late->L k=true)->JF P n T Ws Fs ops (fun i=>l.getD i default) S0 w0 L a' w'-> ∃S2 w1,lz S0 w0 S2 w1 []∧iI S2 w1 n s1 a' w'):=by
 unfold uj at he
 split at he
 case h_2=>cases he
 rename_i hB hT tN OM Mh Rl Tw Ca fO vO
 have dC:=he
 obtain ⟨ud,iF,wW⟩:=gp hB
 have zx:(ops.filterMap (·.dst)).Nodup:=by simpa using iF
 have T1:T≤ops.length:=by simpa [Nat.ble_eq] using hT
 have DV:∀(k:Nat) (o:Oper),ops[k]?=some o-> ∀d∈bh o,d<k:=fun k o h=>ud k o (by simpa using h)
 have OP:∀(k:Nat) (o:Oper) (s:Nat),ops[k]?=some o->o.dst=some s->s<n:=fun k o s h=>wW k o s (by simpa using h)
 generalize T5:mP (ops.take T) []=R at dC tN fO
 have hR:uu ops R:=by
  rw [←T5]
  refine rR ops (ops.take T) [] (fun k o _ L _ _ j hj=>by simp at hj) (fun j o h=>?_) DV
  simpa using bS _ _ _ _ h
 obtain ⟨zy,RG,NA,qM⟩:=uP _ _ _ _ _ _ _ _ _ dC iX
 have OM:=rr T Ws OM
 have Mh:=iQ Mh
 generalize OG:(fun i=>l.getD i default)=st at *
 have Sa:∀i,l.getD i default=st i:=fun i=>by rw [←OG]
 simp only [Sa] at zy RG NA qM
 have fM:∀i,i≤Ws.length-> ∀(k:Nat) (x:AV),look (st i).kept k=some x-> ∀(j:Nat) (p:Oper),j<T->ops[j]?=some p->p.dst≠some k:=by
  intro i
  induction i with
  | zero =>
   intro _ k x hx j p hj hp
   rw [zy] at hx
   exact (kH ops T k).1 (gn _ _ _ _ hx).2 j p hj hp
  | succ i ih =>
   intro hi k x hx
   obtain ⟨o,Tr,X,D',-,-,-,k4,-⟩:=qM i (Ws[i]' ag) (List.getElem?_eq_getElem ag)
   rw [k4,cp] at hx
   cases hl:look (st i).kept k with
   | none=>rw [hl] at hx;cases hx
   | some y=>exact ih ag k y hl
 have xf:∀i,i≤Ws.length-> ∃last first old,E0 Fs P T ops hs R (Ws.drop i) (Ws.take i) last first old (st i):=by
  intro i hi
  cases i with
  | zero=>exact ⟨_,_,_,by simpa using NA⟩
  | succ i =>
   obtain ⟨o,Tr,X,D',-,-,-,-,k5⟩:=qM i (Ws[i]' ag) (List.getElem?_eq_getElem ag)
   exact ⟨_,_,_,by simpa using k5⟩
 have O9:∀f∈Fs,f ∉ Ws:=fun f hf hw=>by
  have:=List.all_eq_true.1 Ca f hf
  rw [any_beq.2 hw] at this;cases this
 have vN:∀q,q<T-> ∀f∈Fs,f ∉ R.getD q []:=fun q hq f hf hr=>by
  have:=List.all_eq_true.1 fO q (List.mem_range.2 hq)
  rw [oN.2 ⟨f,hr,hf⟩] at this;simp at this
 have Nz:∀q o,q<T->ops[q]?=some o-> ∀f∈bh o,f ∉ Fs:=fun q o hq ho f hr hf=>by
  have:=List.all_eq_true.1 fO q (List.mem_range.2 hq)
  rw [ho] at this
  simp only [oN.2 ⟨f,hr,hf⟩] at this
  simp at this
 have TP:∀f∈Fs,∃o d t z,ops[f]?=some o∧jN P n o=some (d,t,z):=fun f hf=>by
  have:=List.all_eq_true.1 vO f hf
  cases ho:ops[f]? with
  | none=>rw [ho] at this;cases this
  | some o =>
   rw [ho] at this
   cases JY:jN P n o with
   | none=>simp [JY] at this
   | some x=>exact ⟨o,x.1,x.2.1,x.2.2,rfl,JY⟩
 have Rl:=rr T Fs Rl
 have Tw:=iQ Tw
 obtain ⟨φ,l9⟩:=gB
 refine ⟨hB,?_,?_,?_⟩
 ·refine ⟨0,S0,w0,fun _=>0,ag,fun j W _=>by show (Array.replicate ops.toArray.size false).getD W false=true↔_;rw [getD_replicate_false];simp,⟨lz.refl l9.cX,fun f _ hL=>?_,fun f _ f' _ hL=>?_⟩,φ,?_⟩
  ·change (Array.replicate ops.toArray.size false).getD f false=true at hL
   rw [getD_replicate_false] at hL;cases hL
  ·change (Array.replicate ops.toArray.size false).getD f false=true at hL
   rw [getD_replicate_false] at hL;cases hL
  rw [nM _ _ _ (fun k=>getD_replicate_false _ _)]
  have hg:aJ S0 w0 n [] s a w.drew φ:=l9.grow ((Below.refl _ _).drew)
  rw [RG,zy]
  exact aJ.sub (F:=s.F) hg fun i x hx=>.inl (gn _ _ _ _ (by simpa using hx)).1
 ·intro k o L a' w' hk ho Cb jo zC BU ⟨i,S1,w1,G,hi,hW,Pc,gB⟩
  have r_:ops[k]?=some o:=by simpa using ho
  have gC:∀(j:Nat) (p:Oper),L j=true->ops[j]?=some p-> ∀d∈bh p,L d=true:=fun j p hj hp=>zC j p hj (by simpa using hp)
  have pW:∀j∈R.getD k [],L j=true:=hR k o r_ L gC jo
  have qO:∀q,L q=true-> ∀j∈R.getD q [],L j=true:=fun q hq j hj=>by
   cases JH:ops[q]? with
   | some p=>exact hR q p JH L gC (fun d hd=>gC q p hq JH d hd) j hj
   | none =>
    exfalso
    have h1:ops.length≤q:=List.getElem?_eq_none_iff.1 JH
    have:=BU q ag
    rw [hq] at this;cases this
  have Rz:∀d∈bh o,L d=true∧d<T:=fun d hd=>⟨jo d hd,by have:=DV k o r_ d hd;omega⟩
  have vJ:∀i',i≤i'-> ∀q,q<T->(∀j∈R.getD q [],L j=true)->hit (R.getD q []) (Ws.drop i'++Fs)=false:=by
   intro i' jw q Wg hq
   cases hh:hit (R.getD q []) (Ws.drop i'++Fs) with
   | false=>rfl
   | true =>
    exfalso
    obtain ⟨x,h1,h2⟩:=oN.1 hh
    rcases List.mem_append.1 h2 with h2|h2
    case inr=>exact vN q Wg x h2 h1
    obtain ⟨j,hj⟩:=List.mem_iff_getElem?.1 h2
    rw [List.getElem?_drop] at hj
    have:=(hW _ x hj).1 (hq x h1)
    omega
  have hlen:∀i,i≤Ws.length->(st i).col.length=T:=fun i hi=>by
   obtain ⟨last,first,old,Cd,DW,Mx⟩:=xf i hi
   obtain ⟨d1,-,-⟩:=jO _ 0 [] _ _ DW Mx rfl
   rw [d1,List.length_take];omega
  by_cases FU:k∈Fs
  ·obtain ⟨o',d,t,z,f1,f2⟩:=TP k FU
   rw [r_] at f1;cases f1
   have kj:Region.wanted o (yielded ops.toArray a'.tmps)=true:=by unfold Region.wanted;rw [(jM f2).1]
   rw [if_pos kj]
   refine Oper.wp_mono ?_ (D6 zx hk r_ f2 FU Cb (fM i hi) Pc gB)
   rintro sP fL ⟨S2,w2,G',g1,g2⟩
   refine ⟨i,S2,w2,G',hi,fun j2 W2 h2=>?_,g1,g2⟩
   have e:W2≠k:=fun e=>by subst e;exact O9 _ FU (List.mem_of_getElem? h2)
   unfold fi;rw [if_neg e];exact hW j2 W2 h2
  by_cases Mk:k∈Ws
  ·obtain ⟨j,hj⟩:=List.mem_iff_getElem?.1 Mk
   have OO:j<Ws.length:=(List.getElem?_eq_some_iff.1 hj).1
   have Nv:¬j<i:=fun h=>by have:=(hW j k hj).2 h;rw [Cb] at this;cases this
   have e:j=i:=by
    rcases Nat.lt_or_ge i j with h|h
    ·obtain ⟨j',rfl⟩:∃j',j=j'+1:=⟨j-1,ag⟩
     have Md:Ws[j']?=some (Ws[j']' ag):=List.getElem?_eq_getElem ag
     have h1:=pW _ (sI R Ws tN j' _ k Md hj)
     have:=(hW j' _ Md).1 h1
     omega
    ·omega
   subst e
   obtain ⟨o',Tr,x,D',k1,k2,k3,k4,Cc,k5,k6⟩:=qM j k hj
   rw [r_] at k1;cases k1
   simp only [List.nil_append] at k5
   obtain ⟨c1,c2,c3⟩:=jO _ 0 [] _ _ k5 k6 rfl
   simp only [Nat.zero_add] at c1 c3
   have T2:(ops.take T).length=T:=by rw [List.length_take];omega
   have P7:k ∉ Ws.drop (j+1):=fun hm=>by
    obtain ⟨j2,CX⟩:=List.mem_iff_getElem?.1 hm
    rw [List.getElem?_drop] at CX
    have:=mj Mh hj CX
    omega
   have TG:k∈Ws.take (j+1):=List.mem_iff_getElem?.2 ⟨j,by rw [List.getElem?_take,if_pos ag];exact hj⟩
   have hold:((((st j).col.map Tr).set k x).getD k .dead)=x:=by
    obtain ⟨last,first,old,Cd,DW,Mx⟩:=xf j hi
    obtain ⟨d1,-,-⟩:=jO _ 0 [] _ _ DW Mx rfl
    rw [Nat.zero_add,T2] at d1
    rw [List.getD_eq_getElem?_getD,List.getElem?_set_self (by rw [List.length_map];omega)];rfl
   have jd:=xz (P:=P) (S0:=S1) (w0:=w1) (Q:=Q) (n:=n) (T:=T) (col:=pa Fs G (st j).col) (col':=pa Fs G (st (j+1)).col) (L:=L) (a:=a') (w:=w') zx hk r_ Rz (fM j hi) (by rw [ED _ (Nz k o hk r_)];exact k2) k3 (by
    intro q z hq Q_ Ua hz
    by_cases U8:q∈Fs
    ·left
     rw [uo U8] at hz ⊢
     rw [List.getElem?_eq_getElem (by rw [hlen j hi];exact hq)]
     cases hc:(st (j+1)).col[q]? with
     | none=>rw [hc] at hz;cases hz
     | some c =>
      rw [hc] at hz
      simp only [Option.map_some] at hz ⊢
      rw [Km k2];exact hz
    rw [mD U8] at hz ⊢
    have JH:(ops.take T)[q]?=some (ops[q]' ag):=by rw [List.getElem?_take,if_pos hq];exact List.getElem?_eq_getElem ag
    obtain ⟨x',D2,e1,e2,e3⟩:=c3 q _ JH
    rw [e1] at hz;injection hz with hz;subst hz
    unfold ri at e3
    split at e3
    ·split at e3
     ·split at e3
      ·rename_i xx CC eC
       split at e3
       ·cases e3
        exact kx Q_ e2.1
       ·rename_i fO
        exfalso
        cases hh:hit (R.getD q []) [k] with
        | false=>exact fO rfl hh
        | true =>
         obtain ⟨y,h1,h2⟩:=oN.1 hh
         have:y=k:=by simpa using h2
         subst this
         have:=qO q Ua y h1
         rw [Cb] at this;cases this
      ·cases e3
     ·cases e3
      exact kx Q_ rfl
    ·cases e3
     exact .inr rfl) (by
    have BZ:(ops.take T)[k]?=some o:=by rw [List.getElem?_take,if_pos hk];exact r_
    obtain ⟨x',D2,e1,e2,e3⟩:=c3 k _ BZ
    rw [mD FU,e1]
    unfold ri at e3
    have r1:(Ws.drop (j+1)++Fs).any (Nat.beq k)=false:=by
     cases hh:(Ws.drop (j+1)++Fs).any (Nat.beq k) with
     | false=>rfl
     | true=>exact (List.mem_append.1 (any_beq.1 hh)).elim (fun q=>absurd q P7) (fun q=>absurd q FU)
    have r2:=vJ (j+1) ag k hk pW
    have r3:(Ws.take (j+1)).any (Nat.beq k)=true:=any_beq.2 TG
    rw [r1,r2,r3] at e3
    simp only at e3
    injection e3 with e3;injection e3 with e3 _
    rw [←e3,hold]) gB
   have fin:∀sP fL,iI S1 w1 n ⟨dV ops (pa Fs G (st (j+1)).col) (fi L k) T++eu Tr (st j).kept,(st (j+1)).H⟩ sP fL->JF P n T Ws Fs ops st S0 w0 (fi L k) sP fL:=by
    intro sP fL h
    refine ⟨j+1,S1,w1,G,ag,fun j2 W2 h2=>?_,Pc.skip FU,by rw [k4];exact h⟩
    by_cases e:W2=k
    ·subst e
     have:=mj Mh hj h2
     unfold fi;rw [if_pos rfl];simp;omega
    ·unfold fi;rw [if_neg e,hW j2 W2 h2]
     have:j2≠j:=fun e2=>by subst e2;rw [hj] at h2;cases h2;exact e rfl
     omega
   split
   ·rename_i hw
    rw [if_pos hw] at jd
    exact Oper.wp_mono fin jd
   ·rename_i hw
    rw [if_neg hw] at jd
    exact fin _ _ jd
  ·obtain ⟨last,first,old,Cc,k5,k6⟩:=xf i hi
   obtain ⟨c1,c2,c3⟩:=jO _ 0 [] _ _ k5 k6 rfl
   simp only [Nat.zero_add] at c1 c3
   have BZ:(ops.take T)[k]?=some o:=by rw [List.getElem?_take,if_pos hk];exact r_
   obtain ⟨x',D2,e1,e2,e3⟩:=c3 k _ BZ
   unfold ri at e3
   have r1:(Ws.drop i++Fs).any (Nat.beq k)=false:=by
    cases hh:(Ws.drop i++Fs).any (Nat.beq k) with
    | false=>rfl
    | true=>exact (List.mem_append.1 (any_beq.1 hh)).elim (fun q=>absurd (List.mem_of_mem_drop q) Mk) (fun q=>absurd q FU)
   have r2:=vJ i (Nat.le_refl _) k hk pW
   have r3:(Ws.take i).any (Nat.beq k)=false:=by
    cases hh:(Ws.take i).any (Nat.beq k) with
    | false=>rfl
    | true=>exact absurd (List.mem_of_mem_take (any_beq.1 hh)) Mk
   have r4:(Ws.take i).any (fun W=>(R.getD W []).any (Nat.beq k))=false:=by
    cases hh:(Ws.take i).any (fun W=>(R.getD W []).any (Nat.beq k)) with
    | false=>rfl
    | true =>
     exfalso
     obtain ⟨W,h1,h2⟩:=List.any_eq_true.1 hh
     obtain ⟨j,hj⟩:=List.mem_iff_getElem?.1 h1
     rw [List.getElem?_take] at hj
     split at hj
     ·rename_i Nv
      have:=qO W ((hW j W hj).2 Nv) k (any_beq.1 h2)
      rw [Cb] at this;cases this
     ·cases hj
   rw [r1,r2,r3,r4] at e3
   simp only at e3
   have eC:∃C',tR P ops ⟨jB ops ((st i).col.take k) (bh o)++(st i).kept,(st i).H⟩ o (gQ hs k)=some (x',C')∧bw C':=by
    split at e3
    ·rename_i xx CC eC
     split at e3
     ·cases e3;exact ⟨_,eC,e2.2⟩
     ·cases e3;exact ⟨_,eC,e2⟩
    ·cases e3
   obtain ⟨C',eC,RI⟩:=eC
   rw [sG ops _ k _ (DV k o r_)] at eC
   have jd:=uO (P:=P) (S0:=S1) (w0:=w1) (Q:=Q) (n:=n) (T:=T) (L:=L) (a:=a') (w:=w') (col:=pa Fs G (st i).col) zx OP hk r_ Rz (fM i hi) (by rw [ED _ (Nz k o hk r_)];exact eC) RI (by rw [mD FU];exact e1) gB
   have fin:∀sP fL,iI S1 w1 n ⟨dV ops (pa Fs G (st i).col) (fi L k) T++(st i).kept,(st i).H⟩ sP fL->JF P n T Ws Fs ops st S0 w0 (fi L k) sP fL:=by
    intro sP fL h
    refine ⟨i,S1,w1,G,hi,fun j2 W2 h2=>?_,Pc.skip FU,h⟩
    have e:W2≠k:=fun e=>by subst e;exact Mk (List.mem_of_getElem? h2)
    unfold fi;rw [if_neg e];exact hW j2 W2 h2
   split
   ·rename_i hw
    rw [if_pos hw] at jd
    exact Oper.wp_mono fin jd
   ·rename_i hw
    rw [if_neg hw] at jd
    exact fin _ _ jd
 ·intro late s1 L a' w' Nu DX gH ⟨i,S1,w1,G,hi,hW,Pc,gB⟩
  unfold B5 at DX
  rw [Sa] at DX
  have FZ:∀f∈Fs,L f=true:=fun f hf=>gH f (Rl f hf) fun q=>(Nu f q).2 hf
  have e:i=Ws.length:=by
   rcases Nat.lt_or_ge i Ws.length with h|h
   ·have Md:Ws[i]?=some (Ws[i]'h):=List.getElem?_eq_getElem h
    have:=(hW i _ Md).1 (gH _ (OM _ (List.getElem_mem h)) fun q=>(Nu _ q).1 (List.getElem_mem h))
    omega
   ·omega
  subst e
  have hlen:(st Ws.length).col.length=T:=by
   obtain ⟨last,first,old,Cd,DW,Mx⟩:=xf Ws.length hi
   obtain ⟨d1,-,-⟩:=jO _ 0 [] _ _ DW Mx rfl
   rw [d1,List.length_take];omega
  have Tn:∀f∈Fs,∀o d t z,ops[f]?=some o->jN P n o=some (d,t,z)->a'.tmps.getD d undef=GL (G f):=fun f hf o d t z ho JY=>by
   obtain ⟨cy,bT⟩:=gB
   have lX:look (dV ops (pa Fs G (st Ws.length).col) L T++(st Ws.length).kept) d=some (.val (GL (G f))):=by
    rw [bJ,gN zx _ L T f d o (.val (GL (G f))) (Rl f hf) (FZ f hf) ho (jM JY).2.2.1 (by rw [uo hf,List.getElem?_eq_getElem (by rw [hlen];exact Rl f hf)];rfl)]
    rfl
   exact bF (bT.cA d _ lX)
  have mo:∀b,w0.heap.size≤b->S0.S b:=fun b hb=>l9.new b (.inl hb)
  have DN:iI S1 w1 n ⟨jn (ops.take T) (BM late (st Ws.length).col)++(st Ws.length).kept,(st Ws.length).H⟩ a' w':=by
   obtain ⟨cy,bT⟩:=gB
   refine ⟨cy,aJ.sub bT fun i x hx=>?_⟩
   rw [bJ] at hx ⊢
   cases hh:look (jn (ops.take T) (BM late (st Ws.length).col)) i with
   | some y =>
    rw [hh] at hx
    simp at hx;subst hx
    obtain ⟨k,o,h1,h2,h3⟩:=kZ _ _ _ _ hh
    have xd:k<T:=by have:=(List.getElem?_eq_some_iff.1 h1).1;rw [List.length_take] at this;omega
    rw [Jl] at h3
    cases hc:(st Ws.length).col[k]? with
    | none=>rw [hc] at h3;cases h3
    | some z =>
     rw [hc] at h3
     simp only [Option.map_some,Option.some.injEq] at h3
     by_cases gV:late.any (Nat.beq k)=true
     ·rw [gV] at h3
      exact .inr h3.symm
     simp only [Bool.not_eq_true] at gV
     rw [gV] at h3
     subst h3
     by_cases FU:k∈Fs
     ·right
      obtain ⟨last,first,old,Cd,DW,Mx⟩:=xf Ws.length hi
      obtain ⟨-,-,c3⟩:=jO _ 0 [] _ _ DW Mx rfl
      obtain ⟨x',D2,e1,e2,e3⟩:=c3 k o h1
      simp only [Nat.zero_add] at e1 e3
      unfold ri at e3
      rw [any_beq.2 (List.mem_append.2 (.inr FU))] at e3
      simp only at e3
      rw [hc] at e1;injection e1 with e1
      injection e3 with e3;injection e3 with e3 _
      rw [e1,←e3]
     ·left
      rw [gN zx _ L T k i o z xd (gH k xd fun q=>by rw [any_beq.2 q] at gV;cases gV) (bS _ _ _ _ h1) h2 (by rw [mD FU];exact hc)];rfl
   | none =>
    rw [hh] at hx
    simp at hx
    left
    rw [jt fun j p hj hp=>fM _ (Nat.le_refl _) i x hx j p hj hp]
    simpa using hx
  obtain ⟨S2,Mc,ns⟩:=yo (P:=P) (n:=n) (ops:=ops) (S0:=S0) (w0:=w0) (w1:=w1) (w:=w') (a:=a') (G:=G) mo Fs _ s1 S1 Tw DX Pc.z (fun f hf o d t z ho JY=>by
   obtain ⟨k1,o',d',t',z',k2,k3,k4⟩:=Pc.aside f hf (FZ f hf)
   rw [ho] at k2;cases k2
   rw [JY] at k3;cases k3
   exact ⟨k1,k4,Tn f hf o d t z ho JY⟩) (fun f hf f' Mn cU=>Pc.inj f hf f' Mn (FZ f hf) (FZ f' Mn) cU) DN
  exact ⟨S2,w1,Mc,ns⟩
theorem El {n T:Nat} {Ws Fs:List Nat} {hs:List (Nat×Hint)} {s s':AS} {C:List Prop} (he:Ak P n T Ws Fs ops hs s=some (s',C)) (hC:bw C) {a:Act} {w:World} (gB:iI S0 w0 n s a w) (hQ:∀a' w',nv S0 w0 n s' a' w'->Q .normal a' w'):P.follows .mixedOrders=true∧wpAny P .any ops.toArray Q ops.toArray.size (Array.replicate ops.toArray.size false) a {w with drawn:=w.drawn+1}:=by
 unfold Ak at he
 split at he
 case h_2=>cases he
 rename_i l C1 hm hT hh
 split at he
 case h_2=>cases he
 rename_i s1 DX
 split at he
 case h_2=>cases he
 rename_i s2 D pt
 cases he
 obtain ⟨iX,hD⟩:=bN.1 hC
 obtain ⟨hB,h1,h2,h3⟩:=FV (Q:=Q) hh iX gB
 unfold pd at hT
 simp only [Bool.and_eq_true,decide_eq_true_eq] at hT
 obtain ⟨⟨⟨H2,Mw⟩,Mv⟩,Mu⟩:=hT
 refine ⟨hm,nI (n:=n) H2 Mw Mv Mu hB (JF P n T Ws Fs ops (fun i=>l.getD i default) S0 w0) (fun k o L a' w' hk ho Cb hd hc BU hJ=>h2 k o L a' w' hk ho Cb hd hc BU hJ) ?_ ops.toArray.size _ a _ ⟨by simp,fun k o hk=>?_⟩ h1 (fun j _=>by rw [getD_replicate_false]) (by simp)⟩
 ·intro L a' w' gH BU hJ
  obtain ⟨S2,w1,Mc,ns⟩:=h3 [] s1 L a' w' (fun k hk=>by cases hk) DX (fun k hk _=>gH k hk) hJ
  have kv:=j0 (S0:=S2) (w0:=w1) (Q:=Q) _ _ _ _ _ pt hD a' w' ns fun a2 w2 h2=>hQ a2 w2 (nv.after Mc h2.one)
  simpa using kv
 ·rw [getD_replicate_false] at hk;cases hk
def PH (M q:Nat) (Ws Fs:List Nat) (o:Oper):Bool:=Nat.blt q M && !(Ws.any (Nat.beq q)) && !(Fs.any (Nat.beq q)) && (List.range M).all fun k=>Nat.beq k q || (bh o).any (Nat.beq k)
theorem ET {M q:Nat} {Ws Fs:List Nat} {o:Oper} (h:PH M q Ws Fs o=true):q<M∧q ∉ Ws∧q ∉ Fs∧ ∀k,k<M->k≠q->k∈bh o:=by
 unfold PH at h
 simp only [Bool.and_eq_true] at h
 obtain ⟨⟨⟨h1,h2⟩,h3⟩,h4⟩:=h
 refine ⟨by simpa [Nat.blt_eq] using h1,fun q=>(by rw [any_beq.2 q] at h2;cases h2),fun q=>(by rw [any_beq.2 q] at h3;cases h3),fun k hk cU=>?_⟩
 have:=List.all_eq_true.1 h4 k (List.mem_range.2 hk)
 rw [Bool.or_eq_true] at this
 exact this.elim (fun e=>absurd (Nat.eq_of_beq_eq_true e) cU) any_beq.1
def vW (s:AS) (d:Nat):AS:=match look s.F d with|some x=>⟨(d,x)::cP s.F d,s.H⟩|none=>s
theorem Hk {S0:bo} {w0 w:World} {n:Nat} {s:AS} {d:Nat} {a:Act} (h:iI S0 w0 n s a w):iI S0 w0 n (vW s d) a w:=by
 unfold vW
 split
 ·rename_i x hx
  obtain ⟨φ,h⟩:=h
  refine ⟨φ,aJ.sub (F:=s.F) h fun i y hy=>.inl ?_⟩
  rw [aD] at hy
  split at hy
  ·rename_i e;subst e;cases hy;exact hx
  ·rename_i e;rw [bD,if_neg e] at hy;exact hy
 ·exact h
def Aj (P:Program) (n M q:Nat) (Ws Fs:List Nat) (ops:List Oper) (hs:List (Nat×Hint)) (s:AS):Option (AS×AS×AS×List Prop) :=
 match P.follows .mixedOrders,pd ops.toArray (M+1),uj P n M Ws Fs ops hs s,ops[M]?,ops[q]? with
 | true,true,some (l,C),some o,some p=>(match PH M q Ws Fs o,o.guard,p.guard,p.dst,B5 P n M Ws Fs [] ops l,B5 P n M Ws Fs [q] ops l with
  | true,none,none,some d,some sa,some sb=>(match Cx P n sa o (gQ hs M),Cx P n sb o (gQ hs M) with
   | some (sA,D1),some (sB,D2)=>(match Cx P n sB p (gQ hs q) with
    | some (sC,D3)=>(match kn P n ops hs (ops.drop (M+1)) (M+1) sC with
     | some (s',D4)=>some (s',vW sA d,sC,C++(D1++(D2++(D3++D4))))
     | none=>none)
    | none=>none)
   | _,_=>none)
  | _,_,_,_,_,_=>none)
 | _,_,_,_,_=>none
theorem Ek {n M q:Nat} {Ws Fs:List Nat} {hs:List (Nat×Hint)} {s s' x:AS} {C:List Prop} (he:Aj P n M q Ws Fs ops hs s=some (s',x,x,C)) (hC:bw C) {a:Act} {w:World} (gB:iI S0 w0 n s a w) (hQ:∀a' w',nv S0 w0 n s' a' w'->Q .normal a' w'):P.follows .mixedOrders=true∧wpAny P .any ops.toArray Q ops.toArray.size (Array.replicate ops.toArray.size false) a {w with drawn:=w.drawn+1}:=by
 unfold Aj at he
 split at he
 case h_2=>cases he
 rename_i l C1 o p hm hT hh ho hp
 split at he
 case h_2=>cases he
 rename_i d sa sb TZ Wl Wi XI Wc Wb
 split at he
 case h_2=>cases he
 rename_i sA D1 sB D2 hA Xa
 split at he
 case h_2=>cases he
 rename_i sC D3 W_
 split at he
 case h_2=>cases he
 rename_i s2 D4 pt
 have he:=Option.some.inj he
 have e1:s2=s':=congrArg (·.1) he
 have e2:vW sA d=x:=congrArg (·.2.1) he
 have e3:sC=x:=congrArg (·.2.2.1) he
 have e4:C1++(D1++(D2++(D3++D4)))=C:=congrArg (·.2.2.2) he
 subst e1
 have e5:vW sA d=sC:=e2.trans e3.symm
 rw [←e4] at hC
 obtain ⟨iX,hC⟩:=bN.1 hC
 obtain ⟨W8,hC⟩:=bN.1 hC
 obtain ⟨W7,hC⟩:=bN.1 hC
 obtain ⟨W6,W5⟩:=bN.1 hC
 obtain ⟨b1,b2,b3,b4⟩:=ET TZ
 obtain ⟨hB,h1,h2,h3⟩:=FV (Q:=Q) hh iX gB
 unfold pd at hT
 simp only [Bool.and_eq_true,decide_eq_true_eq] at hT
 obtain ⟨⟨⟨H2,Mw⟩,Mv⟩,Mu⟩:=hT
 let J:(Nat->Bool)->Act->World->Prop:=fun L a' w'=>(L M=false∧JF P n M Ws Fs ops (fun i=>l.getD i default) S0 w0 L a' w')∨(L M=true∧ ∃S2 w2,lz S0 w0 S2 w2 []∧((L q=true∧iI S2 w2 n sC a' w')∨(L q=false∧iI S2 w2 n sB a' w')))
 have kj:∀(o:Oper) (a':Act),o.guard=none->Region.wanted o (yielded ops.toArray a'.tmps)=true:=fun o a' hg=>by unfold Region.wanted;rw [hg]
 refine ⟨hm,nI (n:=n) H2 Mw Mv Mu hB J ?_ ?_ ops.toArray.size _ a _ ⟨by simp,fun k o hk=>?_⟩ (.inl ⟨getD_replicate_false _ _,h1⟩) (fun j _=>by rw [getD_replicate_false]) (by simp)⟩
 ·intro k o1 L a' w' hk U9 Cb hd hc BU hJ
  have HY:ops[k]?=some o1:=by simpa using U9
  have cU:q≠M:=ag
  by_cases ek:k=M
  ·subst ek
   rw [ho] at HY;cases HY
   rw [if_pos (kj o a' Wl)]
   have Vu:=hJ.resolve_right fun h=>by rw [Cb] at h;cases h.1
   have gH:∀j,j<k->j≠q->L j=true:=fun j hj TI=>hd j (b4 j hj TI)
   have pk:fi L k k=true:=by unfold fi;rw [if_pos rfl]
   have pq:fi L k q=L q:=by unfold fi;rw [if_neg cU]
   cases hq:L q with
   | true =>
    obtain ⟨S2,w1,Mc,ns⟩:=h3 [] sa L a' w' (fun k hk=>by cases hk) Wc (fun j hj _=>by
     by_cases e:j=q
     ·rw [e];exact hq
     ·exact gH j hj e) Vu.2
    exact Oper.wp_mono (fun sP fL h=>.inr ⟨pk,S2,w1,Mc,.inl ⟨by rw [pq];exact hq,by rw [←e5];exact Hk h⟩⟩) (oQ hA W8 S2 w1 a' w' Q ns)
   | false =>
    obtain ⟨S2,w1,Mc,ns⟩:=h3 [q] sb L a' w' (fun k hk=>by obtain rfl:=List.mem_singleton.1 hk;exact ⟨b2,b3⟩) Wb (fun j hj TI=>gH j hj fun e=>TI (by simp [e])) Vu.2
    exact Oper.wp_mono (fun sP fL h=>.inr ⟨pk,S2,w1,Mc,.inr ⟨by rw [pq];exact hq,h⟩⟩) (oQ Xa W7 S2 w1 a' w' Q ns)
  ·have Vf:k<M:=ag
   have pM:fi L k M=L M:=by unfold fi;rw [if_neg fun e=>ek e.symm]
   rcases hJ with ⟨hM,hJ⟩|⟨hM,S2,w2,hz,hJ⟩
   ·have:=h2 k o1 L a' w' Vf U9 Cb hd hc (fun j hj=>by
     by_cases e:j=M
     ·rw [e];exact hM
     ·exact BU j ag) hJ
    split
    ·rename_i hw
     rw [if_pos hw] at this
     exact Oper.wp_mono (fun sP fL h=>.inl ⟨by rw [pM];exact hM,h⟩) this
    ·rename_i hw
     rw [if_neg hw] at this
     exact .inl ⟨by rw [pM];exact hM,this⟩
   ·have Xo:k=q:=Classical.byContradiction fun e=>by
     have:=hc M o hM (by simpa using ho) k (b4 k Vf e)
     rw [Cb] at this;cases this
    subst Xo
    rw [hp] at HY;cases HY
    rw [if_pos (kj p a' Wi)]
    have hs:=(hJ.resolve_left fun h=>by rw [Cb] at h;cases h.1).2
    exact Oper.wp_mono (fun sP fL h=>.inr ⟨by rw [pM];exact hM,S2,w2,hz,.inl ⟨by unfold fi;rw [if_pos rfl],h⟩⟩) (oQ W_ W6 S2 w2 a' w' Q hs)
 ·intro L a' w' gH BU hJ
  have hM:=gH M ag
  have hq:=gH q ag
  obtain ⟨-,S2,w2,hz,hJ⟩:=hJ.resolve_left fun h=>by rw [hM] at h;cases h.1
  have hs:=(hJ.resolve_right fun h=>by rw [hq] at h;cases h.1).2
  have kv:=j0 (S0:=S2) (w0:=w2) (Q:=Q) _ _ _ _ _ pt W5 a' w' hs fun a2 w2 h2=>hQ a2 w2 (nv.after hz h2.one)
  simpa using kv
 ·rw [getD_replicate_false] at hk;cases hk
end
def Aa (P:Program) (n T:Nat) (Ws Fs:List Nat) (hs:List (Nat×Hint)) (c:Code) (s:AS):Option (AS×List Prop) :=
 match c with
 | .region _ ⟨l⟩ true=>Ak P n T Ws Fs l hs s
 | _=>none
theorem bf.SR {P:Program} {n:Nat} {c:Code} {Q:Exit->AS->Prop} {s s':AS} {C:List Prop} (T:Nat) (Ws Fs:List Nat) (hs:List (Nat×Hint)) (he:Aa P n T Ws Fs hs c s=some (s',C)) (hC:bw C) (h:Q .normal s'):bf P n c Q s:=by
 intro S0 w0 a w gB
 unfold Aa at he
 split at he
 ·exact El (S0:=S0) (w0:=w0) he hC gB fun a' w' bT=>⟨s',h,bT⟩
 ·cases he
def m9 (P:Program) (n M q:Nat) (Ws Fs:List Nat) (hs:List (Nat×Hint)) (c:Code) (s:AS):Option (AS×AS×AS×List Prop) :=
 match c with
 | .region _ ⟨l⟩ true=>Aj P n M q Ws Fs l hs s
 | _=>none
def Of (r:Option (AS×AS×AS×List Prop)):Option (AS×List Prop):=match r with|some (s',_,_,C)=>some (s',C)|none=>none
def Ng (r:Option (AS×AS×AS×List Prop)):AS:=match r with|some (_,x,_,_)=>x|none=>⟨[],[]⟩
def Nf (r:Option (AS×AS×AS×List Prop)):AS:=match r with|some (_,_,y,_)=>y|none=>⟨[],[]⟩
theorem bf.SQ {P:Program} {n:Nat} {c:Code} {Q:Exit->AS->Prop} {s s':AS} {C:List Prop} (M q:Nat) (Ws Fs:List Nat) (hs:List (Nat×Hint)) (hx:Ng (m9 P n M q Ws Fs hs c s)=Nf (m9 P n M q Ws Fs hs c s)) (he:Of (m9 P n M q Ws Fs hs c s)=some (s',C)) (hC:bw C) (h:Q .normal s'):bf P n c Q s:=by
 intro S0 w0 a w gB
 generalize hr:m9 P n M q Ws Fs hs c s=r at he hx
 match r,he,hx with
 | some (_,x,y,_),he,hx =>
  have he:some (_,_)=some (s',C):=he
  injection he with he
  injection he with e1 e2
  have hx:x=y:=hx
  subst e1 e2 hx
  unfold m9 at hr
  split at hr
  ·exact Ek (S0:=S0) (w0:=w0) hr hC gB fun a' w' bT=>⟨_,h,bT⟩
  ·cases hr
end Go.Proofs.YtjgbhhnghedgdaaGreatDoor
