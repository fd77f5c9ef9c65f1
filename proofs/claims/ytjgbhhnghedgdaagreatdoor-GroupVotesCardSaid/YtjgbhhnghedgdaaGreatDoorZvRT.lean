import Derived.Test.YtjgbhhnghedgdaaGreatDoorZvRS
import Derived.Test.YtjgbhhnghedgdaaGreatDoorZvRI
set_option linter.all false
namespace Go.Proofs.YtjgbhhnghedgdaaGreatDoor
open Go.RowKit
section
variable {S0:bn} {w0 w:World} {n:Nat} {s:AS} {a:Act} {φ:Nat->Option Nat} {g:Nat}
def Al (S0:bn) (φ:Nat->Option Nat) (g:Nat):bn:=⟨fun b=>S0.S b∧b≠g,fun b=>∃id,φ id=some b,S0.fix,S0.tq⟩
theorem vU:aP (Al S0 φ g) w φ []=aP S0 w φ [g]:=by
 funext b
 apply propext
 unfold aP Al
 simp only [List.not_mem_nil,not_false_eq_true,true_and,List.mem_singleton]
 exact ⟨fun ⟨h1,h2,h3,h4⟩=>⟨h1,h4,h2,h3⟩,fun ⟨h1,h2,h3,h4⟩=>⟨h1,h3,h4,h2⟩⟩
theorem aI.aside (h:aI S0 w0 n [g] s a w φ) (hg:g<w.heap.size):lC S0 w0 (Al S0 φ g) w []∧aI (Al S0 φ g) w n [] s a w φ:=by
 have hX:∀b,(∃id,φ id=some b)->w0.heap.size≤b∨S0.X b:=fun b ⟨id,hid⟩=>(h.cY id b hid).1.2
 refine ⟨⟨h.da,fun b hb=>hb.1,hX,rfl,rfl,List.nodup_nil,fun r hr=>by cases hr⟩,⟨h.j8,h.ke,⟨rfl,rfl,rfl,Nat.le_refl _,fun _ _ _=>rfl,h.da.ng,fun b hb=>h.tD hb⟩,?_,?_,h.only,h.inj,fun id b hid=>⟨⟨(h.cY id b hid).1.1,.inr ⟨id,hid⟩⟩,(h.cY id b hid).2⟩,fun _ _ _=>by simp,?_⟩⟩
 ·rw [vU];exact h.cC
 ·rw [vU];exact h.rows
 ·rintro b (hb|⟨id,hid⟩)
  ·exact ⟨h.new b (.inl (Nat.le_trans h.da.size hb)),ag⟩
  ·exact ⟨h.new b (hX b ⟨id,hid⟩),fun e=>h.apart id b hid (by simp [e])⟩
def wK (S1:bn) (g:Nat):bn:=⟨fun b=>S1.S b∨b=g,fun b=>S1.X b∨b=g,S1.fix,S1.tq⟩
theorem xV {S1:bn} (hS:¬S1.S g):aP (wK S1 g) w φ [g]=aP S1 w φ []:=by
 funext b
 apply propext
 unfold aP wK
 simp only [List.not_mem_nil,not_false_eq_true,true_and,List.mem_singleton]
 constructor
 ·rintro ⟨h1,h2,h3,h4|h4⟩
  ·exact ⟨h1,h3,h4⟩
  ·exact absurd h4 h2
 ·rintro ⟨h1,h3,h4⟩
  exact ⟨h1,fun e=>hS (e ▸ h4),h3,.inl h4⟩
theorem aI.back {S1:bn} {w1:World} (h:aI S1 w1 n [] s a w φ) (hg:g<w1.heap.size) (hS:¬S1.S g) (hX:¬S1.X g) (hT:¬TB g):aI (wK S1 g) w1 n [g] s a w φ:=by
 refine ⟨h.j8,h.ke,⟨h.da.os,h.da.tape,h.da.output,h.da.size,fun k hk hx=>h.da.block k hk fun q=>hx (.inl q),h.da.g0,?_⟩,?_,?_,h.only,h.inj,fun id b hid=>⟨⟨(h.cY id b hid).1.1,(h.cY id b hid).1.2.imp (fun q=>q) .inl⟩,(h.cY id b hid).2⟩,?_,?_⟩
 ·rintro b hb (q|q)
  ·exact h.da.gx b hb q
  ·exact hT (q ▸ hb)
 ·rw [xV hS];exact h.cC
 ·rw [xV hS];exact h.rows
 ·intro id b hid hm
  have e:b=g:=by simpa using hm
  subst e
  rcases (h.cY id b hid).1.2 with q|q
  ·omega
  ·exact hX q
 ·rintro b (q|q|q)
  ·exact .inl (h.new b (.inl q))
  ·exact .inl (h.new b (.inr q))
  ·exact .inr q
end
section
variable {P:Program} {S0:bn} {w0 w:World} {n:Nat} {s:AS} {a:Act} {Q:Exit->Act->World->Prop}
structure Aside (S0:bn) (w0:World) (g:Nat) (o:Obj):Prop where
 lt:g<w0.heap.size
 S:¬S0.S g
 X:¬S0.X g
 tb:¬TB g
 obj:w0.heap[g]?=some o
theorem Co {o:Oper} {t d:Nat} {z:Value} (ho:o.op= .alloc t) (hd:o.dst=some d) (Pj:d<n) (hz:(P.info? t).bind (·.zero)=some z) (h:ie S0 w0 n s a w) :
  o.wp P a w (fun a' w'=>∃g S1,w0.heap.size≤g∧lC S0 w0 S1 w' []∧Aside S1 w' g (.cells z.cells t (0,0))∧ie S1 w' n (lT s d (.val (.pointer (some ⟨g,0,none⟩)))) a' w') Q:=by
 obtain ⟨φ,hs⟩:=h
 have bT:(execOp a.eval o).run P w= .ok (.value (.pointer (some ⟨w.heap.size,0,none⟩))) {w with heap:=w.heap.push (.cells z.cells t (0,0))}:=by
  unfold execOp
  simp [ho,Instr.alloc,il hz,newVar,newRow]
 refine cN bT ?_
 rw [hd]
 have h1:=hs.await w.heap.size (Nat.le_refl _)
 have h2:=h1.xn (w':={w with heap:=w.heap.push (.cells z.cells t (0,0))}) (fun g hg=>by simp at hg;rw [hg];exact .inl hs.da.size) rfl rfl rfl (by simp) (fun b hb _=>cA w _ b hb)
 have h3:=h2.put Pj (v:=.pointer (some ⟨w.heap.size,0,none⟩)) (.rep (.val _))
 obtain ⟨k1,k2⟩:=h3.aside (by simp)
 refine ⟨w.heap.size,_,hs.da.size,k1,⟨by simp,fun q=>q.2 rfl,fun ⟨id,hid⟩=>h3.apart id _ hid (by simp),fun hb=>?_,df w _⟩,⟨φ,k2⟩⟩
 have:=hs.da.g0.lt hb
 have:=hs.da.size
 omega
theorem Ej {g t d:Nat} {z:Value} (hA:Aside S0 w0 g (.cells z.cells t (0,0))) (hd:d<1000000000000) (gr:look s.H d=none) (h:ie S0 w0 n s a w) (hv:a.tmps.getD d undef= .pointer (some ⟨g,0,none⟩)) :
  ie (wK S0 g) w0 n ⟨(d,.addr d 0)::cR s.F d,(d,⟨sD P t,false,true,z.cells.toList.map bC⟩)::s.H⟩ a w:=by
 obtain ⟨φ,hs⟩:=h
 have h1:=hs.back hA.lt hA.S hA.X hA.tb
 have dv:=hs.da.size
 have hg:w.heap[g]?=some (.cells z.cells t (0,0)):=(hs.da.block g hA.lt hA.X).trans hA.obj
 have h2:=h1.x_ (id:=d) (r:=⟨sD P t,false,true,z.cells.toList.map bC⟩) ⟨.inl hd,.inr (.inr rfl)⟩ (Nat.lt_of_lt_of_le hA.lt dv) (by simp) gr ⟨z.cells,t,(0,0),hg,by simp,by simp,by simp,fun j u x hu hx=>by
  simp only [List.getElem?_map] at hx
  have:z.cells.toList[j]?=some u:=by simpa using hu
  rw [this] at hx;injection hx with hx;subst hx
  exact .rep (gh u)⟩
 refine ⟨_,h2.j8,h2.ke,h2.da,fun i av hi=>?_,h2.rows,h2.only,h2.inj,h2.cY,h2.apart,h2.new⟩
 rw [aD] at hi
 by_cases e:d=i
 ·subst e
  rw [if_pos rfl] at hi;injection hi with hi;subst hi
  rw [hv]
  exact .addr d 0 _ _ _ (by
   show az ((d,(⟨sD P t,false,true,z.cells.toList.map bC⟩:Row))::s.H) _ d=_
   rw [bt (r:=⟨sD P t,false,true,z.cells.toList.map bC⟩) (by rw [aD,if_pos rfl])]
   unfold fM;rw [if_pos rfl])
 ·rw [if_neg e,bH,if_neg e] at hi
  exact h2.cC i av hi
end
def mC (Fs:List Nat) (P:Program) (n T:Nat) (ops:List Oper) (hs:List (Nat×Hint)) (R:List (List Nat)):List Nat->List Nat->List Nat->Bool->List AV->List (Nat×AV)->List (Nat×Row)->Option (List oE×List Prop)
 | [],done,last,first,old,kept,H=>(match Ai P ops hs R done Fs last first old kept H (ops.take T) 0 [] with
  | some (col,C)=>some ([⟨col,kept,H⟩],C)
  | none=>none)
 | W::rest,done,last,first,old,kept,H=>(match Ai P ops hs R done (W::rest++Fs) last first old kept H (ops.take T) 0 [],ops[W]? with
  | some (col,C),some o=>(match zx P ops n ⟨jB ops col (bl o)++kept,H⟩ o (gL hs W) with
   | some (Tr,x,H',D)=>(match mC Fs P n T ops hs R rest (done++ [W]) [W] false ((col.map Tr).set W x) (eD Tr kept) H' with
    | some (l,E)=>some (⟨col,kept,H⟩::l,C++(D++E))
    | none=>none)
   | none=>none)
  | _,_=>none)
def Em (Fs:List Nat) (P:Program) (T:Nat) (ops:List Oper) (hs:List (Nat×Hint)) (R:List (List Nat)) (rest done last:List Nat) (first:Bool) (old:List AV) (st:oE):Prop :=
 ∃C,Ai P ops hs R done (rest++Fs) last first old st.kept st.H (ops.take T) 0 []=some (st.col,C)∧bx C
theorem uM {Fs:List Nat} {P:Program} {n T:Nat} {ops:List Oper} {hs:List (Nat×Hint)} {R:List (List Nat)}:∀(rest done last:List Nat) (first:Bool) (old:List AV) (kept:List (Nat×AV)) (H:List (Nat×Row)) (l:List oE) (E:List Prop),
  mC Fs P n T ops hs R rest done last first old kept H=some (l,E)->bx E ->
  (l.getD 0 default).kept=kept∧(l.getD 0 default).H=H∧Em Fs P T ops hs R rest done last first old (l.getD 0 default) ∧
  ∀(i W:Nat),rest[i]?=some W-> ∃o Tr x D,ops[W]?=some o∧zx P ops n ⟨jB ops (l.getD i default).col (bl o)++(l.getD i default).kept,(l.getD i default).H⟩ o (gL hs W)=some (Tr,x,(l.getD (i+1) default).H,D)∧bx D ∧
   (l.getD (i+1) default).kept=eD Tr (l.getD i default).kept∧Em Fs P T ops hs R (rest.drop (i+1)) (done++rest.take (i+1)) [W] false (((l.getD i default).col.map Tr).set W x) (l.getD (i+1) default)
 | [],done,last,first,old,kept,H,l,E,he,hE=>by
  simp only [mC] at he
  split at he
  ·rename_i col C hc
   cases he
   exact ⟨rfl,rfl,⟨_,hc,hE⟩,fun i W h=>by simp at h⟩
  ·cases he
 | W::rest,done,last,first,old,kept,H,l,E,he,hE=>by
  simp only [mC] at he
  split at he
  ·rename_i col C o hc ho
   split at he
   ·rename_i Tr x H' D hw
    split at he
    ·rename_i l' E' NM
     cases he
     obtain ⟨hC,TZ⟩:=bO.1 hE
     obtain ⟨hD,TY⟩:=bO.1 TZ
     obtain ⟨h1,h2,h3,h4⟩:=uM rest _ _ _ _ _ _ _ _ NM TY
     refine ⟨rfl,rfl,⟨_,hc,hC⟩,fun i W' hi=>?_⟩
     cases i with
     | zero =>
      simp at hi;subst hi
      exact ⟨o,Tr,x,D,ho,by rw [←h2] at hw;exact hw,hD,h1,by simpa using h3⟩
     | succ i =>
      obtain ⟨o',R4,x',D',k1,k2,k3,k4,k5⟩:=h4 i W' (by simpa using hi)
      refine ⟨o',R4,x',D',k1,k2,k3,k4,?_⟩
      have e:done++(W::rest).take (i+1+1)=done++ [W]++rest.take (i+1):=by simp
      rw [e]
      exact k5
    ·cases he
   ·cases he
  ·cases he
theorem Ft {P:Program} {n:Nat} {F:List (Nat×AV)} {H H':List (Nat×Row)} {o:Oper} {h:Hint} {Tr:AV->AV} {X:AV} {C:List Prop} (eE:Ps P n ⟨F,H⟩ o h=some (Tr,X,H',C)) (v:Value):Tr (.val v)= .val v:=by
 have vw:∀l:List Nat,iF l (.val v)= .val v:=by
  intro l
  induction l with
  | nil=>rfl
  | cons x l ih=>first|exact ih|(simp only [iF];exact ih)
 unfold Ps at eE
 split at eE
 ·split at eE
  ·cases eE
   unfold Kn
   split<;>rfl
  ·cases eE
 ·split at eE
  ·cases eE;rfl
  ·cases eE
 ·split at eE
  ·split at eE
   ·cases eE
    simp only [vw]
   ·cases eE
  ·split at eE
   ·cases eE
    simp only [vw]
   ·cases eE
  ·cases eE
 ·split at eE
  ·cases eE;rfl
  ·cases eE
 ·split at eE
  ·split at eE
   ·cases eE;rfl
   ·cases eE
  ·cases eE
 ·cases eE
theorem JE {P:Program} {n:Nat} {ops:List Oper} {F:List (Nat×AV)} {H H':List (Nat×Row)} {o:Oper} {h:Hint} {Tr:AV->AV} {X:AV} {C:List Prop} (eE:zx P ops n ⟨F,H⟩ o h=some (Tr,X,H',C)) (v:Value):Tr (.val v)= .val v:=by
 unfold zx at eE
 split at eE
 ·exact Ft eE v
 ·split at eE
  ·split at eE
   ·split at eE
    ·rename_i he
     cases eE
     exact Ft he v
    ·cases eE
   ·cases eE
  ·cases eE
def jN (P:Program) (n:Nat) (o:Oper):Option (Nat×Nat×Value) :=
 match o.guard,o.op,o.dst with
 | none,.alloc t,some d=>(match (P.info? t).bind (·.zero),Nat.blt d n,Nat.blt d 1000000000000 with
  | some z,true,true=>some (d,t,z)
  | _,_,_=>none)
 | _,_,_=>none
theorem jM {P:Program} {n:Nat} {o:Oper} {d t:Nat} {z:Value} (h:jN P n o=some (d,t,z)):o.guard=none∧o.op= .alloc t∧o.dst=some d∧(P.info? t).bind (·.zero)=some z∧d<n∧d<1000000000000:=by
 unfold jN at h
 split at h
 ·rename_i t' d' hg ho hd
  split at h
  ·rename_i z' hz h1 h2
   injection h with h
   injection h with e1 e2
   injection e2 with e2 e3
   subst e1;subst e2;subst e3
   exact ⟨hg,ho,hd,hz,by simpa [Nat.blt_eq] using h1,by simpa [Nat.blt_eq] using h2⟩
  ·cases h
 ·cases h
def Gb (g:Nat):Value:=.pointer (some ⟨g,0,none⟩)
def ph (Fs:List Nat) (G:Nat->Nat) (col:List AV):List AV:=col.mapIdx fun q x=>if q∈Fs then .val (Gb (G q)) else x
theorem uq {Fs:List Nat} {G:Nat->Nat} {col:List AV} {q:Nat} (h:q∈Fs):(ph Fs G col)[q]?=col[q]?.map fun _=>.val (Gb (G q)):=by
 unfold ph
 rw [List.getElem?_mapIdx]
 cases col[q]?<;>simp [h]
theorem mH {Fs:List Nat} {G:Nat->Nat} {col:List AV} {q:Nat} (h:q ∉ Fs):(ph Fs G col)[q]?=col[q]?:=by
 unfold ph
 rw [List.getElem?_mapIdx]
 cases col[q]?<;>simp [h]
theorem D6 {ops:List Oper} {Fs:List Nat} {G:Nat->Nat} {col:List AV}:∀(l:List Nat),(∀d∈l,d ∉ Fs)->jB ops (ph Fs G col) l=jB ops col l
 | [],_=>rfl
 | d::l,h=>by
  simp only [jB,mH (h d (by simp)),D6 l fun e he=>h e (by simp [he])]
def OW (P:Program) (s:AS) (d t:Nat) (z:Value):AS:=⟨(d,.addr d 0)::cR s.F d,(d,⟨sD P t,false,true,z.cells.toList.map bC⟩)::s.H⟩
def Ao (P:Program) (n:Nat) (ops:List Oper):List Nat->AS->Option AS
 | [],s=>some s
 | f::l,s=>(match ops[f]? with
  | some o=>(match jN P n o with
   | some (d,t,z)=>(match look s.H d with
    | none=>Ao P n ops l (OW P s d t z)
    | some _=>none)
   | none=>none)
  | none=>none)
theorem Aside.next {S1:bn} {w1:World} {g g':Nat} {o:Obj} (h:Aside S1 w1 g' o) (cS:g'≠g):Aside (wK S1 g) w1 g' o :=
 ⟨h.lt,fun q=>q.elim h.S cS,fun q=>q.elim h.X cS,h.tb,h.obj⟩
theorem lC.back {S0 S1:bn} {w0 w1:World} {g:Nat} (h:lC S0 w0 S1 w1 []) (hg:w0.heap.size≤g) (hS:S0.S g):lC S0 w0 (wK S1 g) w1 [] :=
 ⟨h.kept,fun b q=>q.elim (h.sub b) fun e=>e ▸ hS,fun b q=>q.elim (h.X b) fun e=>.inl (e ▸ hg),h.fix,h.tq,List.nodup_nil,fun r hr=>by cases hr⟩
section
variable {P:Program} {n:Nat} {ops:List Oper} {S0:bn} {w0 w1 w:World} {a:Act} {G:Nat->Nat}
theorem ya (MO:∀b,w0.heap.size≤b->S0.S b):∀(Fs:List Nat) (s s':AS) (S1:bn),Fs.Nodup->Ao P n ops Fs s=some s'->lC S0 w0 S1 w1 [] ->
  (∀f∈Fs,∀o d t z,ops[f]?=some o->jN P n o=some (d,t,z)->w0.heap.size≤G f∧Aside S1 w1 (G f) (.cells z.cells t (0,0))∧a.tmps.getD d undef=Gb (G f)) ->
  (∀f∈Fs,∀f'∈Fs,f≠f'->G f≠G f')->ie S1 w1 n s a w-> ∃S2,lC S0 w0 S2 w1 []∧ie S2 w1 n s' a w
 | [],s,s',S1,_,he,hz,_,_,hs=>by cases he;exact ⟨S1,hz,hs⟩
 | f::l,s,s',S1,hn,he,hz,hA,hG,hs=>by
  simp only [Ao] at he
  split at he
  ·rename_i o ho
   split at he
   ·rename_i d t z hf
    split at he
    ·rename_i hl
     obtain ⟨h1,h2,h3⟩:=hA f (by simp) o d t z ho hf
     have hk:=Ej (P:=P) h2 (jM hf).2.2.2.2.2 hl hs h3
     rw [List.nodup_cons] at hn
     refine ya MO l _ s' (wK S1 (G f)) hn.2 he (hz.back h1 (MO _ h1)) (fun f' LG o' d' t' z' rZ Hm=>?_) (fun f1 h1 f2 h2 cS=>hG f1 (by simp [h1]) f2 (by simp [h2]) cS) hk
     obtain ⟨k1,k2,k3⟩:=hA f' (by simp [LG]) o' d' t' z' rZ Hm
     exact ⟨k1,k2.next (hG f' (by simp [LG]) f (by simp) fun e=>hn.1 (e ▸ LG)),k3⟩
    ·cases he
   ·cases he
  ·cases he
end
theorem Aside.move {S1 S2:bn} {w1 w2:World} {ms:List Nat} {g:Nat} {o:Obj} (h:Aside S1 w1 g o) (k:lC S1 w1 S2 w2 ms):Aside S2 w2 g o :=
 ⟨Nat.lt_of_lt_of_le h.lt k.kept.size,fun q=>h.S (k.sub g q),fun q=>(k.X g q).elim (fun e=>by have:=h.lt;omega) h.X,h.tb,(k.kept.block g h.lt h.X).trans h.obj⟩
def Le (ops:List Oper) (T:Nat) (Fs:List Nat) (R:List (List Nat)):Bool:=(List.range T).all fun q=> !(hit (R.getD q []) Fs) && match ops[q]? with|some o=> !(hit (bl o) Fs)|none=>true
def OV (Fs Ws:List Nat):Bool:=Fs.all fun f=> !(Ws.any (Nat.beq f))
def LW (P:Program) (n:Nat) (ops:List Oper) (Fs:List Nat):Bool:=Fs.all fun f=>match ops[f]? with|some o=>(jN P n o).isSome && (bl o).isEmpty|none=>false
def uk (P:Program) (n T:Nat) (Ws Fs:List Nat) (ops:List Oper) (hs:List (Nat×Hint)) (s:AS):Option (List oE×List Prop) :=
 match l7 ops.toArray n,Nat.ble T ops.length,wE (mX (ops.take T) []) Ws,x9 T Ws,nodupB Ws,x9 T Fs,nodupB Fs,OV Fs Ws,Le ops T Fs (mX (ops.take T) []),LW P n ops Fs with
 | true,true,true,true,true,true,true,true,true,true=>mC Fs P n T ops hs (mX (ops.take T) []) Ws [] [] true [] (oa ((ops.take T).filterMap (·.dst)) s.F) s.H
 | _,_,_,_,_,_,_,_,_,_=>none
def Bu (late:List Nat) (col:List AV):List AV:=col.mapIdx fun q x=>match late.any (Nat.beq q) with|true=>.dead|false=>x
theorem IG {late:List Nat} {col:List AV} {q:Nat}:(Bu late col)[q]?=col[q]?.map fun x=>match late.any (Nat.beq q) with|true=>.dead|false=>x:=by
 unfold Bu;rw [List.getElem?_mapIdx]
def BM (P:Program) (n T:Nat) (Ws Fs late:List Nat) (ops:List Oper) (l:List oE):Option AS:=Ao P n ops Fs ⟨jr (ops.take T) (Bu late (l.getD Ws.length default).col)++(l.getD Ws.length default).kept,(l.getD Ws.length default).H⟩
def z7 (P:Program) (n T:Nat) (Ws Fs:List Nat) (ops:List Oper) (hs:List (Nat×Hint)) (s:AS):Option (AS×List Prop) :=
 match P.follows .mixedOrders,po ops.toArray T,uk P n T Ws Fs ops hs s with
 | true,true,some (l,C)=>(match BM P n T Ws Fs [] ops l with
  | some s1=>(match kp P n ops hs (ops.drop T) T s1 with
   | some (s',D)=>some (s',C++D)
   | none=>none)
  | none=>none)
 | _,_,_=>none
structure sL (P:Program) (n:Nat) (ops:List Oper) (Fs:List Nat) (L:Nat->Bool) (G:Nat->Nat) (S0:bn) (w0:World) (S1:bn) (w1:World):Prop where
 z:lC S0 w0 S1 w1 []
 aside:∀f∈Fs,L f=true->w0.heap.size≤G f∧ ∃o d t z,ops[f]?=some o∧jN P n o=some (d,t,z)∧Aside S1 w1 (G f) (.cells z.cells t (0,0))
 inj:∀f∈Fs,∀f'∈Fs,L f=true->L f'=true->f≠f'->G f≠G f'
theorem sL.skip {P:Program} {n:Nat} {ops:List Oper} {Fs:List Nat} {L:Nat->Bool} {G:Nat->Nat} {S0 S1:bn} {w0 w1:World} (h:sL P n ops Fs L G S0 w0 S1 w1) {k:Nat} (hk:k ∉ Fs):sL P n ops Fs (fh L k) G S0 w0 S1 w1:=by
 have e:∀f∈Fs,fh L k f=L f:=fun f hf=>by
  have cS:f≠k:=fun e=>by subst e;exact hk hf
  unfold fh;rw [if_neg cS]
 exact ⟨h.z,fun f hf hL=>h.aside f hf (e f hf ▸ hL),fun f hf f' LG h1 h2=>h.inj f hf f' LG (e f hf ▸ h1) (e f' LG ▸ h2)⟩
section
variable {P:Program} {n T:Nat} {ops:List Oper} {Fs:List Nat} {L:Nat->Bool} {G:Nat->Nat} {S0 S1:bn} {w0 w1 w:World} {a:Act} {Q:Exit->Act->World->Prop} {col:List AV} {kept:List (Nat×AV)} {H:List (Nat×Row)} {k d t:Nat} {z:Value} {o:Oper}
theorem Dw (iI:(ops.filterMap (·.dst)).Nodup) (hk:k<T) (ho:ops[k]?=some o) (hf:jN P n o=some (d,t,z)) (Ff:k∈Fs) (BR:L k=false)
  (fK:∀i x,look kept i=some x-> ∀j p,j<T->ops[j]?=some p->p.dst≠some i) (hF:sL P n ops Fs L G S0 w0 S1 w1) (hs:ie S1 w1 n ⟨dY ops (ph Fs G col) L T++kept,H⟩ a w) :
  o.wp P a w (fun a' w'=>∃S2 w2 G',sL P n ops Fs (fh L k) G' S0 w0 S2 w2∧ie S2 w2 n ⟨dY ops (ph Fs G' col) (fh L k) T++kept,H⟩ a' w') Q:=by
 obtain ⟨-,p2,p3,p4,p5,p6⟩:=jM hf
 refine Oper.wp_mono ?_ (Co p2 p3 p5 p4 hs)
 rintro a' w' ⟨g,S2,h1,h2,h3,φ,h4⟩
 have cS:∀f,L f=true->f≠k:=fun f hL e=>by subst e;rw [BR] at hL;cases hL
 have ea:∀f,f≠k->fh L k f=L f:=fun f e=>by unfold fh;rw [if_neg e]
 have cW:∀f∈Fs,L f=true->G f≠g:=fun f Hm hL e=>by
  obtain ⟨-,o',d',t',z',-,-,hA⟩:=hF.aside f Hm hL
  have:=hA.lt
  omega
 refine ⟨S2,w',fun q=>if q=k then g else G q,⟨by simpa using hF.z.trans h2,fun f Hm hL=>?_,fun f Hm f' QJ hL RV e=>?_⟩,⟨φ,aI.sub h4 fun i x hx=>?_⟩⟩
 ·by_cases e:f=k
  ·subst e
   simp only [if_pos]
   exact ⟨Nat.le_trans hF.z.kept.size h1,o,d,t,z,ho,hf,h3⟩
  ·rw [ea f e] at hL
   obtain ⟨k1,o',d',t',z',k2,k3,k4⟩:=hF.aside f Hm hL
   simp only [if_neg e]
   exact ⟨k1,o',d',t',z',k2,k3,k4.move h2⟩
 ·by_cases e1:f=k
  ·have e2:f'≠k:=fun e2=>e (e1.trans e2.symm)
   rw [ea f' e2] at RV
   simp only [if_pos e1,if_neg e2]
   exact fun q=>cW f' QJ RV q.symm
  ·rw [ea f e1] at hL
   by_cases e2:f'=k
   ·simp only [if_pos e2,if_neg e1]
    exact cW f Hm hL
   ·rw [ea f' e2] at RV
    simp only [if_neg e1,if_neg e2]
    exact hF.inj f Hm f' QJ hL RV e
 ·rw [bL] at hx
  left
  show look ((d,_)::cR _ d) i=some x
  rw [aD]
  cases hl:look (dY ops (ph Fs (fun q=>if q=k then g else G q) col) (fh L k) T) i with
  | some y =>
   rw [hl] at hx
   simp at hx;subst hx
   obtain ⟨j,p,j1,j2,j3,j4,j5⟩:=kZ _ _ _ _ _ _ hl
   by_cases e:j=k
   ·subst e
    rw [ho] at j3;injection j3 with j3;subst j3
    rw [p3] at j4;injection j4 with j4
    rw [if_pos j4]
    rw [uq Ff] at j5
    cases hc:col[j]? with
    | none=>rw [hc] at j5;cases j5
    | some c =>
     rw [hc] at j5
     simp at j5
     rw [←j5];rfl
   ·have hid:d≠i:=fun q=>e (o8 (ops:=ops.toArray) (by simpa using iI) (by simpa using j3) (by simpa using ho) j4 (q ▸ p3))
    rw [if_neg hid,bH,if_neg hid,bL]
    rw [ea j e] at j2
    have hj:(ph Fs G col)[j]?=some y:=by
     by_cases hm:j∈Fs
     ·rw [uq hm] at j5 ⊢
      rw [←j5,if_neg e]
     ·rw [mH hm] at j5 ⊢
      exact j5
    rw [gI iI _ L T j i p y j1 j2 j3 j4 hj]
    rfl
  | none =>
   rw [hl] at hx
   simp at hx
   have hid:d≠i:=fun q=>fK i x hx k o hk ho (q ▸ p3)
   rw [if_neg hid,bH,if_neg hid,bL,jv fun j p hj hp=>fK i x hx j p hj hp,hx]
   rfl
end
def JF (P:Program) (n T:Nat) (Ws Fs:List Nat) (ops:List Oper) (st:Nat->oE) (S0:bn) (w0:World) (L:Nat->Bool) (a':Act) (w':World):Prop :=
 ∃i S1 w1 G,i≤Ws.length∧(∀(j W:Nat),Ws[j]?=some W->(L W=true↔j<i))∧sL P n ops Fs L G S0 w0 S1 w1∧ie S1 w1 n ⟨dY ops (ph Fs G (st i).col) L T++(st i).kept,(st i).H⟩ a' w'
section
variable {P:Program} {ops:List Oper} {S0:bn} {w0:World} {Q:Exit->Act->World->Prop}
theorem Fi {n T:Nat} {Ws Fs:List Nat} {hs:List (Nat×Hint)} {s:AS} {l:List oE} {C1:List Prop} (he:uk P n T Ws Fs ops hs s=some (l,C1)) (i3:bx C1) {a:Act} {w:World} (gw:ie S0 w0 n s a w) :
  l7 ops.toArray n=true∧(JF P n T Ws Fs ops (fun i=>l.getD i default) S0 w0 (fun k=>(Array.replicate ops.toArray.size false).getD k false) a {w with drawn:=w.drawn+1}) ∧
  (∀k o (L:Nat->Bool) a' w',k<T->ops.toArray[k]?=some o->L k=false->(∀d∈bl o,L d=true)->(∀j p,L j=true->ops.toArray[j]?=some p-> ∀d∈bl p,L d=true)->(∀j,T≤j->L j=false)->JF P n T Ws Fs ops (fun i=>l.getD i default) S0 w0 L a' w' ->
   (if Region.wanted o (yielded ops.toArray a'.tmps)=true then o.wp P a' w' (fun sJ fJ=>JF P n T Ws Fs ops (fun i=>l.getD i default) S0 w0 (fh L k) sJ fJ) Q else JF P n T Ws Fs ops (fun i=>l.getD i default) S0 w0 (fh L k) (a'.put o.dst undef) w')) ∧
  (∀(late:List Nat) (s1:AS) (L:Nat->Bool) a' w',(∀k∈late,k ∉ Ws∧k ∉ Fs)->BM P n T Ws Fs late ops l=some s1->(∀k,k<T->k ∉ late->L k=true)->JF P n T Ws Fs ops (fun i=>l.getD i default) S0 w0 L a' w'-> ∃S2 w1,lC S0 w0 S2 w1 []∧ie S2 w1 n s1 a' w'):=by
 unfold uk at he
 split at he
 case h_2=>cases he
 rename_i hB hT tI NQ Lx QB SX KI gr wN
 have dJ:=he
 obtain ⟨ue,iI,wM⟩:=gl hB
 have zk:(ops.filterMap (·.dst)).Nodup:=by simpa using iI
 have TI:T≤ops.length:=by simpa [Nat.ble_eq] using hT
 have Dn:∀(k:Nat) (o:Oper),ops[k]?=some o-> ∀d∈bl o,d<k:=fun k o h=>ue k o (by simpa using h)
 have NS:∀(k:Nat) (o:Oper) (s:Nat),ops[k]?=some o->o.dst=some s->s<n:=fun k o s h=>wM k o s (by simpa using h)
 generalize TM:mX (ops.take T) []=R at dJ tI gr
 have hR:uu ops R:=by
  rw [←TM]
  refine rN ops (ops.take T) [] (fun k o _ L _ _ j hj=>by simp at hj) (fun j o h=>?_) Dn
  simpa using bZ _ _ _ _ h
 obtain ⟨zl,Q0,MN,qI⟩:=uM _ _ _ _ _ _ _ _ _ dJ i3
 have NQ:=rn T Ws NQ
 have Lx:=gT Lx
 generalize NJ:(fun i=>l.getD i default)=st at *
 have Rs:∀i,l.getD i default=st i:=fun i=>by rw [←NJ]
 simp only [Rs] at zl Q0 MN qI
 have fK:∀i,i≤Ws.length-> ∀(k:Nat) (x:AV),look (st i).kept k=some x-> ∀(j:Nat) (p:Oper),j<T->ops[j]?=some p->p.dst≠some k:=by
  intro i
  induction i with
  | zero =>
   intro _ k x hx j p hj hp
   rw [zl] at hx
   exact (kJ ops T k).1 (gj _ _ _ _ hx).2 j p hj hp
  | succ i ih =>
   intro hi k x hx
   obtain ⟨o,Tr,X,D',-,-,-,k4,-⟩:=qI i (Ws[i]' ag) (List.getElem?_eq_getElem ag)
   rw [k4,cy] at hx
   cases hl:look (st i).kept k with
   | none=>rw [hl] at hx;cases hx
   | some y=>exact ih ag k y hl
 have xa:∀i,i≤Ws.length-> ∃last first old,Em Fs P T ops hs R (Ws.drop i) (Ws.take i) last first old (st i):=by
  intro i hi
  cases i with
  | zero=>exact ⟨_,_,_,by simpa using MN⟩
  | succ i =>
   obtain ⟨o,Tr,X,D',-,-,-,-,k5⟩:=qI i (Ws[i]' ag) (List.getElem?_eq_getElem ag)
   exact ⟨_,_,_,by simpa using k5⟩
 have Of:∀f∈Fs,f ∉ Ws:=fun f hf hw=>by
  have:=List.all_eq_true.1 KI f hf
  rw [any_beq.2 hw] at this;cases this
 have vJ:∀q,q<T-> ∀f∈Fs,f ∉ R.getD q []:=fun q hq f hf hr=>by
  have:=List.all_eq_true.1 gr q (List.mem_range.2 hq)
  rw [oU.2 ⟨f,hr,hf⟩] at this;simp at this
 have MM:∀q o,q<T->ops[q]?=some o-> ∀f∈bl o,f ∉ Fs:=fun q o hq ho f hr hf=>by
  have:=List.all_eq_true.1 gr q (List.mem_range.2 hq)
  rw [ho] at this
  simp only [oU.2 ⟨f,hr,hf⟩] at this
  simp at this
 have To:∀f∈Fs,∃o d t z,ops[f]?=some o∧jN P n o=some (d,t,z):=fun f hf=>by
  have:=List.all_eq_true.1 wN f hf
  cases ho:ops[f]? with
  | none=>rw [ho] at this;cases this
  | some o =>
   rw [ho] at this
   cases Jj:jN P n o with
   | none=>simp [Jj] at this
   | some x=>exact ⟨o,x.1,x.2.1,x.2.2,rfl,Jj⟩
 have QB:=rn T Fs QB
 have SX:=gT SX
 obtain ⟨φ,km⟩:=gw
 refine ⟨hB,?_,?_,?_⟩
 ·refine ⟨0,S0,w0,fun _=>0,ag,fun j W _=>by show (Array.replicate ops.toArray.size false).getD W false=true↔_;rw [getD_replicate_false];simp,⟨lC.refl km.da,fun f _ hL=>?_,fun f _ f' _ hL=>?_⟩,φ,?_⟩
  ·change (Array.replicate ops.toArray.size false).getD f false=true at hL
   rw [getD_replicate_false] at hL;cases hL
  ·change (Array.replicate ops.toArray.size false).getD f false=true at hL
   rw [getD_replicate_false] at hL;cases hL
  rw [nQ _ _ _ (fun k=>getD_replicate_false _ _)]
  have hg:aI S0 w0 n [] s a w.drew φ:=km.grow ((Below.refl _ _).drew)
  rw [Q0,zl]
  exact aI.sub (F:=s.F) hg fun i x hx=>.inl (gj _ _ _ _ (by simpa using hx)).1
 ·intro k o L a' w' hk ho BR js zn ua ⟨i,S1,w1,G,hi,hW,Ol,gw⟩
  have rZ:ops[k]?=some o:=by simpa using ho
  have fi:∀(j:Nat) (p:Oper),L j=true->ops[j]?=some p-> ∀d∈bl p,L d=true:=fun j p hj hp=>zn j p hj (by simpa using hp)
  have pT:∀j∈R.getD k [],L j=true:=hR k o rZ L fi js
  have qK:∀q,L q=true-> ∀j∈R.getD q [],L j=true:=fun q hq j hj=>by
   cases I8:ops[q]? with
   | some p=>exact hR q p I8 L fi (fun d hd=>fi q p hq I8 d hd) j hj
   | none =>
    exfalso
    have h1:ops.length≤q:=List.getElem?_eq_none_iff.1 I8
    have:=ua q ag
    rw [hq] at this;cases this
  have QP:∀d∈bl o,L d=true∧d<T:=fun d hd=>⟨js d hd,by have:=Dn k o rZ d hd;omega⟩
  have vD:∀i',i≤i'-> ∀q,q<T->(∀j∈R.getD q [],L j=true)->hit (R.getD q []) (Ws.drop i'++Fs)=false:=by
   intro i' jx q VT hq
   cases hh:hit (R.getD q []) (Ws.drop i'++Fs) with
   | false=>rfl
   | true =>
    exfalso
    obtain ⟨x,h1,h2⟩:=oU.1 hh
    rcases List.mem_append.1 h2 with h2|h2
    case inr=>exact vJ q VT x h2 h1
    obtain ⟨j,hj⟩:=List.mem_iff_getElem?.1 h2
    rw [List.getElem?_drop] at hj
    have:=(hW _ x hj).1 (hq x h1)
    omega
  have hlen:∀i,i≤Ws.length->(st i).col.length=T:=fun i hi=>by
   obtain ⟨last,first,old,Cd,xR,LS⟩:=xa i hi
   obtain ⟨d1,-,-⟩:=jO _ 0 [] _ _ xR LS rfl
   rw [d1,List.length_take];omega
  by_cases Ff:k∈Fs
  ·obtain ⟨o',d,t,z,f1,f2⟩:=To k Ff
   rw [rZ] at f1;cases f1
   have kj:Region.wanted o (yielded ops.toArray a'.tmps)=true:=by unfold Region.wanted;rw [(jM f2).1]
   rw [if_pos kj]
   refine Oper.wp_mono ?_ (Dw zk hk rZ f2 Ff BR (fK i hi) Ol gw)
   rintro sJ fJ ⟨S2,w2,G',g1,g2⟩
   refine ⟨i,S2,w2,G',hi,fun j2 W2 h2=>?_,g1,g2⟩
   have e:W2≠k:=fun e=>by subst e;exact Of _ Ff (List.mem_of_getElem? h2)
   unfold fh;rw [if_neg e];exact hW j2 W2 h2
  by_cases LB:k∈Ws
  ·obtain ⟨j,hj⟩:=List.mem_iff_getElem?.1 LB
   have NR:j<Ws.length:=(List.getElem?_eq_some_iff.1 hj).1
   have MI:¬j<i:=fun h=>by have:=(hW j k hj).2 h;rw [BR] at this;cases this
   have e:j=i:=by
    rcases Nat.lt_or_ge i j with h|h
    ·obtain ⟨j',rfl⟩:∃j',j=j'+1:=⟨j-1,ag⟩
     have Lr:Ws[j']?=some (Ws[j']' ag):=List.getElem?_eq_getElem ag
     have h1:=pT _ (sy R Ws tI j' _ k Lr hj)
     have:=(hW j' _ Lr).1 h1
     omega
    ·omega
   subst e
   obtain ⟨o',Tr,x,D',k1,k2,k3,k4,Cc,k5,k6⟩:=qI j k hj
   rw [rZ] at k1;cases k1
   simp only [List.nil_append] at k5
   obtain ⟨c1,c2,c3⟩:=jO _ 0 [] _ _ k5 k6 rfl
   simp only [Nat.zero_add] at c1 c3
   have TJ:(ops.take T).length=T:=by rw [List.length_take];omega
   have Pc:k ∉ Ws.drop (j+1):=fun hm=>by
    obtain ⟨j2,Cv⟩:=List.mem_iff_getElem?.1 hm
    rw [List.getElem?_drop] at Cv
    have:=mo Lx hj Cv
    omega
   have Tc:k∈Ws.take (j+1):=List.mem_iff_getElem?.2 ⟨j,by rw [List.getElem?_take,if_pos ag];exact hj⟩
   have hold:((((st j).col.map Tr).set k x).getD k .dead)=x:=by
    obtain ⟨last,first,old,Cd,xR,LS⟩:=xa j hi
    obtain ⟨d1,-,-⟩:=jO _ 0 [] _ _ xR LS rfl
    rw [Nat.zero_add,TJ] at d1
    rw [List.getD_eq_getElem?_getD,List.getElem?_set_self (by rw [List.length_map];omega)];rfl
   have jg:=xo (P:=P) (S0:=S1) (w0:=w1) (Q:=Q) (n:=n) (T:=T) (col:=ph Fs G (st j).col) (col':=ph Fs G (st (j+1)).col) (L:=L) (a:=a') (w:=w') zk hk rZ QP (fK j hi) (by rw [D6 _ (MM k o hk rZ)];exact k2) k3 (by
    intro q z hq Qn TT hz
    by_cases UM:q∈Fs
    ·left
     rw [uq UM] at hz ⊢
     rw [List.getElem?_eq_getElem (by rw [hlen j hi];exact hq)]
     cases hc:(st (j+1)).col[q]? with
     | none=>rw [hc] at hz;cases hz
     | some c =>
      rw [hc] at hz
      simp only [Option.map_some] at hz ⊢
      rw [JE k2];exact hz
    rw [mH UM] at hz ⊢
    have I8:(ops.take T)[q]?=some (ops[q]' ag):=by rw [List.getElem?_take,if_pos hq];exact List.getElem?_eq_getElem ag
    obtain ⟨x',D2,e1,e2,e3⟩:=c3 q _ I8
    rw [e1] at hz;injection hz with hz;subst hz
    unfold rh at e3
    split at e3
    ·split at e3
     ·split at e3
      ·rename_i xx CC eE
       split at e3
       ·cases e3
        exact kB Qn e2.1
       ·rename_i gr
        exfalso
        cases hh:hit (R.getD q []) [k] with
        | false=>exact gr rfl hh
        | true =>
         obtain ⟨y,h1,h2⟩:=oU.1 hh
         have:y=k:=by simpa using h2
         subst this
         have:=qK q TT y h1
         rw [BR] at this;cases this
      ·cases e3
     ·cases e3
      exact kB Qn rfl
    ·cases e3
     exact .inr rfl) (by
    have Fa:(ops.take T)[k]?=some o:=by rw [List.getElem?_take,if_pos hk];exact rZ
    obtain ⟨x',D2,e1,e2,e3⟩:=c3 k _ Fa
    rw [mH Ff,e1]
    unfold rh at e3
    have r1:(Ws.drop (j+1)++Fs).any (Nat.beq k)=false:=by
     cases hh:(Ws.drop (j+1)++Fs).any (Nat.beq k) with
     | false=>rfl
     | true=>exact (List.mem_append.1 (any_beq.1 hh)).elim (fun q=>absurd q Pc) (fun q=>absurd q Ff)
    have r2:=vD (j+1) ag k hk pT
    have r3:(Ws.take (j+1)).any (Nat.beq k)=true:=any_beq.2 Tc
    rw [r1,r2,r3] at e3
    simp only at e3
    injection e3 with e3;injection e3 with e3 _
    rw [←e3,hold]) gw
   have fin:∀sJ fJ,ie S1 w1 n ⟨dY ops (ph Fs G (st (j+1)).col) (fh L k) T++eD Tr (st j).kept,(st (j+1)).H⟩ sJ fJ->JF P n T Ws Fs ops st S0 w0 (fh L k) sJ fJ:=by
    intro sJ fJ h
    refine ⟨j+1,S1,w1,G,ag,fun j2 W2 h2=>?_,Ol.skip Ff,by rw [k4];exact h⟩
    by_cases e:W2=k
    ·subst e
     have:=mo Lx hj h2
     unfold fh;rw [if_pos rfl];simp;omega
    ·unfold fh;rw [if_neg e,hW j2 W2 h2]
     have:j2≠j:=fun e2=>by subst e2;rw [hj] at h2;cases h2;exact e rfl
     omega
   split
   ·rename_i hw
    rw [if_pos hw] at jg
    exact Oper.wp_mono fin jg
   ·rename_i hw
    rw [if_neg hw] at jg
    exact fin _ _ jg
  ·obtain ⟨last,first,old,Cc,k5,k6⟩:=xa i hi
   obtain ⟨c1,c2,c3⟩:=jO _ 0 [] _ _ k5 k6 rfl
   simp only [Nat.zero_add] at c1 c3
   have Fa:(ops.take T)[k]?=some o:=by rw [List.getElem?_take,if_pos hk];exact rZ
   obtain ⟨x',D2,e1,e2,e3⟩:=c3 k _ Fa
   unfold rh at e3
   have r1:(Ws.drop i++Fs).any (Nat.beq k)=false:=by
    cases hh:(Ws.drop i++Fs).any (Nat.beq k) with
    | false=>rfl
    | true=>exact (List.mem_append.1 (any_beq.1 hh)).elim (fun q=>absurd (List.mem_of_mem_drop q) LB) (fun q=>absurd q Ff)
   have r2:=vD i (Nat.le_refl _) k hk pT
   have r3:(Ws.take i).any (Nat.beq k)=false:=by
    cases hh:(Ws.take i).any (Nat.beq k) with
    | false=>rfl
    | true=>exact absurd (List.mem_of_mem_take (any_beq.1 hh)) LB
   have r4:(Ws.take i).any (fun W=>(R.getD W []).any (Nat.beq k))=false:=by
    cases hh:(Ws.take i).any (fun W=>(R.getD W []).any (Nat.beq k)) with
    | false=>rfl
    | true =>
     exfalso
     obtain ⟨W,h1,h2⟩:=List.any_eq_true.1 hh
     obtain ⟨j,hj⟩:=List.mem_iff_getElem?.1 h1
     rw [List.getElem?_take] at hj
     split at hj
     ·rename_i MI
      have:=qK W ((hW j W hj).2 MI) k (any_beq.1 h2)
      rw [BR] at this;cases this
     ·cases hj
   rw [r1,r2,r3,r4] at e3
   simp only at e3
   have eE:∃C',tN P ops ⟨jB ops ((st i).col.take k) (bl o)++(st i).kept,(st i).H⟩ o (gL hs k)=some (x',C')∧bx C':=by
    split at e3
    ·rename_i xx CC eE
     split at e3
     ·cases e3;exact ⟨_,eE,e2.2⟩
     ·cases e3;exact ⟨_,eE,e2⟩
    ·cases e3
   obtain ⟨C',eE,Q3⟩:=eE
   rw [sx ops _ k _ (Dn k o rZ)] at eE
   have jg:=uL (P:=P) (S0:=S1) (w0:=w1) (Q:=Q) (n:=n) (T:=T) (L:=L) (a:=a') (w:=w') (col:=ph Fs G (st i).col) zk NS hk rZ QP (fK i hi) (by rw [D6 _ (MM k o hk rZ)];exact eE) Q3 (by rw [mH Ff];exact e1) gw
   have fin:∀sJ fJ,ie S1 w1 n ⟨dY ops (ph Fs G (st i).col) (fh L k) T++(st i).kept,(st i).H⟩ sJ fJ->JF P n T Ws Fs ops st S0 w0 (fh L k) sJ fJ:=by
    intro sJ fJ h
    refine ⟨i,S1,w1,G,hi,fun j2 W2 h2=>?_,Ol.skip Ff,h⟩
    have e:W2≠k:=fun e=>by subst e;exact LB (List.mem_of_getElem? h2)
    unfold fh;rw [if_neg e];exact hW j2 W2 h2
   split
   ·rename_i hw
    rw [if_pos hw] at jg
    exact Oper.wp_mono fin jg
   ·rename_i hw
    rw [if_neg hw] at jg
    exact fin _ _ jg
 ·intro late s1 L a' w' MH Dp gD ⟨i,S1,w1,G,hi,hW,Ol,gw⟩
  unfold BM at Dp
  rw [Rs] at Dp
  have Fj:∀f∈Fs,L f=true:=fun f hf=>gD f (QB f hf) fun q=>(MH f q).2 hf
  have e:i=Ws.length:=by
   rcases Nat.lt_or_ge i Ws.length with h|h
   ·have Lr:Ws[i]?=some (Ws[i]'h):=List.getElem?_eq_getElem h
    have:=(hW i _ Lr).1 (gD _ (NQ _ (List.getElem_mem h)) fun q=>(MH _ q).1 (List.getElem_mem h))
    omega
   ·omega
  subst e
  have hlen:(st Ws.length).col.length=T:=by
   obtain ⟨last,first,old,Cd,xR,LS⟩:=xa Ws.length hi
   obtain ⟨d1,-,-⟩:=jO _ 0 [] _ _ xR LS rfl
   rw [d1,List.length_take];omega
  have SL:∀f∈Fs,∀o d t z,ops[f]?=some o->jN P n o=some (d,t,z)->a'.tmps.getD d undef=Gb (G f):=fun f hf o d t z ho Jj=>by
   obtain ⟨b_,bY⟩:=gw
   have l3:look (dY ops (ph Fs G (st Ws.length).col) L T++(st Ws.length).kept) d=some (.val (Gb (G f))):=by
    rw [bL,gI zk _ L T f d o (.val (Gb (G f))) (QB f hf) (Fj f hf) ho (jM Jj).2.2.1 (by rw [uq hf,List.getElem?_eq_getElem (by rw [hlen];exact QB f hf)];rfl)]
    rfl
   exact bF (bY.cC d _ l3)
  have mw:∀b,w0.heap.size≤b->S0.S b:=fun b hb=>km.new b (.inl hb)
  have De:ie S1 w1 n ⟨jr (ops.take T) (Bu late (st Ws.length).col)++(st Ws.length).kept,(st Ws.length).H⟩ a' w':=by
   obtain ⟨b_,bY⟩:=gw
   refine ⟨b_,aI.sub bY fun i x hx=>?_⟩
   rw [bL] at hx ⊢
   cases hh:look (jr (ops.take T) (Bu late (st Ws.length).col)) i with
   | some y =>
    rw [hh] at hx
    simp at hx;subst hx
    obtain ⟨k,o,h1,h2,h3⟩:=k8 _ _ _ _ hh
    have w7:k<T:=by have:=(List.getElem?_eq_some_iff.1 h1).1;rw [List.length_take] at this;omega
    rw [IG] at h3
    cases hc:(st Ws.length).col[k]? with
    | none=>rw [hc] at h3;cases h3
    | some z =>
     rw [hc] at h3
     simp only [Option.map_some,Option.some.injEq] at h3
     by_cases iY:late.any (Nat.beq k)=true
     ·rw [iY] at h3
      exact .inr h3.symm
     simp only [Bool.not_eq_true] at iY
     rw [iY] at h3
     subst h3
     by_cases Ff:k∈Fs
     ·right
      obtain ⟨last,first,old,Cd,xR,LS⟩:=xa Ws.length hi
      obtain ⟨-,-,c3⟩:=jO _ 0 [] _ _ xR LS rfl
      obtain ⟨x',D2,e1,e2,e3⟩:=c3 k o h1
      simp only [Nat.zero_add] at e1 e3
      unfold rh at e3
      rw [any_beq.2 (List.mem_append.2 (.inr Ff))] at e3
      simp only at e3
      rw [hc] at e1;injection e1 with e1
      injection e3 with e3;injection e3 with e3 _
      rw [e1,←e3]
     ·left
      rw [gI zk _ L T k i o z w7 (gD k w7 fun q=>by rw [any_beq.2 q] at iY;cases iY) (bZ _ _ _ _ h1) h2 (by rw [mH Ff];exact hc)];rfl
   | none =>
    rw [hh] at hx
    simp at hx
    left
    rw [jv fun j p hj hp=>fK _ (Nat.le_refl _) i x hx j p hj hp]
    simpa using hx
  obtain ⟨S2,IW,nv⟩:=ya (P:=P) (n:=n) (ops:=ops) (S0:=S0) (w0:=w0) (w1:=w1) (w:=w') (a:=a') (G:=G) mw Fs _ s1 S1 SX Dp Ol.z (fun f hf o d t z ho Jj=>by
   obtain ⟨k1,o',d',t',z',k2,k3,k4⟩:=Ol.aside f hf (Fj f hf)
   rw [ho] at k2;cases k2
   rw [Jj] at k3;cases k3
   exact ⟨k1,k4,SL f hf o d t z ho Jj⟩) (fun f hf f' LG cS=>Ol.inj f hf f' LG (Fj f hf) (Fj f' LG) cS) De
  exact ⟨S2,w1,IW,nv⟩
theorem DM {n T:Nat} {Ws Fs:List Nat} {hs:List (Nat×Hint)} {s s':AS} {C:List Prop} (he:z7 P n T Ws Fs ops hs s=some (s',C)) (hC:bx C) {a:Act} {w:World} (gw:ie S0 w0 n s a w) (hQ:∀a' w',nA S0 w0 n s' a' w'->Q .normal a' w'):P.follows .mixedOrders=true∧wpAny P .any ops.toArray Q ops.toArray.size (Array.replicate ops.toArray.size false) a {w with drawn:=w.drawn+1}:=by
 unfold z7 at he
 split at he
 case h_2=>cases he
 rename_i l C1 hm hT hh
 split at he
 case h_2=>cases he
 rename_i s1 Dp
 split at he
 case h_2=>cases he
 rename_i s2 D pB
 cases he
 obtain ⟨i3,hD⟩:=bO.1 hC
 obtain ⟨hB,h1,h2,h3⟩:=Fi (Q:=Q) hh i3 gw
 unfold po at hT
 simp only [Bool.and_eq_true,decide_eq_true_eq] at hT
 obtain ⟨⟨⟨Hq,LQ⟩,LP⟩,LO⟩:=hT
 refine ⟨hm,nK (n:=n) Hq LQ LP LO hB (JF P n T Ws Fs ops (fun i=>l.getD i default) S0 w0) (fun k o L a' w' hk ho BR hd hc ua hJ=>h2 k o L a' w' hk ho BR hd hc ua hJ) ?_ ops.toArray.size _ a _ ⟨by simp,fun k o hk=>?_⟩ h1 (fun j _=>by rw [getD_replicate_false]) (by simp)⟩
 ·intro L a' w' gD ua hJ
  obtain ⟨S2,w1,IW,nv⟩:=h3 [] s1 L a' w' (fun k hk=>by cases hk) Dp (fun k hk _=>gD k hk) hJ
  have kA:=j0 (S0:=S2) (w0:=w1) (Q:=Q) _ _ _ _ _ pB hD a' w' nv fun a2 w2 h2=>hQ a2 w2 (nA.after IW h2.one)
  simpa using kA
 ·rw [getD_replicate_false] at hk;cases hk
def OS (M q:Nat) (Ws Fs:List Nat) (o:Oper):Bool:=Nat.blt q M && !(Ws.any (Nat.beq q)) && !(Fs.any (Nat.beq q)) && (List.range M).all fun k=>Nat.beq k q || (bl o).any (Nat.beq k)
theorem Eh {M q:Nat} {Ws Fs:List Nat} {o:Oper} (h:OS M q Ws Fs o=true):q<M∧q ∉ Ws∧q ∉ Fs∧ ∀k,k<M->k≠q->k∈bl o:=by
 unfold OS at h
 simp only [Bool.and_eq_true] at h
 obtain ⟨⟨⟨h1,h2⟩,h3⟩,h4⟩:=h
 refine ⟨by simpa [Nat.blt_eq] using h1,fun q=>(by rw [any_beq.2 q] at h2;cases h2),fun q=>(by rw [any_beq.2 q] at h3;cases h3),fun k hk cS=>?_⟩
 have:=List.all_eq_true.1 h4 k (List.mem_range.2 hk)
 rw [Bool.or_eq_true] at this
 exact this.elim (fun e=>absurd (Nat.eq_of_beq_eq_true e) cS) any_beq.1
def vT (s:AS) (d:Nat):AS:=match look s.F d with|some x=>⟨(d,x)::cR s.F d,s.H⟩|none=>s
theorem GC {S0:bn} {w0 w:World} {n:Nat} {s:AS} {d:Nat} {a:Act} (h:ie S0 w0 n s a w):ie S0 w0 n (vT s d) a w:=by
 unfold vT
 split
 ·rename_i x hx
  obtain ⟨φ,h⟩:=h
  refine ⟨φ,aI.sub (F:=s.F) h fun i y hy=>.inl ?_⟩
  rw [aD] at hy
  split at hy
  ·rename_i e;subst e;cases hy;exact hx
  ·rename_i e;rw [bH,if_neg e] at hy;exact hy
 ·exact h
def z6 (P:Program) (n M q:Nat) (Ws Fs:List Nat) (ops:List Oper) (hs:List (Nat×Hint)) (s:AS):Option (AS×AS×AS×List Prop) :=
 match P.follows .mixedOrders,po ops.toArray (M+1),uk P n M Ws Fs ops hs s,ops[M]?,ops[q]? with
 | true,true,some (l,C),some o,some p=>(match OS M q Ws Fs o,o.guard,p.guard,p.dst,BM P n M Ws Fs [] ops l,BM P n M Ws Fs [q] ops l with
  | true,none,none,some d,some sa,some sb=>(match B9 P n sa o (gL hs M),B9 P n sb o (gL hs M) with
   | some (sA,D1),some (sB,D2)=>(match B9 P n sB p (gL hs q) with
    | some (sC,D3)=>(match kp P n ops hs (ops.drop (M+1)) (M+1) sC with
     | some (s',D4)=>some (s',vT sA d,sC,C++(D1++(D2++(D3++D4))))
     | none=>none)
    | none=>none)
   | _,_=>none)
  | _,_,_,_,_,_=>none)
 | _,_,_,_,_=>none
theorem DL {n M q:Nat} {Ws Fs:List Nat} {hs:List (Nat×Hint)} {s s' x:AS} {C:List Prop} (he:z6 P n M q Ws Fs ops hs s=some (s',x,x,C)) (hC:bx C) {a:Act} {w:World} (gw:ie S0 w0 n s a w) (hQ:∀a' w',nA S0 w0 n s' a' w'->Q .normal a' w'):P.follows .mixedOrders=true∧wpAny P .any ops.toArray Q ops.toArray.size (Array.replicate ops.toArray.size false) a {w with drawn:=w.drawn+1}:=by
 unfold z6 at he
 split at he
 case h_2=>cases he
 rename_i l C1 o p hm hT hh ho hp
 split at he
 case h_2=>cases he
 rename_i d sa sb TF VZ VW Xy VQ VP
 split at he
 case h_2=>cases he
 rename_i sA D1 sB D2 hA WQ
 split at he
 case h_2=>cases he
 rename_i sC D3 WO
 split at he
 case h_2=>cases he
 rename_i s2 D4 pB
 have he:=Option.some.inj he
 have e1:s2=s':=congrArg (·.1) he
 have e2:vT sA d=x:=congrArg (·.2.1) he
 have e3:sC=x:=congrArg (·.2.2.1) he
 have e4:C1++(D1++(D2++(D3++D4)))=C:=congrArg (·.2.2.2) he
 subst e1
 have e5:vT sA d=sC:=e2.trans e3.symm
 rw [←e4] at hC
 obtain ⟨i3,hC⟩:=bO.1 hC
 obtain ⟨WM,hC⟩:=bO.1 hC
 obtain ⟨WL,hC⟩:=bO.1 hC
 obtain ⟨WK,WJ⟩:=bO.1 hC
 obtain ⟨b1,b2,b3,b4⟩:=Eh TF
 obtain ⟨hB,h1,h2,h3⟩:=Fi (Q:=Q) hh i3 gw
 unfold po at hT
 simp only [Bool.and_eq_true,decide_eq_true_eq] at hT
 obtain ⟨⟨⟨Hq,LQ⟩,LP⟩,LO⟩:=hT
 let J:(Nat->Bool)->Act->World->Prop:=fun L a' w'=>(L M=false∧JF P n M Ws Fs ops (fun i=>l.getD i default) S0 w0 L a' w')∨(L M=true∧ ∃S2 w2,lC S0 w0 S2 w2 []∧((L q=true∧ie S2 w2 n sC a' w')∨(L q=false∧ie S2 w2 n sB a' w')))
 have kj:∀(o:Oper) (a':Act),o.guard=none->Region.wanted o (yielded ops.toArray a'.tmps)=true:=fun o a' hg=>by unfold Region.wanted;rw [hg]
 refine ⟨hm,nK (n:=n) Hq LQ LP LO hB J ?_ ?_ ops.toArray.size _ a _ ⟨by simp,fun k o hk=>?_⟩ (.inl ⟨getD_replicate_false _ _,h1⟩) (fun j _=>by rw [getD_replicate_false]) (by simp)⟩
 ·intro k o1 L a' w' hk RI BR hd hc ua hJ
  have Fb:ops[k]?=some o1:=by simpa using RI
  have cS:q≠M:=ag
  by_cases ek:k=M
  ·subst ek
   rw [ho] at Fb;cases Fb
   rw [if_pos (kj o a' VZ)]
   have Va:=hJ.resolve_right fun h=>by rw [BR] at h;cases h.1
   have gD:∀j,j<k->j≠q->L j=true:=fun j hj Tf=>hd j (b4 j hj Tf)
   have pk:fh L k k=true:=by unfold fh;rw [if_pos rfl]
   have pq:fh L k q=L q:=by unfold fh;rw [if_neg cS]
   cases hq:L q with
   | true =>
    obtain ⟨S2,w1,IW,nv⟩:=h3 [] sa L a' w' (fun k hk=>by cases hk) VQ (fun j hj _=>by
     by_cases e:j=q
     ·rw [e];exact hq
     ·exact gD j hj e) Va.2
    exact Oper.wp_mono (fun sJ fJ h=>.inr ⟨pk,S2,w1,IW,.inl ⟨by rw [pq];exact hq,by rw [←e5];exact GC h⟩⟩) (oX hA WM S2 w1 a' w' Q nv)
   | false =>
    obtain ⟨S2,w1,IW,nv⟩:=h3 [q] sb L a' w' (fun k hk=>by obtain rfl:=List.mem_singleton.1 hk;exact ⟨b2,b3⟩) VP (fun j hj Tf=>gD j hj fun e=>Tf (by simp [e])) Va.2
    exact Oper.wp_mono (fun sJ fJ h=>.inr ⟨pk,S2,w1,IW,.inr ⟨by rw [pq];exact hq,h⟩⟩) (oX WQ WL S2 w1 a' w' Q nv)
  ·have UX:k<M:=ag
   have pM:fh L k M=L M:=by unfold fh;rw [if_neg fun e=>ek e.symm]
   rcases hJ with ⟨hM,hJ⟩|⟨hM,S2,w2,hz,hJ⟩
   ·have:=h2 k o1 L a' w' UX RI BR hd hc (fun j hj=>by
     by_cases e:j=M
     ·rw [e];exact hM
     ·exact ua j ag) hJ
    split
    ·rename_i hw
     rw [if_pos hw] at this
     exact Oper.wp_mono (fun sJ fJ h=>.inl ⟨by rw [pM];exact hM,h⟩) this
    ·rename_i hw
     rw [if_neg hw] at this
     exact .inl ⟨by rw [pM];exact hM,this⟩
   ·have W5:k=q:=Classical.byContradiction fun e=>by
     have:=hc M o hM (by simpa using ho) k (b4 k UX e)
     rw [BR] at this;cases this
    subst W5
    rw [hp] at Fb;cases Fb
    rw [if_pos (kj p a' VW)]
    have hs:=(hJ.resolve_left fun h=>by rw [BR] at h;cases h.1).2
    exact Oper.wp_mono (fun sJ fJ h=>.inr ⟨by rw [pM];exact hM,S2,w2,hz,.inl ⟨by unfold fh;rw [if_pos rfl],h⟩⟩) (oX WO WK S2 w2 a' w' Q hs)
 ·intro L a' w' gD ua hJ
  have hM:=gD M ag
  have hq:=gD q ag
  obtain ⟨-,S2,w2,hz,hJ⟩:=hJ.resolve_left fun h=>by rw [hM] at h;cases h.1
  have hs:=(hJ.resolve_right fun h=>by rw [hq] at h;cases h.1).2
  have kA:=j0 (S0:=S2) (w0:=w2) (Q:=Q) _ _ _ _ _ pB WJ a' w' hs fun a2 w2 h2=>hQ a2 w2 (nA.after hz h2.one)
  simpa using kA
 ·rw [getD_replicate_false] at hk;cases hk
end
def zC (P:Program) (n T:Nat) (Ws Fs:List Nat) (hs:List (Nat×Hint)) (c:Code) (s:AS):Option (AS×List Prop) :=
 match c with
 | .region _ ⟨l⟩ true=>z7 P n T Ws Fs l hs s
 | _=>none
theorem bg.Se {P:Program} {n:Nat} {c:Code} {Q:Exit->AS->Prop} {s s':AS} {C:List Prop} (T:Nat) (Ws Fs:List Nat) (hs:List (Nat×Hint)) (he:zC P n T Ws Fs hs c s=some (s',C)) (hC:bx C) (h:Q .normal s'):bg P n c Q s:=by
 intro S0 w0 a w gw
 unfold zC at he
 split at he
 ·exact DM (S0:=S0) (w0:=w0) he hC gw fun a' w' bY=>⟨s',h,bY⟩
 ·cases he
def nh (P:Program) (n M q:Nat) (Ws Fs:List Nat) (hs:List (Nat×Hint)) (c:Code) (s:AS):Option (AS×AS×AS×List Prop) :=
 match c with
 | .region _ ⟨l⟩ true=>z6 P n M q Ws Fs l hs s
 | _=>none
def Nl (r:Option (AS×AS×AS×List Prop)):Option (AS×List Prop):=match r with|some (s',_,_,C)=>some (s',C)|none=>none
def Ms (r:Option (AS×AS×AS×List Prop)):AS:=match r with|some (_,x,_,_)=>x|none=>⟨[],[]⟩
def Mr (r:Option (AS×AS×AS×List Prop)):AS:=match r with|some (_,_,y,_)=>y|none=>⟨[],[]⟩
theorem bg.Sd {P:Program} {n:Nat} {c:Code} {Q:Exit->AS->Prop} {s s':AS} {C:List Prop} (M q:Nat) (Ws Fs:List Nat) (hs:List (Nat×Hint)) (hx:Ms (nh P n M q Ws Fs hs c s)=Mr (nh P n M q Ws Fs hs c s)) (he:Nl (nh P n M q Ws Fs hs c s)=some (s',C)) (hC:bx C) (h:Q .normal s'):bg P n c Q s:=by
 intro S0 w0 a w gw
 generalize hr:nh P n M q Ws Fs hs c s=r at he hx
 match r,he,hx with
 | some (_,x,y,_),he,hx =>
  have he:some (_,_)=some (s',C):=he
  injection he with he
  injection he with e1 e2
  have hx:x=y:=hx
  subst e1 e2 hx
  unfold nh at hr
  split at hr
  ·exact DL (S0:=S0) (w0:=w0) hr hC gw fun a' w' bY=>⟨_,h,bY⟩
  ·cases hr
end Go.Proofs.YtjgbhhnghedgdaaGreatDoor
