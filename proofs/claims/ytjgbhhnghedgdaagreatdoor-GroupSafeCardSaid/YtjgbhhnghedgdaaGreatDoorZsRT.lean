import Derived.Test.YtjgbhhnghedgdaaGreatDoorZsRS
import Derived.Test.YtjgbhhnghedgdaaGreatDoorZsRI
set_option linter.all false
namespace Go.Proofs.YtjgbhhnghedgdaaGreatDoor
open Go.RowKit
section
variable {S0:bf} {w0 w:World} {n:Nat} {s:AS} {a:Act} {φ:Nat->Option Nat} {g:Nat}
def x9 (S0:bf) (φ:Nat->Option Nat) (g:Nat):bf:=⟨fun b=>S0.S b∧b≠g,fun b=>∃id,φ id=some b,S0.fix,S0.rV⟩
theorem uz:aJ (x9 S0 φ g) w φ []=aJ S0 w φ [g]:=by
 funext b
 apply propext
 unfold aJ x9
 simp only [List.not_mem_nil,not_false_eq_true,true_and,List.mem_singleton]
 exact ⟨fun ⟨h1,h2,h3,h4⟩=>⟨h1,h4,h2,h3⟩,fun ⟨h1,h2,h3,h4⟩=>⟨h1,h3,h4,h2⟩⟩
theorem aH.aside (h:aH S0 w0 n [g] s a w φ) (hg:g<w.heap.size):kS S0 w0 (x9 S0 φ g) w []∧aH (x9 S0 φ g) w n [] s a w φ:=by
 have hX:∀b,(∃id,φ id=some b)->w0.heap.size≤b∨S0.X b:=fun b ⟨id,hid⟩=>(h.cL id b hid).1.2
 refine ⟨⟨h.cM,fun b hb=>hb.1,hX,rfl,rfl,List.nodup_nil,fun r hr=>by cases hr⟩,⟨h.jF,h.jJ,⟨rfl,rfl,rfl,Nat.le_refl _,fun _ _ _=>rfl,h.cM.mm,fun b hb=>h.se hb⟩,?_,?_,h.only,h.inj,fun id b hid=>⟨⟨(h.cL id b hid).1.1,.inr ⟨id,hid⟩⟩,(h.cL id b hid).2⟩,fun _ _ _=>by simp,?_⟩⟩
 ·rw [uz];exact h.ct
 ·rw [uz];exact h.rows
 ·rintro b (hb|⟨id,hid⟩)
  ·exact ⟨h.new b (.inl (Nat.le_trans h.cM.size hb)),ah⟩
  ·exact ⟨h.new b (hX b ⟨id,hid⟩),fun e=>h.apart id b hid (by simp [e])⟩
def uZ (S1:bf) (g:Nat):bf:=⟨fun b=>S1.S b∨b=g,fun b=>S1.X b∨b=g,S1.fix,S1.rV⟩
theorem wu {S1:bf} (hS:¬S1.S g):aJ (uZ S1 g) w φ [g]=aJ S1 w φ []:=by
 funext b
 apply propext
 unfold aJ uZ
 simp only [List.not_mem_nil,not_false_eq_true,true_and,List.mem_singleton]
 constructor
 ·rintro ⟨h1,h2,h3,h4|h4⟩
  ·exact ⟨h1,h3,h4⟩
  ·exact absurd h4 h2
 ·rintro ⟨h1,h3,h4⟩
  exact ⟨h1,fun e=>hS (e ▸ h4),h3,.inl h4⟩
theorem aH.back {S1:bf} {w1:World} (h:aH S1 w1 n [] s a w φ) (hg:g<w1.heap.size) (hS:¬S1.S g) (hX:¬S1.X g) (hT:¬TB g):aH (uZ S1 g) w1 n [g] s a w φ:=by
 refine ⟨h.jF,h.jJ,⟨h.cM.os,h.cM.tape,h.cM.output,h.cM.size,fun k hk hx=>h.cM.block k hk fun q=>hx (.inl q),h.cM.g0,?_⟩,?_,?_,h.only,h.inj,fun id b hid=>⟨⟨(h.cL id b hid).1.1,(h.cL id b hid).1.2.imp (fun q=>q) .inl⟩,(h.cL id b hid).2⟩,?_,?_⟩
 ·rintro b hb (q|q)
  ·exact h.cM.gx b hb q
  ·exact hT (q ▸ hb)
 ·rw [wu hS];exact h.ct
 ·rw [wu hS];exact h.rows
 ·intro id b hid hm
  have e:b=g:=by simpa using hm
  subst e
  rcases (h.cL id b hid).1.2 with q|q
  ·omega
  ·exact hX q
 ·rintro b (q|q|q)
  ·exact .inl (h.new b (.inl q))
  ·exact .inl (h.new b (.inr q))
  ·exact .inr q
end
section
variable {P:Program} {S0:bf} {w0 w:World} {n:Nat} {s:AS} {a:Act} {Q:Exit->Act->World->Prop}
structure Aside (S0:bf) (w0:World) (g:Nat) (o:Obj):Prop where
 lt:g<w0.heap.size
 S:¬S0.S g
 X:¬S0.X g
 tb:¬TB g
 obj:w0.heap[g]?=some o
theorem A2 {o:Oper} {t d:Nat} {z:Value} (ho:o.op= .alloc t) (hd:o.dst=some d) (N_:d<n) (hz:(P.info? t).bind (·.zero)=some z) (h:ib S0 w0 n s a w) :
  o.wp P a w (fun a' w'=>∃g S1,w0.heap.size≤g∧kS S0 w0 S1 w' []∧Aside S1 w' g (.cells z.cells t (0,0))∧ib S1 w' n (k9 s d (.val (.pointer (some ⟨g,0,none⟩)))) a' w') Q:=by
 obtain ⟨φ,hs⟩:=h
 have bZ:(execOp a.eval o).run P w= .ok (.value (.pointer (some ⟨w.heap.size,0,none⟩))) {w with heap:=w.heap.push (.cells z.cells t (0,0))}:=by
  unfold execOp
  simp [ho,Instr.alloc,iE hz,newVar,newRow]
 refine cI bZ ?_
 rw [hd]
 have h1:=hs.await w.heap.size (Nat.le_refl _)
 have h2:=h1.vD (w':={w with heap:=w.heap.push (.cells z.cells t (0,0))}) (fun g hg=>by simp at hg;rw [hg];exact .inl hs.cM.size) rfl rfl rfl (by simp) (fun b hb _=>cB w _ b hb)
 have h3:=h2.put N_ (v:=.pointer (some ⟨w.heap.size,0,none⟩)) (.rep (.val _))
 obtain ⟨k1,k2⟩:=h3.aside (by simp)
 refine ⟨w.heap.size,_,hs.cM.size,k1,⟨by simp,fun q=>q.2 rfl,fun ⟨id,hid⟩=>h3.apart id _ hid (by simp),fun hb=>?_,dm w _⟩,⟨φ,k2⟩⟩
 have:=hs.cM.g0.lt hb
 have:=hs.cM.size
 omega
theorem CW {g t d:Nat} {z:Value} (hA:Aside S0 w0 g (.cells z.cells t (0,0))) (hd:d<1000000000000) (gu:look s.H d=none) (h:ib S0 w0 n s a w) (hv:a.tmps.getD d undef= .pointer (some ⟨g,0,none⟩)) :
  ib (uZ S0 g) w0 n ⟨(d,.addr d 0)::cF s.F d,(d,⟨rj P t,false,true,z.cells.toList.map bx⟩)::s.H⟩ a w:=by
 obtain ⟨φ,hs⟩:=h
 have h1:=hs.back hA.lt hA.S hA.X hA.tb
 have dc:=hs.cM.size
 have hg:w.heap[g]?=some (.cells z.cells t (0,0)):=(hs.cM.block g hA.lt hA.X).trans hA.obj
 have h2:=h1.wF (id:=d) (r:=⟨rj P t,false,true,z.cells.toList.map bx⟩) ⟨.inl hd,.inr (.inr rfl)⟩ (Nat.lt_of_lt_of_le hA.lt dc) (by simp) gu ⟨z.cells,t,(0,0),hg,by simp,by simp,by simp,fun j u x hu hx=>by
  simp only [List.getElem?_map] at hx
  have:z.cells.toList[j]?=some u:=by simpa using hu
  rw [this] at hx;injection hx with hx;subst hx
  exact .rep (fE u)⟩
 refine ⟨_,h2.jF,h2.jJ,h2.cM,fun i av hi=>?_,h2.rows,h2.only,h2.inj,h2.cL,h2.apart,h2.new⟩
 rw [aB] at hi
 by_cases e:d=i
 ·subst e
  rw [if_pos rfl] at hi;injection hi with hi;subst hi
  rw [hv]
  exact .addr d 0 _ _ _ (by
   show az ((d,(⟨rj P t,false,true,z.cells.toList.map bx⟩:Row))::s.H) _ d=_
   rw [bn (r:=⟨rj P t,false,true,z.cells.toList.map bx⟩) (by rw [aB,if_pos rfl])]
   unfold fm;rw [if_pos rfl])
 ·rw [if_neg e,bC,if_neg e] at hi
  exact h2.ct i av hi
end
def lQ (Fs:List Nat) (P:Program) (n T:Nat) (ops:List Oper) (hs:List (Nat×Hint)) (R:List (List Nat)):List Nat->List Nat->List Nat->Bool->List AV->List (Nat×AV)->List (Nat×Row)->Option (List nz×List Prop)
 | [],done,last,first,old,kept,H=>(match xZ P ops hs R done Fs last first old kept H (ops.take T) 0 [] with
  | some (col,C)=>some ([⟨col,kept,H⟩],C)
  | none=>none)
 | W::rest,done,last,first,old,kept,H=>(match xZ P ops hs R done (W::rest++Fs) last first old kept H (ops.take T) 0 [],ops[W]? with
  | some (col,C),some o=>(match xD P ops n ⟨jc ops col (ba o)++kept,H⟩ o (gl hs W) with
   | some (Tr,x,H',D)=>(match lQ Fs P n T ops hs R rest (done++ [W]) [W] false ((col.map Tr).set W x) (dE Tr kept) H' with
    | some (l,E)=>some (⟨col,kept,H⟩::l,C++(D++E))
    | none=>none)
   | none=>none)
  | _,_=>none)
def C4 (Fs:List Nat) (P:Program) (T:Nat) (ops:List Oper) (hs:List (Nat×Hint)) (R:List (List Nat)) (rest done last:List Nat) (first:Bool) (old:List AV) (st:nz):Prop :=
 ∃C,xZ P ops hs R done (rest++Fs) last first old st.kept st.H (ops.take T) 0 []=some (st.col,C)∧bu C
theorem tt {Fs:List Nat} {P:Program} {n T:Nat} {ops:List Oper} {hs:List (Nat×Hint)} {R:List (List Nat)}:∀(rest done last:List Nat) (first:Bool) (old:List AV) (kept:List (Nat×AV)) (H:List (Nat×Row)) (l:List nz) (E:List Prop),
  lQ Fs P n T ops hs R rest done last first old kept H=some (l,E)->bu E ->
  (l.getD 0 default).kept=kept∧(l.getD 0 default).H=H∧C4 Fs P T ops hs R rest done last first old (l.getD 0 default) ∧
  ∀(i W:Nat),rest[i]?=some W-> ∃o Tr x D,ops[W]?=some o∧xD P ops n ⟨jc ops (l.getD i default).col (ba o)++(l.getD i default).kept,(l.getD i default).H⟩ o (gl hs W)=some (Tr,x,(l.getD (i+1) default).H,D)∧bu D ∧
   (l.getD (i+1) default).kept=dE Tr (l.getD i default).kept∧C4 Fs P T ops hs R (rest.drop (i+1)) (done++rest.take (i+1)) [W] false (((l.getD i default).col.map Tr).set W x) (l.getD (i+1) default)
 | [],done,last,first,old,kept,H,l,E,he,hE=>by
  simp only [lQ] at he
  split at he
  ·rename_i col C hc
   cases he
   exact ⟨rfl,rfl,⟨_,hc,hE⟩,fun i W h=>by simp at h⟩
  ·cases he
 | W::rest,done,last,first,old,kept,H,l,E,he,hE=>by
  simp only [lQ] at he
  split at he
  ·rename_i col C o hc ho
   split at he
   ·rename_i Tr x H' D hw
    split at he
    ·rename_i l' E' MH
     cases he
     obtain ⟨hC,Sj⟩:=bM.1 hE
     obtain ⟨hD,Si⟩:=bM.1 Sj
     obtain ⟨h1,h2,h3,h4⟩:=tt rest _ _ _ _ _ _ _ _ MH Si
     refine ⟨rfl,rfl,⟨_,hc,hC⟩,fun i W' hi=>?_⟩
     cases i with
     | zero =>
      simp at hi;subst hi
      exact ⟨o,Tr,x,D,ho,by rw [←h2] at hw;exact hw,hD,h1,by simpa using h3⟩
     | succ i =>
      obtain ⟨o',QL,x',D',k1,k2,k3,k4,k5⟩:=h4 i W' (by simpa using hi)
      refine ⟨o',QL,x',D',k1,k2,k3,k4,?_⟩
      have e:done++(W::rest).take (i+1+1)=done++ [W]++rest.take (i+1):=by simp
      rw [e]
      exact k5
    ·cases he
   ·cases he
  ·cases he
theorem D_ {P:Program} {n:Nat} {F:List (Nat×AV)} {H H':List (Nat×Row)} {o:Oper} {h:Hint} {Tr:AV->AV} {X:AV} {C:List Prop} (dF:Ok P n ⟨F,H⟩ o h=some (Tr,X,H',C)) (v:Value):Tr (.val v)= .val v:=by
 have ub:∀l:List Nat,gY l (.val v)= .val v:=by
  intro l
  induction l with
  | nil=>rfl
  | cons x l ih=>first|exact ih|(simp only [gY];exact ih)
 unfold Ok at dF
 split at dF
 ·split at dF
  ·cases dF
   unfold Ja
   split<;>rfl
  ·cases dF
 ·split at dF
  ·cases dF;rfl
  ·cases dF
 ·split at dF
  ·split at dF
   ·cases dF
    simp only [ub]
   ·cases dF
  ·split at dF
   ·cases dF
    simp only [ub]
   ·cases dF
  ·cases dF
 ·split at dF
  ·cases dF;rfl
  ·cases dF
 ·split at dF
  ·split at dF
   ·cases dF;rfl
   ·cases dF
  ·cases dF
 ·cases dF
theorem Il {P:Program} {n:Nat} {ops:List Oper} {F:List (Nat×AV)} {H H':List (Nat×Row)} {o:Oper} {h:Hint} {Tr:AV->AV} {X:AV} {C:List Prop} (dF:xD P ops n ⟨F,H⟩ o h=some (Tr,X,H',C)) (v:Value):Tr (.val v)= .val v:=by
 unfold xD at dF
 split at dF
 ·exact D_ dF v
 ·split at dF
  ·split at dF
   ·split at dF
    ·rename_i he
     cases dF
     exact D_ he v
    ·cases dF
   ·cases dF
  ·cases dF
def jn (P:Program) (n:Nat) (o:Oper):Option (Nat×Nat×Value) :=
 match o.guard,o.op,o.dst with
 | none,.alloc t,some d=>(match (P.info? t).bind (·.zero),Nat.blt d n,Nat.blt d 1000000000000 with
  | some z,true,true=>some (d,t,z)
  | _,_,_=>none)
 | _,_,_=>none
theorem jm {P:Program} {n:Nat} {o:Oper} {d t:Nat} {z:Value} (h:jn P n o=some (d,t,z)):o.guard=none∧o.op= .alloc t∧o.dst=some d∧(P.info? t).bind (·.zero)=some z∧d<n∧d<1000000000000:=by
 unfold jn at h
 split at h
 ·rename_i t' d' hg ho hd
  split at h
  ·rename_i z' hz h1 h2
   injection h with h
   injection h with e1 e2
   injection e2 with e2 e3
   subst e1;subst e2;subst e3
   exact ⟨hg,ho,hd,hz,by simpa [Nat.blt_eq] using h1,by simpa [Nat.blt_eq] using h2⟩
  ·cases h
 ·cases h
def EM (g:Nat):Value:=.pointer (some ⟨g,0,none⟩)
def oa (Fs:List Nat) (G:Nat->Nat) (col:List AV):List AV:=col.mapIdx fun q x=>if q∈Fs then .val (EM (G q)) else x
theorem sS {Fs:List Nat} {G:Nat->Nat} {col:List AV} {q:Nat} (h:q∈Fs):(oa Fs G col)[q]?=col[q]?.map fun _=>.val (EM (G q)):=by
 unfold oa
 rw [List.getElem?_mapIdx]
 cases col[q]?<;>simp [h]
theorem lT {Fs:List Nat} {G:Nat->Nat} {col:List AV} {q:Nat} (h:q ∉ Fs):(oa Fs G col)[q]?=col[q]?:=by
 unfold oa
 rw [List.getElem?_mapIdx]
 cases col[q]?<;>simp [h]
theorem CG {ops:List Oper} {Fs:List Nat} {G:Nat->Nat} {col:List AV}:∀(l:List Nat),(∀d∈l,d ∉ Fs)->jc ops (oa Fs G col) l=jc ops col l
 | [],_=>rfl
 | d::l,h=>by
  simp only [jc,lT (h d (by simp)),CG l fun e he=>h e (by simp [he])]
def NJ (P:Program) (s:AS) (d t:Nat) (z:Value):AS:=⟨(d,.addr d 0)::cF s.F d,(d,⟨rj P t,false,true,z.cells.toList.map bx⟩)::s.H⟩
def yb (P:Program) (n:Nat) (ops:List Oper):List Nat->AS->Option AS
 | [],s=>some s
 | f::l,s=>(match ops[f]? with
  | some o=>(match jn P n o with
   | some (d,t,z)=>(match look s.H d with
    | none=>yb P n ops l (NJ P s d t z)
    | some _=>none)
   | none=>none)
  | none=>none)
theorem Aside.next {S1:bf} {w1:World} {g g':Nat} {o:Obj} (h:Aside S1 w1 g' o) (cK:g'≠g):Aside (uZ S1 g) w1 g' o :=
 ⟨h.lt,fun q=>q.elim h.S cK,fun q=>q.elim h.X cK,h.tb,h.obj⟩
theorem kS.back {S0 S1:bf} {w0 w1:World} {g:Nat} (h:kS S0 w0 S1 w1 []) (hg:w0.heap.size≤g) (hS:S0.S g):kS S0 w0 (uZ S1 g) w1 [] :=
 ⟨h.kept,fun b q=>q.elim (h.sub b) fun e=>e ▸ hS,fun b q=>q.elim (h.X b) fun e=>.inl (e ▸ hg),h.fix,h.rV,List.nodup_nil,fun r hr=>by cases hr⟩
section
variable {P:Program} {n:Nat} {ops:List Oper} {S0:bf} {w0 w1 w:World} {a:Act} {G:Nat->Nat}
theorem wG (Jv:∀b,w0.heap.size≤b->S0.S b):∀(Fs:List Nat) (s s':AS) (S1:bf),Fs.Nodup->yb P n ops Fs s=some s'->kS S0 w0 S1 w1 [] ->
  (∀f∈Fs,∀o d t z,ops[f]?=some o->jn P n o=some (d,t,z)->w0.heap.size≤G f∧Aside S1 w1 (G f) (.cells z.cells t (0,0))∧a.tmps.getD d undef=EM (G f)) ->
  (∀f∈Fs,∀f'∈Fs,f≠f'->G f≠G f')->ib S1 w1 n s a w-> ∃S2,kS S0 w0 S2 w1 []∧ib S2 w1 n s' a w
 | [],s,s',S1,_,he,hz,_,_,hs=>by cases he;exact ⟨S1,hz,hs⟩
 | f::l,s,s',S1,hn,he,hz,hA,hG,hs=>by
  simp only [yb] at he
  split at he
  ·rename_i o ho
   split at he
   ·rename_i d t z hf
    split at he
    ·rename_i hl
     obtain ⟨h1,h2,h3⟩:=hA f (by simp) o d t z ho hf
     have hk:=CW (P:=P) h2 (jm hf).2.2.2.2.2 hl hs h3
     rw [List.nodup_cons] at hn
     refine wG Jv l _ s' (uZ S1 (G f)) hn.2 he (hz.back h1 (Jv _ h1)) (fun f' KA o' d' t' z' qN FV=>?_) (fun f1 h1 f2 h2 cK=>hG f1 (by simp [h1]) f2 (by simp [h2]) cK) hk
     obtain ⟨k1,k2,k3⟩:=hA f' (by simp [KA]) o' d' t' z' qN FV
     exact ⟨k1,k2.next (hG f' (by simp [KA]) f (by simp) fun e=>hn.1 (e ▸ KA)),k3⟩
    ·cases he
   ·cases he
  ·cases he
end
theorem Aside.move {S1 S2:bf} {w1 w2:World} {ms:List Nat} {g:Nat} {o:Obj} (h:Aside S1 w1 g o) (k:kS S1 w1 S2 w2 ms):Aside S2 w2 g o :=
 ⟨Nat.lt_of_lt_of_le h.lt k.kept.size,fun q=>h.S (k.sub g q),fun q=>(k.X g q).elim (fun e=>by have:=h.lt;omega) h.X,h.tb,(k.kept.block g h.lt h.X).trans h.obj⟩
def J8 (ops:List Oper) (T:Nat) (Fs:List Nat) (R:List (List Nat)):Bool:=(List.range T).all fun q=> !(hit (R.getD q []) Fs) && match ops[q]? with|some o=> !(hit (ba o) Fs)|none=>true
def NI (Fs Ws:List Nat):Bool:=Fs.all fun f=> !(Ws.any (Nat.beq f))
def KP (P:Program) (n:Nat) (ops:List Oper) (Fs:List Nat):Bool:=Fs.all fun f=>match ops[f]? with|some o=>(jn P n o).isSome && (ba o).isEmpty|none=>false
def sP (P:Program) (n T:Nat) (Ws Fs:List Nat) (ops:List Oper) (hs:List (Nat×Hint)) (s:AS):Option (List nz×List Prop) :=
 match lk ops.toArray n,Nat.ble T ops.length,uW (l5 (ops.take T) []) Ws,wE T Ws,nodupB Ws,wE T Fs,nodupB Fs,NI Fs Ws,J8 ops T Fs (l5 (ops.take T) []),KP P n ops Fs with
 | true,true,true,true,true,true,true,true,true,true=>lQ Fs P n T ops hs (l5 (ops.take T) []) Ws [] [] true [] (nc ((ops.take T).filterMap (·.dst)) s.F) s.H
 | _,_,_,_,_,_,_,_,_,_=>none
def zJ (late:List Nat) (col:List AV):List AV:=col.mapIdx fun q x=>match late.any (Nat.beq q) with|true=>.dead|false=>x
theorem Ho {late:List Nat} {col:List AV} {q:Nat}:(zJ late col)[q]?=col[q]?.map fun x=>match late.any (Nat.beq q) with|true=>.dead|false=>x:=by
 unfold zJ;rw [List.getElem?_mapIdx]
def Ag (P:Program) (n T:Nat) (Ws Fs late:List Nat) (ops:List Oper) (l:List nz):Option AS:=yb P n ops Fs ⟨iX (ops.take T) (zJ late (l.getD Ws.length default).col)++(l.getD Ws.length default).kept,(l.getD Ws.length default).H⟩
def xQ (P:Program) (n T:Nat) (Ws Fs:List Nat) (ops:List Oper) (hs:List (Nat×Hint)) (s:AS):Option (AS×List Prop) :=
 match P.follows .mixedOrders,og ops.toArray T,sP P n T Ws Fs ops hs s with
 | true,true,some (l,C)=>(match Ag P n T Ws Fs [] ops l with
  | some s1=>(match jS P n ops hs (ops.drop T) T s1 with
   | some (s',D)=>some (s',C++D)
   | none=>none)
  | none=>none)
 | _,_,_=>none
structure ry (P:Program) (n:Nat) (ops:List Oper) (Fs:List Nat) (L:Nat->Bool) (G:Nat->Nat) (S0:bf) (w0:World) (S1:bf) (w1:World):Prop where
 z:kS S0 w0 S1 w1 []
 aside:∀f∈Fs,L f=true->w0.heap.size≤G f∧ ∃o d t z,ops[f]?=some o∧jn P n o=some (d,t,z)∧Aside S1 w1 (G f) (.cells z.cells t (0,0))
 inj:∀f∈Fs,∀f'∈Fs,L f=true->L f'=true->f≠f'->G f≠G f'
theorem ry.skip {P:Program} {n:Nat} {ops:List Oper} {Fs:List Nat} {L:Nat->Bool} {G:Nat->Nat} {S0 S1:bf} {w0 w1:World} (h:ry P n ops Fs L G S0 w0 S1 w1) {k:Nat} (hk:k ∉ Fs):ry P n ops Fs (eg L k) G S0 w0 S1 w1:=by
 have e:∀f∈Fs,eg L k f=L f:=fun f hf=>by
  have cK:f≠k:=fun e=>by subst e;exact hk hf
  unfold eg;rw [if_neg cK]
 exact ⟨h.z,fun f hf hL=>h.aside f hf (e f hf ▸ hL),fun f hf f' KA h1 h2=>h.inj f hf f' KA (e f hf ▸ h1) (e f' KA ▸ h2)⟩
section
variable {P:Program} {n T:Nat} {ops:List Oper} {Fs:List Nat} {L:Nat->Bool} {G:Nat->Nat} {S0 S1:bf} {w0 w1 w:World} {a:Act} {Q:Exit->Act->World->Prop} {col:List AV} {kept:List (Nat×AV)} {H:List (Nat×Row)} {k d t:Nat} {z:Value} {o:Oper}
theorem B8 (g_:(ops.filterMap (·.dst)).Nodup) (hk:k<T) (ho:ops[k]?=some o) (hf:jn P n o=some (d,t,z)) (DU:k∈Fs) (An:L k=false)
  (fb:∀i x,look kept i=some x-> ∀j p,j<T->ops[j]?=some p->p.dst≠some i) (hF:ry P n ops Fs L G S0 w0 S1 w1) (hs:ib S1 w1 n ⟨dp ops (oa Fs G col) L T++kept,H⟩ a w) :
  o.wp P a w (fun a' w'=>∃S2 w2 G',ry P n ops Fs (eg L k) G' S0 w0 S2 w2∧ib S2 w2 n ⟨dp ops (oa Fs G' col) (eg L k) T++kept,H⟩ a' w') Q:=by
 obtain ⟨-,p2,p3,p4,p5,p6⟩:=jm hf
 refine Oper.wp_mono ?_ (A2 p2 p3 p5 p4 hs)
 rintro a' w' ⟨g,S2,h1,h2,h3,φ,h4⟩
 have cK:∀f,L f=true->f≠k:=fun f hL e=>by subst e;rw [An] at hL;cases hL
 have dL:∀f,f≠k->eg L k f=L f:=fun f e=>by unfold eg;rw [if_neg e]
 have cW:∀f∈Fs,L f=true->G f≠g:=fun f FV hL e=>by
  obtain ⟨-,o',d',t',z',-,-,hA⟩:=hF.aside f FV hL
  have:=hA.lt
  omega
 refine ⟨S2,w',fun q=>if q=k then g else G q,⟨by simpa using hF.z.trans h2,fun f FV hL=>?_,fun f FV f' Pv hL QD e=>?_⟩,⟨φ,aH.sub h4 fun i x hx=>?_⟩⟩
 ·by_cases e:f=k
  ·subst e
   simp only [if_pos]
   exact ⟨Nat.le_trans hF.z.kept.size h1,o,d,t,z,ho,hf,h3⟩
  ·rw [dL f e] at hL
   obtain ⟨k1,o',d',t',z',k2,k3,k4⟩:=hF.aside f FV hL
   simp only [if_neg e]
   exact ⟨k1,o',d',t',z',k2,k3,k4.move h2⟩
 ·by_cases e1:f=k
  ·have e2:f'≠k:=fun e2=>e (e1.trans e2.symm)
   rw [dL f' e2] at QD
   simp only [if_pos e1,if_neg e2]
   exact fun q=>cW f' Pv QD q.symm
  ·rw [dL f e1] at hL
   by_cases e2:f'=k
   ·simp only [if_pos e2,if_neg e1]
    exact cW f FV hL
   ·rw [dL f' e2] at QD
    simp only [if_neg e1,if_neg e2]
    exact hF.inj f FV f' Pv hL QD e
 ·rw [bI] at hx
  left
  show look ((d,_)::cF _ d) i=some x
  rw [aB]
  cases hl:look (dp ops (oa Fs (fun q=>if q=k then g else G q) col) (eg L k) T) i with
  | some y =>
   rw [hl] at hx
   simp at hx;subst hx
   obtain ⟨j,p,j1,j2,j3,j4,j5⟩:=kA _ _ _ _ _ _ hl
   by_cases e:j=k
   ·subst e
    rw [ho] at j3;injection j3 with j3;subst j3
    rw [p3] at j4;injection j4 with j4
    rw [if_pos j4]
    rw [sS DU] at j5
    cases hc:col[j]? with
    | none=>rw [hc] at j5;cases j5
    | some c =>
     rw [hc] at j5
     simp at j5
     rw [←j5];rfl
   ·have hid:d≠i:=fun q=>e (nQ (ops:=ops.toArray) (by simpa using g_) (by simpa using j3) (by simpa using ho) j4 (q ▸ p3))
    rw [if_neg hid,bC,if_neg hid,bI]
    rw [dL j e] at j2
    have hj:(oa Fs G col)[j]?=some y:=by
     by_cases hm:j∈Fs
     ·rw [sS hm] at j5 ⊢
      rw [←j5,if_neg e]
     ·rw [lT hm] at j5 ⊢
      exact j5
    rw [gi g_ _ L T j i p y j1 j2 j3 j4 hj]
    rfl
  | none =>
   rw [hl] at hx
   simp at hx
   have hid:d≠i:=fun q=>fb i x hx k o hk ho (q ▸ p3)
   rw [if_neg hid,bC,if_neg hid,bI,i4 fun j p hj hp=>fb i x hx j p hj hp,hx]
   rfl
end
def JF (P:Program) (n T:Nat) (Ws Fs:List Nat) (ops:List Oper) (st:Nat->nz) (S0:bf) (w0:World) (L:Nat->Bool) (a':Act) (w':World):Prop :=
 ∃i S1 w1 G,i≤Ws.length∧(∀(j W:Nat),Ws[j]?=some W->(L W=true↔j<i))∧ry P n ops Fs L G S0 w0 S1 w1∧ib S1 w1 n ⟨dp ops (oa Fs G (st i).col) L T++(st i).kept,(st i).H⟩ a' w'
section
variable {P:Program} {ops:List Oper} {S0:bf} {w0:World} {Q:Exit->Act->World->Prop}
theorem DV {n T:Nat} {Ws Fs:List Nat} {hs:List (Nat×Hint)} {s:AS} {l:List nz} {C1:List Prop} (he:sP P n T Ws Fs ops hs s=some (l,C1)) (iz:bu C1) {a:Act} {w:World} (fS:ib S0 w0 n s a w) :
  lk ops.toArray n=true∧(JF P n T Ws Fs ops (fun i=>l.getD i default) S0 w0 (fun k=>(Array.replicate ops.toArray.size false).getD k false) a {w with drawn:=w.drawn+1}) ∧
  (∀k o (L:Nat->Bool) a' w',k<T->ops.toArray[k]?=some o->L k=false->(∀d∈ba o,L d=true)->(∀j p,L j=true->ops.toArray[j]?=some p-> ∀d∈ba p,L d=true)->(∀j,T≤j->L j=false)->JF P n T Ws Fs ops (fun i=>l.getD i default) S0 w0 L a' w' ->
   (if Region.wanted o (yielded ops.toArray a'.tmps)=true then o.wp P a' w' (fun ru fa=>JF P n T Ws Fs ops (fun i=>l.getD i default) S0 w0 (eg L k) ru fa) Q else JF P n T Ws Fs ops (fun i=>l.getD i default) S0 w0 (eg L k) (a'.put o.dst undef) w')) ∧
  (∀(late:List Nat) (s1:AS) (L:Nat->Bool) a' w',(∀k∈late,k ∉ Ws∧k ∉ Fs)->Ag P n T Ws Fs late ops l=some s1->(∀k,k<T->k ∉ late->L k=true)->JF P n T Ws Fs ops (fun i=>l.getD i default) S0 w0 L a' w'-> ∃S2 w1,kS S0 w0 S2 w1 []∧ib S2 w1 n s1 a' w'):=by
 unfold sP at he
 split at he
 case h_2=>cases he
 rename_i hB hT A_ MK Kv Pp Ry LM gu vo
 have dI:=he
 obtain ⟨sK,g_,u9⟩:=fI hB
 have xo:(ops.filterMap (·.dst)).Nodup:=by simpa using g_
 have R5:T≤ops.length:=by simpa [Nat.ble_eq] using hT
 have B1:∀(k:Nat) (o:Oper),ops[k]?=some o-> ∀d∈ba o,d<k:=fun k o h=>sK k o (by simpa using h)
 have MM:∀(k:Nat) (o:Oper) (s:Nat),ops[k]?=some o->o.dst=some s->s<n:=fun k o s h=>u9 k o s (by simpa using h)
 generalize R9:l5 (ops.take T) []=R at dI A_ gu
 have hR:sV ops R:=by
  rw [←R9]
  refine qy ops (ops.take T) [] (fun k o _ L _ _ j hj=>by simp at hj) (fun j o h=>?_) B1
  simpa using bT _ _ _ _ h
 obtain ⟨xq,M9,M3,pF⟩:=tt _ _ _ _ _ _ _ _ _ dI iz
 have MK:=qe T Ws MK
 have Kv:=im Kv
 generalize ME:(fun i=>l.getD i default)=st at *
 have P_:∀i,l.getD i default=st i:=fun i=>by rw [←ME]
 simp only [P_] at xq M9 M3 pF
 have fb:∀i,i≤Ws.length-> ∀(k:Nat) (x:AV),look (st i).kept k=some x-> ∀(j:Nat) (p:Oper),j<T->ops[j]?=some p->p.dst≠some k:=by
  intro i
  induction i with
  | zero =>
   intro _ k x hx j p hj hp
   rw [xq] at hx
   exact (kf ops T k).1 (fG _ _ _ _ hx).2 j p hj hp
  | succ i ih =>
   intro hi k x hx
   obtain ⟨o,Tr,X,D',-,-,-,k4,-⟩:=pF i (Ws[i]' ah) (List.getElem?_eq_getElem ah)
   rw [k4,b7] at hx
   cases hl:look (st i).kept k with
   | none=>rw [hl] at hx;cases hx
   | some y=>exact ih ah k y hl
 have vp:∀i,i≤Ws.length-> ∃last first old,C4 Fs P T ops hs R (Ws.drop i) (Ws.take i) last first old (st i):=by
  intro i hi
  cases i with
  | zero=>exact ⟨_,_,_,by simpa using M3⟩
  | succ i =>
   obtain ⟨o,Tr,X,D',-,-,-,-,k5⟩:=pF i (Ws[i]' ah) (List.getElem?_eq_getElem ah)
   exact ⟨_,_,_,by simpa using k5⟩
 have M5:∀f∈Fs,f ∉ Ws:=fun f hf hw=>by
  have:=List.all_eq_true.1 LM f hf
  rw [any_beq.2 hw] at this;cases this
 have uo:∀q,q<T-> ∀f∈Fs,f ∉ R.getD q []:=fun q hq f hf hr=>by
  have:=List.all_eq_true.1 gu q (List.mem_range.2 hq)
  rw [nJ.2 ⟨f,hr,hf⟩] at this;simp at this
 have LL:∀q o,q<T->ops[q]?=some o-> ∀f∈ba o,f ∉ Fs:=fun q o hq ho f hr hf=>by
  have:=List.all_eq_true.1 gu q (List.mem_range.2 hq)
  rw [ho] at this
  simp only [nJ.2 ⟨f,hr,hf⟩] at this
  simp at this
 have RR:∀f∈Fs,∃o d t z,ops[f]?=some o∧jn P n o=some (d,t,z):=fun f hf=>by
  have:=List.all_eq_true.1 vo f hf
  cases ho:ops[f]? with
  | none=>rw [ho] at this;cases this
  | some o =>
   rw [ho] at this
   cases H2:jn P n o with
   | none=>simp [H2] at this
   | some x=>exact ⟨o,x.1,x.2.1,x.2.2,rfl,H2⟩
 have Pp:=qe T Fs Pp
 have Ry:=im Ry
 obtain ⟨φ,lr⟩:=fS
 refine ⟨hB,?_,?_,?_⟩
 ·refine ⟨0,S0,w0,fun _=>0,ah,fun j W _=>by show (Array.replicate ops.toArray.size false).getD W false=true↔_;rw [getD_replicate_false];simp,⟨kS.refl lr.cM,fun f _ hL=>?_,fun f _ f' _ hL=>?_⟩,φ,?_⟩
  ·change (Array.replicate ops.toArray.size false).getD f false=true at hL
   rw [getD_replicate_false] at hL;cases hL
  ·change (Array.replicate ops.toArray.size false).getD f false=true at hL
   rw [getD_replicate_false] at hL;cases hL
  rw [mS _ _ _ (fun k=>getD_replicate_false _ _)]
  have hg:aH S0 w0 n [] s a w.drew φ:=lr.grow ((Below.refl _ _).drew)
  rw [M9,xq]
  exact aH.sub (F:=s.F) hg fun i x hx=>.inl (fG _ _ _ _ (by simpa using hx)).1
 ·intro k o L a' w' hk ho An iY xu z_ ⟨i,S1,w1,G,hi,hW,M_,fS⟩
  have qN:ops[k]?=some o:=by simpa using ho
  have gw:∀(j:Nat) (p:Oper),L j=true->ops[j]?=some p-> ∀d∈ba p,L d=true:=fun j p hj hp=>xu j p hj (by simpa using hp)
  have oO:∀j∈R.getD k [],L j=true:=hR k o qN L gw iY
  have pH:∀q,L q=true-> ∀j∈R.getD q [],L j=true:=fun q hq j hj=>by
   cases HM:ops[q]? with
   | some p=>exact hR q p HM L gw (fun d hd=>gw q p hq HM d hd) j hj
   | none =>
    exfalso
    have h1:ops.length≤q:=List.getElem?_eq_none_iff.1 HM
    have:=z_ q ah
    rw [hq] at this;cases this
  have PA:∀d∈ba o,L d=true∧d<T:=fun d hd=>⟨iY d hd,by have:=B1 k o qN d hd;omega⟩
  have uj:∀i',i≤i'-> ∀q,q<T->(∀j∈R.getD q [],L j=true)->hit (R.getD q []) (Ws.drop i'++Fs)=false:=by
   intro i' i6 q Uo hq
   cases hh:hit (R.getD q []) (Ws.drop i'++Fs) with
   | false=>rfl
   | true =>
    exfalso
    obtain ⟨x,h1,h2⟩:=nJ.1 hh
    rcases List.mem_append.1 h2 with h2|h2
    case inr=>exact uo q Uo x h2 h1
    obtain ⟨j,hj⟩:=List.mem_iff_getElem?.1 h2
    rw [List.getElem?_drop] at hj
    have:=(hW _ x hj).1 (hq x h1)
    omega
  have hlen:∀i,i≤Ws.length->(st i).col.length=T:=fun i hi=>by
   obtain ⟨last,first,old,Cd,Fb,KM⟩:=vp i hi
   obtain ⟨d1,-,-⟩:=jo _ 0 [] _ _ Fb KM rfl
   rw [d1,List.length_take];omega
  by_cases DU:k∈Fs
  ·obtain ⟨o',d,t,z,f1,f2⟩:=RR k DU
   rw [qN] at f1;cases f1
   have jP:Region.wanted o (yielded ops.toArray a'.tmps)=true:=by unfold Region.wanted;rw [(jm f2).1]
   rw [if_pos jP]
   refine Oper.wp_mono ?_ (B8 xo hk qN f2 DU An (fb i hi) M_ fS)
   rintro ru fa ⟨S2,w2,G',g1,g2⟩
   refine ⟨i,S2,w2,G',hi,fun j2 W2 h2=>?_,g1,g2⟩
   have e:W2≠k:=fun e=>by subst e;exact M5 _ DU (List.mem_of_getElem? h2)
   unfold eg;rw [if_neg e];exact hW j2 W2 h2
  by_cases Kx:k∈Ws
  ·obtain ⟨j,hj⟩:=List.mem_iff_getElem?.1 Kx
   have ML:j<Ws.length:=(List.getElem?_eq_some_iff.1 hj).1
   have LG:¬j<i:=fun h=>by have:=(hW j k hj).2 h;rw [An] at this;cases this
   have e:j=i:=by
    rcases Nat.lt_or_ge i j with h|h
    ·obtain ⟨j',rfl⟩:∃j',j=j'+1:=⟨j-1,ah⟩
     have Ko:Ws[j']?=some (Ws[j']' ah):=List.getElem?_eq_getElem ah
     have h1:=oO _ (ri R Ws A_ j' _ k Ko hj)
     have:=(hW j' _ Ko).1 h1
     omega
    ·omega
   subst e
   obtain ⟨o',Tr,x,D',k1,k2,k3,k4,Cc,k5,k6⟩:=pF j k hj
   rw [qN] at k1;cases k1
   simp only [List.nil_append] at k5
   obtain ⟨c1,c2,c3⟩:=jo _ 0 [] _ _ k5 k6 rfl
   simp only [Nat.zero_add] at c1 c3
   have R6:(ops.take T).length=T:=by rw [List.length_take];omega
   have NZ:k ∉ Ws.drop (j+1):=fun hm=>by
    obtain ⟨j2,sJ⟩:=List.mem_iff_getElem?.1 hm
    rw [List.getElem?_drop] at sJ
    have:=lI Kv hj sJ
    omega
   have RH:k∈Ws.take (j+1):=List.mem_iff_getElem?.2 ⟨j,by rw [List.getElem?_take,if_pos ah];exact hj⟩
   have hold:((((st j).col.map Tr).set k x).getD k .dead)=x:=by
    obtain ⟨last,first,old,Cd,Fb,KM⟩:=vp j hi
    obtain ⟨d1,-,-⟩:=jo _ 0 [] _ _ Fb KM rfl
    rw [Nat.zero_add,R6] at d1
    rw [List.getD_eq_getElem?_getD,List.getElem?_set_self (by rw [List.length_map];omega)];rfl
   have iL:=vH (P:=P) (S0:=S1) (w0:=w1) (Q:=Q) (n:=n) (T:=T) (col:=oa Fs G (st j).col) (col':=oa Fs G (st (j+1)).col) (L:=L) (a:=a') (w:=w') xo hk qN PA (fb j hi) (by rw [CG _ (LL k o hk qN)];exact k2) k3 (by
    intro q z hq Pc Sd hz
    by_cases Tc:q∈Fs
    ·left
     rw [sS Tc] at hz ⊢
     rw [List.getElem?_eq_getElem (by rw [hlen j hi];exact hq)]
     cases hc:(st (j+1)).col[q]? with
     | none=>rw [hc] at hz;cases hz
     | some c =>
      rw [hc] at hz
      simp only [Option.map_some] at hz ⊢
      rw [Il k2];exact hz
    rw [lT Tc] at hz ⊢
    have HM:(ops.take T)[q]?=some (ops[q]' ah):=by rw [List.getElem?_take,if_pos hq];exact List.getElem?_eq_getElem ah
    obtain ⟨x',D2,e1,e2,e3⟩:=c3 q _ HM
    rw [e1] at hz;injection hz with hz;subst hz
    unfold qa at e3
    split at e3
    ·split at e3
     ·split at e3
      ·rename_i xx CC dF
       split at e3
       ·cases e3
        exact j6 Pc e2.1
       ·rename_i gu
        exfalso
        cases hh:hit (R.getD q []) [k] with
        | false=>exact gu rfl hh
        | true =>
         obtain ⟨y,h1,h2⟩:=nJ.1 hh
         have:y=k:=by simpa using h2
         subst this
         have:=pH q Sd y h1
         rw [An] at this;cases this
      ·cases e3
     ·cases e3
      exact j6 Pc rfl
    ·cases e3
     exact .inr rfl) (by
    have DQ:(ops.take T)[k]?=some o:=by rw [List.getElem?_take,if_pos hk];exact qN
    obtain ⟨x',D2,e1,e2,e3⟩:=c3 k _ DQ
    rw [lT DU,e1]
    unfold qa at e3
    have r1:(Ws.drop (j+1)++Fs).any (Nat.beq k)=false:=by
     cases hh:(Ws.drop (j+1)++Fs).any (Nat.beq k) with
     | false=>rfl
     | true=>exact (List.mem_append.1 (any_beq.1 hh)).elim (fun q=>absurd q NZ) (fun q=>absurd q DU)
    have r2:=uj (j+1) ah k hk oO
    have r3:(Ws.take (j+1)).any (Nat.beq k)=true:=any_beq.2 RH
    rw [r1,r2,r3] at e3
    simp only at e3
    injection e3 with e3;injection e3 with e3 _
    rw [←e3,hold]) fS
   have fin:∀ru fa,ib S1 w1 n ⟨dp ops (oa Fs G (st (j+1)).col) (eg L k) T++dE Tr (st j).kept,(st (j+1)).H⟩ ru fa->JF P n T Ws Fs ops st S0 w0 (eg L k) ru fa:=by
    intro ru fa h
    refine ⟨j+1,S1,w1,G,ah,fun j2 W2 h2=>?_,M_.skip DU,by rw [k4];exact h⟩
    by_cases e:W2=k
    ·subst e
     have:=lI Kv hj h2
     unfold eg;rw [if_pos rfl];simp;omega
    ·unfold eg;rw [if_neg e,hW j2 W2 h2]
     have:j2≠j:=fun e2=>by subst e2;rw [hj] at h2;cases h2;exact e rfl
     omega
   split
   ·rename_i hw
    rw [if_pos hw] at iL
    exact Oper.wp_mono fin iL
   ·rename_i hw
    rw [if_neg hw] at iL
    exact fin _ _ iL
  ·obtain ⟨last,first,old,Cc,k5,k6⟩:=vp i hi
   obtain ⟨c1,c2,c3⟩:=jo _ 0 [] _ _ k5 k6 rfl
   simp only [Nat.zero_add] at c1 c3
   have DQ:(ops.take T)[k]?=some o:=by rw [List.getElem?_take,if_pos hk];exact qN
   obtain ⟨x',D2,e1,e2,e3⟩:=c3 k _ DQ
   unfold qa at e3
   have r1:(Ws.drop i++Fs).any (Nat.beq k)=false:=by
    cases hh:(Ws.drop i++Fs).any (Nat.beq k) with
    | false=>rfl
    | true=>exact (List.mem_append.1 (any_beq.1 hh)).elim (fun q=>absurd (List.mem_of_mem_drop q) Kx) (fun q=>absurd q DU)
   have r2:=uj i (Nat.le_refl _) k hk oO
   have r3:(Ws.take i).any (Nat.beq k)=false:=by
    cases hh:(Ws.take i).any (Nat.beq k) with
    | false=>rfl
    | true=>exact absurd (List.mem_of_mem_take (any_beq.1 hh)) Kx
   have r4:(Ws.take i).any (fun W=>(R.getD W []).any (Nat.beq k))=false:=by
    cases hh:(Ws.take i).any (fun W=>(R.getD W []).any (Nat.beq k)) with
    | false=>rfl
    | true =>
     exfalso
     obtain ⟨W,h1,h2⟩:=List.any_eq_true.1 hh
     obtain ⟨j,hj⟩:=List.mem_iff_getElem?.1 h1
     rw [List.getElem?_take] at hj
     split at hj
     ·rename_i LG
      have:=pH W ((hW j W hj).2 LG) k (any_beq.1 h2)
      rw [An] at this;cases this
     ·cases hj
   rw [r1,r2,r3,r4] at e3
   simp only at e3
   have dF:∃C',sk P ops ⟨jc ops ((st i).col.take k) (ba o)++(st i).kept,(st i).H⟩ o (gl hs k)=some (x',C')∧bu C':=by
    split at e3
    ·rename_i xx CC dF
     split at e3
     ·cases e3;exact ⟨_,dF,e2.2⟩
     ·cases e3;exact ⟨_,dF,e2⟩
    ·cases e3
   obtain ⟨C',dF,PJ⟩:=dF
   rw [rb ops _ k _ (B1 k o qN)] at dF
   have iL:=tr (P:=P) (S0:=S1) (w0:=w1) (Q:=Q) (n:=n) (T:=T) (L:=L) (a:=a') (w:=w') (col:=oa Fs G (st i).col) xo MM hk qN PA (fb i hi) (by rw [CG _ (LL k o hk qN)];exact dF) PJ (by rw [lT DU];exact e1) fS
   have fin:∀ru fa,ib S1 w1 n ⟨dp ops (oa Fs G (st i).col) (eg L k) T++(st i).kept,(st i).H⟩ ru fa->JF P n T Ws Fs ops st S0 w0 (eg L k) ru fa:=by
    intro ru fa h
    refine ⟨i,S1,w1,G,hi,fun j2 W2 h2=>?_,M_.skip DU,h⟩
    have e:W2≠k:=fun e=>by subst e;exact Kx (List.mem_of_getElem? h2)
    unfold eg;rw [if_neg e];exact hW j2 W2 h2
   split
   ·rename_i hw
    rw [if_pos hw] at iL
    exact Oper.wp_mono fin iL
   ·rename_i hw
    rw [if_neg hw] at iL
    exact fin _ _ iL
 ·intro late s1 L a' w' LF B3 f_ ⟨i,S1,w1,G,hi,hW,M_,fS⟩
  unfold Ag at B3
  rw [P_] at B3
  have DY:∀f∈Fs,L f=true:=fun f hf=>f_ f (Pp f hf) fun q=>(LF f q).2 hf
  have e:i=Ws.length:=by
   rcases Nat.lt_or_ge i Ws.length with h|h
   ·have Ko:Ws[i]?=some (Ws[i]'h):=List.getElem?_eq_getElem h
    have:=(hW i _ Ko).1 (f_ _ (MK _ (List.getElem_mem h)) fun q=>(LF _ q).1 (List.getElem_mem h))
    omega
   ·omega
  subst e
  have hlen:(st Ws.length).col.length=T:=by
   obtain ⟨last,first,old,Cd,Fb,KM⟩:=vp Ws.length hi
   obtain ⟨d1,-,-⟩:=jo _ 0 [] _ _ Fb KM rfl
   rw [d1,List.length_take];omega
  have Rq:∀f∈Fs,∀o d t z,ops[f]?=some o->jn P n o=some (d,t,z)->a'.tmps.getD d undef=EM (G f):=fun f hf o d t z ho H2=>by
   obtain ⟨ck,bU⟩:=fS
   have lg:look (dp ops (oa Fs G (st Ws.length).col) L T++(st Ws.length).kept) d=some (.val (EM (G f))):=by
    rw [bI,gi xo _ L T f d o (.val (EM (G f))) (Pp f hf) (DY f hf) ho (jm H2).2.2.1 (by rw [sS hf,List.getElem?_eq_getElem (by rw [hlen];exact Pp f hf)];rfl)]
    rfl
   exact bE (bU.ct d _ lg)
  have lL:∀b,w0.heap.size≤b->S0.S b:=fun b hb=>lr.new b (.inl hb)
  have BT:ib S1 w1 n ⟨iX (ops.take T) (zJ late (st Ws.length).col)++(st Ws.length).kept,(st Ws.length).H⟩ a' w':=by
   obtain ⟨ck,bU⟩:=fS
   refine ⟨ck,aH.sub bU fun i x hx=>?_⟩
   rw [bI] at hx ⊢
   cases hh:look (iX (ops.take T) (zJ late (st Ws.length).col)) i with
   | some y =>
    rw [hh] at hx
    simp at hx;subst hx
    obtain ⟨k,o,h1,h2,h3⟩:=kC _ _ _ _ hh
    have vm:k<T:=by have:=(List.getElem?_eq_some_iff.1 h1).1;rw [List.length_take] at this;omega
    rw [Ho] at h3
    cases hc:(st Ws.length).col[k]? with
    | none=>rw [hc] at h3;cases h3
    | some z =>
     rw [hc] at h3
     simp only [Option.map_some,Option.some.injEq] at h3
     by_cases iw:late.any (Nat.beq k)=true
     ·rw [iw] at h3
      exact .inr h3.symm
     simp only [Bool.not_eq_true] at iw
     rw [iw] at h3
     subst h3
     by_cases DU:k∈Fs
     ·right
      obtain ⟨last,first,old,Cd,Fb,KM⟩:=vp Ws.length hi
      obtain ⟨-,-,c3⟩:=jo _ 0 [] _ _ Fb KM rfl
      obtain ⟨x',D2,e1,e2,e3⟩:=c3 k o h1
      simp only [Nat.zero_add] at e1 e3
      unfold qa at e3
      rw [any_beq.2 (List.mem_append.2 (.inr DU))] at e3
      simp only at e3
      rw [hc] at e1;injection e1 with e1
      injection e3 with e3;injection e3 with e3 _
      rw [e1,←e3]
     ·left
      rw [gi xo _ L T k i o z vm (f_ k vm fun q=>by rw [any_beq.2 q] at iw;cases iw) (bT _ _ _ _ h1) h2 (by rw [lT DU];exact hc)];rfl
   | none =>
    rw [hh] at hx
    simp at hx
    left
    rw [i4 fun j p hj hp=>fb _ (Nat.le_refl _) i x hx j p hj hp]
    simpa using hx
  obtain ⟨S2,Kn,mI⟩:=wG (P:=P) (n:=n) (ops:=ops) (S0:=S0) (w0:=w0) (w1:=w1) (w:=w') (a:=a') (G:=G) lL Fs _ s1 S1 Ry B3 M_.z (fun f hf o d t z ho H2=>by
   obtain ⟨k1,o',d',t',z',k2,k3,k4⟩:=M_.aside f hf (DY f hf)
   rw [ho] at k2;cases k2
   rw [H2] at k3;cases k3
   exact ⟨k1,k4,Rq f hf o d t z ho H2⟩) (fun f hf f' KA cK=>M_.inj f hf f' KA (DY f hf) (DY f' KA) cK) BT
  exact ⟨S2,w1,Kn,mI⟩
theorem Cq {n T:Nat} {Ws Fs:List Nat} {hs:List (Nat×Hint)} {s s':AS} {C:List Prop} (he:xQ P n T Ws Fs ops hs s=some (s',C)) (hC:bu C) {a:Act} {w:World} (fS:ib S0 w0 n s a w) (hQ:∀a' w',mL S0 w0 n s' a' w'->Q .normal a' w'):P.follows .mixedOrders=true∧wpAny P .any ops.toArray Q ops.toArray.size (Array.replicate ops.toArray.size false) a {w with drawn:=w.drawn+1}:=by
 unfold xQ at he
 split at he
 case h_2=>cases he
 rename_i l C1 hm hT hh
 split at he
 case h_2=>cases he
 rename_i s1 B3
 split at he
 case h_2=>cases he
 rename_i s2 D ot
 cases he
 obtain ⟨iz,hD⟩:=bM.1 hC
 obtain ⟨hB,h1,h2,h3⟩:=DV (Q:=Q) hh iz fS
 unfold og at hT
 simp only [Bool.and_eq_true,decide_eq_true_eq] at hT
 obtain ⟨⟨⟨FX,KL⟩,KK⟩,KJ⟩:=hT
 refine ⟨hm,mP (n:=n) FX KL KK KJ hB (JF P n T Ws Fs ops (fun i=>l.getD i default) S0 w0) (fun k o L a' w' hk ho An hd hc z_ hJ=>h2 k o L a' w' hk ho An hd hc z_ hJ) ?_ ops.toArray.size _ a _ ⟨by simp,fun k o hk=>?_⟩ h1 (fun j _=>by rw [getD_replicate_false]) (by simp)⟩
 ·intro L a' w' f_ z_ hJ
  obtain ⟨S2,w1,Kn,mI⟩:=h3 [] s1 L a' w' (fun k hk=>by cases hk) B3 (fun k hk _=>f_ k hk) hJ
  have lh:=jD (S0:=S2) (w0:=w1) (Q:=Q) _ _ _ _ _ ot hD a' w' mI fun a2 w2 h2=>hQ a2 w2 (mL.after Kn h2.one)
  simpa using lh
 ·rw [getD_replicate_false] at hk;cases hk
def NF (M q:Nat) (Ws Fs:List Nat) (o:Oper):Bool:=Nat.blt q M && !(Ws.any (Nat.beq q)) && !(Fs.any (Nat.beq q)) && (List.range M).all fun k=>Nat.beq k q || (ba o).any (Nat.beq k)
theorem CU {M q:Nat} {Ws Fs:List Nat} {o:Oper} (h:NF M q Ws Fs o=true):q<M∧q ∉ Ws∧q ∉ Fs∧ ∀k,k<M->k≠q->k∈ba o:=by
 unfold NF at h
 simp only [Bool.and_eq_true] at h
 obtain ⟨⟨⟨h1,h2⟩,h3⟩,h4⟩:=h
 refine ⟨by simpa [Nat.blt_eq] using h1,fun q=>(by rw [any_beq.2 q] at h2;cases h2),fun q=>(by rw [any_beq.2 q] at h3;cases h3),fun k hk cK=>?_⟩
 have:=List.all_eq_true.1 h4 k (List.mem_range.2 hk)
 rw [Bool.or_eq_true] at this
 exact this.elim (fun e=>absurd (Nat.eq_of_beq_eq_true e) cK) any_beq.1
def uy (s:AS) (d:Nat):AS:=match look s.F d with|some x=>⟨(d,x)::cF s.F d,s.H⟩|none=>s
theorem Fh {S0:bf} {w0 w:World} {n:Nat} {s:AS} {d:Nat} {a:Act} (h:ib S0 w0 n s a w):ib S0 w0 n (uy s d) a w:=by
 unfold uy
 split
 ·rename_i x hx
  obtain ⟨φ,h⟩:=h
  refine ⟨φ,aH.sub (F:=s.F) h fun i y hy=>.inl ?_⟩
  rw [aB] at hy
  split at hy
  ·rename_i e;subst e;cases hy;exact hx
  ·rename_i e;rw [bC,if_neg e] at hy;exact hy
 ·exact h
def xP (P:Program) (n M q:Nat) (Ws Fs:List Nat) (ops:List Oper) (hs:List (Nat×Hint)) (s:AS):Option (AS×AS×AS×List Prop) :=
 match P.follows .mixedOrders,og ops.toArray (M+1),sP P n M Ws Fs ops hs s,ops[M]?,ops[q]? with
 | true,true,some (l,C),some o,some p=>(match NF M q Ws Fs o,o.guard,p.guard,p.dst,Ag P n M Ws Fs [] ops l,Ag P n M Ws Fs [q] ops l with
  | true,none,none,some d,some sa,some sb=>(match AH P n sa o (gl hs M),AH P n sb o (gl hs M) with
   | some (sA,D1),some (sB,D2)=>(match AH P n sB p (gl hs q) with
    | some (sC,D3)=>(match jS P n ops hs (ops.drop (M+1)) (M+1) sC with
     | some (s',D4)=>some (s',uy sA d,sC,C++(D1++(D2++(D3++D4))))
     | none=>none)
    | none=>none)
   | _,_=>none)
  | _,_,_,_,_,_=>none)
 | _,_,_,_,_=>none
theorem Cp {n M q:Nat} {Ws Fs:List Nat} {hs:List (Nat×Hint)} {s s' x:AS} {C:List Prop} (he:xP P n M q Ws Fs ops hs s=some (s',x,x,C)) (hC:bu C) {a:Act} {w:World} (fS:ib S0 w0 n s a w) (hQ:∀a' w',mL S0 w0 n s' a' w'->Q .normal a' w'):P.follows .mixedOrders=true∧wpAny P .any ops.toArray Q ops.toArray.size (Array.replicate ops.toArray.size false) a {w with drawn:=w.drawn+1}:=by
 unfold xP at he
 split at he
 case h_2=>cases he
 rename_i l C1 o p hm hT hh ho hp
 split at he
 case h_2=>cases he
 rename_i d sa sb R2 Ut Uq VS Ul Uk
 split at he
 case h_2=>cases he
 rename_i sA D1 sB D2 hA Vm
 split at he
 case h_2=>cases he
 rename_i sC D3 Vl
 split at he
 case h_2=>cases he
 rename_i s2 D4 ot
 have he:=Option.some.inj he
 have e1:s2=s':=congrArg (·.1) he
 have e2:uy sA d=x:=congrArg (·.2.1) he
 have e3:sC=x:=congrArg (·.2.2.1) he
 have e4:C1++(D1++(D2++(D3++D4)))=C:=congrArg (·.2.2.2) he
 subst e1
 have e5:uy sA d=sC:=e2.trans e3.symm
 rw [←e4] at hC
 obtain ⟨iz,hC⟩:=bM.1 hC
 obtain ⟨Vj,hC⟩:=bM.1 hC
 obtain ⟨Vi,hC⟩:=bM.1 hC
 obtain ⟨Vh,Vg⟩:=bM.1 hC
 obtain ⟨b1,b2,b3,b4⟩:=CU R2
 obtain ⟨hB,h1,h2,h3⟩:=DV (Q:=Q) hh iz fS
 unfold og at hT
 simp only [Bool.and_eq_true,decide_eq_true_eq] at hT
 obtain ⟨⟨⟨FX,KL⟩,KK⟩,KJ⟩:=hT
 let J:(Nat->Bool)->Act->World->Prop:=fun L a' w'=>(L M=false∧JF P n M Ws Fs ops (fun i=>l.getD i default) S0 w0 L a' w')∨(L M=true∧ ∃S2 w2,kS S0 w0 S2 w2 []∧((L q=true∧ib S2 w2 n sC a' w')∨(L q=false∧ib S2 w2 n sB a' w')))
 have jP:∀(o:Oper) (a':Act),o.guard=none->Region.wanted o (yielded ops.toArray a'.tmps)=true:=fun o a' hg=>by unfold Region.wanted;rw [hg]
 refine ⟨hm,mP (n:=n) FX KL KK KJ hB J ?_ ?_ ops.toArray.size _ a _ ⟨by simp,fun k o hk=>?_⟩ (.inl ⟨getD_replicate_false _ _,h1⟩) (fun j _=>by rw [getD_replicate_false]) (by simp)⟩
 ·intro k o1 L a' w' hk Td An hd hc z_ hJ
  have FT:ops[k]?=some o1:=by simpa using Td
  have cK:q≠M:=ah
  by_cases ek:k=M
  ·subst ek
   rw [ho] at FT;cases FT
   rw [if_pos (jP o a' Ut)]
   have TC:=hJ.resolve_right fun h=>by rw [An] at h;cases h.1
   have f_:∀j,j<k->j≠q->L j=true:=fun j hj RJ=>hd j (b4 j hj RJ)
   have pk:eg L k k=true:=by unfold eg;rw [if_pos rfl]
   have pq:eg L k q=L q:=by unfold eg;rw [if_neg cK]
   cases hq:L q with
   | true =>
    obtain ⟨S2,w1,Kn,mI⟩:=h3 [] sa L a' w' (fun k hk=>by cases hk) Ul (fun j hj _=>by
     by_cases e:j=q
     ·rw [e];exact hq
     ·exact f_ j hj e) TC.2
    exact Oper.wp_mono (fun ru fa h=>.inr ⟨pk,S2,w1,Kn,.inl ⟨by rw [pq];exact hq,by rw [←e5];exact Fh h⟩⟩) (nM hA Vj S2 w1 a' w' Q mI)
   | false =>
    obtain ⟨S2,w1,Kn,mI⟩:=h3 [q] sb L a' w' (fun k hk=>by obtain rfl:=List.mem_singleton.1 hk;exact ⟨b2,b3⟩) Uk (fun j hj RJ=>f_ j hj fun e=>RJ (by simp [e])) TC.2
    exact Oper.wp_mono (fun ru fa h=>.inr ⟨pk,S2,w1,Kn,.inr ⟨by rw [pq];exact hq,h⟩⟩) (nM Vm Vi S2 w1 a' w' Q mI)
  ·have Tk:k<M:=ah
   have pM:eg L k M=L M:=by unfold eg;rw [if_neg fun e=>ek e.symm]
   rcases hJ with ⟨hM,hJ⟩|⟨hM,S2,w2,hz,hJ⟩
   ·have:=h2 k o1 L a' w' Tk Td An hd hc (fun j hj=>by
     by_cases e:j=M
     ·rw [e];exact hM
     ·exact z_ j ah) hJ
    split
    ·rename_i hw
     rw [if_pos hw] at this
     exact Oper.wp_mono (fun ru fa h=>.inl ⟨by rw [pM];exact hM,h⟩) this
    ·rename_i hw
     rw [if_neg hw] at this
     exact .inl ⟨by rw [pM];exact hM,this⟩
   ·have VA:k=q:=Classical.byContradiction fun e=>by
     have:=hc M o hM (by simpa using ho) k (b4 k Tk e)
     rw [An] at this;cases this
    subst VA
    rw [hp] at FT;cases FT
    rw [if_pos (jP p a' Uq)]
    have hs:=(hJ.resolve_left fun h=>by rw [An] at h;cases h.1).2
    exact Oper.wp_mono (fun ru fa h=>.inr ⟨by rw [pM];exact hM,S2,w2,hz,.inl ⟨by unfold eg;rw [if_pos rfl],h⟩⟩) (nM Vl Vh S2 w2 a' w' Q hs)
 ·intro L a' w' f_ z_ hJ
  have hM:=f_ M ah
  have hq:=f_ q ah
  obtain ⟨-,S2,w2,hz,hJ⟩:=hJ.resolve_left fun h=>by rw [hM] at h;cases h.1
  have hs:=(hJ.resolve_right fun h=>by rw [hq] at h;cases h.1).2
  have lh:=jD (S0:=S2) (w0:=w2) (Q:=Q) _ _ _ _ _ ot Vg a' w' hs fun a2 w2 h2=>hQ a2 w2 (mL.after hz h2.one)
  simpa using lh
 ·rw [getD_replicate_false] at hk;cases hk
end
def xG (P:Program) (n T:Nat) (Ws Fs:List Nat) (hs:List (Nat×Hint)) (c:Code) (s:AS):Option (AS×List Prop) :=
 match c with
 | .region _ ⟨l⟩ true=>xQ P n T Ws Fs l hs s
 | _=>none
theorem a7.QW {P:Program} {n:Nat} {c:Code} {Q:Exit->AS->Prop} {s s':AS} {C:List Prop} (T:Nat) (Ws Fs:List Nat) (hs:List (Nat×Hint)) (he:xG P n T Ws Fs hs c s=some (s',C)) (hC:bu C) (h:Q .normal s'):a7 P n c Q s:=by
 intro S0 w0 a w fS
 unfold xG at he
 split at he
 ·exact Cq (S0:=S0) (w0:=w0) he hC fS fun a' w' bU=>⟨s',h,bU⟩
 ·cases he
def mo (P:Program) (n M q:Nat) (Ws Fs:List Nat) (hs:List (Nat×Hint)) (c:Code) (s:AS):Option (AS×AS×AS×List Prop) :=
 match c with
 | .region _ ⟨l⟩ true=>xP P n M q Ws Fs l hs s
 | _=>none
def Mj (r:Option (AS×AS×AS×List Prop)):Option (AS×List Prop):=match r with|some (s',_,_,C)=>some (s',C)|none=>none
def Lq (r:Option (AS×AS×AS×List Prop)):AS:=match r with|some (_,x,_,_)=>x|none=>⟨[],[]⟩
def Lp (r:Option (AS×AS×AS×List Prop)):AS:=match r with|some (_,_,y,_)=>y|none=>⟨[],[]⟩
theorem a7.QV {P:Program} {n:Nat} {c:Code} {Q:Exit->AS->Prop} {s s':AS} {C:List Prop} (M q:Nat) (Ws Fs:List Nat) (hs:List (Nat×Hint)) (hx:Lq (mo P n M q Ws Fs hs c s)=Lp (mo P n M q Ws Fs hs c s)) (he:Mj (mo P n M q Ws Fs hs c s)=some (s',C)) (hC:bu C) (h:Q .normal s'):a7 P n c Q s:=by
 intro S0 w0 a w fS
 generalize hr:mo P n M q Ws Fs hs c s=r at he hx
 match r,he,hx with
 | some (_,x,y,_),he,hx =>
  have he:some (_,_)=some (s',C):=he
  injection he with he
  injection he with e1 e2
  have hx:x=y:=hx
  subst e1 e2 hx
  unfold mo at hr
  split at hr
  ·exact Cp (S0:=S0) (w0:=w0) hr hC fS fun a' w' bU=>⟨_,h,bU⟩
  ·cases hr
end Go.Proofs.YtjgbhhnghedgdaaGreatDoor
