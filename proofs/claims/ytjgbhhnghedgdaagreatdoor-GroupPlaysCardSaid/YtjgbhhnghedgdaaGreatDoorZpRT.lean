import Derived.Test.YtjgbhhnghedgdaaGreatDoorZpRS
import Derived.Test.YtjgbhhnghedgdaaGreatDoorZpRI
set_option linter.all false
namespace Go.Proofs.YtjgbhhnghedgdaaGreatDoor
open Go.RowKit
section
variable {S0:bm} {w0 w:World} {n:Nat} {s:AS} {a:Act} {φ:Nat->Option Nat} {g:Nat}
def yy (S0:bm) (φ:Nat->Option Nat) (g:Nat):bm:=⟨fun b=>S0.S b∧b≠g,fun b=>∃id,φ id=some b,S0.fix,S0.r8⟩
theorem uJ:aM (yy S0 φ g) w φ []=aM S0 w φ [g]:=by
 funext b
 apply propext
 unfold aM yy
 simp only [List.not_mem_nil,not_false_eq_true,true_and,List.mem_singleton]
 exact ⟨fun ⟨h1,h2,h3,h4⟩=>⟨h1,h4,h2,h3⟩,fun ⟨h1,h2,h3,h4⟩=>⟨h1,h3,h4,h2⟩⟩
theorem aG.aside (h:aG S0 w0 n [g] s a w φ) (hg:g<w.heap.size):kV S0 w0 (yy S0 φ g) w []∧aG (yy S0 φ g) w n [] s a w φ:=by
 have hX:∀b,(∃id,φ id=some b)->w0.heap.size≤b∨S0.X b:=fun b ⟨id,hid⟩=>(h.cU id b hid).1.2
 refine ⟨⟨h.cV,fun b hb=>hb.1,hX,rfl,rfl,List.nodup_nil,fun r hr=>by cases hr⟩,⟨h.jL,h.jO,⟨rfl,rfl,rfl,Nat.le_refl _,fun _ _ _=>rfl,h.cV.mw,fun b hb=>h.sq hb⟩,?_,?_,h.only,h.inj,fun id b hid=>⟨⟨(h.cU id b hid).1.1,.inr ⟨id,hid⟩⟩,(h.cU id b hid).2⟩,fun _ _ _=>by simp,?_⟩⟩
 ·rw [uJ];exact h.cB
 ·rw [uJ];exact h.rows
 ·rintro b (hb|⟨id,hid⟩)
  ·exact ⟨h.new b (.inl (Nat.le_trans h.cV.size hb)),aj⟩
  ·exact ⟨h.new b (hX b ⟨id,hid⟩),fun e=>h.apart id b hid (by simp [e])⟩
def vd (S1:bm) (g:Nat):bm:=⟨fun b=>S1.S b∨b=g,fun b=>S1.X b∨b=g,S1.fix,S1.r8⟩
theorem wI {S1:bm} (hS:¬S1.S g):aM (vd S1 g) w φ [g]=aM S1 w φ []:=by
 funext b
 apply propext
 unfold aM vd
 simp only [List.not_mem_nil,not_false_eq_true,true_and,List.mem_singleton]
 constructor
 ·rintro ⟨h1,h2,h3,h4|h4⟩
  ·exact ⟨h1,h3,h4⟩
  ·exact absurd h4 h2
 ·rintro ⟨h1,h3,h4⟩
  exact ⟨h1,fun e=>hS (e ▸ h4),h3,.inl h4⟩
theorem aG.back {S1:bm} {w1:World} (h:aG S1 w1 n [] s a w φ) (hg:g<w1.heap.size) (hS:¬S1.S g) (hX:¬S1.X g) (hT:¬TB g):aG (vd S1 g) w1 n [g] s a w φ:=by
 refine ⟨h.jL,h.jO,⟨h.cV.os,h.cV.tape,h.cV.output,h.cV.size,fun k hk hx=>h.cV.block k hk fun q=>hx (.inl q),h.cV.g0,?_⟩,?_,?_,h.only,h.inj,fun id b hid=>⟨⟨(h.cU id b hid).1.1,(h.cU id b hid).1.2.imp (fun q=>q) .inl⟩,(h.cU id b hid).2⟩,?_,?_⟩
 ·rintro b hb (q|q)
  ·exact h.cV.gx b hb q
  ·exact hT (q ▸ hb)
 ·rw [wI hS];exact h.cB
 ·rw [wI hS];exact h.rows
 ·intro id b hid hm
  have e:b=g:=by simpa using hm
  subst e
  rcases (h.cU id b hid).1.2 with q|q
  ·omega
  ·exact hX q
 ·rintro b (q|q|q)
  ·exact .inl (h.new b (.inl q))
  ·exact .inl (h.new b (.inr q))
  ·exact .inr q
end
section
variable {P:Program} {S0:bm} {w0 w:World} {n:Nat} {s:AS} {a:Act} {Q:Exit->Act->World->Prop}
structure Aside (S0:bm) (w0:World) (g:Nat) (o:Obj):Prop where
 lt:g<w0.heap.size
 S:¬S0.S g
 X:¬S0.X g
 tb:¬TB g
 obj:w0.heap[g]?=some o
theorem Bm {o:Oper} {t d:Nat} {z:Value} (ho:o.op= .alloc t) (hd:o.dst=some d) (N8:d<n) (hz:(P.info? t).bind (·.zero)=some z) (h:iv S0 w0 n s a w) :
  o.wp P a w (fun a' w'=>∃g S1,w0.heap.size≤g∧kV S0 w0 S1 w' []∧Aside S1 w' g (.cells z.cells t (0,0))∧iv S1 w' n (lg s d (.val (.pointer (some ⟨g,0,none⟩)))) a' w') Q:=by
 obtain ⟨φ,hs⟩:=h
 have ct:(execOp a.eval o).run P w= .ok (.value (.pointer (some ⟨w.heap.size,0,none⟩))) {w with heap:=w.heap.push (.cells z.cells t (0,0))}:=by
  unfold execOp
  simp [ho,Instr.alloc,iM hz,newVar,newRow]
 refine cR ct ?_
 rw [hd]
 have h1:=hs.await w.heap.size (Nat.le_refl _)
 have h2:=h1.vP (w':={w with heap:=w.heap.push (.cells z.cells t (0,0))}) (fun g hg=>by simp at hg;rw [hg];exact .inl hs.cV.size) rfl rfl rfl (by simp) (fun b hb _=>cJ w _ b hb)
 have h3:=h2.put N8 (v:=.pointer (some ⟨w.heap.size,0,none⟩)) (.rep (.val _))
 obtain ⟨k1,k2⟩:=h3.aside (by simp)
 refine ⟨w.heap.size,_,hs.cV.size,k1,⟨by simp,fun q=>q.2 rfl,fun ⟨id,hid⟩=>h3.apart id _ hid (by simp),fun hb=>?_,dE w _⟩,⟨φ,k2⟩⟩
 have:=hs.cV.g0.lt hb
 have:=hs.cV.size
 omega
theorem Dj {g t d:Nat} {z:Value} (hA:Aside S0 w0 g (.cells z.cells t (0,0))) (hd:d<1000000000000) (gb:look s.H d=none) (h:iv S0 w0 n s a w) (hv:a.tmps.getD d undef= .pointer (some ⟨g,0,none⟩)) :
  iv (vd S0 g) w0 n ⟨(d,.addr d 0)::cN s.F d,(d,⟨rv P t,false,true,z.cells.toList.map bB⟩)::s.H⟩ a w:=by
 obtain ⟨φ,hs⟩:=h
 have h1:=hs.back hA.lt hA.S hA.X hA.tb
 have dq:=hs.cV.size
 have hg:w.heap[g]?=some (.cells z.cells t (0,0)):=(hs.cV.block g hA.lt hA.X).trans hA.obj
 have h2:=h1.wQ (id:=d) (r:=⟨rv P t,false,true,z.cells.toList.map bB⟩) ⟨.inl hd,.inr (.inr rfl)⟩ (Nat.lt_of_lt_of_le hA.lt dq) (by simp) gb ⟨z.cells,t,(0,0),hg,by simp,by simp,by simp,fun j u x hu hx=>by
  simp only [List.getElem?_map] at hx
  have:z.cells.toList[j]?=some u:=by simpa using hu
  rw [this] at hx;injection hx with hx;subst hx
  exact .rep (fP u)⟩
 refine ⟨_,h2.jL,h2.jO,h2.cV,fun i av hi=>?_,h2.rows,h2.only,h2.inj,h2.cU,h2.apart,h2.new⟩
 rw [aD] at hi
 by_cases e:d=i
 ·subst e
  rw [if_pos rfl] at hi;injection hi with hi;subst hi
  rw [hv]
  exact .addr d 0 _ _ _ (by
   show az ((d,(⟨rv P t,false,true,z.cells.toList.map bB⟩:Row))::s.H) _ d=_
   rw [bq (r:=⟨rv P t,false,true,z.cells.toList.map bB⟩) (by rw [aD,if_pos rfl])]
   unfold fD;rw [if_pos rfl])
 ·rw [if_neg e,bH,if_neg e] at hi
  exact h2.cB i av hi
end
def lU (Fs:List Nat) (P:Program) (n T:Nat) (ops:List Oper) (hs:List (Nat×Hint)) (R:List (List Nat)):List Nat->List Nat->List Nat->Bool->List AV->List (Nat×AV)->List (Nat×Row)->Option (List nG×List Prop)
 | [],done,last,first,old,kept,H=>(match yr P ops hs R done Fs last first old kept H (ops.take T) 0 [] with
  | some (col,C)=>some ([⟨col,kept,H⟩],C)
  | none=>none)
 | W::rest,done,last,first,old,kept,H=>(match yr P ops hs R done (W::rest++Fs) last first old kept H (ops.take T) 0 [],ops[W]? with
  | some (col,C),some o=>(match xW P ops n ⟨ji ops col (bk o)++kept,H⟩ o (gv hs W) with
   | some (Tr,x,H',D)=>(match lU Fs P n T ops hs R rest (done++ [W]) [W] false ((col.map Tr).set W x) (dS Tr kept) H' with
    | some (l,E)=>some (⟨col,kept,H⟩::l,C++(D++E))
    | none=>none)
   | none=>none)
  | _,_=>none)
def Dp (Fs:List Nat) (P:Program) (T:Nat) (ops:List Oper) (hs:List (Nat×Hint)) (R:List (List Nat)) (rest done last:List Nat) (first:Bool) (old:List AV) (st:nG):Prop :=
 ∃C,yr P ops hs R done (rest++Fs) last first old st.kept st.H (ops.take T) 0 []=some (st.col,C)∧bx C
theorem tA {Fs:List Nat} {P:Program} {n T:Nat} {ops:List Oper} {hs:List (Nat×Hint)} {R:List (List Nat)}:∀(rest done last:List Nat) (first:Bool) (old:List AV) (kept:List (Nat×AV)) (H:List (Nat×Row)) (l:List nG) (E:List Prop),
  lU Fs P n T ops hs R rest done last first old kept H=some (l,E)->bx E ->
  (l.getD 0 default).kept=kept∧(l.getD 0 default).H=H∧Dp Fs P T ops hs R rest done last first old (l.getD 0 default) ∧
  ∀(i W:Nat),rest[i]?=some W-> ∃o Tr x D,ops[W]?=some o∧xW P ops n ⟨ji ops (l.getD i default).col (bk o)++(l.getD i default).kept,(l.getD i default).H⟩ o (gv hs W)=some (Tr,x,(l.getD (i+1) default).H,D)∧bx D ∧
   (l.getD (i+1) default).kept=dS Tr (l.getD i default).kept∧Dp Fs P T ops hs R (rest.drop (i+1)) (done++rest.take (i+1)) [W] false (((l.getD i default).col.map Tr).set W x) (l.getD (i+1) default)
 | [],done,last,first,old,kept,H,l,E,he,hE=>by
  simp only [lU] at he
  split at he
  ·rename_i col C hc
   cases he
   exact ⟨rfl,rfl,⟨_,hc,hE⟩,fun i W h=>by simp at h⟩
  ·cases he
 | W::rest,done,last,first,old,kept,H,l,E,he,hE=>by
  simp only [lU] at he
  split at he
  ·rename_i col C o hc ho
   split at he
   ·rename_i Tr x H' D hw
    split at he
    ·rename_i l' E' MD
     cases he
     obtain ⟨hC,Se⟩:=bQ.1 hE
     obtain ⟨hD,Sd⟩:=bQ.1 Se
     obtain ⟨h1,h2,h3,h4⟩:=tA rest _ _ _ _ _ _ _ _ MD Sd
     refine ⟨rfl,rfl,⟨_,hc,hC⟩,fun i W' hi=>?_⟩
     cases i with
     | zero =>
      simp at hi;subst hi
      exact ⟨o,Tr,x,D,ho,by rw [←h2] at hw;exact hw,hD,h1,by simpa using h3⟩
     | succ i =>
      obtain ⟨o',QI,x',D',k1,k2,k3,k4,k5⟩:=h4 i W' (by simpa using hi)
      refine ⟨o',QI,x',D',k1,k2,k3,k4,?_⟩
      have e:done++(W::rest).take (i+1+1)=done++ [W]++rest.take (i+1):=by simp
      rw [e]
      exact k5
    ·cases he
   ·cases he
  ·cases he
theorem Ep {P:Program} {n:Nat} {F:List (Nat×AV)} {H H':List (Nat×Row)} {o:Oper} {h:Hint} {Tr:AV->AV} {X:AV} {C:List Prop} (dU:Oh P n ⟨F,H⟩ o h=some (Tr,X,H',C)) (v:Value):Tr (.val v)= .val v:=by
 have ui:∀l:List Nat,ik l (.val v)= .val v:=by
  intro l
  induction l with
  | nil=>rfl
  | cons x l ih=>first|exact ih|(simp only [ik];exact ih)
 unfold Oh at dU
 split at dU
 ·split at dU
  ·cases dU
   unfold Jm
   split<;>rfl
  ·cases dU
 ·split at dU
  ·cases dU;rfl
  ·cases dU
 ·split at dU
  ·split at dU
   ·cases dU
    simp only [ui]
   ·cases dU
  ·split at dU
   ·cases dU
    simp only [ui]
   ·cases dU
  ·cases dU
 ·split at dU
  ·cases dU;rfl
  ·cases dU
 ·split at dU
  ·split at dU
   ·cases dU;rfl
   ·cases dU
  ·cases dU
 ·cases dU
theorem IA {P:Program} {n:Nat} {ops:List Oper} {F:List (Nat×AV)} {H H':List (Nat×Row)} {o:Oper} {h:Hint} {Tr:AV->AV} {X:AV} {C:List Prop} (dU:xW P ops n ⟨F,H⟩ o h=some (Tr,X,H',C)) (v:Value):Tr (.val v)= .val v:=by
 unfold xW at dU
 split at dU
 ·exact Ep dU v
 ·split at dU
  ·split at dU
   ·split at dU
    ·rename_i he
     cases dU
     exact Ep he v
    ·cases dU
   ·cases dU
  ·cases dU
def jv (P:Program) (n:Nat) (o:Oper):Option (Nat×Nat×Value) :=
 match o.guard,o.op,o.dst with
 | none,.alloc t,some d=>(match (P.info? t).bind (·.zero),Nat.blt d n,Nat.blt d 1000000000000 with
  | some z,true,true=>some (d,t,z)
  | _,_,_=>none)
 | _,_,_=>none
theorem ju {P:Program} {n:Nat} {o:Oper} {d t:Nat} {z:Value} (h:jv P n o=some (d,t,z)):o.guard=none∧o.op= .alloc t∧o.dst=some d∧(P.info? t).bind (·.zero)=some z∧d<n∧d<1000000000000:=by
 unfold jv at h
 split at h
 ·rename_i t' d' hg ho hd
  split at h
  ·rename_i z' hz h1 h2
   injection h with h
   injection h with e1 e2
   injection e2 with e2 e3
   subst e1;subst e2;subst e3
   exact ⟨hg,ho,hd,hz,by simpa [Nat.blt_eq] using h1,by simpa [Nat.blt_eq] using h2⟩
  ·cases h
 ·cases h
def E2 (g:Nat):Value:=.pointer (some ⟨g,0,none⟩)
def ov (Fs:List Nat) (G:Nat->Nat) (col:List AV):List AV:=col.mapIdx fun q x=>if q∈Fs then .val (E2 (G q)) else x
theorem sZ {Fs:List Nat} {G:Nat->Nat} {col:List AV} {q:Nat} (h:q∈Fs):(ov Fs G col)[q]?=col[q]?.map fun _=>.val (E2 (G q)):=by
 unfold ov
 rw [List.getElem?_mapIdx]
 cases col[q]?<;>simp [h]
theorem lX {Fs:List Nat} {G:Nat->Nat} {col:List AV} {q:Nat} (h:q ∉ Fs):(ov Fs G col)[q]?=col[q]?:=by
 unfold ov
 rw [List.getElem?_mapIdx]
 cases col[q]?<;>simp [h]
theorem C4 {ops:List Oper} {Fs:List Nat} {G:Nat->Nat} {col:List AV}:∀(l:List Nat),(∀d∈l,d ∉ Fs)->ji ops (ov Fs G col) l=ji ops col l
 | [],_=>rfl
 | d::l,h=>by
  simp only [ji,lX (h d (by simp)),C4 l fun e he=>h e (by simp [he])]
def NB (P:Program) (s:AS) (d t:Nat) (z:Value):AS:=⟨(d,.addr d 0)::cN s.F d,(d,⟨rv P t,false,true,z.cells.toList.map bB⟩)::s.H⟩
def yD (P:Program) (n:Nat) (ops:List Oper):List Nat->AS->Option AS
 | [],s=>some s
 | f::l,s=>(match ops[f]? with
  | some o=>(match jv P n o with
   | some (d,t,z)=>(match look s.H d with
    | none=>yD P n ops l (NB P s d t z)
    | some _=>none)
   | none=>none)
  | none=>none)
theorem Aside.next {S1:bm} {w1:World} {g g':Nat} {o:Obj} (h:Aside S1 w1 g' o) (cT:g'≠g):Aside (vd S1 g) w1 g' o :=
 ⟨h.lt,fun q=>q.elim h.S cT,fun q=>q.elim h.X cT,h.tb,h.obj⟩
theorem kV.back {S0 S1:bm} {w0 w1:World} {g:Nat} (h:kV S0 w0 S1 w1 []) (hg:w0.heap.size≤g) (hS:S0.S g):kV S0 w0 (vd S1 g) w1 [] :=
 ⟨h.kept,fun b q=>q.elim (h.sub b) fun e=>e ▸ hS,fun b q=>q.elim (h.X b) fun e=>.inl (e ▸ hg),h.fix,h.r8,List.nodup_nil,fun r hr=>by cases hr⟩
section
variable {P:Program} {n:Nat} {ops:List Oper} {S0:bm} {w0 w1 w:World} {a:Act} {G:Nat->Nat}
theorem wR (LN:∀b,w0.heap.size≤b->S0.S b):∀(Fs:List Nat) (s s':AS) (S1:bm),Fs.Nodup->yD P n ops Fs s=some s'->kV S0 w0 S1 w1 [] ->
  (∀f∈Fs,∀o d t z,ops[f]?=some o->jv P n o=some (d,t,z)->w0.heap.size≤G f∧Aside S1 w1 (G f) (.cells z.cells t (0,0))∧a.tmps.getD d undef=E2 (G f)) ->
  (∀f∈Fs,∀f'∈Fs,f≠f'->G f≠G f')->iv S1 w1 n s a w-> ∃S2,kV S0 w0 S2 w1 []∧iv S2 w1 n s' a w
 | [],s,s',S1,_,he,hz,_,_,hs=>by cases he;exact ⟨S1,hz,hs⟩
 | f::l,s,s',S1,hn,he,hz,hA,hG,hs=>by
  simp only [yD] at he
  split at he
  ·rename_i o ho
   split at he
   ·rename_i d t z hf
    split at he
    ·rename_i hl
     obtain ⟨h1,h2,h3⟩:=hA f (by simp) o d t z ho hf
     have hk:=Dj (P:=P) h2 (ju hf).2.2.2.2.2 hl hs h3
     rw [List.nodup_cons] at hn
     refine wR LN l _ s' (vd S1 (G f)) hn.2 he (hz.back h1 (LN _ h1)) (fun f' KG o' d' t' z' qW Gc=>?_) (fun f1 h1 f2 h2 cT=>hG f1 (by simp [h1]) f2 (by simp [h2]) cT) hk
     obtain ⟨k1,k2,k3⟩:=hA f' (by simp [KG]) o' d' t' z' qW Gc
     exact ⟨k1,k2.next (hG f' (by simp [KG]) f (by simp) fun e=>hn.1 (e ▸ KG)),k3⟩
    ·cases he
   ·cases he
  ·cases he
end
theorem Aside.move {S1 S2:bm} {w1 w2:World} {ms:List Nat} {g:Nat} {o:Obj} (h:Aside S1 w1 g o) (k:kV S1 w1 S2 w2 ms):Aside S2 w2 g o :=
 ⟨Nat.lt_of_lt_of_le h.lt k.kept.size,fun q=>h.S (k.sub g q),fun q=>(k.X g q).elim (fun e=>by have:=h.lt;omega) h.X,h.tb,(k.kept.block g h.lt h.X).trans h.obj⟩
def Kb (ops:List Oper) (T:Nat) (Fs:List Nat) (R:List (List Nat)):Bool:=(List.range T).all fun q=> !(hit (R.getD q []) Fs) && match ops[q]? with|some o=> !(hit (bk o) Fs)|none=>true
def NA (Fs Ws:List Nat):Bool:=Fs.all fun f=> !(Ws.any (Nat.beq f))
def KV (P:Program) (n:Nat) (ops:List Oper) (Fs:List Nat):Bool:=Fs.all fun f=>match ops[f]? with|some o=>(jv P n o).isSome && (bk o).isEmpty|none=>false
def sW (P:Program) (n T:Nat) (Ws Fs:List Nat) (ops:List Oper) (hs:List (Nat×Hint)) (s:AS):Option (List nG×List Prop) :=
 match ly ops.toArray n,Nat.ble T ops.length,u_ (mb (ops.take T) []) Ws,wP T Ws,nodupB Ws,wP T Fs,nodupB Fs,NA Fs Ws,Kb ops T Fs (mb (ops.take T) []),KV P n ops Fs with
 | true,true,true,true,true,true,true,true,true,true=>lU Fs P n T ops hs (mb (ops.take T) []) Ws [] [] true [] (nn ((ops.take T).filterMap (·.dst)) s.F) s.H
 | _,_,_,_,_,_,_,_,_,_=>none
def Al (late:List Nat) (col:List AV):List AV:=col.mapIdx fun q x=>match late.any (Nat.beq q) with|true=>.dead|false=>x
theorem HA {late:List Nat} {col:List AV} {q:Nat}:(Al late col)[q]?=col[q]?.map fun x=>match late.any (Nat.beq q) with|true=>.dead|false=>x:=by
 unfold Al;rw [List.getElem?_mapIdx]
def AB (P:Program) (n T:Nat) (Ws Fs late:List Nat) (ops:List Oper) (l:List nG):Option AS:=yD P n ops Fs ⟨i7 (ops.take T) (Al late (l.getD Ws.length default).col)++(l.getD Ws.length default).kept,(l.getD Ws.length default).H⟩
def yh (P:Program) (n T:Nat) (Ws Fs:List Nat) (ops:List Oper) (hs:List (Nat×Hint)) (s:AS):Option (AS×List Prop) :=
 match P.follows .mixedOrders,oy ops.toArray T,sW P n T Ws Fs ops hs s with
 | true,true,some (l,C)=>(match AB P n T Ws Fs [] ops l with
  | some s1=>(match jV P n ops hs (ops.drop T) T s1 with
   | some (s',D)=>some (s',C++D)
   | none=>none)
  | none=>none)
 | _,_,_=>none
structure rE (P:Program) (n:Nat) (ops:List Oper) (Fs:List Nat) (L:Nat->Bool) (G:Nat->Nat) (S0:bm) (w0:World) (S1:bm) (w1:World):Prop where
 z:kV S0 w0 S1 w1 []
 aside:∀f∈Fs,L f=true->w0.heap.size≤G f∧ ∃o d t z,ops[f]?=some o∧jv P n o=some (d,t,z)∧Aside S1 w1 (G f) (.cells z.cells t (0,0))
 inj:∀f∈Fs,∀f'∈Fs,L f=true->L f'=true->f≠f'->G f≠G f'
theorem rE.skip {P:Program} {n:Nat} {ops:List Oper} {Fs:List Nat} {L:Nat->Bool} {G:Nat->Nat} {S0 S1:bm} {w0 w1:World} (h:rE P n ops Fs L G S0 w0 S1 w1) {k:Nat} (hk:k ∉ Fs):rE P n ops Fs (eK L k) G S0 w0 S1 w1:=by
 have e:∀f∈Fs,eK L k f=L f:=fun f hf=>by
  have cT:f≠k:=fun e=>by subst e;exact hk hf
  unfold eK;rw [if_neg cT]
 exact ⟨h.z,fun f hf hL=>h.aside f hf (e f hf ▸ hL),fun f hf f' KG h1 h2=>h.inj f hf f' KG (e f hf ▸ h1) (e f' KG ▸ h2)⟩
section
variable {P:Program} {n T:Nat} {ops:List Oper} {Fs:List Nat} {L:Nat->Bool} {G:Nat->Nat} {S0 S1:bm} {w0 w1 w:World} {a:Act} {Q:Exit->Act->World->Prop} {col:List AV} {kept:List (Nat×AV)} {H:List (Nat×Row)} {k d t:Nat} {z:Value} {o:Oper}
theorem Ct (im:(ops.filterMap (·.dst)).Nodup) (hk:k<T) (ho:ops[k]?=some o) (hf:jv P n o=some (d,t,z)) (Ee:k∈Fs) (AJ:L k=false)
  (fq:∀i x,look kept i=some x-> ∀j p,j<T->ops[j]?=some p->p.dst≠some i) (hF:rE P n ops Fs L G S0 w0 S1 w1) (hs:iv S1 w1 n ⟨dH ops (ov Fs G col) L T++kept,H⟩ a w) :
  o.wp P a w (fun a' w'=>∃S2 w2 G',rE P n ops Fs (eK L k) G' S0 w0 S2 w2∧iv S2 w2 n ⟨dH ops (ov Fs G' col) (eK L k) T++kept,H⟩ a' w') Q:=by
 obtain ⟨-,p2,p3,p4,p5,p6⟩:=ju hf
 refine Oper.wp_mono ?_ (Bm p2 p3 p5 p4 hs)
 rintro a' w' ⟨g,S2,h1,h2,h3,φ,h4⟩
 have cT:∀f,L f=true->f≠k:=fun f hL e=>by subst e;rw [AJ] at hL;cases hL
 have dZ:∀f,f≠k->eK L k f=L f:=fun f e=>by unfold eK;rw [if_neg e]
 have dd:∀f∈Fs,L f=true->G f≠g:=fun f Gc hL e=>by
  obtain ⟨-,o',d',t',z',-,-,hA⟩:=hF.aside f Gc hL
  have:=hA.lt
  omega
 refine ⟨S2,w',fun q=>if q=k then g else G q,⟨by simpa using hF.z.trans h2,fun f Gc hL=>?_,fun f Gc f' Px hL Qz e=>?_⟩,⟨φ,aG.sub h4 fun i x hx=>?_⟩⟩
 ·by_cases e:f=k
  ·subst e
   simp only [if_pos]
   exact ⟨Nat.le_trans hF.z.kept.size h1,o,d,t,z,ho,hf,h3⟩
  ·rw [dZ f e] at hL
   obtain ⟨k1,o',d',t',z',k2,k3,k4⟩:=hF.aside f Gc hL
   simp only [if_neg e]
   exact ⟨k1,o',d',t',z',k2,k3,k4.move h2⟩
 ·by_cases e1:f=k
  ·have e2:f'≠k:=fun e2=>e (e1.trans e2.symm)
   rw [dZ f' e2] at Qz
   simp only [if_pos e1,if_neg e2]
   exact fun q=>dd f' Px Qz q.symm
  ·rw [dZ f e1] at hL
   by_cases e2:f'=k
   ·simp only [if_pos e2,if_neg e1]
    exact dd f Gc hL
   ·rw [dZ f' e2] at Qz
    simp only [if_neg e1,if_neg e2]
    exact hF.inj f Gc f' Px hL Qz e
 ·rw [bM] at hx
  left
  show look ((d,_)::cN _ d) i=some x
  rw [aD]
  cases hl:look (dH ops (ov Fs (fun q=>if q=k then g else G q) col) (eK L k) T) i with
  | some y =>
   rw [hl] at hx
   simp at hx;subst hx
   obtain ⟨j,p,j1,j2,j3,j4,j5⟩:=kB _ _ _ _ _ _ hl
   by_cases e:j=k
   ·subst e
    rw [ho] at j3;injection j3 with j3;subst j3
    rw [p3] at j4;injection j4 with j4
    rw [if_pos j4]
    rw [sZ Ee] at j5
    cases hc:col[j]? with
    | none=>rw [hc] at j5;cases j5
    | some c =>
     rw [hc] at j5
     simp at j5
     rw [←j5];rfl
   ·have hid:d≠i:=fun q=>e (n0 (ops:=ops.toArray) (by simpa using im) (by simpa using j3) (by simpa using ho) j4 (q ▸ p3))
    rw [if_neg hid,bH,if_neg hid,bM]
    rw [dZ j e] at j2
    have hj:(ov Fs G col)[j]?=some y:=by
     by_cases hm:j∈Fs
     ·rw [sZ hm] at j5 ⊢
      rw [←j5,if_neg e]
     ·rw [lX hm] at j5 ⊢
      exact j5
    rw [gq im _ L T j i p y j1 j2 j3 j4 hj]
    rfl
  | none =>
   rw [hl] at hx
   simp at hx
   have hid:d≠i:=fun q=>fq i x hx k o hk ho (q ▸ p3)
   rw [if_neg hid,bH,if_neg hid,bM,jb fun j p hj hp=>fq i x hx j p hj hp,hx]
   rfl
end
def JF (P:Program) (n T:Nat) (Ws Fs:List Nat) (ops:List Oper) (st:Nat->nG) (S0:bm) (w0:World) (L:Nat->Bool) (a':Act) (w':World):Prop :=
 ∃i S1 w1 G,i≤Ws.length∧(∀(j W:Nat),Ws[j]?=some W->(L W=true↔j<i))∧rE P n ops Fs L G S0 w0 S1 w1∧iv S1 w1 n ⟨dH ops (ov Fs G (st i).col) L T++(st i).kept,(st i).H⟩ a' w'
section
variable {P:Program} {ops:List Oper} {S0:bm} {w0:World} {Q:Exit->Act->World->Prop}
theorem Ef {n T:Nat} {Ws Fs:List Nat} {hs:List (Nat×Hint)} {s:AS} {l:List nG} {C1:List Prop} (he:sW P n T Ws Fs ops hs s=some (l,C1)) (iH:bx C1) {a:Act} {w:World} (f_:iv S0 w0 n s a w) :
  ly ops.toArray n=true∧(JF P n T Ws Fs ops (fun i=>l.getD i default) S0 w0 (fun k=>(Array.replicate ops.toArray.size false).getD k false) a {w with drawn:=w.drawn+1}) ∧
  (∀k o (L:Nat->Bool) a' w',k<T->ops.toArray[k]?=some o->L k=false->(∀d∈bk o,L d=true)->(∀j p,L j=true->ops.toArray[j]?=some p-> ∀d∈bk p,L d=true)->(∀j,T≤j->L j=false)->JF P n T Ws Fs ops (fun i=>l.getD i default) S0 w0 L a' w' ->
   (if Region.wanted o (yielded ops.toArray a'.tmps)=true then o.wp P a' w' (fun rC fp=>JF P n T Ws Fs ops (fun i=>l.getD i default) S0 w0 (eK L k) rC fp) Q else JF P n T Ws Fs ops (fun i=>l.getD i default) S0 w0 (eK L k) (a'.put o.dst undef) w')) ∧
  (∀(late:List Nat) (s1:AS) (L:Nat->Bool) a' w',(∀k∈late,k ∉ Ws∧k ∉ Fs)->AB P n T Ws Fs late ops l=some s1->(∀k,k<T->k ∉ late->L k=true)->JF P n T Ws Fs ops (fun i=>l.getD i default) S0 w0 L a' w'-> ∃S2 w1,kV S0 w0 S2 w1 []∧iv S2 w1 n s1 a' w'):=by
 unfold sW at he
 split at he
 case h_2=>cases he
 rename_i hB hT vz MF KA Pq Rt LM gb vh
 have dL:=he
 obtain ⟨qt,im,vg⟩:=fT hB
 have xI:(ops.filterMap (·.dst)).Nodup:=by simpa using im
 have R1:T≤ops.length:=by simpa [Nat.ble_eq] using hT
 have Cn:∀(k:Nat) (o:Oper),ops[k]?=some o-> ∀d∈bk o,d<k:=fun k o h=>qt k o (by simpa using h)
 have MH:∀(k:Nat) (o:Oper) (s:Nat),ops[k]?=some o->o.dst=some s->s<n:=fun k o s h=>vg k o s (by simpa using h)
 generalize R5:mb (ops.take T) []=R at dL vz gb
 have hR:s7 ops R:=by
  rw [←R5]
  refine qI ops (ops.take T) [] (fun k o _ L _ _ j hj=>by simp at hj) (fun j o h=>?_) Cn
  simpa using bY _ _ _ _ h
 obtain ⟨xJ,KR,MY,pV⟩:=tA _ _ _ _ _ _ _ _ _ dL iH
 have MF:=qo T Ws MF
 have KA:=iB KA
 generalize MA:(fun i=>l.getD i default)=st at *
 have Qb:∀i,l.getD i default=st i:=fun i=>by rw [←MA]
 simp only [Qb] at xJ KR MY pV
 have fq:∀i,i≤Ws.length-> ∀(k:Nat) (x:AV),look (st i).kept k=some x-> ∀(j:Nat) (p:Oper),j<T->ops[j]?=some p->p.dst≠some k:=by
  intro i
  induction i with
  | zero =>
   intro _ k x hx j p hj hp
   rw [xJ] at hx
   exact (ki ops T k).1 (fR _ _ _ _ hx).2 j p hj hp
  | succ i ih =>
   intro hi k x hx
   obtain ⟨o,Tr,X,D',-,-,-,k4,-⟩:=pV i (Ws[i]' aj) (List.getElem?_eq_getElem aj)
   rw [k4,cw] at hx
   cases hl:look (st i).kept k with
   | none=>rw [hl] at hx;cases hx
   | some y=>exact ih aj k y hl
 have vy:∀i,i≤Ws.length-> ∃last first old,Dp Fs P T ops hs R (Ws.drop i) (Ws.take i) last first old (st i):=by
  intro i hi
  cases i with
  | zero=>exact ⟨_,_,_,by simpa using MY⟩
  | succ i =>
   obtain ⟨o,Tr,X,D',-,-,-,-,k5⟩:=pV i (Ws[i]' aj) (List.getElem?_eq_getElem aj)
   exact ⟨_,_,_,by simpa using k5⟩
 have M0:∀f∈Fs,f ∉ Ws:=fun f hf hw=>by
  have:=List.all_eq_true.1 LM f hf
  rw [any_beq.2 hw] at this;cases this
 have uA:∀q,q<T-> ∀f∈Fs,f ∉ R.getD q []:=fun q hq f hf hr=>by
  have:=List.all_eq_true.1 gb q (List.mem_range.2 hq)
  rw [nQ.2 ⟨f,hr,hf⟩] at this;simp at this
 have LL:∀q o,q<T->ops[q]?=some o-> ∀f∈bk o,f ∉ Fs:=fun q o hq ho f hr hf=>by
  have:=List.all_eq_true.1 gb q (List.mem_range.2 hq)
  rw [ho] at this
  simp only [nQ.2 ⟨f,hr,hf⟩] at this
  simp at this
 have RM:∀f∈Fs,∃o d t z,ops[f]?=some o∧jv P n o=some (d,t,z):=fun f hf=>by
  have:=List.all_eq_true.1 vh f hf
  cases ho:ops[f]? with
  | none=>rw [ho] at this;cases this
  | some o =>
   rw [ho] at this
   cases Ib:jv P n o with
   | none=>simp [Ib] at this
   | some x=>exact ⟨o,x.1,x.2.1,x.2.2,rfl,Ib⟩
 have Pq:=qo T Fs Pq
 have Rt:=iB Rt
 obtain ⟨φ,kT⟩:=f_
 refine ⟨hB,?_,?_,?_⟩
 ·refine ⟨0,S0,w0,fun _=>0,aj,fun j W _=>by show (Array.replicate ops.toArray.size false).getD W false=true↔_;rw [getD_replicate_false];simp,⟨kV.refl kT.cV,fun f _ hL=>?_,fun f _ f' _ hL=>?_⟩,φ,?_⟩
  ·change (Array.replicate ops.toArray.size false).getD f false=true at hL
   rw [getD_replicate_false] at hL;cases hL
  ·change (Array.replicate ops.toArray.size false).getD f false=true at hL
   rw [getD_replicate_false] at hL;cases hL
  rw [m6 _ _ _ (fun k=>getD_replicate_false _ _)]
  have hg:aG S0 w0 n [] s a w.drew φ:=kT.grow ((Below.refl _ _).drew)
  rw [KR,xJ]
  exact aG.sub (F:=s.F) hg fun i x hx=>.inl (fR _ _ _ _ (by simpa using hx)).1
 ·intro k o L a' w' hk ho AJ i9 xM Au ⟨i,S1,w1,G,hi,hW,M5,f_⟩
  have qW:ops[k]?=some o:=by simpa using ho
  have gC:∀(j:Nat) (p:Oper),L j=true->ops[j]?=some p-> ∀d∈bk p,L d=true:=fun j p hj hp=>xM j p hj (by simpa using hp)
  have o8:∀j∈R.getD k [],L j=true:=hR k o qW L gC i9
  have pX:∀q,L q=true-> ∀j∈R.getD q [],L j=true:=fun q hq j hj=>by
   cases HX:ops[q]? with
   | some p=>exact hR q p HX L gC (fun d hd=>gC q p hq HX d hd) j hj
   | none =>
    exfalso
    have h1:ops.length≤q:=List.getElem?_eq_none_iff.1 HX
    have:=Au q aj
    rw [hq] at this;cases this
  have PC:∀d∈bk o,L d=true∧d<T:=fun d hd=>⟨i9 d hd,by have:=Cn k o qW d hd;omega⟩
  have uw:∀i',i≤i'-> ∀q,q<T->(∀j∈R.getD q [],L j=true)->hit (R.getD q []) (Ws.drop i'++Fs)=false:=by
   intro i' jd q Uh hq
   cases hh:hit (R.getD q []) (Ws.drop i'++Fs) with
   | false=>rfl
   | true =>
    exfalso
    obtain ⟨x,h1,h2⟩:=nQ.1 hh
    rcases List.mem_append.1 h2 with h2|h2
    case inr=>exact uA q Uh x h2 h1
    obtain ⟨j,hj⟩:=List.mem_iff_getElem?.1 h2
    rw [List.getElem?_drop] at hj
    have:=(hW _ x hj).1 (hq x h1)
    omega
  have hlen:∀i,i≤Ws.length->(st i).col.length=T:=fun i hi=>by
   obtain ⟨last,first,old,Cd,Fp,KS⟩:=vy i hi
   obtain ⟨d1,-,-⟩:=jw _ 0 [] _ _ Fp KS rfl
   rw [d1,List.length_take];omega
  by_cases Ee:k∈Fs
  ·obtain ⟨o',d,t,z,f1,f2⟩:=RM k Ee
   rw [qW] at f1;cases f1
   have jS:Region.wanted o (yielded ops.toArray a'.tmps)=true:=by unfold Region.wanted;rw [(ju f2).1]
   rw [if_pos jS]
   refine Oper.wp_mono ?_ (Ct xI hk qW f2 Ee AJ (fq i hi) M5 f_)
   rintro rC fp ⟨S2,w2,G',g1,g2⟩
   refine ⟨i,S2,w2,G',hi,fun j2 W2 h2=>?_,g1,g2⟩
   have e:W2≠k:=fun e=>by subst e;exact M0 _ Ee (List.mem_of_getElem? h2)
   unfold eK;rw [if_neg e];exact hW j2 W2 h2
  by_cases KD:k∈Ws
  ·obtain ⟨j,hj⟩:=List.mem_iff_getElem?.1 KD
   have MG:j<Ws.length:=(List.getElem?_eq_some_iff.1 hj).1
   have LH:¬j<i:=fun h=>by have:=(hW j k hj).2 h;rw [AJ] at this;cases this
   have e:j=i:=by
    rcases Nat.lt_or_ge i j with h|h
    ·obtain ⟨j',rfl⟩:∃j',j=j'+1:=⟨j-1,aj⟩
     have Ku:Ws[j']?=some (Ws[j']' aj):=List.getElem?_eq_getElem aj
     have h1:=o8 _ (ru R Ws vz j' _ k Ku hj)
     have:=(hW j' _ Ku).1 h1
     omega
    ·omega
   subst e
   obtain ⟨o',Tr,x,D',k1,k2,k3,k4,Cc,k5,k6⟩:=pV j k hj
   rw [qW] at k1;cases k1
   simp only [List.nil_append] at k5
   obtain ⟨c1,c2,c3⟩:=jw _ 0 [] _ _ k5 k6 rfl
   simp only [Nat.zero_add] at c1 c3
   have R2:(ops.take T).length=T:=by rw [List.length_take];omega
   have NV:k ∉ Ws.drop (j+1):=fun hm=>by
    obtain ⟨j2,xK⟩:=List.mem_iff_getElem?.1 hm
    rw [List.getElem?_drop] at xK
    have:=lL KA hj xK
    omega
   have RD:k∈Ws.take (j+1):=List.mem_iff_getElem?.2 ⟨j,by rw [List.getElem?_take,if_pos aj];exact hj⟩
   have hold:((((st j).col.map Tr).set k x).getD k .dead)=x:=by
    obtain ⟨last,first,old,Cd,Fp,KS⟩:=vy j hi
    obtain ⟨d1,-,-⟩:=jw _ 0 [] _ _ Fp KS rfl
    rw [Nat.zero_add,R2] at d1
    rw [List.getD_eq_getElem?_getD,List.getElem?_set_self (by rw [List.length_map];omega)];rfl
   have iT:=vR (P:=P) (S0:=S1) (w0:=w1) (Q:=Q) (n:=n) (T:=T) (col:=ov Fs G (st j).col) (col':=ov Fs G (st (j+1)).col) (L:=L) (a:=a') (w:=w') xI hk qW PC (fq j hi) (by rw [C4 _ (LL k o hk qW)];exact k2) k3 (by
    intro q z hq Pb R_ hz
    by_cases S_:q∈Fs
    ·left
     rw [sZ S_] at hz ⊢
     rw [List.getElem?_eq_getElem (by rw [hlen j hi];exact hq)]
     cases hc:(st (j+1)).col[q]? with
     | none=>rw [hc] at hz;cases hz
     | some c =>
      rw [hc] at hz
      simp only [Option.map_some] at hz ⊢
      rw [IA k2];exact hz
    rw [lX S_] at hz ⊢
    have HX:(ops.take T)[q]?=some (ops[q]' aj):=by rw [List.getElem?_take,if_pos hq];exact List.getElem?_eq_getElem aj
    obtain ⟨x',D2,e1,e2,e3⟩:=c3 q _ HX
    rw [e1] at hz;injection hz with hz;subst hz
    unfold ql at e3
    split at e3
    ·split at e3
     ·split at e3
      ·rename_i xx CC dU
       split at e3
       ·cases e3
        exact j9 Pb e2.1
       ·rename_i gb
        exfalso
        cases hh:hit (R.getD q []) [k] with
        | false=>exact gb rfl hh
        | true =>
         obtain ⟨y,h1,h2⟩:=nQ.1 hh
         have:y=k:=by simpa using h2
         subst this
         have:=pX q R_ y h1
         rw [AJ] at this;cases this
      ·cases e3
     ·cases e3
      exact j9 Pb rfl
    ·cases e3
     exact .inr rfl) (by
    have Eb:(ops.take T)[k]?=some o:=by rw [List.getElem?_take,if_pos hk];exact qW
    obtain ⟨x',D2,e1,e2,e3⟩:=c3 k _ Eb
    rw [lX Ee,e1]
    unfold ql at e3
    have r1:(Ws.drop (j+1)++Fs).any (Nat.beq k)=false:=by
     cases hh:(Ws.drop (j+1)++Fs).any (Nat.beq k) with
     | false=>rfl
     | true=>exact (List.mem_append.1 (any_beq.1 hh)).elim (fun q=>absurd q NV) (fun q=>absurd q Ee)
    have r2:=uw (j+1) aj k hk o8
    have r3:(Ws.take (j+1)).any (Nat.beq k)=true:=any_beq.2 RD
    rw [r1,r2,r3] at e3
    simp only at e3
    injection e3 with e3;injection e3 with e3 _
    rw [←e3,hold]) f_
   have fin:∀rC fp,iv S1 w1 n ⟨dH ops (ov Fs G (st (j+1)).col) (eK L k) T++dS Tr (st j).kept,(st (j+1)).H⟩ rC fp->JF P n T Ws Fs ops st S0 w0 (eK L k) rC fp:=by
    intro rC fp h
    refine ⟨j+1,S1,w1,G,aj,fun j2 W2 h2=>?_,M5.skip Ee,by rw [k4];exact h⟩
    by_cases e:W2=k
    ·subst e
     have:=lL KA hj h2
     unfold eK;rw [if_pos rfl];simp;omega
    ·unfold eK;rw [if_neg e,hW j2 W2 h2]
     have:j2≠j:=fun e2=>by subst e2;rw [hj] at h2;cases h2;exact e rfl
     omega
   split
   ·rename_i hw
    rw [if_pos hw] at iT
    exact Oper.wp_mono fin iT
   ·rename_i hw
    rw [if_neg hw] at iT
    exact fin _ _ iT
  ·obtain ⟨last,first,old,Cc,k5,k6⟩:=vy i hi
   obtain ⟨c1,c2,c3⟩:=jw _ 0 [] _ _ k5 k6 rfl
   simp only [Nat.zero_add] at c1 c3
   have Eb:(ops.take T)[k]?=some o:=by rw [List.getElem?_take,if_pos hk];exact qW
   obtain ⟨x',D2,e1,e2,e3⟩:=c3 k _ Eb
   unfold ql at e3
   have r1:(Ws.drop i++Fs).any (Nat.beq k)=false:=by
    cases hh:(Ws.drop i++Fs).any (Nat.beq k) with
    | false=>rfl
    | true=>exact (List.mem_append.1 (any_beq.1 hh)).elim (fun q=>absurd (List.mem_of_mem_drop q) KD) (fun q=>absurd q Ee)
   have r2:=uw i (Nat.le_refl _) k hk o8
   have r3:(Ws.take i).any (Nat.beq k)=false:=by
    cases hh:(Ws.take i).any (Nat.beq k) with
    | false=>rfl
    | true=>exact absurd (List.mem_of_mem_take (any_beq.1 hh)) KD
   have r4:(Ws.take i).any (fun W=>(R.getD W []).any (Nat.beq k))=false:=by
    cases hh:(Ws.take i).any (fun W=>(R.getD W []).any (Nat.beq k)) with
    | false=>rfl
    | true =>
     exfalso
     obtain ⟨W,h1,h2⟩:=List.any_eq_true.1 hh
     obtain ⟨j,hj⟩:=List.mem_iff_getElem?.1 h1
     rw [List.getElem?_take] at hj
     split at hj
     ·rename_i LH
      have:=pX W ((hW j W hj).2 LH) k (any_beq.1 h2)
      rw [AJ] at this;cases this
     ·cases hj
   rw [r1,r2,r3,r4] at e3
   simp only at e3
   have dU:∃C',sy P ops ⟨ji ops ((st i).col.take k) (bk o)++(st i).kept,(st i).H⟩ o (gv hs k)=some (x',C')∧bx C':=by
    split at e3
    ·rename_i xx CC dU
     split at e3
     ·cases e3;exact ⟨_,dU,e2.2⟩
     ·cases e3;exact ⟨_,dU,e2⟩
    ·cases e3
   obtain ⟨C',dU,PL⟩:=dU
   rw [rq ops _ k _ (Cn k o qW)] at dU
   have iT:=tz (P:=P) (S0:=S1) (w0:=w1) (Q:=Q) (n:=n) (T:=T) (L:=L) (a:=a') (w:=w') (col:=ov Fs G (st i).col) xI MH hk qW PC (fq i hi) (by rw [C4 _ (LL k o hk qW)];exact dU) PL (by rw [lX Ee];exact e1) f_
   have fin:∀rC fp,iv S1 w1 n ⟨dH ops (ov Fs G (st i).col) (eK L k) T++(st i).kept,(st i).H⟩ rC fp->JF P n T Ws Fs ops st S0 w0 (eK L k) rC fp:=by
    intro rC fp h
    refine ⟨i,S1,w1,G,hi,fun j2 W2 h2=>?_,M5.skip Ee,h⟩
    have e:W2≠k:=fun e=>by subst e;exact KD (List.mem_of_getElem? h2)
    unfold eK;rw [if_neg e];exact hW j2 W2 h2
   split
   ·rename_i hw
    rw [if_pos hw] at iT
    exact Oper.wp_mono fin iT
   ·rename_i hw
    rw [if_neg hw] at iT
    exact fin _ _ iT
 ·intro late s1 L a' w' LG Co gh ⟨i,S1,w1,G,hi,hW,M5,f_⟩
  unfold AB at Co
  rw [Qb] at Co
  have Ei:∀f∈Fs,L f=true:=fun f hf=>gh f (Pq f hf) fun q=>(LG f q).2 hf
  have e:i=Ws.length:=by
   rcases Nat.lt_or_ge i Ws.length with h|h
   ·have Ku:Ws[i]?=some (Ws[i]'h):=List.getElem?_eq_getElem h
    have:=(hW i _ Ku).1 (gh _ (MF _ (List.getElem_mem h)) fun q=>(LG _ q).1 (List.getElem_mem h))
    omega
   ·omega
  subst e
  have hlen:(st Ws.length).col.length=T:=by
   obtain ⟨last,first,old,Cd,Fp,KS⟩:=vy Ws.length hi
   obtain ⟨d1,-,-⟩:=jw _ 0 [] _ _ Fp KS rfl
   rw [d1,List.length_take];omega
  have Rl:∀f∈Fs,∀o d t z,ops[f]?=some o->jv P n o=some (d,t,z)->a'.tmps.getD d undef=E2 (G f):=fun f hf o d t z ho Ib=>by
   obtain ⟨cz,bZ⟩:=f_
   have lu:look (dH ops (ov Fs G (st Ws.length).col) L T++(st Ws.length).kept) d=some (.val (E2 (G f))):=by
    rw [bM,gq xI _ L T f d o (.val (E2 (G f))) (Pq f hf) (Ei f hf) ho (ju Ib).2.2.1 (by rw [sZ hf,List.getElem?_eq_getElem (by rw [hlen];exact Pq f hf)];rfl)]
    rfl
   exact bJ (bZ.cB d _ lu)
  have lP:∀b,w0.heap.size≤b->S0.S b:=fun b hb=>kT.new b (.inl hb)
  have Ce:iv S1 w1 n ⟨i7 (ops.take T) (Al late (st Ws.length).col)++(st Ws.length).kept,(st Ws.length).H⟩ a' w':=by
   obtain ⟨cz,bZ⟩:=f_
   refine ⟨cz,aG.sub bZ fun i x hx=>?_⟩
   rw [bM] at hx ⊢
   cases hh:look (i7 (ops.take T) (Al late (st Ws.length).col)) i with
   | some y =>
    rw [hh] at hx
    simp at hx;subst hx
    obtain ⟨k,o,h1,h2,h3⟩:=kD _ _ _ _ hh
    have vw:k<T:=by have:=(List.getElem?_eq_some_iff.1 h1).1;rw [List.length_take] at this;omega
    rw [HA] at h3
    cases hc:(st Ws.length).col[k]? with
    | none=>rw [hc] at h3;cases h3
    | some z =>
     rw [hc] at h3
     simp only [Option.map_some,Option.some.injEq] at h3
     by_cases iF:late.any (Nat.beq k)=true
     ·rw [iF] at h3
      exact .inr h3.symm
     simp only [Bool.not_eq_true] at iF
     rw [iF] at h3
     subst h3
     by_cases Ee:k∈Fs
     ·right
      obtain ⟨last,first,old,Cd,Fp,KS⟩:=vy Ws.length hi
      obtain ⟨-,-,c3⟩:=jw _ 0 [] _ _ Fp KS rfl
      obtain ⟨x',D2,e1,e2,e3⟩:=c3 k o h1
      simp only [Nat.zero_add] at e1 e3
      unfold ql at e3
      rw [any_beq.2 (List.mem_append.2 (.inr Ee))] at e3
      simp only at e3
      rw [hc] at e1;injection e1 with e1
      injection e3 with e3;injection e3 with e3 _
      rw [e1,←e3]
     ·left
      rw [gq xI _ L T k i o z vw (gh k vw fun q=>by rw [any_beq.2 q] at iF;cases iF) (bY _ _ _ _ h1) h2 (by rw [lX Ee];exact hc)];rfl
   | none =>
    rw [hh] at hx
    simp at hx
    left
    rw [jb fun j p hj hp=>fq _ (Nat.le_refl _) i x hx j p hj hp]
    simpa using hx
  obtain ⟨S2,Kt,mN⟩:=wR (P:=P) (n:=n) (ops:=ops) (S0:=S0) (w0:=w0) (w1:=w1) (w:=w') (a:=a') (G:=G) lP Fs _ s1 S1 Rt Co M5.z (fun f hf o d t z ho Ib=>by
   obtain ⟨k1,o',d',t',z',k2,k3,k4⟩:=M5.aside f hf (Ei f hf)
   rw [ho] at k2;cases k2
   rw [Ib] at k3;cases k3
   exact ⟨k1,k4,Rl f hf o d t z ho Ib⟩) (fun f hf f' KG cT=>M5.inj f hf f' KG (Ei f hf) (Ei f' KG) cT) Ce
  exact ⟨S2,w1,Kt,mN⟩
theorem CL {n T:Nat} {Ws Fs:List Nat} {hs:List (Nat×Hint)} {s s':AS} {C:List Prop} (he:yh P n T Ws Fs ops hs s=some (s',C)) (hC:bx C) {a:Act} {w:World} (f_:iv S0 w0 n s a w) (hQ:∀a' w',mP S0 w0 n s' a' w'->Q .normal a' w'):P.follows .mixedOrders=true∧wpAny P .any ops.toArray Q ops.toArray.size (Array.replicate ops.toArray.size false) a {w with drawn:=w.drawn+1}:=by
 unfold yh at he
 split at he
 case h_2=>cases he
 rename_i l C1 hm hT hh
 split at he
 case h_2=>cases he
 rename_i s1 Co
 split at he
 case h_2=>cases he
 rename_i s2 D oF
 cases he
 obtain ⟨iH,hD⟩:=bQ.1 hC
 obtain ⟨hB,h1,h2,h3⟩:=Ef (Q:=Q) hh iH f_
 unfold oy at hT
 simp only [Bool.and_eq_true,decide_eq_true_eq] at hT
 obtain ⟨⟨⟨Gf,KQ⟩,KP⟩,KO⟩:=hT
 refine ⟨hm,mX (n:=n) Gf KQ KP KO hB (JF P n T Ws Fs ops (fun i=>l.getD i default) S0 w0) (fun k o L a' w' hk ho AJ hd hc Au hJ=>h2 k o L a' w' hk ho AJ hd hc Au hJ) ?_ ops.toArray.size _ a _ ⟨by simp,fun k o hk=>?_⟩ h1 (fun j _=>by rw [getD_replicate_false]) (by simp)⟩
 ·intro L a' w' gh Au hJ
  obtain ⟨S2,w1,Kt,mN⟩:=h3 [] s1 L a' w' (fun k hk=>by cases hk) Co (fun k hk _=>gh k hk) hJ
  have j8:=jJ (S0:=S2) (w0:=w1) (Q:=Q) _ _ _ _ _ oF hD a' w' mN fun a2 w2 h2=>hQ a2 w2 (mP.after Kt h2.one)
  simpa using j8
 ·rw [getD_replicate_false] at hk;cases hk
def Nx (M q:Nat) (Ws Fs:List Nat) (o:Oper):Bool:=Nat.blt q M && !(Ws.any (Nat.beq q)) && !(Fs.any (Nat.beq q)) && (List.range M).all fun k=>Nat.beq k q || (bk o).any (Nat.beq k)
theorem Dh {M q:Nat} {Ws Fs:List Nat} {o:Oper} (h:Nx M q Ws Fs o=true):q<M∧q ∉ Ws∧q ∉ Fs∧ ∀k,k<M->k≠q->k∈bk o:=by
 unfold Nx at h
 simp only [Bool.and_eq_true] at h
 obtain ⟨⟨⟨h1,h2⟩,h3⟩,h4⟩:=h
 refine ⟨by simpa [Nat.blt_eq] using h1,fun q=>(by rw [any_beq.2 q] at h2;cases h2),fun q=>(by rw [any_beq.2 q] at h3;cases h3),fun k hk cT=>?_⟩
 have:=List.all_eq_true.1 h4 k (List.mem_range.2 hk)
 rw [Bool.or_eq_true] at this
 exact this.elim (fun e=>absurd (Nat.eq_of_beq_eq_true e) cT) any_beq.1
def uI (s:AS) (d:Nat):AS:=match look s.F d with|some x=>⟨(d,x)::cN s.F d,s.H⟩|none=>s
theorem Fw {S0:bm} {w0 w:World} {n:Nat} {s:AS} {d:Nat} {a:Act} (h:iv S0 w0 n s a w):iv S0 w0 n (uI s d) a w:=by
 unfold uI
 split
 ·rename_i x hx
  obtain ⟨φ,h⟩:=h
  refine ⟨φ,aG.sub (F:=s.F) h fun i y hy=>.inl ?_⟩
  rw [aD] at hy
  split at hy
  ·rename_i e;subst e;cases hy;exact hx
  ·rename_i e;rw [bH,if_neg e] at hy;exact hy
 ·exact h
def yf (P:Program) (n M q:Nat) (Ws Fs:List Nat) (ops:List Oper) (hs:List (Nat×Hint)) (s:AS):Option (AS×AS×AS×List Prop) :=
 match P.follows .mixedOrders,oy ops.toArray (M+1),sW P n M Ws Fs ops hs s,ops[M]?,ops[q]? with
 | true,true,some (l,C),some o,some p=>(match Nx M q Ws Fs o,o.guard,p.guard,p.dst,AB P n M Ws Fs [] ops l,AB P n M Ws Fs [q] ops l with
  | true,none,none,some d,some sa,some sb=>(match A7 P n sa o (gv hs M),A7 P n sb o (gv hs M) with
   | some (sA,D1),some (sB,D2)=>(match A7 P n sB p (gv hs q) with
    | some (sC,D3)=>(match jV P n ops hs (ops.drop (M+1)) (M+1) sC with
     | some (s',D4)=>some (s',uI sA d,sC,C++(D1++(D2++(D3++D4))))
     | none=>none)
    | none=>none)
   | _,_=>none)
  | _,_,_,_,_,_=>none)
 | _,_,_,_,_=>none
theorem CK {n M q:Nat} {Ws Fs:List Nat} {hs:List (Nat×Hint)} {s s' x:AS} {C:List Prop} (he:yf P n M q Ws Fs ops hs s=some (s',x,x,C)) (hC:bx C) {a:Act} {w:World} (f_:iv S0 w0 n s a w) (hQ:∀a' w',mP S0 w0 n s' a' w'->Q .normal a' w'):P.follows .mixedOrders=true∧wpAny P .any ops.toArray Q ops.toArray.size (Array.replicate ops.toArray.size false) a {w with drawn:=w.drawn+1}:=by
 unfold yf at he
 split at he
 case h_2=>cases he
 rename_i l C1 o p hm hT hh ho hp
 split at he
 case h_2=>cases he
 rename_i d sa sb RX Ul Uj VK Ue Ud
 split at he
 case h_2=>cases he
 rename_i sA D1 sB D2 hA Vc
 split at he
 case h_2=>cases he
 rename_i sC D3 Vb
 split at he
 case h_2=>cases he
 rename_i s2 D4 oF
 have he:=Option.some.inj he
 have e1:s2=s':=congrArg (·.1) he
 have e2:uI sA d=x:=congrArg (·.2.1) he
 have e3:sC=x:=congrArg (·.2.2.1) he
 have e4:C1++(D1++(D2++(D3++D4)))=C:=congrArg (·.2.2.2) he
 subst e1
 have e5:uI sA d=sC:=e2.trans e3.symm
 rw [←e4] at hC
 obtain ⟨iH,hC⟩:=bQ.1 hC
 obtain ⟨U_,hC⟩:=bQ.1 hC
 obtain ⟨U9,hC⟩:=bQ.1 hC
 obtain ⟨U8,U7⟩:=bQ.1 hC
 obtain ⟨b1,b2,b3,b4⟩:=Dh RX
 obtain ⟨hB,h1,h2,h3⟩:=Ef (Q:=Q) hh iH f_
 unfold oy at hT
 simp only [Bool.and_eq_true,decide_eq_true_eq] at hT
 obtain ⟨⟨⟨Gf,KQ⟩,KP⟩,KO⟩:=hT
 let J:(Nat->Bool)->Act->World->Prop:=fun L a' w'=>(L M=false∧JF P n M Ws Fs ops (fun i=>l.getD i default) S0 w0 L a' w')∨(L M=true∧ ∃S2 w2,kV S0 w0 S2 w2 []∧((L q=true∧iv S2 w2 n sC a' w')∨(L q=false∧iv S2 w2 n sB a' w')))
 have jS:∀(o:Oper) (a':Act),o.guard=none->Region.wanted o (yielded ops.toArray a'.tmps)=true:=fun o a' hg=>by unfold Region.wanted;rw [hg]
 refine ⟨hm,mX (n:=n) Gf KQ KP KO hB J ?_ ?_ ops.toArray.size _ a _ ⟨by simp,fun k o hk=>?_⟩ (.inl ⟨getD_replicate_false _ _,h1⟩) (fun j _=>by rw [getD_replicate_false]) (by simp)⟩
 ·intro k o1 L a' w' hk Ta AJ hd hc Au hJ
  have Ga:ops[k]?=some o1:=by simpa using Ta
  have cT:q≠M:=aj
  by_cases ek:k=M
  ·subst ek
   rw [ho] at Ga;cases Ga
   rw [if_pos (jS o a' Ul)]
   have Ty:=hJ.resolve_right fun h=>by rw [AJ] at h;cases h.1
   have gh:∀j,j<k->j≠q->L j=true:=fun j hj RF=>hd j (b4 j hj RF)
   have pk:eK L k k=true:=by unfold eK;rw [if_pos rfl]
   have pq:eK L k q=L q:=by unfold eK;rw [if_neg cT]
   cases hq:L q with
   | true =>
    obtain ⟨S2,w1,Kt,mN⟩:=h3 [] sa L a' w' (fun k hk=>by cases hk) Ue (fun j hj _=>by
     by_cases e:j=q
     ·rw [e];exact hq
     ·exact gh j hj e) Ty.2
    exact Oper.wp_mono (fun rC fp h=>.inr ⟨pk,S2,w1,Kt,.inl ⟨by rw [pq];exact hq,by rw [←e5];exact Fw h⟩⟩) (nU hA U_ S2 w1 a' w' Q mN)
   | false =>
    obtain ⟨S2,w1,Kt,mN⟩:=h3 [q] sb L a' w' (fun k hk=>by obtain rfl:=List.mem_singleton.1 hk;exact ⟨b2,b3⟩) Ud (fun j hj RF=>gh j hj fun e=>RF (by simp [e])) Ty.2
    exact Oper.wp_mono (fun rC fp h=>.inr ⟨pk,S2,w1,Kt,.inr ⟨by rw [pq];exact hq,h⟩⟩) (nU Vc U9 S2 w1 a' w' Q mN)
  ·have Th:k<M:=aj
   have pM:eK L k M=L M:=by unfold eK;rw [if_neg fun e=>ek e.symm]
   rcases hJ with ⟨hM,hJ⟩|⟨hM,S2,w2,hz,hJ⟩
   ·have:=h2 k o1 L a' w' Th Ta AJ hd hc (fun j hj=>by
     by_cases e:j=M
     ·rw [e];exact hM
     ·exact Au j aj) hJ
    split
    ·rename_i hw
     rw [if_pos hw] at this
     exact Oper.wp_mono (fun rC fp h=>.inl ⟨by rw [pM];exact hM,h⟩) this
    ·rename_i hw
     rw [if_neg hw] at this
     exact .inl ⟨by rw [pM];exact hM,this⟩
   ·have Vs:k=q:=Classical.byContradiction fun e=>by
     have:=hc M o hM (by simpa using ho) k (b4 k Th e)
     rw [AJ] at this;cases this
    subst Vs
    rw [hp] at Ga;cases Ga
    rw [if_pos (jS p a' Uj)]
    have hs:=(hJ.resolve_left fun h=>by rw [AJ] at h;cases h.1).2
    exact Oper.wp_mono (fun rC fp h=>.inr ⟨by rw [pM];exact hM,S2,w2,hz,.inl ⟨by unfold eK;rw [if_pos rfl],h⟩⟩) (nU Vb U8 S2 w2 a' w' Q hs)
 ·intro L a' w' gh Au hJ
  have hM:=gh M aj
  have hq:=gh q aj
  obtain ⟨-,S2,w2,hz,hJ⟩:=hJ.resolve_left fun h=>by rw [hM] at h;cases h.1
  have hs:=(hJ.resolve_right fun h=>by rw [hq] at h;cases h.1).2
  have j8:=jJ (S0:=S2) (w0:=w2) (Q:=Q) _ _ _ _ _ oF U7 a' w' hs fun a2 w2 h2=>hQ a2 w2 (mP.after hz h2.one)
  simpa using j8
 ·rw [getD_replicate_false] at hk;cases hk
end
def xZ (P:Program) (n T:Nat) (Ws Fs:List Nat) (hs:List (Nat×Hint)) (c:Code) (s:AS):Option (AS×List Prop) :=
 match c with
 | .region _ ⟨l⟩ true=>yh P n T Ws Fs l hs s
 | _=>none
theorem bf.QS {P:Program} {n:Nat} {c:Code} {Q:Exit->AS->Prop} {s s':AS} {C:List Prop} (T:Nat) (Ws Fs:List Nat) (hs:List (Nat×Hint)) (he:xZ P n T Ws Fs hs c s=some (s',C)) (hC:bx C) (h:Q .normal s'):bf P n c Q s:=by
 intro S0 w0 a w f_
 unfold xZ at he
 split at he
 ·exact CL (S0:=S0) (w0:=w0) he hC f_ fun a' w' bZ=>⟨s',h,bZ⟩
 ·cases he
def my (P:Program) (n M q:Nat) (Ws Fs:List Nat) (hs:List (Nat×Hint)) (c:Code) (s:AS):Option (AS×AS×AS×List Prop) :=
 match c with
 | .region _ ⟨l⟩ true=>yf P n M q Ws Fs l hs s
 | _=>none
def Mg (r:Option (AS×AS×AS×List Prop)):Option (AS×List Prop):=match r with|some (s',_,_,C)=>some (s',C)|none=>none
def Lu (r:Option (AS×AS×AS×List Prop)):AS:=match r with|some (_,x,_,_)=>x|none=>⟨[],[]⟩
def Lt (r:Option (AS×AS×AS×List Prop)):AS:=match r with|some (_,_,y,_)=>y|none=>⟨[],[]⟩
theorem bf.QR {P:Program} {n:Nat} {c:Code} {Q:Exit->AS->Prop} {s s':AS} {C:List Prop} (M q:Nat) (Ws Fs:List Nat) (hs:List (Nat×Hint)) (hx:Lu (my P n M q Ws Fs hs c s)=Lt (my P n M q Ws Fs hs c s)) (he:Mg (my P n M q Ws Fs hs c s)=some (s',C)) (hC:bx C) (h:Q .normal s'):bf P n c Q s:=by
 intro S0 w0 a w f_
 generalize hr:my P n M q Ws Fs hs c s=r at he hx
 match r,he,hx with
 | some (_,x,y,_),he,hx =>
  have he:some (_,_)=some (s',C):=he
  injection he with he
  injection he with e1 e2
  have hx:x=y:=hx
  subst e1 e2 hx
  unfold my at hr
  split at hr
  ·exact CK (S0:=S0) (w0:=w0) hr hC f_ fun a' w' bZ=>⟨_,h,bZ⟩
  ·cases hr
end Go.Proofs.YtjgbhhnghedgdaaGreatDoor
