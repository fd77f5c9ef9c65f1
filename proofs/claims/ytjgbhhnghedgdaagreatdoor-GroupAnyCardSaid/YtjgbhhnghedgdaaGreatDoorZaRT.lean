import Derived.Test.YtjgbhhnghedgdaaGreatDoorZaRS
import Derived.Test.YtjgbhhnghedgdaaGreatDoorZaRI
set_option linter.all false
namespace Go.Proofs.YtjgbhhnghedgdaaGreatDoor
open Go.RowKit
section
variable {S0:bm} {w0 w:World} {n:Nat} {s:AS} {a:Act} {φ:Nat->Option Nat} {g:Nat}
def yZ (S0:bm) (φ:Nat->Option Nat) (g:Nat):bm:=⟨fun b=>S0.S b∧b≠g,fun b=>∃id,φ id=some b,S0.fix,S0.si⟩
theorem uR:aN (yZ S0 φ g) w φ []=aN S0 w φ [g]:=by
 funext b
 apply propext
 unfold aN yZ
 simp only [List.not_mem_nil,not_false_eq_true,true_and,List.mem_singleton]
 exact ⟨fun ⟨h1,h2,h3,h4⟩=>⟨h1,h4,h2,h3⟩,fun ⟨h1,h2,h3,h4⟩=>⟨h1,h3,h4,h2⟩⟩
theorem aL.aside (h:aL S0 w0 n [g] s a w φ) (hg:g<w.heap.size):k7 S0 w0 (yZ S0 φ g) w []∧aL (yZ S0 φ g) w n [] s a w φ:=by
 have hX:∀b,(∃id,φ id=some b)->w0.heap.size≤b∨S0.X b:=fun b ⟨id,hid⟩=>(h.cW id b hid).1.2
 refine ⟨⟨h.cX,fun b hb=>hb.1,hX,rfl,rfl,List.nodup_nil,fun r hr=>by cases hr⟩,⟨h.jP,h.jS,⟨rfl,rfl,rfl,Nat.le_refl _,fun _ _ _=>rfl,h.cX.mG,fun b hb=>h.sE hb⟩,?_,?_,h.only,h.inj,fun id b hid=>⟨⟨(h.cW id b hid).1.1,.inr ⟨id,hid⟩⟩,(h.cW id b hid).2⟩,fun _ _ _=>by simp,?_⟩⟩
 ·rw [uR];exact h.cC
 ·rw [uR];exact h.rows
 ·rintro b (hb|⟨id,hid⟩)
  ·exact ⟨h.new b (.inl (Nat.le_trans h.cX.size hb)),ah⟩
  ·exact ⟨h.new b (hX b ⟨id,hid⟩),fun e=>h.apart id b hid (by simp [e])⟩
def vm (S1:bm) (g:Nat):bm:=⟨fun b=>S1.S b∨b=g,fun b=>S1.X b∨b=g,S1.fix,S1.si⟩
theorem wQ {S1:bm} (hS:¬S1.S g):aN (vm S1 g) w φ [g]=aN S1 w φ []:=by
 funext b
 apply propext
 unfold aN vm
 simp only [List.not_mem_nil,not_false_eq_true,true_and,List.mem_singleton]
 constructor
 ·rintro ⟨h1,h2,h3,h4|h4⟩
  ·exact ⟨h1,h3,h4⟩
  ·exact absurd h4 h2
 ·rintro ⟨h1,h3,h4⟩
  exact ⟨h1,fun e=>hS (e ▸ h4),h3,.inl h4⟩
theorem aL.back {S1:bm} {w1:World} (h:aL S1 w1 n [] s a w φ) (hg:g<w1.heap.size) (hS:¬S1.S g) (hX:¬S1.X g) (hT:¬TB g):aL (vm S1 g) w1 n [g] s a w φ:=by
 refine ⟨h.jP,h.jS,⟨h.cX.os,h.cX.tape,h.cX.output,h.cX.size,fun k hk hx=>h.cX.block k hk fun q=>hx (.inl q),h.cX.g0,?_⟩,?_,?_,h.only,h.inj,fun id b hid=>⟨⟨(h.cW id b hid).1.1,(h.cW id b hid).1.2.imp (fun q=>q) .inl⟩,(h.cW id b hid).2⟩,?_,?_⟩
 ·rintro b hb (q|q)
  ·exact h.cX.gx b hb q
  ·exact hT (q ▸ hb)
 ·rw [wQ hS];exact h.cC
 ·rw [wQ hS];exact h.rows
 ·intro id b hid hm
  have e:b=g:=by simpa using hm
  subst e
  rcases (h.cW id b hid).1.2 with q|q
  ·omega
  ·exact hX q
 ·rintro b (q|q|q)
  ·exact .inl (h.new b (.inl q))
  ·exact .inl (h.new b (.inr q))
  ·exact .inr q
end
section
variable {P:Program} {S0:bm} {w0 w:World} {n:Nat} {s:AS} {a:Act} {Q:Exit->Act->World->Prop}
structure Aside (S0:bm) (w0:World) (g:Nat) (o:Obj):Prop where
 lt:g<w0.heap.size
 S:¬S0.S g
 X:¬S0.X g
 tb:¬TB g
 obj:w0.heap[g]?=some o
theorem Bx {o:Oper} {t d:Nat} {z:Value} (ho:o.op= .alloc t) (hd:o.dst=some d) (Oy:d<n) (hz:(P.info? t).bind (·.zero)=some z) (h:iu S0 w0 n s a w) :
  o.wp P a w (fun a' w'=>∃g S1,w0.heap.size≤g∧k7 S0 w0 S1 w' []∧Aside S1 w' g (.cells z.cells t (0,0))∧iu S1 w' n (lp s d (.val (.pointer (some ⟨g,0,none⟩)))) a' w') Q:=by
 obtain ⟨φ,hs⟩:=h
 have cp:(execOp a.eval o).run P w= .ok (.value (.pointer (some ⟨w.heap.size,0,none⟩))) {w with heap:=w.heap.push (.cells z.cells t (0,0))}:=by
  unfold execOp
  simp [ho,Instr.alloc,iO hz,newVar,newRow]
 refine cT cp ?_
 rw [hd]
 have h1:=hs.await w.heap.size (Nat.le_refl _)
 have h2:=h1.vX (w':={w with heap:=w.heap.push (.cells z.cells t (0,0))}) (fun g hg=>by simp at hg;rw [hg];exact .inl hs.cX.size) rfl rfl rfl (by simp) (fun b hb _=>cK w _ b hb)
 have h3:=h2.put Oy (v:=.pointer (some ⟨w.heap.size,0,none⟩)) (.rep (.val _))
 obtain ⟨k1,k2⟩:=h3.aside (by simp)
 refine ⟨w.heap.size,_,hs.cX.size,k1,⟨by simp,fun q=>q.2 rfl,fun ⟨id,hid⟩=>h3.apart id _ hid (by simp),fun hb=>?_,dL w _⟩,⟨φ,k2⟩⟩
 have:=hs.cX.g0.lt hb
 have:=hs.cX.size
 omega
theorem DE {g t d:Nat} {z:Value} (hA:Aside S0 w0 g (.cells z.cells t (0,0))) (hd:d<1000000000000) (gf:look s.H d=none) (h:iu S0 w0 n s a w) (hv:a.tmps.getD d undef= .pointer (some ⟨g,0,none⟩)) :
  iu (vm S0 g) w0 n ⟨(d,.addr d 0)::cS s.F d,(d,⟨rF P t,false,true,z.cells.toList.map bC⟩)::s.H⟩ a w:=by
 obtain ⟨φ,hs⟩:=h
 have h1:=hs.back hA.lt hA.S hA.X hA.tb
 have dw:=hs.cX.size
 have hg:w.heap[g]?=some (.cells z.cells t (0,0)):=(hs.cX.block g hA.lt hA.X).trans hA.obj
 have h2:=h1.wY (id:=d) (r:=⟨rF P t,false,true,z.cells.toList.map bC⟩) ⟨.inl hd,.inr (.inr rfl)⟩ (Nat.lt_of_lt_of_le hA.lt dw) (by simp) gf ⟨z.cells,t,(0,0),hg,by simp,by simp,by simp,fun j u x hu hx=>by
  simp only [List.getElem?_map] at hx
  have:z.cells.toList[j]?=some u:=by simpa using hu
  rw [this] at hx;injection hx with hx;subst hx
  exact .rep (fN u)⟩
 refine ⟨_,h2.jP,h2.jS,h2.cX,fun i av hi=>?_,h2.rows,h2.only,h2.inj,h2.cW,h2.apart,h2.new⟩
 rw [aE] at hi
 by_cases e:d=i
 ·subst e
  rw [if_pos rfl] at hi;injection hi with hi;subst hi
  rw [hv]
  exact .addr d 0 _ _ _ (by
   show az ((d,(⟨rF P t,false,true,z.cells.toList.map bC⟩:Row))::s.H) _ d=_
   rw [br (r:=⟨rF P t,false,true,z.cells.toList.map bC⟩) (by rw [aE,if_pos rfl])]
   unfold fD;rw [if_pos rfl])
 ·rw [if_neg e,bI,if_neg e] at hi
  exact h2.cC i av hi
end
def l5 (Fs:List Nat) (P:Program) (n T:Nat) (ops:List Oper) (hs:List (Nat×Hint)) (R:List (List Nat)):List Nat->List Nat->List Nat->Bool->List AV->List (Nat×AV)->List (Nat×Row)->Option (List nR×List Prop)
 | [],done,last,first,old,kept,H=>(match yU P ops hs R done Fs last first old kept H (ops.take T) 0 [] with
  | some (col,C)=>some ([⟨col,kept,H⟩],C)
  | none=>none)
 | W::rest,done,last,first,old,kept,H=>(match yU P ops hs R done (W::rest++Fs) last first old kept H (ops.take T) 0 [],ops[W]? with
  | some (col,C),some o=>(match yf P ops n ⟨jo ops col (bk o)++kept,H⟩ o (gv hs W) with
   | some (Tr,x,H',D)=>(match l5 Fs P n T ops hs R rest (done++ [W]) [W] false ((col.map Tr).set W x) (eg Tr kept) H' with
    | some (l,E)=>some (⟨col,kept,H⟩::l,C++(D++E))
    | none=>none)
   | none=>none)
  | _,_=>none)
def DI (Fs:List Nat) (P:Program) (T:Nat) (ops:List Oper) (hs:List (Nat×Hint)) (R:List (List Nat)) (rest done last:List Nat) (first:Bool) (old:List AV) (st:nR):Prop :=
 ∃C,yU P ops hs R done (rest++Fs) last first old st.kept st.H (ops.take T) 0 []=some (st.col,C)∧bx C
theorem tJ {Fs:List Nat} {P:Program} {n T:Nat} {ops:List Oper} {hs:List (Nat×Hint)} {R:List (List Nat)}:∀(rest done last:List Nat) (first:Bool) (old:List AV) (kept:List (Nat×AV)) (H:List (Nat×Row)) (l:List nR) (E:List Prop),
  l5 Fs P n T ops hs R rest done last first old kept H=some (l,E)->bx E ->
  (l.getD 0 default).kept=kept∧(l.getD 0 default).H=H∧DI Fs P T ops hs R rest done last first old (l.getD 0 default) ∧
  ∀(i W:Nat),rest[i]?=some W-> ∃o Tr x D,ops[W]?=some o∧yf P ops n ⟨jo ops (l.getD i default).col (bk o)++(l.getD i default).kept,(l.getD i default).H⟩ o (gv hs W)=some (Tr,x,(l.getD (i+1) default).H,D)∧bx D ∧
   (l.getD (i+1) default).kept=eg Tr (l.getD i default).kept∧DI Fs P T ops hs R (rest.drop (i+1)) (done++rest.take (i+1)) [W] false (((l.getD i default).col.map Tr).set W x) (l.getD (i+1) default)
 | [],done,last,first,old,kept,H,l,E,he,hE=>by
  simp only [l5] at he
  split at he
  ·rename_i col C hc
   cases he
   exact ⟨rfl,rfl,⟨_,hc,hE⟩,fun i W h=>by simp at h⟩
  ·cases he
 | W::rest,done,last,first,old,kept,H,l,E,he,hE=>by
  simp only [l5] at he
  split at he
  ·rename_i col C o hc ho
   split at he
   ·rename_i Tr x H' D hw
    split at he
    ·rename_i l' E' M5
     cases he
     obtain ⟨hC,SB⟩:=bQ.1 hE
     obtain ⟨hD,SA⟩:=bQ.1 SB
     obtain ⟨h1,h2,h3,h4⟩:=tJ rest _ _ _ _ _ _ _ _ M5 SA
     refine ⟨rfl,rfl,⟨_,hc,hC⟩,fun i W' hi=>?_⟩
     cases i with
     | zero =>
      simp at hi;subst hi
      exact ⟨o,Tr,x,D,ho,by rw [←h2] at hw;exact hw,hD,h1,by simpa using h3⟩
     | succ i =>
      obtain ⟨o',Q5,x',D',k1,k2,k3,k4,k5⟩:=h4 i W' (by simpa using hi)
      refine ⟨o',Q5,x',D',k1,k2,k3,k4,?_⟩
      have e:done++(W::rest).take (i+1+1)=done++ [W]++rest.take (i+1):=by simp
      rw [e]
      exact k5
    ·cases he
   ·cases he
  ·cases he
theorem EL {P:Program} {n:Nat} {F:List (Nat×AV)} {H H':List (Nat×Row)} {o:Oper} {h:Hint} {Tr:AV->AV} {X:AV} {C:List Prop} (dZ:OI P n ⟨F,H⟩ o h=some (Tr,X,H',C)) (v:Value):Tr (.val v)= .val v:=by
 have uv:∀l:List Nat,iV l (.val v)= .val v:=by
  intro l
  induction l with
  | nil=>rfl
  | cons x l ih=>first|exact ih|(simp only [iV];exact ih)
 unfold OI at dZ
 split at dZ
 ·split at dZ
  ·cases dZ
   unfold JJ
   split<;>rfl
  ·cases dZ
 ·split at dZ
  ·cases dZ;rfl
  ·cases dZ
 ·split at dZ
  ·split at dZ
   ·cases dZ
    simp only [uv]
   ·cases dZ
  ·split at dZ
   ·cases dZ
    simp only [uv]
   ·cases dZ
  ·cases dZ
 ·split at dZ
  ·cases dZ;rfl
  ·cases dZ
 ·split at dZ
  ·split at dZ
   ·cases dZ;rfl
   ·cases dZ
  ·cases dZ
 ·cases dZ
theorem I1 {P:Program} {n:Nat} {ops:List Oper} {F:List (Nat×AV)} {H H':List (Nat×Row)} {o:Oper} {h:Hint} {Tr:AV->AV} {X:AV} {C:List Prop} (dZ:yf P ops n ⟨F,H⟩ o h=some (Tr,X,H',C)) (v:Value):Tr (.val v)= .val v:=by
 unfold yf at dZ
 split at dZ
 ·exact EL dZ v
 ·split at dZ
  ·split at dZ
   ·split at dZ
    ·rename_i he
     cases dZ
     exact EL he v
    ·cases dZ
   ·cases dZ
  ·cases dZ
def jz (P:Program) (n:Nat) (o:Oper):Option (Nat×Nat×Value) :=
 match o.guard,o.op,o.dst with
 | none,.alloc t,some d=>(match (P.info? t).bind (·.zero),Nat.blt d n,Nat.blt d 1000000000000 with
  | some z,true,true=>some (d,t,z)
  | _,_,_=>none)
 | _,_,_=>none
theorem jy {P:Program} {n:Nat} {o:Oper} {d t:Nat} {z:Value} (h:jz P n o=some (d,t,z)):o.guard=none∧o.op= .alloc t∧o.dst=some d∧(P.info? t).bind (·.zero)=some z∧d<n∧d<1000000000000:=by
 unfold jz at h
 split at h
 ·rename_i t' d' hg ho hd
  split at h
  ·rename_i z' hz h1 h2
   injection h with h
   injection h with e1 e2
   injection e2 with e2 e3
   subst e1;subst e2;subst e3
   exact ⟨hg,ho,hd,hz,by simpa [Nat.blt_eq] using h1,by simpa [Nat.blt_eq] using h2⟩
  ·cases h
 ·cases h
def Fq (g:Nat):Value:=.pointer (some ⟨g,0,none⟩)
def oD (Fs:List Nat) (G:Nat->Nat) (col:List AV):List AV:=col.mapIdx fun q x=>if q∈Fs then .val (Fq (G q)) else x
theorem tg {Fs:List Nat} {G:Nat->Nat} {col:List AV} {q:Nat} (h:q∈Fs):(oD Fs G col)[q]?=col[q]?.map fun _=>.val (Fq (G q)):=by
 unfold oD
 rw [List.getElem?_mapIdx]
 cases col[q]?<;>simp [h]
theorem l9 {Fs:List Nat} {G:Nat->Nat} {col:List AV} {q:Nat} (h:q ∉ Fs):(oD Fs G col)[q]?=col[q]?:=by
 unfold oD
 rw [List.getElem?_mapIdx]
 cases col[q]?<;>simp [h]
theorem Dn {ops:List Oper} {Fs:List Nat} {G:Nat->Nat} {col:List AV}:∀(l:List Nat),(∀d∈l,d ∉ Fs)->jo ops (oD Fs G col) l=jo ops col l
 | [],_=>rfl
 | d::l,h=>by
  simp only [jo,l9 (h d (by simp)),Dn l fun e he=>h e (by simp [he])]
def N_ (P:Program) (s:AS) (d t:Nat) (z:Value):AS:=⟨(d,.addr d 0)::cS s.F d,(d,⟨rF P t,false,true,z.cells.toList.map bC⟩)::s.H⟩
def y2 (P:Program) (n:Nat) (ops:List Oper):List Nat->AS->Option AS
 | [],s=>some s
 | f::l,s=>(match ops[f]? with
  | some o=>(match jz P n o with
   | some (d,t,z)=>(match look s.H d with
    | none=>y2 P n ops l (N_ P s d t z)
    | some _=>none)
   | none=>none)
  | none=>none)
theorem Aside.next {S1:bm} {w1:World} {g g':Nat} {o:Obj} (h:Aside S1 w1 g' o) (cV:g'≠g):Aside (vm S1 g) w1 g' o :=
 ⟨h.lt,fun q=>q.elim h.S cV,fun q=>q.elim h.X cV,h.tb,h.obj⟩
theorem k7.back {S0 S1:bm} {w0 w1:World} {g:Nat} (h:k7 S0 w0 S1 w1 []) (hg:w0.heap.size≤g) (hS:S0.S g):k7 S0 w0 (vm S1 g) w1 [] :=
 ⟨h.kept,fun b q=>q.elim (h.sub b) fun e=>e ▸ hS,fun b q=>q.elim (h.X b) fun e=>.inl (e ▸ hg),h.fix,h.si,List.nodup_nil,fun r hr=>by cases hr⟩
section
variable {P:Program} {n:Nat} {ops:List Oper} {S0:bm} {w0 w1 w:World} {a:Act} {G:Nat->Nat}
theorem wZ (Me:∀b,w0.heap.size≤b->S0.S b):∀(Fs:List Nat) (s s':AS) (S1:bm),Fs.Nodup->y2 P n ops Fs s=some s'->k7 S0 w0 S1 w1 [] ->
  (∀f∈Fs,∀o d t z,ops[f]?=some o->jz P n o=some (d,t,z)->w0.heap.size≤G f∧Aside S1 w1 (G f) (.cells z.cells t (0,0))∧a.tmps.getD d undef=Fq (G f)) ->
  (∀f∈Fs,∀f'∈Fs,f≠f'->G f≠G f')->iu S1 w1 n s a w-> ∃S2,k7 S0 w0 S2 w1 []∧iu S2 w1 n s' a w
 | [],s,s',S1,_,he,hz,_,_,hs=>by cases he;exact ⟨S1,hz,hs⟩
 | f::l,s,s',S1,hn,he,hz,hA,hG,hs=>by
  simp only [y2] at he
  split at he
  ·rename_i o ho
   split at he
   ·rename_i d t z hf
    split at he
    ·rename_i hl
     obtain ⟨h1,h2,h3⟩:=hA f (by simp) o d t z ho hf
     have hk:=DE (P:=P) h2 (jy hf).2.2.2.2.2 hl hs h3
     rw [List.nodup_cons] at hn
     refine wZ Me l _ s' (vm S1 (G f)) hn.2 he (hz.back h1 (Me _ h1)) (fun f' K4 o' d' t' z' ra GC=>?_) (fun f1 h1 f2 h2 cV=>hG f1 (by simp [h1]) f2 (by simp [h2]) cV) hk
     obtain ⟨k1,k2,k3⟩:=hA f' (by simp [K4]) o' d' t' z' ra GC
     exact ⟨k1,k2.next (hG f' (by simp [K4]) f (by simp) fun e=>hn.1 (e ▸ K4)),k3⟩
    ·cases he
   ·cases he
  ·cases he
end
theorem Aside.move {S1 S2:bm} {w1 w2:World} {ms:List Nat} {g:Nat} {o:Obj} (h:Aside S1 w1 g o) (k:k7 S1 w1 S2 w2 ms):Aside S2 w2 g o :=
 ⟨Nat.lt_of_lt_of_le h.lt k.kept.size,fun q=>h.S (k.sub g q),fun q=>(k.X g q).elim (fun e=>by have:=h.lt;omega) h.X,h.tb,(k.kept.block g h.lt h.X).trans h.obj⟩
def KD (ops:List Oper) (T:Nat) (Fs:List Nat) (R:List (List Nat)):Bool:=(List.range T).all fun q=> !(hit (R.getD q []) Fs) && match ops[q]? with|some o=> !(hit (bk o) Fs)|none=>true
def N9 (Fs Ws:List Nat):Bool:=Fs.all fun f=> !(Ws.any (Nat.beq f))
def Lh (P:Program) (n:Nat) (ops:List Oper) (Fs:List Nat):Bool:=Fs.all fun f=>match ops[f]? with|some o=>(jz P n o).isSome && (bk o).isEmpty|none=>false
def tc (P:Program) (n T:Nat) (Ws Fs:List Nat) (ops:List Oper) (hs:List (Nat×Hint)) (s:AS):Option (List nR×List Prop) :=
 match lD ops.toArray n,Nat.ble T ops.length,vi (mm (ops.take T) []) Ws,wX T Ws,nodupB Ws,wX T Fs,nodupB Fs,N9 Fs Ws,KD ops T Fs (mm (ops.take T) []),Lh P n ops Fs with
 | true,true,true,true,true,true,true,true,true,true=>l5 Fs P n T ops hs (mm (ops.take T) []) Ws [] [] true [] (nA ((ops.take T).filterMap (·.dst)) s.F) s.H
 | _,_,_,_,_,_,_,_,_,_=>none
def AA (late:List Nat) (col:List AV):List AV:=col.mapIdx fun q x=>match late.any (Nat.beq q) with|true=>.dead|false=>x
theorem HX {late:List Nat} {col:List AV} {q:Nat}:(AA late col)[q]?=col[q]?.map fun x=>match late.any (Nat.beq q) with|true=>.dead|false=>x:=by
 unfold AA;rw [List.getElem?_mapIdx]
def AU (P:Program) (n T:Nat) (Ws Fs late:List Nat) (ops:List Oper) (l:List nR):Option AS:=y2 P n ops Fs ⟨jb (ops.take T) (AA late (l.getD Ws.length default).col)++(l.getD Ws.length default).kept,(l.getD Ws.length default).H⟩
def yw (P:Program) (n T:Nat) (Ws Fs:List Nat) (ops:List Oper) (hs:List (Nat×Hint)) (s:AS):Option (AS×List Prop) :=
 match P.follows .mixedOrders,oG ops.toArray T,tc P n T Ws Fs ops hs s with
 | true,true,some (l,C)=>(match AU P n T Ws Fs [] ops l with
  | some s1=>(match j0 P n ops hs (ops.drop T) T s1 with
   | some (s',D)=>some (s',C++D)
   | none=>none)
  | none=>none)
 | _,_,_=>none
structure rN (P:Program) (n:Nat) (ops:List Oper) (Fs:List Nat) (L:Nat->Bool) (G:Nat->Nat) (S0:bm) (w0:World) (S1:bm) (w1:World):Prop where
 z:k7 S0 w0 S1 w1 []
 aside:∀f∈Fs,L f=true->w0.heap.size≤G f∧ ∃o d t z,ops[f]?=some o∧jz P n o=some (d,t,z)∧Aside S1 w1 (G f) (.cells z.cells t (0,0))
 inj:∀f∈Fs,∀f'∈Fs,L f=true->L f'=true->f≠f'->G f≠G f'
theorem rN.skip {P:Program} {n:Nat} {ops:List Oper} {Fs:List Nat} {L:Nat->Bool} {G:Nat->Nat} {S0 S1:bm} {w0 w1:World} (h:rN P n ops Fs L G S0 w0 S1 w1) {k:Nat} (hk:k ∉ Fs):rN P n ops Fs (eN L k) G S0 w0 S1 w1:=by
 have e:∀f∈Fs,eN L k f=L f:=fun f hf=>by
  have cV:f≠k:=fun e=>by subst e;exact hk hf
  unfold eN;rw [if_neg cV]
 exact ⟨h.z,fun f hf hL=>h.aside f hf (e f hf ▸ hL),fun f hf f' K4 h1 h2=>h.inj f hf f' K4 (e f hf ▸ h1) (e f' K4 ▸ h2)⟩
section
variable {P:Program} {n T:Nat} {ops:List Oper} {Fs:List Nat} {L:Nat->Bool} {G:Nat->Nat} {S0 S1:bm} {w0 w1 w:World} {a:Act} {Q:Exit->Act->World->Prop} {col:List AV} {kept:List (Nat×AV)} {H:List (Nat×Row)} {k d t:Nat} {z:Value} {o:Oper}
theorem CL (ik:(ops.filterMap (·.dst)).Nodup) (hk:k<T) (ho:ops[k]?=some o) (hf:jz P n o=some (d,t,z)) (EA:k∈Fs) (A2:L k=false)
  (fq:∀i x,look kept i=some x-> ∀j p,j<T->ops[j]?=some p->p.dst≠some i) (hF:rN P n ops Fs L G S0 w0 S1 w1) (hs:iu S1 w1 n ⟨dO ops (oD Fs G col) L T++kept,H⟩ a w) :
  o.wp P a w (fun a' w'=>∃S2 w2 G',rN P n ops Fs (eN L k) G' S0 w0 S2 w2∧iu S2 w2 n ⟨dO ops (oD Fs G' col) (eN L k) T++kept,H⟩ a' w') Q:=by
 obtain ⟨-,p2,p3,p4,p5,p6⟩:=jy hf
 refine Oper.wp_mono ?_ (Bx p2 p3 p5 p4 hs)
 rintro a' w' ⟨g,S2,h1,h2,h3,φ,h4⟩
 have cV:∀f,L f=true->f≠k:=fun f hL e=>by subst e;rw [A2] at hL;cases hL
 have eW:∀f,f≠k->eN L k f=L f:=fun f e=>by unfold eN;rw [if_neg e]
 have dh:∀f∈Fs,L f=true->G f≠g:=fun f GC hL e=>by
  obtain ⟨-,o',d',t',z',-,-,hA⟩:=hF.aside f GC hL
  have:=hA.lt
  omega
 refine ⟨S2,w',fun q=>if q=k then g else G q,⟨by simpa using hF.z.trans h2,fun f GC hL=>?_,fun f GC f' PX hL QX e=>?_⟩,⟨φ,aL.sub h4 fun i x hx=>?_⟩⟩
 ·by_cases e:f=k
  ·subst e
   simp only [if_pos]
   exact ⟨Nat.le_trans hF.z.kept.size h1,o,d,t,z,ho,hf,h3⟩
  ·rw [eW f e] at hL
   obtain ⟨k1,o',d',t',z',k2,k3,k4⟩:=hF.aside f GC hL
   simp only [if_neg e]
   exact ⟨k1,o',d',t',z',k2,k3,k4.move h2⟩
 ·by_cases e1:f=k
  ·have e2:f'≠k:=fun e2=>e (e1.trans e2.symm)
   rw [eW f' e2] at QX
   simp only [if_pos e1,if_neg e2]
   exact fun q=>dh f' PX QX q.symm
  ·rw [eW f e1] at hL
   by_cases e2:f'=k
   ·simp only [if_pos e2,if_neg e1]
    exact dh f GC hL
   ·rw [eW f' e2] at QX
    simp only [if_neg e1,if_neg e2]
    exact hF.inj f GC f' PX hL QX e
 ·rw [bM] at hx
  left
  show look ((d,_)::cS _ d) i=some x
  rw [aE]
  cases hl:look (dO ops (oD Fs (fun q=>if q=k then g else G q) col) (eN L k) T) i with
  | some y =>
   rw [hl] at hx
   simp at hx;subst hx
   obtain ⟨j,p,j1,j2,j3,j4,j5⟩:=kH _ _ _ _ _ _ hl
   by_cases e:j=k
   ·subst e
    rw [ho] at j3;injection j3 with j3;subst j3
    rw [p3] at j4;injection j4 with j4
    rw [if_pos j4]
    rw [tg EA] at j5
    cases hc:col[j]? with
    | none=>rw [hc] at j5;cases j5
    | some c =>
     rw [hc] at j5
     simp at j5
     rw [←j5];rfl
   ·have hid:d≠i:=fun q=>e (oo (ops:=ops.toArray) (by simpa using ik) (by simpa using j3) (by simpa using ho) j4 (q ▸ p3))
    rw [if_neg hid,bI,if_neg hid,bM]
    rw [eW j e] at j2
    have hj:(oD Fs G col)[j]?=some y:=by
     by_cases hm:j∈Fs
     ·rw [tg hm] at j5 ⊢
      rw [←j5,if_neg e]
     ·rw [l9 hm] at j5 ⊢
      exact j5
    rw [gp ik _ L T j i p y j1 j2 j3 j4 hj]
    rfl
  | none =>
   rw [hl] at hx
   simp at hx
   have hid:d≠i:=fun q=>fq i x hx k o hk ho (q ▸ p3)
   rw [if_neg hid,bI,if_neg hid,bM,jf fun j p hj hp=>fq i x hx j p hj hp,hx]
   rfl
end
def JF (P:Program) (n T:Nat) (Ws Fs:List Nat) (ops:List Oper) (st:Nat->nR) (S0:bm) (w0:World) (L:Nat->Bool) (a':Act) (w':World):Prop :=
 ∃i S1 w1 G,i≤Ws.length∧(∀(j W:Nat),Ws[j]?=some W->(L W=true↔j<i))∧rN P n ops Fs L G S0 w0 S1 w1∧iu S1 w1 n ⟨dO ops (oD Fs G (st i).col) L T++(st i).kept,(st i).H⟩ a' w'
section
variable {P:Program} {ops:List Oper} {S0:bm} {w0:World} {Q:Exit->Act->World->Prop}
theorem EB {n T:Nat} {Ws Fs:List Nat} {hs:List (Nat×Hint)} {s:AS} {l:List nR} {C1:List Prop} (he:tc P n T Ws Fs ops hs s=some (l,C1)) (iI:bx C1) {a:Act} {w:World} (fZ:iu S0 w0 n s a w) :
  lD ops.toArray n=true∧(JF P n T Ws Fs ops (fun i=>l.getD i default) S0 w0 (fun k=>(Array.replicate ops.toArray.size false).getD k false) a {w with drawn:=w.drawn+1}) ∧
  (∀k o (L:Nat->Bool) a' w',k<T->ops.toArray[k]?=some o->L k=false->(∀d∈bk o,L d=true)->(∀j p,L j=true->ops.toArray[j]?=some p-> ∀d∈bk p,L d=true)->(∀j,T≤j->L j=false)->JF P n T Ws Fs ops (fun i=>l.getD i default) S0 w0 L a' w' ->
   (if Region.wanted o (yielded ops.toArray a'.tmps)=true then o.wp P a' w' (fun rK fp=>JF P n T Ws Fs ops (fun i=>l.getD i default) S0 w0 (eN L k) rK fp) Q else JF P n T Ws Fs ops (fun i=>l.getD i default) S0 w0 (eN L k) (a'.put o.dst undef) w')) ∧
  (∀(late:List Nat) (s1:AS) (L:Nat->Bool) a' w',(∀k∈late,k ∉ Ws∧k ∉ Fs)->AU P n T Ws Fs late ops l=some s1->(∀k,k<T->k ∉ late->L k=true)->JF P n T Ws Fs ops (fun i=>l.getD i default) S0 w0 L a' w'-> ∃S2 w1,k7 S0 w0 S2 w1 []∧iu S2 w1 n s1 a' w'):=by
 unfold tc at he
 split at he
 case h_2=>cases he
 rename_i hB hT vJ M7 KZ PO RR Md gf sH
 have dP:=he
 obtain ⟨qD,ik,vq⟩:=fR hB
 have xT:(ops.filterMap (·.dst)).Nodup:=by simpa using ik
 have Sm:T≤ops.length:=by simpa [Nat.ble_eq] using hT
 have CD:∀(k:Nat) (o:Oper),ops[k]?=some o-> ∀d∈bk o,d<k:=fun k o h=>qD k o (by simpa using h)
 have M9:∀(k:Nat) (o:Oper) (s:Nat),ops[k]?=some o->o.dst=some s->s<n:=fun k o s h=>vq k o s (by simpa using h)
 generalize Sq:mm (ops.take T) []=R at dP vJ gf
 have hR:tj ops R:=by
  rw [←Sq]
  refine qR ops (ops.take T) [] (fun k o _ L _ _ j hj=>by simp at hj) (fun j o h=>?_) CD
  simpa using bX _ _ _ _ h
 obtain ⟨xU,Qa,Nr,p_⟩:=tJ _ _ _ _ _ _ _ _ _ dP iI
 have M7:=qy T Ws M7
 have KZ:=iB KZ
 generalize M1:(fun i=>l.getD i default)=st at *
 have QC:∀i,l.getD i default=st i:=fun i=>by rw [←M1]
 simp only [QC] at xU Qa Nr p_
 have fq:∀i,i≤Ws.length-> ∀(k:Nat) (x:AV),look (st i).kept k=some x-> ∀(j:Nat) (p:Oper),j<T->ops[j]?=some p->p.dst≠some k:=by
  intro i
  induction i with
  | zero =>
   intro _ k x hx j p hj hp
   rw [xU] at hx
   exact (ko ops T k).1 (fP _ _ _ _ hx).2 j p hj hp
  | succ i ih =>
   intro hi k x hx
   obtain ⟨o,Tr,X,D',-,-,-,k4,-⟩:=p_ i (Ws[i]' ah) (List.getElem?_eq_getElem ah)
   rw [k4,cy] at hx
   cases hl:look (st i).kept k with
   | none=>rw [hl] at hx;cases hx
   | some y=>exact ih ah k y hl
 have vI:∀i,i≤Ws.length-> ∃last first old,DI Fs P T ops hs R (Ws.drop i) (Ws.take i) last first old (st i):=by
  intro i hi
  cases i with
  | zero=>exact ⟨_,_,_,by simpa using Nr⟩
  | succ i =>
   obtain ⟨o,Tr,X,D',-,-,-,-,k5⟩:=p_ i (Ws[i]' ah) (List.getElem?_eq_getElem ah)
   exact ⟨_,_,_,by simpa using k5⟩
 have Ns:∀f∈Fs,f ∉ Ws:=fun f hf hw=>by
  have:=List.all_eq_true.1 Md f hf
  rw [any_beq.2 hw] at this;cases this
 have uH:∀q,q<T-> ∀f∈Fs,f ∉ R.getD q []:=fun q hq f hf hr=>by
  have:=List.all_eq_true.1 gf q (List.mem_range.2 hq)
  rw [n9.2 ⟨f,hr,hf⟩] at this;simp at this
 have Mc:∀q o,q<T->ops[q]?=some o-> ∀f∈bk o,f ∉ Fs:=fun q o hq ho f hr hf=>by
  have:=List.all_eq_true.1 gf q (List.mem_range.2 hq)
  rw [ho] at this
  simp only [n9.2 ⟨f,hr,hf⟩] at this
  simp at this
 have R_:∀f∈Fs,∃o d t z,ops[f]?=some o∧jz P n o=some (d,t,z):=fun f hf=>by
  have:=List.all_eq_true.1 sH f hf
  cases ho:ops[f]? with
  | none=>rw [ho] at this;cases this
  | some o =>
   rw [ho] at this
   cases IA:jz P n o with
   | none=>simp [IA] at this
   | some x=>exact ⟨o,x.1,x.2.1,x.2.2,rfl,IA⟩
 have PO:=qy T Fs PO
 have RR:=iB RR
 obtain ⟨φ,lH⟩:=fZ
 refine ⟨hB,?_,?_,?_⟩
 ·refine ⟨0,S0,w0,fun _=>0,ah,fun j W _=>by show (Array.replicate ops.toArray.size false).getD W false=true↔_;rw [getD_replicate_false];simp,⟨k7.refl lH.cX,fun f _ hL=>?_,fun f _ f' _ hL=>?_⟩,φ,?_⟩
  ·change (Array.replicate ops.toArray.size false).getD f false=true at hL
   rw [getD_replicate_false] at hL;cases hL
  ·change (Array.replicate ops.toArray.size false).getD f false=true at hL
   rw [getD_replicate_false] at hL;cases hL
  rw [nh _ _ _ (fun k=>getD_replicate_false _ _)]
  have hg:aL S0 w0 n [] s a w.drew φ:=lH.grow ((Below.refl _ _).drew)
  rw [Qa,xU]
  exact aL.sub (F:=s.F) hg fun i x hx=>.inl (fP _ _ _ _ (by simpa using hx)).1
 ·intro k o L a' w' hk ho A2 jc xX AK ⟨i,S1,w1,G,hi,hW,Nw,fZ⟩
  have ra:ops[k]?=some o:=by simpa using ho
  have gl:∀(j:Nat) (p:Oper),L j=true->ops[j]?=some p-> ∀d∈bk p,L d=true:=fun j p hj hp=>xX j p hj (by simpa using hp)
  have pf:∀j∈R.getD k [],L j=true:=hR k o ra L gl jc
  have qb:∀q,L q=true-> ∀j∈R.getD q [],L j=true:=fun q hq j hj=>by
   cases Ik:ops[q]? with
   | some p=>exact hR q p Ik L gl (fun d hd=>gl q p hq Ik d hd) j hj
   | none =>
    exfalso
    have h1:ops.length≤q:=List.getElem?_eq_none_iff.1 Ik
    have:=AK q ah
    rw [hq] at this;cases this
  have P4:∀d∈bk o,L d=true∧d<T:=fun d hd=>⟨jc d hd,by have:=CD k o ra d hd;omega⟩
  have uD:∀i',i≤i'-> ∀q,q<T->(∀j∈R.getD q [],L j=true)->hit (R.getD q []) (Ws.drop i'++Fs)=false:=by
   intro i' jj q UE hq
   cases hh:hit (R.getD q []) (Ws.drop i'++Fs) with
   | false=>rfl
   | true =>
    exfalso
    obtain ⟨x,h1,h2⟩:=n9.1 hh
    rcases List.mem_append.1 h2 with h2|h2
    case inr=>exact uH q UE x h2 h1
    obtain ⟨j,hj⟩:=List.mem_iff_getElem?.1 h2
    rw [List.getElem?_drop] at hj
    have:=(hW _ x hj).1 (hq x h1)
    omega
  have hlen:∀i,i≤Ws.length->(st i).col.length=T:=fun i hi=>by
   obtain ⟨last,first,old,Cd,FO,Le⟩:=vI i hi
   obtain ⟨d1,-,-⟩:=jA _ 0 [] _ _ FO Le rfl
   rw [d1,List.length_take];omega
  by_cases EA:k∈Fs
  ·obtain ⟨o',d,t,z,f1,f2⟩:=R_ k EA
   rw [ra] at f1;cases f1
   have jX:Region.wanted o (yielded ops.toArray a'.tmps)=true:=by unfold Region.wanted;rw [(jy f2).1]
   rw [if_pos jX]
   refine Oper.wp_mono ?_ (CL xT hk ra f2 EA A2 (fq i hi) Nw fZ)
   rintro rK fp ⟨S2,w2,G',g1,g2⟩
   refine ⟨i,S2,w2,G',hi,fun j2 W2 h2=>?_,g1,g2⟩
   have e:W2≠k:=fun e=>by subst e;exact Ns _ EA (List.mem_of_getElem? h2)
   unfold eN;rw [if_neg e];exact hW j2 W2 h2
  by_cases K1:k∈Ws
  ·obtain ⟨j,hj⟩:=List.mem_iff_getElem?.1 K1
   have M8:j<Ws.length:=(List.getElem?_eq_some_iff.1 hj).1
   have L9:¬j<i:=fun h=>by have:=(hW j k hj).2 h;rw [A2] at this;cases this
   have e:j=i:=by
    rcases Nat.lt_or_ge i j with h|h
    ·obtain ⟨j',rfl⟩:∃j',j=j'+1:=⟨j-1,ah⟩
     have KT:Ws[j']?=some (Ws[j']' ah):=List.getElem?_eq_getElem ah
     have h1:=pf _ (rE R Ws vJ j' _ k KT hj)
     have:=(hW j' _ KT).1 h1
     omega
    ·omega
   subst e
   obtain ⟨o',Tr,x,D',k1,k2,k3,k4,Cc,k5,k6⟩:=p_ j k hj
   rw [ra] at k1;cases k1
   simp only [List.nil_append] at k5
   obtain ⟨c1,c2,c3⟩:=jA _ 0 [] _ _ k5 k6 rfl
   simp only [Nat.zero_add] at c1 c3
   have Sn:(ops.take T).length=T:=by rw [List.length_take];omega
   have Ou:k ∉ Ws.drop (j+1):=fun hm=>by
    obtain ⟨j2,xV⟩:=List.mem_iff_getElem?.1 hm
    rw [List.getElem?_drop] at xV
    have:=lU KZ hj xV
    omega
   have R2:k∈Ws.take (j+1):=List.mem_iff_getElem?.2 ⟨j,by rw [List.getElem?_take,if_pos ah];exact hj⟩
   have hold:((((st j).col.map Tr).set k x).getD k .dead)=x:=by
    obtain ⟨last,first,old,Cd,FO,Le⟩:=vI j hi
    obtain ⟨d1,-,-⟩:=jA _ 0 [] _ _ FO Le rfl
    rw [Nat.zero_add,Sn] at d1
    rw [List.getD_eq_getElem?_getD,List.getElem?_set_self (by rw [List.length_map];omega)];rfl
   have iW:=vZ (P:=P) (S0:=S1) (w0:=w1) (Q:=Q) (n:=n) (T:=T) (col:=oD Fs G (st j).col) (col':=oD Fs G (st (j+1)).col) (L:=L) (a:=a') (w:=w') xT hk ra P4 (fq j hi) (by rw [Dn _ (Mc k o hk ra)];exact k2) k3 (by
    intro q z hq PB Sw hz
    by_cases Tv:q∈Fs
    ·left
     rw [tg Tv] at hz ⊢
     rw [List.getElem?_eq_getElem (by rw [hlen j hi];exact hq)]
     cases hc:(st (j+1)).col[q]? with
     | none=>rw [hc] at hz;cases hz
     | some c =>
      rw [hc] at hz
      simp only [Option.map_some] at hz ⊢
      rw [I1 k2];exact hz
    rw [l9 Tv] at hz ⊢
    have Ik:(ops.take T)[q]?=some (ops[q]' ah):=by rw [List.getElem?_take,if_pos hq];exact List.getElem?_eq_getElem ah
    obtain ⟨x',D2,e1,e2,e3⟩:=c3 q _ Ik
    rw [e1] at hz;injection hz with hz;subst hz
    unfold qu at e3
    split at e3
    ·split at e3
     ·split at e3
      ·rename_i xx CC dZ
       split at e3
       ·cases e3
        exact kf PB e2.1
       ·rename_i gf
        exfalso
        cases hh:hit (R.getD q []) [k] with
        | false=>exact gf rfl hh
        | true =>
         obtain ⟨y,h1,h2⟩:=n9.1 hh
         have:y=k:=by simpa using h2
         subst this
         have:=qb q Sw y h1
         rw [A2] at this;cases this
      ·cases e3
     ·cases e3
      exact kf PB rfl
    ·cases e3
     exact .inr rfl) (by
    have Ex:(ops.take T)[k]?=some o:=by rw [List.getElem?_take,if_pos hk];exact ra
    obtain ⟨x',D2,e1,e2,e3⟩:=c3 k _ Ex
    rw [l9 EA,e1]
    unfold qu at e3
    have r1:(Ws.drop (j+1)++Fs).any (Nat.beq k)=false:=by
     cases hh:(Ws.drop (j+1)++Fs).any (Nat.beq k) with
     | false=>rfl
     | true=>exact (List.mem_append.1 (any_beq.1 hh)).elim (fun q=>absurd q Ou) (fun q=>absurd q EA)
    have r2:=uD (j+1) ah k hk pf
    have r3:(Ws.take (j+1)).any (Nat.beq k)=true:=any_beq.2 R2
    rw [r1,r2,r3] at e3
    simp only at e3
    injection e3 with e3;injection e3 with e3 _
    rw [←e3,hold]) fZ
   have fin:∀rK fp,iu S1 w1 n ⟨dO ops (oD Fs G (st (j+1)).col) (eN L k) T++eg Tr (st j).kept,(st (j+1)).H⟩ rK fp->JF P n T Ws Fs ops st S0 w0 (eN L k) rK fp:=by
    intro rK fp h
    refine ⟨j+1,S1,w1,G,ah,fun j2 W2 h2=>?_,Nw.skip EA,by rw [k4];exact h⟩
    by_cases e:W2=k
    ·subst e
     have:=lU KZ hj h2
     unfold eN;rw [if_pos rfl];simp;omega
    ·unfold eN;rw [if_neg e,hW j2 W2 h2]
     have:j2≠j:=fun e2=>by subst e2;rw [hj] at h2;cases h2;exact e rfl
     omega
   split
   ·rename_i hw
    rw [if_pos hw] at iW
    exact Oper.wp_mono fin iW
   ·rename_i hw
    rw [if_neg hw] at iW
    exact fin _ _ iW
  ·obtain ⟨last,first,old,Cc,k5,k6⟩:=vI i hi
   obtain ⟨c1,c2,c3⟩:=jA _ 0 [] _ _ k5 k6 rfl
   simp only [Nat.zero_add] at c1 c3
   have Ex:(ops.take T)[k]?=some o:=by rw [List.getElem?_take,if_pos hk];exact ra
   obtain ⟨x',D2,e1,e2,e3⟩:=c3 k _ Ex
   unfold qu at e3
   have r1:(Ws.drop i++Fs).any (Nat.beq k)=false:=by
    cases hh:(Ws.drop i++Fs).any (Nat.beq k) with
    | false=>rfl
    | true=>exact (List.mem_append.1 (any_beq.1 hh)).elim (fun q=>absurd (List.mem_of_mem_drop q) K1) (fun q=>absurd q EA)
   have r2:=uD i (Nat.le_refl _) k hk pf
   have r3:(Ws.take i).any (Nat.beq k)=false:=by
    cases hh:(Ws.take i).any (Nat.beq k) with
    | false=>rfl
    | true=>exact absurd (List.mem_of_mem_take (any_beq.1 hh)) K1
   have r4:(Ws.take i).any (fun W=>(R.getD W []).any (Nat.beq k))=false:=by
    cases hh:(Ws.take i).any (fun W=>(R.getD W []).any (Nat.beq k)) with
    | false=>rfl
    | true =>
     exfalso
     obtain ⟨W,h1,h2⟩:=List.any_eq_true.1 hh
     obtain ⟨j,hj⟩:=List.mem_iff_getElem?.1 h1
     rw [List.getElem?_take] at hj
     split at hj
     ·rename_i L9
      have:=qb W ((hW j W hj).2 L9) k (any_beq.1 h2)
      rw [A2] at this;cases this
     ·cases hj
   rw [r1,r2,r3,r4] at e3
   simp only at e3
   have dZ:∃C',sL P ops ⟨jo ops ((st i).col.take k) (bk o)++(st i).kept,(st i).H⟩ o (gv hs k)=some (x',C')∧bx C':=by
    split at e3
    ·rename_i xx CC dZ
     split at e3
     ·cases e3;exact ⟨_,dZ,e2.2⟩
     ·cases e3;exact ⟨_,dZ,e2⟩
    ·cases e3
   obtain ⟨C',dZ,Qc⟩:=dZ
   rw [rC ops _ k _ (CD k o ra)] at dZ
   have iW:=tI (P:=P) (S0:=S1) (w0:=w1) (Q:=Q) (n:=n) (T:=T) (L:=L) (a:=a') (w:=w') (col:=oD Fs G (st i).col) xT M9 hk ra P4 (fq i hi) (by rw [Dn _ (Mc k o hk ra)];exact dZ) Qc (by rw [l9 EA];exact e1) fZ
   have fin:∀rK fp,iu S1 w1 n ⟨dO ops (oD Fs G (st i).col) (eN L k) T++(st i).kept,(st i).H⟩ rK fp->JF P n T Ws Fs ops st S0 w0 (eN L k) rK fp:=by
    intro rK fp h
    refine ⟨i,S1,w1,G,hi,fun j2 W2 h2=>?_,Nw.skip EA,h⟩
    have e:W2≠k:=fun e=>by subst e;exact K1 (List.mem_of_getElem? h2)
    unfold eN;rw [if_neg e];exact hW j2 W2 h2
   split
   ·rename_i hw
    rw [if_pos hw] at iW
    exact Oper.wp_mono fin iW
   ·rename_i hw
    rw [if_neg hw] at iW
    exact fin _ _ iW
 ·intro late s1 L a' w' L8 CE gi ⟨i,S1,w1,G,hi,hW,Nw,fZ⟩
  unfold AU at CE
  rw [QC] at CE
  have EE:∀f∈Fs,L f=true:=fun f hf=>gi f (PO f hf) fun q=>(L8 f q).2 hf
  have e:i=Ws.length:=by
   rcases Nat.lt_or_ge i Ws.length with h|h
   ·have KT:Ws[i]?=some (Ws[i]'h):=List.getElem?_eq_getElem h
    have:=(hW i _ KT).1 (gi _ (M7 _ (List.getElem_mem h)) fun q=>(L8 _ q).1 (List.getElem_mem h))
    omega
   ·omega
  subst e
  have hlen:(st Ws.length).col.length=T:=by
   obtain ⟨last,first,old,Cd,FO,Le⟩:=vI Ws.length hi
   obtain ⟨d1,-,-⟩:=jA _ 0 [] _ _ FO Le rfl
   rw [d1,List.length_take];omega
  have RI:∀f∈Fs,∀o d t z,ops[f]?=some o->jz P n o=some (d,t,z)->a'.tmps.getD d undef=Fq (G f):=fun f hf o d t z ho IA=>by
   obtain ⟨cB,bY⟩:=fZ
   have lB:look (dO ops (oD Fs G (st Ws.length).col) L T++(st Ws.length).kept) d=some (.val (Fq (G f))):=by
    rw [bM,gp xT _ L T f d o (.val (Fq (G f))) (PO f hf) (EE f hf) ho (jy IA).2.2.1 (by rw [tg hf,List.getElem?_eq_getElem (by rw [hlen];exact PO f hf)];rfl)]
    rfl
   exact bL (bY.cC d _ lB)
  have lY:∀b,w0.heap.size≤b->S0.S b:=fun b hb=>lH.new b (.inl hb)
  have Ct:iu S1 w1 n ⟨jb (ops.take T) (AA late (st Ws.length).col)++(st Ws.length).kept,(st Ws.length).H⟩ a' w':=by
   obtain ⟨cB,bY⟩:=fZ
   refine ⟨cB,aL.sub bY fun i x hx=>?_⟩
   rw [bM] at hx ⊢
   cases hh:look (jb (ops.take T) (AA late (st Ws.length).col)) i with
   | some y =>
    rw [hh] at hx
    simp at hx;subst hx
    obtain ⟨k,o,h1,h2,h3⟩:=kJ _ _ _ _ hh
    have vG:k<T:=by have:=(List.getElem?_eq_some_iff.1 h1).1;rw [List.length_take] at this;omega
    rw [HX] at h3
    cases hc:(st Ws.length).col[k]? with
    | none=>rw [hc] at h3;cases h3
    | some z =>
     rw [hc] at h3
     simp only [Option.map_some,Option.some.injEq] at h3
     by_cases iG:late.any (Nat.beq k)=true
     ·rw [iG] at h3
      exact .inr h3.symm
     simp only [Bool.not_eq_true] at iG
     rw [iG] at h3
     subst h3
     by_cases EA:k∈Fs
     ·right
      obtain ⟨last,first,old,Cd,FO,Le⟩:=vI Ws.length hi
      obtain ⟨-,-,c3⟩:=jA _ 0 [] _ _ FO Le rfl
      obtain ⟨x',D2,e1,e2,e3⟩:=c3 k o h1
      simp only [Nat.zero_add] at e1 e3
      unfold qu at e3
      rw [any_beq.2 (List.mem_append.2 (.inr EA))] at e3
      simp only at e3
      rw [hc] at e1;injection e1 with e1
      injection e3 with e3;injection e3 with e3 _
      rw [e1,←e3]
     ·left
      rw [gp xT _ L T k i o z vG (gi k vG fun q=>by rw [any_beq.2 q] at iG;cases iG) (bX _ _ _ _ h1) h2 (by rw [l9 EA];exact hc)];rfl
   | none =>
    rw [hh] at hx
    simp at hx
    left
    rw [jf fun j p hj hp=>fq _ (Nat.le_refl _) i x hx j p hj hp]
    simpa using hx
  obtain ⟨S2,KS,mX⟩:=wZ (P:=P) (n:=n) (ops:=ops) (S0:=S0) (w0:=w0) (w1:=w1) (w:=w') (a:=a') (G:=G) lY Fs _ s1 S1 RR CE Nw.z (fun f hf o d t z ho IA=>by
   obtain ⟨k1,o',d',t',z',k2,k3,k4⟩:=Nw.aside f hf (EE f hf)
   rw [ho] at k2;cases k2
   rw [IA] at k3;cases k3
   exact ⟨k1,k4,RI f hf o d t z ho IA⟩) (fun f hf f' K4 cV=>Nw.inj f hf f' K4 (EE f hf) (EE f' K4) cV) Ct
  exact ⟨S2,w1,KS,mX⟩
theorem C5 {n T:Nat} {Ws Fs:List Nat} {hs:List (Nat×Hint)} {s s':AS} {C:List Prop} (he:yw P n T Ws Fs ops hs s=some (s',C)) (hC:bx C) {a:Act} {w:World} (fZ:iu S0 w0 n s a w) (hQ:∀a' w',mZ S0 w0 n s' a' w'->Q .normal a' w'):P.follows .mixedOrders=true∧wpAny P .any ops.toArray Q ops.toArray.size (Array.replicate ops.toArray.size false) a {w with drawn:=w.drawn+1}:=by
 unfold yw at he
 split at he
 case h_2=>cases he
 rename_i l C1 hm hT hh
 split at he
 case h_2=>cases he
 rename_i s1 CE
 split at he
 case h_2=>cases he
 rename_i s2 D oO
 cases he
 obtain ⟨iI,hD⟩:=bQ.1 hC
 obtain ⟨hB,h1,h2,h3⟩:=EB (Q:=Q) hh iI fZ
 unfold oG at hT
 simp only [Bool.and_eq_true,decide_eq_true_eq] at hT
 obtain ⟨⟨⟨GG,Ld⟩,Lc⟩,Lb⟩:=hT
 refine ⟨hm,na (n:=n) GG Ld Lc Lb hB (JF P n T Ws Fs ops (fun i=>l.getD i default) S0 w0) (fun k o L a' w' hk ho A2 hd hc AK hJ=>h2 k o L a' w' hk ho A2 hd hc AK hJ) ?_ ops.toArray.size _ a _ ⟨by simp,fun k o hk=>?_⟩ h1 (fun j _=>by rw [getD_replicate_false]) (by simp)⟩
 ·intro L a' w' gi AK hJ
  obtain ⟨S2,w1,KS,mX⟩:=h3 [] s1 L a' w' (fun k hk=>by cases hk) CE (fun k hk _=>gi k hk) hJ
  have ke:=jN (S0:=S2) (w0:=w1) (Q:=Q) _ _ _ _ _ oO hD a' w' mX fun a2 w2 h2=>hQ a2 w2 (mZ.after KS h2.one)
  simpa using ke
 ·rw [getD_replicate_false] at hk;cases hk
def N7 (M q:Nat) (Ws Fs:List Nat) (o:Oper):Bool:=Nat.blt q M && !(Ws.any (Nat.beq q)) && !(Fs.any (Nat.beq q)) && (List.range M).all fun k=>Nat.beq k q || (bk o).any (Nat.beq k)
theorem DC {M q:Nat} {Ws Fs:List Nat} {o:Oper} (h:N7 M q Ws Fs o=true):q<M∧q ∉ Ws∧q ∉ Fs∧ ∀k,k<M->k≠q->k∈bk o:=by
 unfold N7 at h
 simp only [Bool.and_eq_true] at h
 obtain ⟨⟨⟨h1,h2⟩,h3⟩,h4⟩:=h
 refine ⟨by simpa [Nat.blt_eq] using h1,fun q=>(by rw [any_beq.2 q] at h2;cases h2),fun q=>(by rw [any_beq.2 q] at h3;cases h3),fun k hk cV=>?_⟩
 have:=List.all_eq_true.1 h4 k (List.mem_range.2 hk)
 rw [Bool.or_eq_true] at this
 exact this.elim (fun e=>absurd (Nat.eq_of_beq_eq_true e) cV) any_beq.1
def uQ (s:AS) (d:Nat):AS:=match look s.F d with|some x=>⟨(d,x)::cS s.F d,s.H⟩|none=>s
theorem FW {S0:bm} {w0 w:World} {n:Nat} {s:AS} {d:Nat} {a:Act} (h:iu S0 w0 n s a w):iu S0 w0 n (uQ s d) a w:=by
 unfold uQ
 split
 ·rename_i x hx
  obtain ⟨φ,h⟩:=h
  refine ⟨φ,aL.sub (F:=s.F) h fun i y hy=>.inl ?_⟩
  rw [aE] at hy
  split at hy
  ·rename_i e;subst e;cases hy;exact hx
  ·rename_i e;rw [bI,if_neg e] at hy;exact hy
 ·exact h
def yt (P:Program) (n M q:Nat) (Ws Fs:List Nat) (ops:List Oper) (hs:List (Nat×Hint)) (s:AS):Option (AS×AS×AS×List Prop) :=
 match P.follows .mixedOrders,oG ops.toArray (M+1),tc P n M Ws Fs ops hs s,ops[M]?,ops[q]? with
 | true,true,some (l,C),some o,some p=>(match N7 M q Ws Fs o,o.guard,p.guard,p.dst,AU P n M Ws Fs [] ops l,AU P n M Ws Fs [q] ops l with
  | true,none,none,some d,some sa,some sb=>(match Bi P n sa o (gv hs M),Bi P n sb o (gv hs M) with
   | some (sA,D1),some (sB,D2)=>(match Bi P n sB p (gv hs q) with
    | some (sC,D3)=>(match j0 P n ops hs (ops.drop (M+1)) (M+1) sC with
     | some (s',D4)=>some (s',uQ sA d,sC,C++(D1++(D2++(D3++D4))))
     | none=>none)
    | none=>none)
   | _,_=>none)
  | _,_,_,_,_,_=>none)
 | _,_,_,_,_=>none
theorem C4 {n M q:Nat} {Ws Fs:List Nat} {hs:List (Nat×Hint)} {s s' x:AS} {C:List Prop} (he:yt P n M q Ws Fs ops hs s=some (s',x,x,C)) (hC:bx C) {a:Act} {w:World} (fZ:iu S0 w0 n s a w) (hQ:∀a' w',mZ S0 w0 n s' a' w'->Q .normal a' w'):P.follows .mixedOrders=true∧wpAny P .any ops.toArray Q ops.toArray.size (Array.replicate ops.toArray.size false) a {w with drawn:=w.drawn+1}:=by
 unfold yt at he
 split at he
 case h_2=>cases he
 rename_i l C1 o p hm hT hh ho hp
 split at he
 case h_2=>cases he
 rename_i d sa sb Sj UI UG V6 UB UA
 split at he
 case h_2=>cases he
 rename_i sA D1 sB D2 hA VB
 split at he
 case h_2=>cases he
 rename_i sC D3 VA
 split at he
 case h_2=>cases he
 rename_i s2 D4 oO
 have he:=Option.some.inj he
 have e1:s2=s':=congrArg (·.1) he
 have e2:uQ sA d=x:=congrArg (·.2.1) he
 have e3:sC=x:=congrArg (·.2.2.1) he
 have e4:C1++(D1++(D2++(D3++D4)))=C:=congrArg (·.2.2.2) he
 subst e1
 have e5:uQ sA d=sC:=e2.trans e3.symm
 rw [←e4] at hC
 obtain ⟨iI,hC⟩:=bQ.1 hC
 obtain ⟨Vy,hC⟩:=bQ.1 hC
 obtain ⟨Vx,hC⟩:=bQ.1 hC
 obtain ⟨Vw,Vv⟩:=bQ.1 hC
 obtain ⟨b1,b2,b3,b4⟩:=DC Sj
 obtain ⟨hB,h1,h2,h3⟩:=EB (Q:=Q) hh iI fZ
 unfold oG at hT
 simp only [Bool.and_eq_true,decide_eq_true_eq] at hT
 obtain ⟨⟨⟨GG,Ld⟩,Lc⟩,Lb⟩:=hT
 let J:(Nat->Bool)->Act->World->Prop:=fun L a' w'=>(L M=false∧JF P n M Ws Fs ops (fun i=>l.getD i default) S0 w0 L a' w')∨(L M=true∧ ∃S2 w2,k7 S0 w0 S2 w2 []∧((L q=true∧iu S2 w2 n sC a' w')∨(L q=false∧iu S2 w2 n sB a' w')))
 have jX:∀(o:Oper) (a':Act),o.guard=none->Region.wanted o (yielded ops.toArray a'.tmps)=true:=fun o a' hg=>by unfold Region.wanted;rw [hg]
 refine ⟨hm,na (n:=n) GG Ld Lc Lb hB J ?_ ?_ ops.toArray.size _ a _ ⟨by simp,fun k o hk=>?_⟩ (.inl ⟨getD_replicate_false _ _,h1⟩) (fun j _=>by rw [getD_replicate_false]) (by simp)⟩
 ·intro k o1 L a' w' hk Tw A2 hd hc AK hJ
  have Gz:ops[k]?=some o1:=by simpa using Tw
  have cV:q≠M:=ah
  by_cases ek:k=M
  ·subst ek
   rw [ho] at Gz;cases Gz
   rw [if_pos (jX o a' UI)]
   have TV:=hJ.resolve_right fun h=>by rw [A2] at h;cases h.1
   have gi:∀j,j<k->j≠q->L j=true:=fun j hj R4=>hd j (b4 j hj R4)
   have pk:eN L k k=true:=by unfold eN;rw [if_pos rfl]
   have pq:eN L k q=L q:=by unfold eN;rw [if_neg cV]
   cases hq:L q with
   | true =>
    obtain ⟨S2,w1,KS,mX⟩:=h3 [] sa L a' w' (fun k hk=>by cases hk) UB (fun j hj _=>by
     by_cases e:j=q
     ·rw [e];exact hq
     ·exact gi j hj e) TV.2
    exact Oper.wp_mono (fun rK fp h=>.inr ⟨pk,S2,w1,KS,.inl ⟨by rw [pq];exact hq,by rw [←e5];exact FW h⟩⟩) (oc hA Vy S2 w1 a' w' Q mX)
   | false =>
    obtain ⟨S2,w1,KS,mX⟩:=h3 [q] sb L a' w' (fun k hk=>by obtain rfl:=List.mem_singleton.1 hk;exact ⟨b2,b3⟩) UA (fun j hj R4=>gi j hj fun e=>R4 (by simp [e])) TV.2
    exact Oper.wp_mono (fun rK fp h=>.inr ⟨pk,S2,w1,KS,.inr ⟨by rw [pq];exact hq,h⟩⟩) (oc VB Vx S2 w1 a' w' Q mX)
  ·have TE:k<M:=ah
   have pM:eN L k M=L M:=by unfold eN;rw [if_neg fun e=>ek e.symm]
   rcases hJ with ⟨hM,hJ⟩|⟨hM,S2,w2,hz,hJ⟩
   ·have:=h2 k o1 L a' w' TE Tw A2 hd hc (fun j hj=>by
     by_cases e:j=M
     ·rw [e];exact hM
     ·exact AK j ah) hJ
    split
    ·rename_i hw
     rw [if_pos hw] at this
     exact Oper.wp_mono (fun rK fp h=>.inl ⟨by rw [pM];exact hM,h⟩) this
    ·rename_i hw
     rw [if_neg hw] at this
     exact .inl ⟨by rw [pM];exact hM,this⟩
   ·have VN:k=q:=Classical.byContradiction fun e=>by
     have:=hc M o hM (by simpa using ho) k (b4 k TE e)
     rw [A2] at this;cases this
    subst VN
    rw [hp] at Gz;cases Gz
    rw [if_pos (jX p a' UG)]
    have hs:=(hJ.resolve_left fun h=>by rw [A2] at h;cases h.1).2
    exact Oper.wp_mono (fun rK fp h=>.inr ⟨by rw [pM];exact hM,S2,w2,hz,.inl ⟨by unfold eN;rw [if_pos rfl],h⟩⟩) (oc VA Vw S2 w2 a' w' Q hs)
 ·intro L a' w' gi AK hJ
  have hM:=gi M ah
  have hq:=gi q ah
  obtain ⟨-,S2,w2,hz,hJ⟩:=hJ.resolve_left fun h=>by rw [hM] at h;cases h.1
  have hs:=(hJ.resolve_right fun h=>by rw [hq] at h;cases h.1).2
  have ke:=jN (S0:=S2) (w0:=w2) (Q:=Q) _ _ _ _ _ oO Vv a' w' hs fun a2 w2 h2=>hQ a2 w2 (mZ.after hz h2.one)
  simpa using ke
 ·rw [getD_replicate_false] at hk;cases hk
end
def yj (P:Program) (n T:Nat) (Ws Fs:List Nat) (hs:List (Nat×Hint)) (c:Code) (s:AS):Option (AS×List Prop) :=
 match c with
 | .region _ ⟨l⟩ true=>yw P n T Ws Fs l hs s
 | _=>none
theorem bf.Re {P:Program} {n:Nat} {c:Code} {Q:Exit->AS->Prop} {s s':AS} {C:List Prop} (T:Nat) (Ws Fs:List Nat) (hs:List (Nat×Hint)) (he:yj P n T Ws Fs hs c s=some (s',C)) (hC:bx C) (h:Q .normal s'):bf P n c Q s:=by
 intro S0 w0 a w fZ
 unfold yj at he
 split at he
 ·exact C5 (S0:=S0) (w0:=w0) he hC fZ fun a' w' bY=>⟨s',h,bY⟩
 ·cases he
def mH (P:Program) (n M q:Nat) (Ws Fs:List Nat) (hs:List (Nat×Hint)) (c:Code) (s:AS):Option (AS×AS×AS×List Prop) :=
 match c with
 | .region _ ⟨l⟩ true=>yt P n M q Ws Fs l hs s
 | _=>none
def MH (r:Option (AS×AS×AS×List Prop)):Option (AS×List Prop):=match r with|some (s',_,_,C)=>some (s',C)|none=>none
def LU (r:Option (AS×AS×AS×List Prop)):AS:=match r with|some (_,x,_,_)=>x|none=>⟨[],[]⟩
def LS (r:Option (AS×AS×AS×List Prop)):AS:=match r with|some (_,_,y,_)=>y|none=>⟨[],[]⟩
theorem bf.Rd {P:Program} {n:Nat} {c:Code} {Q:Exit->AS->Prop} {s s':AS} {C:List Prop} (M q:Nat) (Ws Fs:List Nat) (hs:List (Nat×Hint)) (hx:LU (mH P n M q Ws Fs hs c s)=LS (mH P n M q Ws Fs hs c s)) (he:MH (mH P n M q Ws Fs hs c s)=some (s',C)) (hC:bx C) (h:Q .normal s'):bf P n c Q s:=by
 intro S0 w0 a w fZ
 generalize hr:mH P n M q Ws Fs hs c s=r at he hx
 match r,he,hx with
 | some (_,x,y,_),he,hx =>
  have he:some (_,_)=some (s',C):=he
  injection he with he
  injection he with e1 e2
  have hx:x=y:=hx
  subst e1 e2 hx
  unfold mH at hr
  split at hr
  ·exact C4 (S0:=S0) (w0:=w0) hr hC fZ fun a' w' bY=>⟨_,h,bY⟩
  ·cases hr
end Go.Proofs.YtjgbhhnghedgdaaGreatDoor
