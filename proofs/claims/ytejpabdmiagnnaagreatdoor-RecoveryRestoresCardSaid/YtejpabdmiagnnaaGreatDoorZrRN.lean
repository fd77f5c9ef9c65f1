import Derived.Test.YtejpabdmiagnnaaGreatDoorZrSh6
import Derived.MapKept
set_option linter.all false
namespace Go.Proofs.YtejpabdmiagnnaaGreatDoor
open Go.RowKit
def bsV (k:List UInt8):Value:=.string ⟨k.toArray⟩
def MapAt (w:World) (g:Nat) (ks:List (List UInt8)):Prop:=∃es clock,w.heap[g]?=some (.map es clock)∧es.toList.map (·.key)=ks.map bsV∧ ∀e∈es.toList,e.val= .bool true
theorem byteArray_beq (a b:List UInt8):((⟨a.toArray⟩:ByteArray) == ⟨b.toArray⟩)=decide (a=b):=by
 show (a.toArray == b.toArray)=_
 by_cases h:a=b
 ·subst h;simp
 ·simp [h]
theorem find_str (k:List UInt8):∀(l:List MapEntry) (ks:List (List UInt8)) (i:Nat),l.map (·.key)=ks.map bsV->(∀e∈l,e.val= .bool true)->(k ∉ ks∧Instr.findNow .string (bsV k) l i=some none)∨(k∈ks∧ ∃j,Instr.findNow .string (bsV k) l i=some (some (j,.bool true)))
 | [],ks,i,h,_=>by
  have:ks= []:=by cases ks with
   | nil=>rfl
   | cons=>cases h
  subst this
  exact .inl ⟨by simp,rfl⟩
 | e::l,[],i,h,_=>by cases h
 | e::l,q::ks,i,h,hv=>by
  simp only [List.map_cons,List.cons.injEq] at h
  obtain ⟨h1,h2⟩:=h
  have hs:Instr.sameNow .string (bsV k) e.key=some (decide (k=q)):=by
   rw [h1]
   show some ((⟨k.toArray⟩:ByteArray) == ⟨q.toArray⟩)=_
   congr 1
   rw [byteArray_beq]
  by_cases hkq:k=q
  ·subst hkq
   right
   refine ⟨by simp,i,?_⟩
   unfold Instr.findNow
   rw [hs,hv e (by simp),decide_eq_true rfl]
  ·rw [decide_eq_false hkq] at hs
   have ih:=find_str k l ks (i+1) h2 fun e he=>hv e (by simp [he])
   unfold Instr.findNow
   rw [hs]
   rcases ih with ⟨a,b⟩|⟨a,b⟩
   ·exact .inl ⟨by simp [hkq,a],b⟩
   ·exact .inr ⟨by simp [a],b⟩
section
variable {P:Program} {w:World} {g:Nat} {ks:List (List UInt8)} {t kt et:TypeId}
theorem MapAt.look (h:MapAt w g ks) (ht:P.underlying t=some (.map kt et)) (hk:P.underlying kt=some .string) (hz:(zeroValue et).run P w= .ok (.bool false) w) (k:List UInt8) :
  (Instr.lookup t (.map (some g)) (bsV k) false).run P w= .ok (.bool (decide (k∈ks))) w:=by
 obtain ⟨es,clock,hb,h1,h2⟩:=h
 have hc:∀b,(Instr.checkKey b 10000 kt (bsV k)).run P w= .ok () w:=fun b=>MapKept.run_checkKey hk (show MapKept.IsKey .string (bsV k) from trivial) b 9999
 rcases find_str k es.toList ks 0 h1 h2 with ⟨a,b⟩|⟨a,j,b⟩
 ·have hf:(Instr.findKey kt (bsV k) es.toList).run P w= .ok none w:=MapKept.run_findKey hk b
  simp [Instr.lookup,run_underlying ht,MapKept.run_getObj_map hb,hc,hf,hz,a,Result.andThen]
 ·have hf:(Instr.findKey kt (bsV k) es.toList).run P w= .ok (some (j,.bool true)) w:=MapKept.run_findKey hk b
  simp [Instr.lookup,run_underlying ht,MapKept.run_getObj_map hb,hc,hf,a,Result.andThen]
theorem MapAt.put (h:MapAt w g ks) (ht:P.underlying t=some (.map kt et)) (hk:P.underlying kt=some .string) {k:List UInt8} (hn:k ∉ ks) :
  ∃w',(Instr.mapUpdate t (.map (some g)) (bsV k) (.bool true)).run P w= .ok () w'∧MapAt w' g (ks++ [k])∧(∀b,b≠g->w'.heap[b]?=w.heap[b]?)∧w'.heap.size=w.heap.size∧w'.os=w.os∧w'.tape=w.tape∧w'.output=w.output:=by
 obtain ⟨es,clock,hb,h1,h2⟩:=h
 have hc:∀b,(Instr.checkKey b 10000 kt (bsV k)).run P w= .ok () w:=fun b=>MapKept.run_checkKey hk (show MapKept.IsKey .string (bsV k) from trivial) b 9999
 rcases find_str k es.toList ks 0 h1 h2 with ⟨a,b⟩|⟨a,j,b⟩
 ·have hf:(Instr.findKey kt (bsV k) es.toList).run P w= .ok none w:=MapKept.run_findKey hk b
  have hs:=fun o=>MapKept.run_setObj_map (P:=P) o hb
  refine ⟨{w with heap:=w.heap.setIfInBounds g (Obj.map (es.push {key:=bsV k,val:=.bool true,born:=clock}) (clock+1))},by simp [Instr.mapUpdate,run_underlying ht,MapKept.run_getObj_map hb,hc,hf,hs,Result.andThen],⟨es.push {key:=bsV k,val:=.bool true,born:=clock},clock+1,(MapKept.heap_set hb).1,by simp [h1],fun e he=>?_⟩,(MapKept.heap_set hb).2,by simp,rfl,rfl,rfl⟩
  simp at he
  rcases he with he|he
  ·exact h2 e (by simpa using he)
  ·subst he;rfl
 ·exact absurd a hn
end
def SimM (S0:Zone) (w0:World) (n g:Nat) (ks:List (List UInt8)) (s:AS) (a:Act) (w:World):Prop :=
 w0.heap.size≤g∧MapAt w g ks∧ ∃S1 w1 ms,ZExt S0 w0 S1 w1 ms∧Sim S1 w1 n s a w∧ ¬S1.S g∧g<w1.heap.size
def AWPm (P:Program) (n g:Nat) (c:Code) (Q:Exit->AS->List (List UInt8)->Prop) (s:AS) (ks:List (List UInt8)):Prop :=
 ∀S0 w0 a w,SimM S0 w0 n g ks s a w->swp P c (fun e a' w'=>∃s' ks',Q e s' ks'∧SimM S0 w0 n g ks' s' a' w') a w
def ThenM (K:AS->List (List UInt8)->Prop) (Q:Exit->AS->List (List UInt8)->Prop):Exit->AS->List (List UInt8)->Prop
 | .normal,s,ks=>K s ks
 | e,s,ks=>Q e s ks
def InBM (id:Nat) (Q:Exit->AS->List (List UInt8)->Prop):Exit->AS->List (List UInt8)->Prop
 | .exit id',s,ks=>if id'=id then Q .normal s ks else Q (.exit id') s ks
 | e,s,ks=>Q e s ks
section
variable {P:Program} {n g:Nat} {c:Code} {Q:Exit->AS->List (List UInt8)->Prop} {s:AS} {ks:List (List UInt8)}
theorem AWPm.plain (h:AWP P n c (fun e s'=>Q e s' ks) s):AWPm P n g c Q s ks:=by
 intro S0 w0 a w ⟨h1,h2,S1,w1,ms,h3,h4,h5,h6⟩
 refine swp_mono c _ _ (fun e a' w' ⟨s',hq,S2,w2,ms2,k1,k2⟩=>⟨s',ks,hq,h1,?_,S2,w2,ms2++ms,h3.trans k1,k2,fun hS=>h5 (k1.sub g hS),Nat.lt_of_lt_of_le h6 k1.kept.size⟩) a w (h S1 w1 a w h4)
 obtain ⟨φ,hφ⟩:=h4
 obtain ⟨φ2,hφ2⟩:=k2
 have e1:w2.heap[g]?=w1.heap[g]?:=k1.kept.block g h6 fun hX=>h5 (hφ.new g (.inr hX))
 have e2:w'.heap[g]?=w2.heap[g]?:=hφ2.bel.block g (Nat.lt_of_lt_of_le h6 k1.kept.size) fun hX=>h5 (k1.sub g (hφ2.new g (.inr hX)))
 have e3:w.heap[g]?=w1.heap[g]?:=hφ.bel.block g h6 fun hX=>h5 (hφ.new g (.inr hX))
 obtain ⟨es,clock,hb,r⟩:=h2
 exact ⟨es,clock,by rw [e2,e1,←e3];exact hb,r⟩
theorem SimM.weak {S0:Zone} {w0:World} {s':AS} {a:Act} {w:World} (hw:Weaks s s') (h:SimM S0 w0 n g ks s a w):SimM S0 w0 n g ks s' a w:=by
 obtain ⟨h1,h2,S1,w1,ms,h3,h4,h5,h6⟩:=h
 exact ⟨h1,h2,S1,w1,ms,h3,hw _ _ _ _ _ h4,h5,h6⟩
theorem AWPm.seq (hc:isSeq c=true) (h:AWPm P n g (fstC c) (ThenM (AWPm P n g (sndC c) Q) Q) s ks):AWPm P n g c Q s ks:=by
 cases c with
 | seq x y =>
  intro S0 w0 a w hs
  refine swp_mono x _ _ (fun e a' w' ⟨s',ks',hq,hs'⟩=>?_) a w (h S0 w0 a w hs)
  cases e with
  | normal=>exact hq S0 w0 a' w' hs'
  | _=>exact ⟨s',ks',hq,hs'⟩
 | _=>cases hc
theorem SimM.eval {S0:Zone} {w0:World} {a:Act} {w:World} (hs:SimM S0 w0 n g ks s a w) {x:Operand} {v:Value} (hx:opd s x= .val v):a.eval x=v:=by
 obtain ⟨_,_,_,_,_,_,⟨φ,hs'⟩,_⟩:=hs
 exact den_val (hx ▸ hs'.opd x)
theorem AWPm.cond {x:Operand} {b:Bool} (hc:condC c=some x) (hx:opd s x= .val (.bool b)) (ht:b=true->AWPm P n g (thenC c) Q s ks) (hf:b=false->AWPm P n g (elseC c) Q s ks):AWPm P n g c Q s ks:=by
 cases c with
 | cond y p q =>
  cases hc
  intro S0 w0 a w hs
  exact ⟨b,hs.eval hx,fun e=>ht e S0 w0 a w hs,fun e=>hf e S0 w0 a w hs⟩
 | _=>cases hc
theorem AWPm.block {id:Nat} (hc:blockC c=some id) (h:AWPm P n g (bodyC c) (InBM id Q) s ks):AWPm P n g c Q s ks:=by
 cases c with
 | block id' b =>
  cases hc
  intro S0 w0 a w hs
  refine swp_mono b _ _ (fun e a' w' ⟨s',ks',hq,hs'⟩=>?_) a w (h S0 w0 a w hs)
  cases e with
  | exit i =>
   simp only [InBM] at hq
   simp only [Exit.inBlock]
   split
   ·rename_i hi;rw [if_pos hi] at hq;exact ⟨s',ks',hq,hs'⟩
   ·rename_i hi;rw [if_neg hi] at hq;exact ⟨s',ks',hq,hs'⟩
  | _=>exact ⟨s',ks',hq,hs'⟩
 | _=>cases hc
theorem AWPm.loop {ι:Type} (I:ι->AS) (K:ι->List (List UInt8)) (Inv:ι->Prop) (m:ι->Nat) (hc:isLoop c=true) (x0:ι) (h0:Inv x0) (hk:ks=K x0) (hw:Weaks s (I x0))
  (h:∀x,Inv x->AWPm P n g (bodyC c) (ThenM (fun s' ks'=>∃y,Inv y∧m y<m x∧ks'=K y∧Weaks s' (I y)) Q) (I x) (K x)):AWPm P n g c Q s ks:=by
 cases c with
 | loop b =>
  intro S0 w0 a w hs
  subst hk
  refine ⟨fun k a w=>∃x,Inv x∧m x=k∧SimM S0 w0 n g (K x) (I x) a w,m x0,⟨x0,h0,rfl,hs.weak hw⟩,fun k a w ⟨x,hi,hm,hs⟩=>?_⟩
  refine swp_mono b _ _ (fun e a' w' ⟨s',ks',hq,hs'⟩=>?_) a w (h x hi S0 w0 a w hs)
  cases e with
  | normal =>
   obtain ⟨y,hy,hlt,hk,hwk⟩:=hq
   subst hk
   exact ⟨m y,hm ▸ hlt,y,hy,rfl,hs'.weak hwk⟩
  | _=>exact ⟨s',ks',hq,hs'⟩
 | _=>cases hc
end
theorem SimM.make {S0 S1:Zone} {w0 w1 w w':World} {ms:List Nat} {n g:Nat} {ks:List (List UInt8)} {s:AS} {a:Act} {φ:Nat->Option Nat} (hE:ZExt S0 w0 S1 w1 ms) (h:SimO S1 w1 n [] s a w φ) (hg:w0.heap.size≤g) (hgl:g<w'.heap.size) (hgS:g<w.heap.size-> ¬S1.S g)
  (hsz:w.heap.size≤w'.heap.size) (hb:∀b,b<w.heap.size->b≠g->w'.heap[b]?=w.heap[b]?) (hos:w'.os=w.os) (htape:w'.tape=w.tape) (hout:w'.output=w.output) (hne:∀r,w.heap[r]?=some (.deferred (some []))->r≠g) (hm:MapAt w' g ks):SimM S0 w0 n g ks s a w':=by
 have own:∀id b,φ id=some b->S1.S b∧b<w.heap.size:=fun id b hid=>⟨h.new b (h.rng id b hid).1.2,(h.rng id b hid).2⟩
 have k:=hE.kept.trans h.bel hE.X
 have hbS:∀b,S1.S b->b<w.heap.size->w'.heap[b]?=w.heap[b]?:=fun b hS hlt=>hb b hlt fun e=>hgS (e ▸ hlt) (e ▸ hS)
 have k':Kept S0 w0 w':=⟨hos.trans k.os,htape.trans k.tape,hout.trans k.output,Nat.le_trans k.size hsz,fun b hlt hx=>(hb b (Nat.lt_of_lt_of_le hlt k.size) (by omega)).trans (k.block b hlt hx),k.g0,k.gx⟩
 let Z:Zone:=⟨fun b=>(S1.S b∧b<w.heap.size)∨w'.heap.size≤b,InR φ,S1.fix,S1.dfs⟩
 have hs:SimO Z w' n [] s a w' φ:=h.rebase hsz hbS (fun b hb hlt=>.inl ⟨hb,hlt⟩) (fun b hb=>hb.elim .inr fun ⟨id,hid⟩=>.inl (own id b hid)) (fun id b hid=>⟨id,hid⟩) (fun id b hid=>(h.rng id b hid).1.1) rfl h.dfr k'.good (fun b hb=>h.noTB hb)
 refine ⟨hg,hm,Z,w',ms,⟨k',fun b hb=>?_,fun b ⟨id,hid⟩=>?_,hE.fix,hE.dfs,hE.nodup,fun r hr=>?_⟩,⟨φ,hs⟩,fun hZ=>?_,hgl⟩
 ·rcases hb with hb|hb
  ·exact hE.sub b hb.1
  ·exact hE.sub b (h.new b (.inl (Nat.le_trans h.bel.size (Nat.le_trans hsz hb))))
 ·rcases (h.rng id b hid).1.2 with hx|hx
  ·exact .inl (Nat.le_trans hE.kept.size hx)
  ·exact hE.X b hx
 ·obtain ⟨u1,u2,u3,u4,u5⟩:=hE.marks r hr
  have u6:w.heap[r]?=some (.deferred (some [])):=(h.bel.block r u2 u5).trans u3
  have u7:r<w.heap.size:=Nat.lt_of_lt_of_le u2 h.bel.size
  refine ⟨u1,Nat.lt_of_lt_of_le u7 hsz,(hb r u7 (hne r u6)).trans u6,fun hZ=>?_,fun ⟨id,hid⟩=>u4 (own id r hid).1⟩
  rcases hZ with hZ|hZ
  ·exact u4 hZ.1
  ·omega
 ·rcases hZ with hZ|hZ
  ·exact hgS hZ.2 hZ.1
  ·omega
section
variable {P:Program} {n:Nat} {c:Code}
def mkMapB:Code->Option (TypeId×Nat×Nat)
 | .region _ ⟨[⟨some d,.makeMap t none,_,_,_,none⟩,⟨some e,.assign (.tmp d'),_,_,_,none⟩]⟩ false=>if d'=d then some (t,d,e) else none
 | _=>none
theorem AWP.mkMap {Q:Exit->AS->Prop} {s:AS} {t:TypeId} {d e:Nat} (hc:isSeq c=true) (hr:mkMapB (fstC c)=some (t,d,e)) (hd:Nat.blt d n=true) (he:Nat.blt e n=true)
  (h:∀g,AWPm P n g (sndC c) (fun x s' _=>Q x s') (setF (setF s d (.val (.map (some g)))) e (.val (.map (some g)))) []):AWP P n c Q s:=by
 cases c with
 | seq x y =>
  have hr:mkMapB x=some (t,d,e):=hr
  unfold mkMapB at hr
  split at hr
  ·split at hr
   ·rename_i hdd
    simp only [Option.some.injEq,Prod.mk.injEq] at hr
    obtain ⟨k1,k2,k3⟩:=hr
    replace k1:=k1.symm
    replace k2:=k2.symm
    replace k3:=k3.symm
    subst k1;subst k2;subst k3
    replace hdd:=hdd.symm
    subst hdd
    intro S0 w0 a w ⟨φ,hs⟩
    have hsz:=hs.tsz
    have hd:=Nat.le_of_ble_eq_true hd
    have he:=Nat.le_of_ble_eq_true he
    show wpList P _ _ _ a w
    refine wpList_plain rfl fun K hK=>?_
    unfold Oper.wp
    simp [execOp,run_makeMap,Result.andThen]
    refine hK _ _ (wpList_plain rfl fun K' hK'=>?_)
    unfold Oper.wp
    have ev:(a.put (some d) (.map (some w.heap.size))).eval (.tmp d)= .map (some w.heap.size):=by
     show (a.put (some d) (.map (some w.heap.size))).tmps.getD d undef=_
     rw [put_getD a d d _ (by omega),if_pos rfl]
    simp [execOp,ev,Result.andThen]
    refine hK' _ _ ?_
    have hb:Below w.heap.size w (w.alloc (.map #[] 0)):=(Below.refl _ _).alloc (Nat.le_refl _) _
    have hM:SimM S0 w0 n w.heap.size [] s a (w.alloc (.map #[] 0)):=SimM.make (ZExt.refl hs.bel) hs hs.bel.size (by show w.heap.size<(w.heap.push _).size;simp) (fun hlt=>absurd hlt (Nat.lt_irrefl _)) hb.size (fun b hlt _=>hb.block b hlt) hb.os hb.tape hb.output (fun r hr e=>by rw [e,Array.getElem?_eq_none (Nat.le_refl _)] at hr;cases hr) ⟨#[],0,(MapKept.heap_alloc w _).1,rfl,by simp⟩
    obtain ⟨m1,m2,S1,w1,ms,m3,⟨φ1,m4⟩,m5,m6⟩:=hM
    have q1:=(m4.put hd (v:=.map (some w.heap.size)) (.rep (.val _))).put he (v:=.map (some w.heap.size)) (.rep (.val _))
    refine swp_mono y _ _ (fun x a' w' ⟨s',ks',hq,_,_,S2,w2,ms2,z1,z2,_,_⟩=>⟨s',hq,S2,w2,ms2,z1,z2⟩) _ _ (h w.heap.size S0 w0 _ _ ⟨m1,m2,S1,w1,ms,m3,⟨φ1,q1⟩,m5,m6⟩)
   ·cases hr
  ·cases hr
 | _=>cases hc
theorem SimM.put {S0:Zone} {w0 w:World} {g:Nat} {ks:List (List UInt8)} {s:AS} {a:Act} (h:SimM S0 w0 n g ks s a w) {d:Nat} (hd:d<n) (v:Value):SimM S0 w0 n g ks (setF s d (.val v)) (a.put (some d) v) w:=by
 obtain ⟨m1,m2,S1,w1,ms,m3,⟨φ1,m4⟩,m5,m6⟩:=h
 exact ⟨m1,m2,S1,w1,ms,m3,⟨φ1,m4.put hd (.rep (.val _))⟩,m5,m6⟩
theorem SimM.put_eval {S0:Zone} {w0 w:World} {g:Nat} {ks:List (List UInt8)} {s:AS} {a:Act} (h:SimM S0 w0 n g ks s a w) {d:Nat} (hd:d<n) (v:Value) (j:Nat):(a.put (some d) v).eval (.tmp j)=if d=j then v else a.eval (.tmp j):=by
 obtain ⟨m1,m2,S1,w1,ms,m3,⟨φ1,m4⟩,m5,m6⟩:=h
 show (a.put (some d) v).tmps.getD j undef=_
 rw [put_getD a d j _ (by rw [m4.tsz];exact hd)];rfl
def lookB:Code->Option (TypeId×Nat×Nat×Nat×Nat×Nat)
 | .region _ ⟨[⟨some d1,.move (.tmp m),_,_,_,none⟩,⟨some d2,.move (.tmp k),_,_,_,none⟩,⟨some d3,.lookup t (.tmp e1) (.tmp e2) false,_,_,_,none⟩]⟩ false=>if e1=d1∧e2=d2∧d1≠d2∧d1≠k then some (t,m,k,d1,d2,d3) else none
 | _=>none
theorem AWPm.look {Q:Exit->AS->List (List UInt8)->Prop} {s:AS} {g:Nat} {ks:List (List UInt8)} {t kt et:TypeId} {m k d1 d2 d3:Nat} (hc:isSeq c=true) (hr:lookB (fstC c)=some (t,m,k,d1,d2,d3)) (h1:Nat.blt d1 n=true) (h2:Nat.blt d2 n=true) (h3:Nat.blt d3 n=true)
  (ht:P.underlying t=some (.map kt et)) (hk:P.underlying kt=some .string) (hz:∀w,(zeroValue et).run P w= .ok (.bool false) w) {x:List UInt8} (hm:getF s m= .val (.map (some g))) (hx:getF s k= .val (bsV x))
  (h:AWPm P n g (sndC c) Q (setF (setF (setF s d1 (.val (.map (some g)))) d2 (.val (bsV x))) d3 (.val (.bool (decide (x∈ks))))) ks):AWPm P n g c Q s ks:=by
 cases c with
 | seq a0 y =>
  have hr:lookB a0=some (t,m,k,d1,d2,d3):=hr
  unfold lookB at hr
  split at hr
  ·split at hr
   ·rename_i hdd
    simp only [Option.some.injEq,Prod.mk.injEq] at hr
    obtain ⟨k1,k2,k3,k4,k5,k6⟩:=hr
    replace k1:=k1.symm
    replace k2:=k2.symm
    replace k3:=k3.symm
    replace k4:=k4.symm
    replace k5:=k5.symm
    replace k6:=k6.symm
    subst k1;subst k2;subst k3;subst k4;subst k5;subst k6
    obtain ⟨j1,j2,hne,hnk⟩:=hdd
    replace j1:=j1.symm
    replace j2:=j2.symm
    subst j1;subst j2
    intro S0 w0 a w hs
    have h1:=Nat.le_of_ble_eq_true h1
    have h2:=Nat.le_of_ble_eq_true h2
    have h3:=Nat.le_of_ble_eq_true h3
    have v1:a.eval (.tmp m)= .map (some g):=hs.eval hm
    have v2:a.eval (.tmp k)=bsV x:=hs.eval hx
    have s1:=hs.put h1 (.map (some g))
    have s2:=s1.put h2 (bsV x)
    show wpList P _ _ _ a w
    refine wpList_plain rfl fun K hK=>?_
    unfold Oper.wp
    simp [execOp,v1,Result.andThen]
    refine hK _ _ (wpList_plain rfl fun K' hK'=>?_)
    unfold Oper.wp
    have v3:(a.put (some d1) (.map (some g))).eval (.tmp k)=bsV x:=by rw [hs.put_eval h1,if_neg hnk,v2]
    simp [execOp,v3,Result.andThen]
    refine hK' _ _ (wpList_plain rfl fun K2 hK2=>?_)
    unfold Oper.wp
    have v4:((a.put (some d1) (.map (some g))).put (some d2) (bsV x)).eval (.tmp d1)= .map (some g):=by rw [s1.put_eval h2,if_neg (fun e=>hne e.symm),hs.put_eval h1,if_pos rfl]
    have v5:((a.put (some d1) (.map (some g))).put (some d2) (bsV x)).eval (.tmp d2)=bsV x:=by rw [s1.put_eval h2,if_pos rfl]
    have hrun:=hs.2.1.look ht hk (hz w) x
    simp [execOp,v4,v5,hrun,Result.andThen]
    exact hK2 _ _ (h S0 w0 _ _ (s2.put h3 _))
   ·cases hr
  ·cases hr
 | _=>cases hc
def updB:Code->Option (TypeId×Nat×Nat×Nat×Nat)
 | .region _ ⟨[⟨some d1,.move (.tmp m),_,_,_,none⟩,⟨some d2,.move (.tmp k),_,_,_,none⟩,⟨none,.mapUpdate t (.tmp e1) (.tmp e2) (.const (.bool true)),_,_,_,none⟩]⟩ false=>if e1=d1∧e2=d2∧d1≠d2∧d1≠k then some (t,m,k,d1,d2) else none
 | _=>none
theorem AWPm.upd {Q:Exit->AS->List (List UInt8)->Prop} {s:AS} {g:Nat} {ks:List (List UInt8)} {t kt et:TypeId} {m k d1 d2:Nat} (hc:isSeq c=true) (hr:updB (fstC c)=some (t,m,k,d1,d2)) (h1:Nat.blt d1 n=true) (h2:Nat.blt d2 n=true)
  (ht:P.underlying t=some (.map kt et)) (hk:P.underlying kt=some .string) {x:List UInt8} (hm:getF s m= .val (.map (some g))) (hx:getF s k= .val (bsV x)) (hn:x ∉ ks)
  (h:AWPm P n g (sndC c) Q (setF (setF s d1 (.val (.map (some g)))) d2 (.val (bsV x))) (ks++ [x])):AWPm P n g c Q s ks:=by
 cases c with
 | seq a0 y =>
  have hr:updB a0=some (t,m,k,d1,d2):=hr
  unfold updB at hr
  split at hr
  ·split at hr
   ·rename_i hdd
    simp only [Option.some.injEq,Prod.mk.injEq] at hr
    obtain ⟨k1,k2,k3,k4,k5⟩:=hr
    replace k1:=k1.symm
    replace k2:=k2.symm
    replace k3:=k3.symm
    replace k4:=k4.symm
    replace k5:=k5.symm
    subst k1;subst k2;subst k3;subst k4;subst k5
    obtain ⟨j1,j2,hne,hnk⟩:=hdd
    replace j1:=j1.symm
    replace j2:=j2.symm
    subst j1;subst j2
    intro S0 w0 a w hs
    have h1:=Nat.le_of_ble_eq_true h1
    have h2:=Nat.le_of_ble_eq_true h2
    have v1:a.eval (.tmp m)= .map (some g):=hs.eval hm
    have v2:a.eval (.tmp k)=bsV x:=hs.eval hx
    have s1:=hs.put h1 (.map (some g))
    have s2:=s1.put h2 (bsV x)
    show wpList P _ _ _ a w
    refine wpList_plain rfl fun K hK=>?_
    unfold Oper.wp
    simp [execOp,v1,Result.andThen]
    refine hK _ _ (wpList_plain rfl fun K' hK'=>?_)
    unfold Oper.wp
    have v3:(a.put (some d1) (.map (some g))).eval (.tmp k)=bsV x:=by rw [hs.put_eval h1,if_neg hnk,v2]
    simp [execOp,v3,Result.andThen]
    refine hK' _ _ (wpList_plain rfl fun K2 hK2=>?_)
    unfold Oper.wp
    have v4:((a.put (some d1) (.map (some g))).put (some d2) (bsV x)).eval (.tmp d1)= .map (some g):=by rw [s1.put_eval h2,if_neg (fun e=>hne e.symm),hs.put_eval h1,if_pos rfl]
    have v5:((a.put (some d1) (.map (some g))).put (some d2) (bsV x)).eval (.tmp d2)=bsV x:=by rw [s1.put_eval h2,if_pos rfl]
    have v6:((a.put (some d1) (.map (some g))).put (some d2) (bsV x)).eval (.const (.bool true))= .bool true:=rfl
    obtain ⟨m1,m2,S1,w1,ms,m3,⟨φ1,m4⟩,m5,m6⟩:=s2
    obtain ⟨w',hrun,u1,u2,u3,u4,u5,u6⟩:=m2.put ht hk hn
    simp [execOp,v4,v5,v6,hrun,Result.andThen]
    refine hK2 _ _ (h S0 w0 _ _ ?_)
    have hlt:g<w.heap.size:=Nat.lt_of_lt_of_le m6 m4.bel.size
    exact SimM.make m3 m4 m1 (by rw [u3];exact hlt) (fun _=>m5) (Nat.le_of_eq u3.symm) (fun b _ hb=>u2 b hb) u4 u5 u6 (fun r hr e=>by
     obtain ⟨es,clock,hb,_⟩:=m2
     rw [e,hb] at hr;cases hr) u1
   ·cases hr
  ·cases hr
 | _=>cases hc
end
section
variable {P:Program} {n g:Nat} {c:Code} {Q:Exit->AS->List (List UInt8)->Prop} {K:AS->List (List UInt8)->Prop} {s:AS} {ks:List (List UInt8)}
theorem AWPm.reg1 (hc:isSeq c=true) (h:AWP P n (fstC c) (fun e s'=>ThenM (AWPm P n g (sndC c) Q) Q e s' ks) s):AWPm P n g c Q s ks:=AWPm.seq hc (AWPm.plain h)
theorem thenM_n (h:K s ks):ThenM K Q .normal s ks:=h
theorem thenM_x {i:Nat} (h:Q (.exit i) s ks):ThenM K Q (.exit i) s ks:=h
theorem thenM_r (h:Q .ret s ks):ThenM K Q .ret s ks:=h
theorem inbM_r {id:Nat} (h:Q .ret s ks):InBM id Q .ret s ks:=h
theorem inbM_n {id:Nat} (h:Q .normal s ks):InBM id Q .normal s ks:=h
theorem inbM_x {id:Nat} (h:Q .normal s ks):InBM id Q (.exit id) s ks:=by show (if id=id then _ else _);rw [if_pos rfl];exact h
theorem AWPm.skip (hc:isSkip c=true) (h:Q .normal s ks):AWPm P n g c Q s ks:=AWPm.plain (AWP.skip hc h)
theorem AWPm.exit {id:Nat} (hc:exitC c=some id) (h:Q (.exit id) s ks):AWPm P n g c Q s ks:=AWPm.plain (AWP.exit hc h)
theorem AWPm.round {ι:Type} {I:ι->AS} {L:ι->List (List UInt8)} {Inv:ι->Prop} {m:ι->Nat} {x:ι} (h:AWP P n c (Round I (fun y=>Inv y∧ks=L y) m (fun e s'=>Q e s' ks) x) s):AWPm P n g c (ThenM (fun s' ks'=>∃y,Inv y∧m y<m x∧ks'=L y∧Weaks s' (I y)) Q) s ks :=
 AWPm.plain (AWP.mono h fun e s' hq=>by
  cases e with
  | normal=>obtain ⟨y,⟨h1,h2⟩,h3,h4⟩:=hq;exact ⟨y,h1,h3,h2,h4⟩
  | _=>exact hq)
theorem AWPm.done {rs:List ResultVar} {r:AV} (h:AWP P n c (Done P rs r) s):AWPm P n g c (fun e s' _=>Done P rs r e s') s ks:=AWPm.plain h
end
end Go.Proofs.YtejpabdmiagnnaaGreatDoor
