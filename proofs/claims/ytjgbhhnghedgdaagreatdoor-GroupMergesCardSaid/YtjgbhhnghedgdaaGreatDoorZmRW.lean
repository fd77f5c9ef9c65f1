import Derived.WalkKit
import Derived.Laws.BitsAllLaws
import Derived.Laws.BitsLemmas
import Derived.Below
import Derived.Laws.OwnMore
import Derived.Deep.AppendLies
import Derived.Deep.Draws
import Derived.Laws.Rows
import Derived.Laws.AppendOwn
import Derived.Lib.Hide
import Derived.Maps.AppendAt
import Derived.RegionTactic
import Derived.OwnWalk
import Derived.Laws.MakeOwn
import Derived.Laws.IdiomStrings
import Derived.Laws.BytesArg
import Derived.Laws.BytesString
set_option linter.all false
namespace Go.Proofs.YtjgbhhnghedgdaaGreatDoor
open Go.RowKit
theorem ah {p:Prop}(h:p:=by omega):p:=h
theorem bD {p:Prop}[Decidable p](h:¬p:=by omega):decide p=false:=decide_eq_false h
theorem eg {p:Prop}[Decidable p](h:p:=by omega):decide p=true:=decide_eq_true h
def wv (x:UInt64):Int:=(x.toNat:Int)
def bv (x:UInt8):Int:=(x.toNat:Int)
theorem Pf (x:UInt64):wv x<18446744073709551616:=by have:=x.toNat_lt;unfold wv;omega
theorem L_ (x:UInt64):0≤wv x:=by unfold wv;omega
theorem QM (x:UInt8):bv x<256:=by have:=x.toNat_lt;unfold bv;omega
theorem QL (x:UInt8):0≤bv x:=by unfold bv;omega
theorem MM {x y:UInt64} (h:wv x=wv y):x=y:=by unfold wv at h;exact UInt64.toNat_inj.1 ah
theorem Ou {x y:UInt8} (h:bv x=bv y):x=y:=by unfold bv at h;exact UInt8.toNat_inj.1 ah
theorem Hj (x y:UInt64):(wv x == wv y)=(x == y):=by
 rw [Bool.eq_iff_iff];simp only [beq_iff_eq];exact ⟨MM,fun h=>by rw [h]⟩
theorem MN (x y:UInt64):(wv x != wv y)=(x != y):=by unfold bne;rw [Hj]
theorem bv_beq (x y:UInt8):(bv x == bv y)=(x == y):=by
 rw [Bool.eq_iff_iff];simp only [beq_iff_eq];exact ⟨Ou,fun h=>by rw [h]⟩
theorem QK {n:Int} (h0:0≤n) (h1:n<256):bv (UInt8.ofNat n.toNat)=n:=by
 unfold bv;rw [UInt8.toNat_ofNat_of_lt' (by show n.toNat<2^8;omega)];omega
theorem LY (n:Int) (h:(Lit.int .u8 n).wf=true):∃x:UInt8,n=bv x:=by
 have hb:0≤n∧n≤255:=by simpa [Lit.wf,IntKind.min,IntKind.max,IntKind.signed,IntKind.bits] using h
 exact ⟨_,(QK hb.1 ah).symm⟩
theorem MI (x y:UInt64):bits BinOp.xor IntKind.u64 (wv x) (wv y)=wv (x^^^y):=by
 unfold wv;rw [u64_xor_nat _ _ x.toNat_lt y.toNat_lt,UInt64.toNat_xor]
theorem Pc (x y:UInt64):bits BinOp.or IntKind.u64 (wv x) (wv y)=wv (x|||y):=by
 unfold wv;rw [u64_or_nat _ _ x.toNat_lt y.toNat_lt,UInt64.toNat_or]
theorem MO (x y:UInt64):bits BinOp.and IntKind.u64 (wv x) (wv y)=wv (x&&&y):=by
 unfold wv;rw [u64_and_nat _ _ x.toNat_lt y.toNat_lt,UInt64.toNat_and]
theorem MK (x:UInt64) (k:Nat) (hk:k<64):IntKind.u64.wrap (wv x*2^k)=wv (x<<<UInt64.ofNat k):=by
 unfold wv
 rw [IntKind.wrap_u64,UInt64.toNat_shiftLeft,UInt64.toNat_ofNat_of_lt' (by show k<2^64;omega),Nat.mod_eq_of_lt hk,Nat.shiftLeft_eq]
 simp [Int.natCast_emod,Int.natCast_mul,Int.natCast_pow]
theorem MJ (x:UInt64) (k:Nat) (hk:k<64):wv x/2^k=wv (x>>>UInt64.ofNat k):=by
 unfold wv
 rw [UInt64.toNat_shiftRight,UInt64.toNat_ofNat_of_lt' (by show k<2^64;omega),Nat.mod_eq_of_lt hk,Nat.shiftRight_eq_div_pow]
 simp [Int.natCast_ediv,Int.natCast_pow]
theorem QJ (c:UInt8):bv c=wv c.toUInt64:=by unfold bv wv;rw [UInt8.toNat_toUInt64]
theorem Oo (x y:UInt8):bits BinOp.xor IntKind.u8 (bv x) (bv y)=bv (x^^^y):=by
 unfold bv;rw [u8_xor_nat _ _ x.toNat_lt y.toNat_lt,UInt8.toNat_xor]
theorem bv_and (x y:UInt8):bits BinOp.and IntKind.u8 (bv x) (bv y)=bv (x&&&y):=by
 unfold bv;rw [u8_and_nat _ _ x.toNat_lt y.toNat_lt,UInt8.toNat_and]
def sM (l:List UInt8):List Value:=l.map fun c=>.int .u8 (bv c)
theorem gn (l:List UInt8):(sM l).length=l.length:=by simp [sM]
theorem On (l:List UInt8) (k:Nat) (h:k<l.length):(sM l)[k]?=some (.int .u8 (bv (l.getD k 0))):=by
 simp [sM,h]
theorem Fm (l:List UInt8):∀u∈sM l,u.oneCell'=true:=by
 intro u hu;simp only [sM,List.mem_map] at hu;obtain ⟨c,_,rfl⟩:=hu;rfl
theorem gM (a:Addr) (n:Nat):(a.add n).block=a.block:=by unfold Addr.add;split<;>rfl
theorem mX (a:Addr) (i j:Nat):(a.add i).add j=a.add (i+j):=by
 unfold Addr.add
 by_cases hi:i=0<;>by_cases hj:j=0<;>simp [hi,hj,Nat.add_assoc]
def Reads (w:World) (B:Nat) (A:Option Addr) (n:Nat) (xs:List Value):Prop :=
 xs.length=n∧(0<n-> ∃ad,A=some ad∧ad.block<B∧ ∀j u,xs[j]?=some u->w.cell? (ad.add j)=some u)
section
variable {w w':World} {B B' n:Nat} {A:Option Addr} {xs:List Value}
theorem Reads.aa (h:Reads w B A n xs) (hk:∀p:Addr,p.block<B->w'.cell? p=w.cell? p):Reads w' B A n xs :=
 ⟨h.1,fun hn=>by
  obtain ⟨ad,e,hb,hc⟩:=h.2 hn
  exact ⟨ad,e,hb,fun j u hu=>(hk _ (by rw [gM];exact hb)).trans (hc j u hu)⟩⟩
theorem Reads.more (h:Reads w B A n xs) (hB:B≤B'):Reads w B' A n xs :=
 ⟨h.1,fun hn=>by
  obtain ⟨ad,e,hb,hc⟩:=h.2 hn
  exact ⟨ad,e,ah,hc⟩⟩
theorem Reads.below (h:Reads w B A n xs) (hb:Below B w w'):Reads w' B A n xs:=h.aa fun _ hp=>hb.cell hp
end
def i4 (w:World) (v:Value) (xs:List Value):Prop :=
 ∃A c,v= .slice A xs.length c∧xs.length≤c∧c≤maxLen∧Reads w w.heap.size A xs.length xs
theorem i4.below {w w':World} {v:Value} {xs:List Value} (h:i4 w v xs) (hb:Below w.heap.size w w'):i4 w' v xs:=by
 obtain ⟨A,c,hv,hc,hm,hr⟩:=h
 exact ⟨A,c,hv,hc,hm,(hr.below hb).more hb.size⟩
structure Cf (P:Program) (t e:TypeId) (z:Value) (bytes:Nat):Prop where
 ht:P.underlying t=some (.slice e)
 hi:∃i,P.info? e=some i∧i.zero=some z∧i.size=1∧i.bytes=bytes
 hz:z.cells.size=1
 hb:0<bytes
def wu (w:World) (base:Nat) (v:Value) (xs:List Value):Prop :=
 (v= .slice none 0 0∧xs= []) ∨
 ∃g cap cur te fr,v= .slice (some ⟨g,0,none⟩) xs.length cap∧base≤g∧w.heap[g]?=some (.cells cur te fr)∧xs.length≤cap∧cap≤maxLen∧cur.size=cap∧cur.toList.take xs.length=xs∧(∀j,j<cap-> ¬(fr.1≤j∧j<fr.2))
section
variable {w w':World} {base Ur B:Nat} {v:Value} {xs:List Value}
theorem wu.lt (h:wu w base v xs):∀k,v.ownBlock=some k->base≤k∧k<w.heap.size:=by
 intro k hk
 rcases h with ⟨rfl,_⟩|⟨g,cap,cur,te,fr,rfl,hb,hg,_⟩
 ·simp [Value.ownBlock] at hk
 ·simp [Value.ownBlock] at hk
  subst hk
  exact ⟨hb,(Array.getElem?_eq_some_iff.1 hg).1⟩
theorem fi (g j:Nat):(⟨g,0,none⟩:Addr).add j=⟨g,j,none⟩:=by unfold Addr.add;split<;>simp_all
end
theorem _root_.Go.RowKit.Below.Ep {w w1 w2:World} {v:Value} {xs:List Value} (hw:Below w.heap.size w w1) (ho:wu w1 w.heap.size v xs) (hg:w1.grownBy w2 v.ownBlock):Below w.heap.size w w2:=hw.grown hg hw.size fun k h=>(ho.lt k h).1
theorem _root_.Go.RowKit.Below.pV {w w1 w2:World} (hw:Below w.heap.size w w1) (hc:Below w1.heap.size w1 w2):Below w.heap.size w w2:=hw.trans (hc.mono hw.size)
theorem c_ (P:Program) (g:Nat) (t:TypeId) (fr:Nat×Nat) (cap:Nat) (hf:∀j,j<cap-> ¬(fr.1≤j∧j<fr.2)) (o:Nat):∀(vs:List Value) (i:Nat) (cur:Array Value) (w:World),w.heap[g]?=some (.cells cur t fr)->o+i+vs.length≤cur.size->cur.size=cap->(∀v∈vs,v.oneCell'=true) ->
  (storeCells ⟨g,o,none⟩ vs i).run P w= .ok () (w.setRow g (cur.toList.take (o+i)++vs++cur.toList.drop (o+i+vs.length)).toArray)
 | [],i,cur,w,hg,_,_,_=>by
  simp only [storeCells,List.append_nil,List.length_nil,Nat.add_zero,List.take_append_drop,Array.toArray_toList]
  rw [setRow_self w g cur t fr hg]
  rfl
 | v::rest,i,cur,w,hg,hl,NM,h1=>by
  have hi:o+i<cur.size:=by simp at hl;omega
  have De:(⟨g,o,none⟩:Addr).add i=⟨g,o+i,none⟩:=by unfold Addr.add;split<;>simp_all
  have bw:w.cell? ⟨g,o+i,none⟩=some cur[o+i]:=by simp [World.cell?,hg,hi]
  have Sy:w.frozen? ⟨g,o+i,none⟩=false:=by
   obtain ⟨lo,ji⟩:=fr
   have:=hf (o+i) ah
   simp [World.frozen?,hg]
   intro h1
   rcases Nat.lt_or_ge (o+i) ji with h2|h2
   ·exact absurd ⟨h1,h2⟩ this
   ·exact h2
  have dC:(store ((⟨g,o,none⟩:Addr).add i) v).run P w= .ok () (w.setRow g (cur.setIfInBounds (o+i) v)):=by
   rw [De,run_store P w _ v _ (h1 v (by simp)),bw]
   simp [Sy,setCell_eq_setRow w g (o+i) cur t fr v hg]
  have ih:=c_ P g t fr cap hf o rest (i+1) (cur.setIfInBounds (o+i) v) (w.setRow g (cur.setIfInBounds (o+i) v)) (setRow_heap w g cur _ t _ hg) (by simp at hl ⊢;omega) (by simpa using NM) (fun x hx=>h1 x (by simp [hx]))
  simp only [storeCells,Sem.run_bind,dC,Result.andThen_ok,ih,setRow_setRow]
  congr 3
  have e:=list_seg_step cur.toList (o+i) v rest (by simp at hl ⊢;omega)
  simpa [Array.toList_setIfInBounds,Nat.add_assoc] using e
section
variable {P:Program} (w:World)
theorem KN {t ty e:TypeId} {z:Value} {bytes:Nat} (E:Cf P t e z bytes) (base:Nat) (v:Value) (xs:List Value) (Bo:wu w base v xs)
  (xv:Value) (news:List Value) (hr:i4 w xv news) (h1:∀u∈news,u.oneCell'=true) (rD:(xs.length+news.length)*bytes≤140737488355328) (Bz:base≤w.heap.size) :
  ∃v' w',(Builtin.append_ #[t,t] ty #[v,xv]).run P w= .ok v' w'∧wu w' base v' (xs++news)∧w.grownBy w' v.ownBlock ∧
   (v'.ownBlock=v.ownBlock∨v'.ownBlock=some w.heap.size):=by
 obtain ⟨i,hi,hz,EW,yG⟩:=E.hi
 obtain ⟨A,c,rfl,hc,hm,wa⟩:=hr
 have P6:xs.length+news.length≤maxLen:=by
  have hb:=E.hb
  have:xs.length+news.length≤(xs.length+news.length)*bytes:=Nat.le_mul_of_pos_right _ hb
  unfold maxLen;omega
 have Q3:z.cells.size=1:=E.hz
 have Jd:∀(old:Nat) (row:Option Nat),
   wu (w.drew.alloc (.cells (xs.toArray++news.toArray++Builtin.zeroCells z.cells (grownCap w (xs.length+news.length) old e-(xs.length+news.length))) e)) base
    (.slice (some ⟨w.heap.size,0,none⟩) (xs.length+news.length) (grownCap w (xs.length+news.length) old e)) (xs++news) ∧
   w.grownBy (w.drew.alloc (.cells (xs.toArray++news.toArray++Builtin.zeroCells z.cells (grownCap w (xs.length+news.length) old e-(xs.length+news.length))) e)) row:=by
  intro old row
  have uW:=grownCap_ge w (xs.length+news.length) old e
  have tq:grownCap w (xs.length+news.length) old e≤maxLen:=grownCap_le_maxLen w _ old e P6
  refine ⟨.inr ⟨w.heap.size,_,_,e,(0,0),by simp,Bz,heap_alloc_new w.drew _,by simpa using uW,tq,?_,?_,by simp⟩,⟨rfl,rfl,rfl,by simp,fun k hk _=>Below.heap_alloc w.drew _ k hk⟩⟩
  ·simp only [Array.size_append,List.size_toArray,size_zeroCells,Q3,Nat.mul_one]
   omega
  ·simp only [Array.toList_append,List.append_assoc]
   rw [←List.append_assoc]
   exact List.take_left
 by_cases l7:news= []
 ·subst l7
  refine ⟨v,w,?_,by simpa using Bo,World.grownBy.refl w _,.inl rfl⟩
  rcases Bo with ⟨rfl,rfl⟩|⟨g,cap,cur,te,fr,rfl,hb,hg,T0,tq,hs,ht,hf⟩
  ·rcases A with _|ad<;>simp [Builtin.append_,run_underlying E.ht,sizeOf,typeInfo,hi,Builtin.lenOf,Builtin.firstCells,loadCells,loadCellsFrom]
  ·rcases A with _|ad<;>simp [Builtin.append_,run_underlying E.ht,sizeOf,typeInfo,hi,Builtin.lenOf,Builtin.firstCells,loadCells,loadCellsFrom,T0,storeCells]
 ·have PY:0<news.length:=List.length_pos_iff.2 l7
  obtain ⟨ad,rfl,-,dN⟩:=wa.2 PY
  have TT:((xs.length+news.length:Nat):Int)≤9223372036854775807:=by simp only [maxLen] at P6;omega
  rcases Bo with ⟨rfl,rfl⟩|⟨g,cap,cur,te,fr,rfl,hb,hg,T0,tq,hs,ht,hf⟩
  ·have hr:=run_append_nil (P:=P) w t ty e i z E.ht hi hz ad news.length c news (by rw [EW,Nat.mul_one]) dN ah (by simp at TT;omega) (by have hb:=rD;simp only [List.length_nil,Nat.zero_add] at hb;rw [yG];omega)
   have OW:=Jd 0 (Value.ownBlock (.slice none 0 0))
   simp only [List.length_nil,Nat.zero_add,List.nil_append,Array.empty_append] at OW ⊢
   exact ⟨_,_,hr,OW.1,OW.2,.inr rfl⟩
  ·by_cases m6:xs.length+news.length≤cap
   ·have Hc:=run_firstCells_some (P:=P) w 1 news.length ad news.length c news ah dN
    have dC:=c_ P g te fr cap hf xs.length news 0 cur w hg ah hs h1
    simp only [Nat.add_zero] at dC
    refine ⟨.slice (some ⟨g,0,none⟩) (xs.length+news.length) cap,_,?_,.inr ⟨g,cap,_,te,fr,by simp,hb,setRow_heap w g cur (cur.toList.take xs.length++news++cur.toList.drop (xs.length+news.length)).toArray te fr hg,by simpa using m6,tq,?_,?_,hf⟩,⟨rfl,rfl,rfl,by simp,fun k _ hk=>setRow_other w g k _ (fun e=>hk (by simp [Value.ownBlock,e]))⟩,.inl rfl⟩
    ·simp [Builtin.append_,run_underlying E.ht,sizeOf,typeInfo,hi,EW,Builtin.lenOf,m6,Hc,Addr.add_lit,dC]
    ·simp only [List.size_toArray,List.length_append,List.length_take,List.length_drop,Array.length_toList]
     omega
    ·simp only [ht]
     exact List.take_left
   ·have holds:∀j u,xs[j]?=some u->w.cell? ((⟨g,0,none⟩:Addr).add j)=some u:=by
     intro j u hu
     rw [fi,cell_of_row w g j cur te fr hg]
     rw [←ht,List.getElem?_take] at hu
     split at hu
     ·simpa using hu
     ·cases hu
    have hr:=run_append_grow (P:=P) w t ty e i z E.ht hi hz ⟨g,0,none⟩ xs.length cap xs (by rw [EW,Nat.mul_one]) holds ad news.length c news (by rw [EW,Nat.mul_one]) dN ah TT (growslice_fits ah (by rw [yG];exact rD))
    have OW:=Jd cap (Value.ownBlock (.slice (some ⟨g,0,none⟩) xs.length cap))
    exact ⟨_,_,hr,OW.1,OW.2,.inr rfl⟩
theorem MP {o:Oper} {a:Act} {K:Act->World->Prop} {Q:Exit->Act->World->Prop} (s x:Operand) (t:TypeId)
  (ho:o.op= .call {callee:=.builtin .append,args:= #[s,x],argTypes:= #[t,t]})
  {e:TypeId} {z:Value} {bytes:Nat} (E:Cf P t e z bytes) (base:Nat) (v:Value) (xs:List Value) (hs:a.eval s=v) (Bo:wu w base v xs)
  (xv:Value) (news:List Value) (hx:a.eval x=xv) (hr:i4 w xv news) (h1:∀u∈news,u.oneCell'=true) (rD:(xs.length+news.length)*bytes≤140737488355328) (Bz:base≤w.heap.size)
  (h:∀v' w',wu w' base v' (xs++news)->w.grownBy w' v.ownBlock->(v'.ownBlock=v.ownBlock∨v'.ownBlock=some w.heap.size)->K (a.put o.dst v') w'):o.wp P a w K Q:=by
 obtain ⟨v',w',cw,h2,h3,h4⟩:=KN (P:=P) (ty:=o.type) w E base v xs Bo xv news hr h1 rD Bz
 unfold Oper.wp execOp
 simp only [ho,resolve,invoke,builtin,Sem.run_bind,Sem.run_pure,Result.andThen_ok,List.map_toArray,List.map_cons,List.map_nil,hs,hx,cw]
 exact h v' w' h2 h3 h4
theorem tK {ops:Array Oper} {rest:List Oper} {o:Oper} {a:Act} {Q:Exit->Act->World->Prop} (Sv:o.guard=none) (s x:Operand) (t:TypeId)
  (ho:o.op= .call {callee:=.builtin .append,args:= #[s,x],argTypes:= #[t,t]})
  {e:TypeId} {z:Value} {bytes:Nat} (E:Cf P t e z bytes) (base:Nat) (v:Value) (xs:List Value) (hs:a.eval s=v) (Bo:wu w base v xs)
  (xv:Value) (news:List Value) (hx:a.eval x=xv) (hr:i4 w xv news) (h1:∀u∈news,u.oneCell'=true) (rD:(xs.length+news.length)*bytes≤140737488355328) (Bz:base≤w.heap.size)
  (h:∀v' w',wu w' base v' (xs++news)->w.grownBy w' v.ownBlock->(v'.ownBlock=v.ownBlock∨v'.ownBlock=some w.heap.size)->wpList P ops Q rest (a.put o.dst v') w'):wpList P ops Q (o::rest) a w :=
 wpList_plain Sv fun _ hK=>MP w s x t ho E base v xs hs Bo xv news hx hr h1 rD Bz fun v' w' h2 h3 h4=>hK _ _ (h v' w' h2 h3 h4)
end
theorem wu.of_string (w:World) (s:ByteArray) (e:TypeId) (hs:s.size≤maxLen) :
  wu (w.drew.alloc (.cells (bytesRow s (grownCap w s.size 0 e)) e ((bytesRow s (grownCap w s.size 0 e)).size,(bytesRow s (grownCap w s.size 0 e)).size+1))) w.heap.size (.slice (some ⟨w.heap.size,0,none⟩) s.size (grownCap w s.size 0 e)) (sM s.data.toList):=by
 have uW:=grownCap_ge w s.size 0 e
 have tq:grownCap w s.size 0 e≤maxLen:=grownCap_le_maxLen w _ 0 e hs
 have dw:(bytesRow s (grownCap w s.size 0 e)).size=grownCap w s.size 0 e:=by
  unfold bytesRow;simp only [Array.size_append,Array.size_map,Array.size_replicate]
  show s.size+_=_
  omega
 have hl:(sM s.data.toList).length=s.size:=by rw [gn];rfl
 refine .inr ⟨w.heap.size,_,_,e,_,by rw [hl],Nat.le_refl _,heap_alloc_new w.drew _,ah,tq,dw,?_,?_⟩
 ·rw [hl]
  unfold bytesRow
  simp only [Array.toList_append,Array.toList_map]
  rw [List.take_append_of_le_length (by simp),List.take_of_length_le (by simp)]
  rfl
 ·intro j hj
  simp only [dw]
  omega
theorem vU {P:Program} {w:World} {v:Value} {l:List UInt8} (h:i4 w v (sM l)) (src dst e:TypeId) (hs:P.underlying src=some (.slice e)) (he:P.underlying e=some (.int .u8)) (hd:P.underlying dst=some .string) :
  (convert src dst v).run P w= .ok (.string ⟨l.toArray⟩) w:=by
 obtain ⟨A,c,rfl,hc,hm,hr⟩:=h
 rw [gn] at hr ⊢
 rcases A with _|ad
 ·have hl:l= []:=by
   rcases Nat.eq_zero_or_pos l.length with h0|h0
   ·exact List.length_eq_zero_iff.1 h0
   ·obtain ⟨ad,h,_⟩:=hr.2 h0
    cases h
  subst hl
  exact run_convert_bytes_nil w src e hs he _ _ dst hd
 ·refine run_convert_bytes_back w src dst e ad c l hs he hd fun j hj=>?_
  obtain ⟨W0,h,_,bw⟩:=hr.2 ah
  injection h with h
  subst h
  exact bw j _ (by simp [sM,hj];rfl)
end Go.Proofs.YtjgbhhnghedgdaaGreatDoor
