import Derived.WalkKit
import Derived.Laws.BitsAllLaws
import Derived.Laws.BitsLemmas
import Derived.Below
import Derived.Laws.OwnMore
import Derived.Deep.AppendLies
import Derived.Deep.Draws
import Derived.Laws.Rows
import Derived.Laws.AppendOwn
import Derived.Lib.Hide
import Derived.Maps.AppendAt
import Derived.RegionTactic
import Derived.OwnWalk
import Derived.Laws.MakeOwn
import Derived.Laws.IdiomStrings
import Derived.Laws.BytesArg
import Derived.Laws.BytesString
set_option linter.all false
namespace Go.Proofs.YtejpabdmiagnnaaGreatDoor
open Go.RowKit
def wv (x:UInt64):Int:=(x.toNat:Int)
def bv (x:UInt8):Int:=(x.toNat:Int)
theorem wv_lt (x:UInt64):wv x<18446744073709551616:=by have:=x.toNat_lt;unfold wv;omega
theorem wv_nn (x:UInt64):0≤wv x:=by unfold wv;omega
theorem bv_lt (x:UInt8):bv x<256:=by have:=x.toNat_lt;unfold bv;omega
theorem bv_nn (x:UInt8):0≤bv x:=by unfold bv;omega
theorem wv_inj {x y:UInt64} (h:wv x=wv y):x=y:=by unfold wv at h;exact UInt64.toNat_inj.1 (by omega)
theorem bv_inj {x y:UInt8} (h:bv x=bv y):x=y:=by unfold bv at h;exact UInt8.toNat_inj.1 (by omega)
theorem wv_beq (x y:UInt64):(wv x == wv y)=(x == y):=by
 rw [Bool.eq_iff_iff];simp only [beq_iff_eq];exact ⟨wv_inj,fun h=>by rw [h]⟩
theorem wv_bne (x y:UInt64):(wv x != wv y)=(x != y):=by unfold bne;rw [wv_beq]
theorem bv_beq (x y:UInt8):(bv x == bv y)=(x == y):=by
 rw [Bool.eq_iff_iff];simp only [beq_iff_eq];exact ⟨bv_inj,fun h=>by rw [h]⟩
theorem bv_bne (x y:UInt8):(bv x != bv y)=(x != y):=by unfold bne;rw [bv_beq]
theorem wv_of {n:Int} (h0:0≤n) (h1:n<18446744073709551616):wv (UInt64.ofNat n.toNat)=n:=by
 unfold wv;rw [UInt64.toNat_ofNat_of_lt' (by show n.toNat<2^64;omega)];omega
theorem word_of (n:Int) (h:(Lit.int .u64 n).wf=true):∃x:UInt64,n=wv x:=by
 have hb:0≤n∧n≤18446744073709551615:=by simpa [Lit.wf,IntKind.min,IntKind.max,IntKind.signed,IntKind.bits] using h
 exact ⟨_,(wv_of hb.1 (by omega)).symm⟩
theorem wv_add (x y:UInt64):IntKind.u64.wrap (wv x+wv y)=wv (x+y):=by
 unfold wv;rw [IntKind.wrap_u64,UInt64.toNat_add];omega
theorem wv_xor (x y:UInt64):bits BinOp.xor IntKind.u64 (wv x) (wv y)=wv (x^^^y):=by
 unfold wv;rw [u64_xor_nat _ _ x.toNat_lt y.toNat_lt,UInt64.toNat_xor]
theorem wv_or (x y:UInt64):bits BinOp.or IntKind.u64 (wv x) (wv y)=wv (x|||y):=by
 unfold wv;rw [u64_or_nat _ _ x.toNat_lt y.toNat_lt,UInt64.toNat_or]
theorem wv_and (x y:UInt64):bits BinOp.and IntKind.u64 (wv x) (wv y)=wv (x&&&y):=by
 unfold wv;rw [u64_and_nat _ _ x.toNat_lt y.toNat_lt,UInt64.toNat_and]
theorem wv_lit (n:Nat) (h:n<18446744073709551616):(n:Int)=wv (UInt64.ofNat n):=by
 unfold wv;rw [UInt64.toNat_ofNat_of_lt' h]
theorem wv_shl (x:UInt64) (k:Nat) (hk:k<64):IntKind.u64.wrap (wv x*2^k)=wv (x<<<UInt64.ofNat k):=by
 unfold wv
 rw [IntKind.wrap_u64,UInt64.toNat_shiftLeft,UInt64.toNat_ofNat_of_lt' (by show k<2^64;omega),Nat.mod_eq_of_lt hk,Nat.shiftLeft_eq]
 simp [Int.natCast_emod,Int.natCast_mul,Int.natCast_pow]
theorem wv_shr (x:UInt64) (k:Nat) (hk:k<64):wv x/2^k=wv (x>>>UInt64.ofNat k):=by
 unfold wv
 rw [UInt64.toNat_shiftRight,UInt64.toNat_ofNat_of_lt' (by show k<2^64;omega),Nat.mod_eq_of_lt hk,Nat.shiftRight_eq_div_pow]
 simp [Int.natCast_ediv,Int.natCast_pow]
theorem bv_wv (c:UInt8):bv c=wv c.toUInt64:=by unfold bv wv;rw [UInt8.toNat_toUInt64]
theorem bv_xor (x y:UInt8):bits BinOp.xor IntKind.u8 (bv x) (bv y)=bv (x^^^y):=by
 unfold bv;rw [u8_xor_nat _ _ x.toNat_lt y.toNat_lt,UInt8.toNat_xor]
theorem bv_and (x y:UInt8):bits BinOp.and IntKind.u8 (bv x) (bv y)=bv (x&&&y):=by
 unfold bv;rw [u8_and_nat _ _ x.toNat_lt y.toNat_lt,UInt8.toNat_and]
theorem wv_byte (x:UInt64):IntKind.u8.wrap (wv x)=bv x.toUInt8:=by
 unfold wv bv;rw [IntKind.wrap_u8,UInt64.toNat_toUInt8];omega
def bvs (l:List UInt8):List Value:=l.map fun c=>.int .u8 (bv c)
def wvs (l:List UInt64):List Value:=l.map fun c=>.int .u64 (wv c)
theorem bvs_len (l:List UInt8):(bvs l).length=l.length:=by simp [bvs]
theorem wvs_len (l:List UInt64):(wvs l).length=l.length:=by simp [wvs]
theorem bvs_app (l m:List UInt8):bvs (l++m)=bvs l++bvs m:=by simp [bvs]
theorem bvs_take (l:List UInt8) (k:Nat):bvs (l.take k)=(bvs l).take k:=by simp [bvs,List.map_take]
theorem bvs_drop (l:List UInt8) (k:Nat):bvs (l.drop k)=(bvs l).drop k:=by simp [bvs,List.map_drop]
theorem bvs_at (l:List UInt8) (k:Nat) (h:k<l.length):(bvs l)[k]?=some (.int .u8 (bv (l.getD k 0))):=by
 simp [bvs,h]
theorem bvs_one (l:List UInt8):∀u∈bvs l,u.oneCell'=true:=by
 intro u hu;simp only [bvs,List.mem_map] at hu;obtain ⟨c,_,rfl⟩:=hu;rfl
end Go.Proofs.YtejpabdmiagnnaaGreatDoor
namespace Go.Proofs.YtejpabdmiagnnaaGreatDoor
open Go.RowKit
def Blk (w:World) (g:Nat) (t:TypeId) (cs:Array Value):Prop:=w.heap[g]?=some (.cells cs t (0,0))
section
variable {w w':World} {g:Nat} {t:TypeId} {cs:Array Value}
theorem Blk.lt (h:Blk w g t cs):g<w.heap.size:=by
 rcases Nat.lt_or_ge g w.heap.size with hlt|hge
 ·exact hlt
 ·unfold Blk at h;rw [Array.getElem?_eq_none hge] at h;cases h
theorem Blk.cell (h:Blk w g t cs) (i:Nat):w.cell? ⟨g,i,none⟩=cs[i]?:=cell_of_row w g i cs t (0,0) h
theorem Blk.frozen (h:Blk w g t cs) (i:Nat):w.frozen? ⟨g,i,none⟩=false:=by
 unfold Blk at h
 simp [World.frozen?,h]
theorem Blk.new (w:World) (t:TypeId) (cs:Array Value):Blk (w.alloc (.cells cs t)) w.heap.size t cs:=heap_alloc_new w _
theorem Blk.drew (h:Blk w g t cs):Blk w.drew g t cs:=h
theorem Blk.set_ (h:Blk w g t cs) (i:Nat) (u:Value):Blk (w.setCell ⟨g,i,none⟩ u) g t (cs.setIfInBounds i u):=by
 unfold Blk at h ⊢
 simp [World.setCell,Array.getElem?_modify,h]
theorem Blk.below {B:Nat} (h:Blk w g t cs) (hb:Below B w w') (hg:g<B):Blk w' g t cs:=(hb.block g hg).trans h
end
theorem only_drew {a w:World} {row:Option Nat} (h:a.grownBy w row):a.grownBy w.drew row:=⟨h.os,h.tape,h.output,h.size,h.block⟩
theorem only_setCell {a w:World} {g:Nat} (h:a.grownBy w (some g)) {p:Addr} (hp:p.block=g∨a.heap.size≤p.block) (u:Value):a.grownBy (w.setCell p u) (some g) :=
 ⟨h.os,h.tape,h.output,by simpa [World.setCell] using h.size,fun i hi hne=>(Below.heap_setCell w p u i (by
  rintro rfl
  rcases hp with hp|hp
  ·exact hne (by rw [hp])
  ·omega)).trans (h.block i hi hne)⟩
theorem only_below {a w:World} {g:Nat} (h:a.grownBy w (some g)) {B:Nat} (hB:B≤g) (hB2:B≤a.heap.size):Below B a w:=⟨h.os,h.tape,h.output,h.size,fun k hk=>h.block k (by omega) (fun e=>by injection e with e;omega)⟩
theorem only_trans {a b c:World} {row:Option Nat} (h:a.grownBy b row) (k:b.grownBy c row):a.grownBy c row :=
 ⟨k.os.trans h.os,k.tape.trans h.tape,k.output.trans h.output,Nat.le_trans h.size k.size,fun i hi hn=>(k.block i (Nat.lt_of_lt_of_le hi h.size) hn).trans (h.block i hi hn)⟩
theorem block_of_add (a:Addr) (n:Nat):(a.add n).block=a.block:=by unfold Addr.add;split<;>rfl
theorem add_of_add (a:Addr) (i j:Nat):(a.add i).add j=a.add (i+j):=by
 unfold Addr.add
 by_cases hi:i=0<;>by_cases hj:j=0<;>simp [hi,hj,Nat.add_assoc]
def Reads (w:World) (B:Nat) (A:Option Addr) (n:Nat) (xs:List Value):Prop :=
 xs.length=n∧(0<n-> ∃ad,A=some ad∧ad.block<B∧ ∀j u,xs[j]?=some u->w.cell? (ad.add j)=some u)
section
variable {w w':World} {B B' n:Nat} {A:Option Addr} {xs:List Value}
theorem Reads.none_:Reads w B A 0 []:=⟨by simp,fun h=>absurd h (by omega)⟩
theorem Reads.at_ {k:Nat} (h:Reads w B A n xs) (hk:k<n):∃ad u,A=some ad∧ad.block<B∧xs[k]?=some u∧w.cell? (ad.add k)=some u:=by
 obtain ⟨ad,e,hb,hc⟩:=h.2 (by omega)
 have hl:k<xs.length:=by have:=h.1;omega
 exact ⟨ad,xs[k],e,hb,List.getElem?_eq_getElem hl,hc k _ (List.getElem?_eq_getElem hl)⟩
theorem Reads.keep (h:Reads w B A n xs) (hk:∀p:Addr,p.block<B->w'.cell? p=w.cell? p):Reads w' B A n xs :=
 ⟨h.1,fun hn=>by
  obtain ⟨ad,e,hb,hc⟩:=h.2 hn
  exact ⟨ad,e,hb,fun j u hu=>(hk _ (by rw [block_of_add];exact hb)).trans (hc j u hu)⟩⟩
theorem Reads.more (h:Reads w B A n xs) (hB:B≤B'):Reads w B' A n xs :=
 ⟨h.1,fun hn=>by
  obtain ⟨ad,e,hb,hc⟩:=h.2 hn
  exact ⟨ad,e,by omega,hc⟩⟩
theorem Reads.below (h:Reads w B A n xs) (hb:Below B w w'):Reads w' B A n xs:=h.keep fun _ hp=>hb.cell hp
theorem Reads.take (h:Reads w B A n xs) {k:Nat} (hk:k≤n):Reads w B A k (xs.take k) :=
 ⟨by rw [List.length_take,h.1];omega,fun hn=>by
  obtain ⟨ad,e,hb,hc⟩:=h.2 (by omega)
  exact ⟨ad,e,hb,fun j u hu=>hc j u (by
   rw [List.getElem?_take] at hu
   split at hu
   ·exact hu
   ·cases hu)⟩⟩
theorem Reads.drop (h:Reads w B A n xs) {k cap:Nat} (hk:k≤n) (hc:n≤cap) :
  Reads w B (if cap=k then A else A.map (·.add k)) (n-k) (xs.drop k):=by
 refine ⟨by rw [List.length_drop,h.1],fun hn=>?_⟩
 obtain ⟨ad,rfl,hb,hcell⟩:=h.2 (by omega)
 rw [if_neg (by omega)]
 refine ⟨ad.add k,rfl,by rw [block_of_add];exact hb,fun j u hu=>?_⟩
 rw [add_of_add]
 exact hcell _ u (by rw [←hu,List.getElem?_drop])
end
def SliceAt (w:World) (v:Value) (xs:List Value):Prop :=
 ∃A c,v= .slice A xs.length c∧xs.length≤c∧c≤maxLen∧Reads w w.heap.size A xs.length xs
theorem SliceAt.below {w w':World} {v:Value} {xs:List Value} (h:SliceAt w v xs) (hb:Below w.heap.size w w'):SliceAt w' v xs:=by
 obtain ⟨A,c,hv,hc,hm,hr⟩:=h
 exact ⟨A,c,hv,hc,hm,(hr.below hb).more hb.size⟩
theorem SliceAt.nil (w:World):SliceAt w (.slice none 0 0) []:=⟨none,0,rfl,by simp,by simp,Reads.none_⟩
end Go.Proofs.YtejpabdmiagnnaaGreatDoor
namespace Go.Proofs.YtejpabdmiagnnaaGreatDoor
open Go.RowKit
theorem ret_int {k:IntKind} {a b:Int} (h:a=b):Ending.returned (.int k a)= .returned (.int k b):=by rw [h]
structure ElemT (P:Program) (t e:TypeId) (z:Value) (bytes:Nat):Prop where
 ht:P.underlying t=some (.slice e)
 hi:∃i,P.info? e=some i∧i.zero=some z∧i.size=1∧i.bytes=bytes
 hz:z.cells.size=1
 hb:0<bytes
theorem SliceAt.new (w:World) (cs:Array Value) (e:TypeId) (h:cs.size≤maxLen):SliceAt (w.alloc (.cells cs e)) (.slice (some ⟨w.heap.size,0,none⟩) cs.size cs.size) cs.toList:=by
 refine ⟨some ⟨w.heap.size,0,none⟩,cs.size,by simp,by simp,h,by simp,fun _=>⟨_,rfl,by simp,fun j u hu=>?_⟩⟩
 have:(⟨w.heap.size,0,none⟩:Addr).add j=⟨w.heap.size,j,none⟩:=by unfold Addr.add;split<;>simp_all
 rw [this,(Blk.new w e cs).cell j]
 simpa using hu
theorem SliceAt.one (w:World) (u:Value) (e:TypeId):SliceAt (w.alloc (.cells #[u] e)) (.slice (some ⟨w.heap.size,0,none⟩) 1 1) [u]:=SliceAt.new w #[u] e (by show 1≤maxLen;unfold maxLen;omega)
def Own (w:World) (base:Nat) (v:Value) (xs:List Value):Prop :=
 (v= .slice none 0 0∧xs= []) ∨
 ∃g cap cur te fr,v= .slice (some ⟨g,0,none⟩) xs.length cap∧base≤g∧w.heap[g]?=some (.cells cur te fr)∧xs.length≤cap∧cap≤maxLen∧cur.size=cap∧cur.toList.take xs.length=xs∧(∀j,j<cap-> ¬(fr.1≤j∧j<fr.2))
section
variable {w w':World} {base base' B:Nat} {v:Value} {xs:List Value}
theorem Own.nil (w:World) (base:Nat):Own w base (.slice none 0 0) []:=.inl ⟨rfl,rfl⟩
theorem Own.lt (h:Own w base v xs):∀k,v.ownBlock=some k->base≤k∧k<w.heap.size:=by
 intro k hk
 rcases h with ⟨rfl,_⟩|⟨g,cap,cur,te,fr,rfl,hb,hg,_⟩
 ·simp [Value.ownBlock] at hk
 ·simp [Value.ownBlock] at hk
  subst hk
  exact ⟨hb,(Array.getElem?_eq_some_iff.1 hg).1⟩
theorem Own.keep (h:Own w base v xs) (hk:∀k,v.ownBlock=some k->w'.heap[k]?=w.heap[k]?):Own w' base v xs:=by
 rcases h with hn|⟨g,cap,cur,te,fr,rfl,hb,hg,rest⟩
 ·exact .inl hn
 ·exact .inr ⟨g,cap,cur,te,fr,rfl,hb,(hk g rfl).trans hg,rest⟩
theorem Own.below (h:Own w base v xs) (hb:Below B w w') (hB:w.heap.size≤B):Own w' base v xs:=h.keep fun k hk=>hb.block k (by have:=(h.lt k hk).2;omega)
theorem Own.alloc (h:Own w base v xs) (o:Obj):Own (w.alloc o) base v xs:=h.keep fun k hk=>Below.heap_alloc w o k (h.lt k hk).2
theorem addr0_add (g j:Nat):(⟨g,0,none⟩:Addr).add j=⟨g,j,none⟩:=by unfold Addr.add;split<;>simp_all
theorem Own.reads (h:Own w base v xs):SliceAt w v xs:=by
 rcases h with ⟨rfl,rfl⟩|⟨g,cap,cur,te,fr,rfl,hb,hg,hnc,hm,hs,ht,hf⟩
 ·exact SliceAt.nil w
 ·refine ⟨_,cap,rfl,hnc,hm,rfl,fun _=>⟨_,rfl,(Array.getElem?_eq_some_iff.1 hg).1,fun j u hu=>?_⟩⟩
  rw [addr0_add,cell_of_row w g j cur te fr hg]
  rw [←ht,List.getElem?_take] at hu
  split at hu
  ·simpa using hu
  ·cases hu
theorem Own.of_owns {e:TypeId} {n:Nat} (h:w.ownsRow base e 1 v n xs):Own w base v xs:=by
 have hl:xs.length=n:=by have:=h.1;omega
 rcases h.2 with ⟨rfl,hn⟩|⟨g,cap,cur,rfl,hb,hh,hnc,hm,hs,ht⟩
 ·exact .inl ⟨rfl,List.length_eq_zero_iff.1 (by omega)⟩
 ·subst hl
  exact .inr ⟨g,cap,cur,e,(0,0),rfl,hb,hh,hnc,hm,by omega,by simpa using ht,by simp⟩
end
theorem _root_.Go.RowKit.Below.thenApp {w w1 w2:World} {v:Value} {xs:List Value} (hw:Below w.heap.size w w1) (ho:Own w1 w.heap.size v xs) (hg:w1.grownBy w2 v.ownBlock):Below w.heap.size w w2:=hw.grown hg hw.size fun k h=>(ho.lt k h).1
theorem _root_.Go.RowKit.Below.thenCall {w w1 w2:World} (hw:Below w.heap.size w w1) (hc:Below w1.heap.size w1 w2):Below w.heap.size w w2:=hw.trans (hc.mono hw.size)
theorem _root_.Go.RowKit.Below.thenNew {w w1:World} (hw:Below w.heap.size w w1) (o:Obj):Below w.heap.size w (w1.alloc o):=hw.alloc hw.size o
theorem _root_.Go.RowKit.Below.sizeNew {w w1:World} (hw:Below w.heap.size w w1) (o:Obj):w.heap.size≤(w1.alloc o).heap.size:=(hw.thenNew o).size
theorem run_storeCells_free (P:Program) (g:Nat) (t:TypeId) (fr:Nat×Nat) (cap:Nat) (hf:∀j,j<cap-> ¬(fr.1≤j∧j<fr.2)) (o:Nat):∀(vs:List Value) (i:Nat) (cur:Array Value) (w:World),w.heap[g]?=some (.cells cur t fr)->o+i+vs.length≤cur.size->cur.size=cap->(∀v∈vs,v.oneCell'=true) ->
  (storeCells ⟨g,o,none⟩ vs i).run P w= .ok () (w.setRow g (cur.toList.take (o+i)++vs++cur.toList.drop (o+i+vs.length)).toArray)
 | [],i,cur,w,hg,_,_,_=>by
  simp only [storeCells,List.append_nil,List.length_nil,Nat.add_zero,List.take_append_drop,Array.toArray_toList]
  rw [setRow_self w g cur t fr hg]
  rfl
 | v::rest,i,cur,w,hg,hl,hcap,h1=>by
  have hi:o+i<cur.size:=by simp at hl;omega
  have hadd:(⟨g,o,none⟩:Addr).add i=⟨g,o+i,none⟩:=by unfold Addr.add;split<;>simp_all
  have hcell:w.cell? ⟨g,o+i,none⟩=some cur[o+i]:=by simp [World.cell?,hg,hi]
  have hfro:w.frozen? ⟨g,o+i,none⟩=false:=by
   obtain ⟨lo,hi'⟩:=fr
   have:=hf (o+i) (by omega)
   simp [World.frozen?,hg]
   intro h1
   rcases Nat.lt_or_ge (o+i) hi' with h2|h2
   ·exact absurd ⟨h1,h2⟩ this
   ·exact h2
  have hst:(store ((⟨g,o,none⟩:Addr).add i) v).run P w= .ok () (w.setRow g (cur.setIfInBounds (o+i) v)):=by
   rw [hadd,run_store P w _ v _ (h1 v (by simp)),hcell]
   simp [hfro,setCell_eq_setRow w g (o+i) cur t fr v hg]
  have ih:=run_storeCells_free P g t fr cap hf o rest (i+1) (cur.setIfInBounds (o+i) v) (w.setRow g (cur.setIfInBounds (o+i) v)) (setRow_heap w g cur _ t _ hg) (by simp at hl ⊢;omega) (by simpa using hcap) (fun x hx=>h1 x (by simp [hx]))
  simp only [storeCells,Sem.run_bind,hst,Result.andThen_ok,ih,setRow_setRow]
  congr 3
  have e:=list_seg_step cur.toList (o+i) v rest (by simp at hl ⊢;omega)
  simpa [Array.toList_setIfInBounds,Nat.add_assoc] using e
section
variable {P:Program} (w:World)
theorem run_app {t ty e:TypeId} {z:Value} {bytes:Nat} (E:ElemT P t e z bytes) (base:Nat) (v:Value) (xs:List Value) (hown:Own w base v xs)
  (xv:Value) (news:List Value) (hr:SliceAt w xv news) (h1:∀u∈news,u.oneCell'=true) (hbytes:(xs.length+news.length)*bytes≤140737488355328) (hbase:base≤w.heap.size) :
  ∃v' w',(Builtin.append_ #[t,t] ty #[v,xv]).run P w= .ok v' w'∧Own w' base v' (xs++news)∧w.grownBy w' v.ownBlock ∧
   (v'.ownBlock=v.ownBlock∨v'.ownBlock=some w.heap.size):=by
 obtain ⟨i,hi,hz,hsize,hby⟩:=E.hi
 obtain ⟨A,c,rfl,hc,hm,hrd⟩:=hr
 have hn63:xs.length+news.length≤maxLen:=by
  have hb:=E.hb
  have:xs.length+news.length≤(xs.length+news.length)*bytes:=Nat.le_mul_of_pos_right _ hb
  unfold maxLen;omega
 have hzc:z.cells.size=1:=E.hz
 have grownA:∀(old:Nat) (row:Option Nat),
   Own (w.drew.alloc (.cells (xs.toArray++news.toArray++Builtin.zeroCells z.cells (grownCap w (xs.length+news.length) old e-(xs.length+news.length))) e)) base
    (.slice (some ⟨w.heap.size,0,none⟩) (xs.length+news.length) (grownCap w (xs.length+news.length) old e)) (xs++news) ∧
   w.grownBy (w.drew.alloc (.cells (xs.toArray++news.toArray++Builtin.zeroCells z.cells (grownCap w (xs.length+news.length) old e-(xs.length+news.length))) e)) row:=by
  intro old row
  have hge:=grownCap_ge w (xs.length+news.length) old e
  have hcm:grownCap w (xs.length+news.length) old e≤maxLen:=grownCap_le_maxLen w _ old e hn63
  refine ⟨.inr ⟨w.heap.size,_,_,e,(0,0),by simp,hbase,heap_alloc_new w.drew _,by simpa using hge,hcm,?_,?_,by simp⟩,⟨rfl,rfl,rfl,by simp,fun k hk _=>Below.heap_alloc w.drew _ k hk⟩⟩
  ·simp only [Array.size_append,List.size_toArray,size_zeroCells,hzc,Nat.mul_one]
   omega
  ·simp only [Array.toList_append,List.append_assoc]
   rw [←List.append_assoc]
   exact List.take_left
 by_cases hnew:news= []
 ·subst hnew
  refine ⟨v,w,?_,by simpa using hown,World.grownBy.refl w _,.inl rfl⟩
  rcases hown with ⟨rfl,rfl⟩|⟨g,cap,cur,te,fr,rfl,hb,hg,hnc,hcm,hs,ht,hf⟩
  ·rcases A with _|ad<;>simp [Builtin.append_,run_underlying E.ht,sizeOf,typeInfo,hi,Builtin.lenOf,Builtin.firstCells,loadCells,loadCellsFrom]
  ·rcases A with _|ad<;>simp [Builtin.append_,run_underlying E.ht,sizeOf,typeInfo,hi,Builtin.lenOf,Builtin.firstCells,loadCells,loadCellsFrom,hnc,storeCells]
 ·have hpos:0<news.length:=List.length_pos_iff.2 hnew
  obtain ⟨ad,rfl,-,hcells⟩:=hrd.2 hpos
  have hsm:((xs.length+news.length:Nat):Int)≤9223372036854775807:=by simp only [maxLen] at hn63;omega
  rcases hown with ⟨rfl,rfl⟩|⟨g,cap,cur,te,fr,rfl,hb,hg,hnc,hcm,hs,ht,hf⟩
  ·have hr:=run_append_nil (P:=P) w t ty e i z E.ht hi hz ad news.length c news (by rw [hsize,Nat.mul_one]) hcells (by omega) (by simp at hsm;omega) (by have hb:=hbytes;simp only [List.length_nil,Nat.zero_add] at hb;rw [hby];omega)
   have hgr:=grownA 0 (Value.ownBlock (.slice none 0 0))
   simp only [List.length_nil,Nat.zero_add,List.nil_append,Array.empty_append] at hgr ⊢
   exact ⟨_,_,hr,hgr.1,hgr.2,.inr rfl⟩
  ·by_cases hroom:xs.length+news.length≤cap
   ·have hf2:=run_firstCells_some (P:=P) w 1 news.length ad news.length c news (by omega) hcells
    have hst:=run_storeCells_free P g te fr cap hf xs.length news 0 cur w hg (by omega) hs h1
    simp only [Nat.add_zero] at hst
    refine ⟨.slice (some ⟨g,0,none⟩) (xs.length+news.length) cap,_,?_,.inr ⟨g,cap,_,te,fr,by simp,hb,setRow_heap w g cur (cur.toList.take xs.length++news++cur.toList.drop (xs.length+news.length)).toArray te fr hg,by simpa using hroom,hcm,?_,?_,hf⟩,⟨rfl,rfl,rfl,by simp,fun k _ hk=>setRow_other w g k _ (fun e=>hk (by simp [Value.ownBlock,e]))⟩,.inl rfl⟩
    ·simp [Builtin.append_,run_underlying E.ht,sizeOf,typeInfo,hi,hsize,Builtin.lenOf,hroom,hf2,Addr.add_lit,hst]
    ·simp only [List.size_toArray,List.length_append,List.length_take,List.length_drop,Array.length_toList]
     omega
    ·simp only [ht]
     exact List.take_left
   ·have holds:∀j u,xs[j]?=some u->w.cell? ((⟨g,0,none⟩:Addr).add j)=some u:=by
     intro j u hu
     rw [addr0_add,cell_of_row w g j cur te fr hg]
     rw [←ht,List.getElem?_take] at hu
     split at hu
     ·simpa using hu
     ·cases hu
    have hr:=run_append_grow (P:=P) w t ty e i z E.ht hi hz ⟨g,0,none⟩ xs.length cap xs (by rw [hsize,Nat.mul_one]) holds ad news.length c news (by rw [hsize,Nat.mul_one]) hcells (by omega) hsm (growslice_fits (by omega) (by rw [hby];exact hbytes))
    have hgr:=grownA cap (Value.ownBlock (.slice (some ⟨g,0,none⟩) xs.length cap))
    exact ⟨_,_,hr,hgr.1,hgr.2,.inr rfl⟩
theorem wp_app {o:Oper} {a:Act} {K:Act->World->Prop} {Q:Exit->Act->World->Prop} (s x:Operand) (t:TypeId)
  (ho:o.op= .call {callee:=.builtin .append,args:= #[s,x],argTypes:= #[t,t]})
  {e:TypeId} {z:Value} {bytes:Nat} (E:ElemT P t e z bytes) (base:Nat) (v:Value) (xs:List Value) (hs:a.eval s=v) (hown:Own w base v xs)
  (xv:Value) (news:List Value) (hx:a.eval x=xv) (hr:SliceAt w xv news) (h1:∀u∈news,u.oneCell'=true) (hbytes:(xs.length+news.length)*bytes≤140737488355328) (hbase:base≤w.heap.size)
  (h:∀v' w',Own w' base v' (xs++news)->w.grownBy w' v.ownBlock->(v'.ownBlock=v.ownBlock∨v'.ownBlock=some w.heap.size)->K (a.put o.dst v') w'):o.wp P a w K Q:=by
 obtain ⟨v',w',hrun,h2,h3,h4⟩:=run_app (P:=P) (ty:=o.type) w E base v xs hown xv news hr h1 hbytes hbase
 unfold Oper.wp execOp
 simp only [ho,resolve,invoke,builtin,Sem.run_bind,Sem.run_pure,Result.andThen_ok,List.map_toArray,List.map_cons,List.map_nil,hs,hx,hrun]
 exact h v' w' h2 h3 h4
theorem wpList_app {ops:Array Oper} {rest:List Oper} {o:Oper} {a:Act} {Q:Exit->Act->World->Prop} (hgd:o.guard=none) (s x:Operand) (t:TypeId)
  (ho:o.op= .call {callee:=.builtin .append,args:= #[s,x],argTypes:= #[t,t]})
  {e:TypeId} {z:Value} {bytes:Nat} (E:ElemT P t e z bytes) (base:Nat) (v:Value) (xs:List Value) (hs:a.eval s=v) (hown:Own w base v xs)
  (xv:Value) (news:List Value) (hx:a.eval x=xv) (hr:SliceAt w xv news) (h1:∀u∈news,u.oneCell'=true) (hbytes:(xs.length+news.length)*bytes≤140737488355328) (hbase:base≤w.heap.size)
  (h:∀v' w',Own w' base v' (xs++news)->w.grownBy w' v.ownBlock->(v'.ownBlock=v.ownBlock∨v'.ownBlock=some w.heap.size)->wpList P ops Q rest (a.put o.dst v') w'):wpList P ops Q (o::rest) a w :=
 wpList_plain hgd fun _ hK=>wp_app w s x t ho E base v xs hs hown xv news hx hr h1 hbytes hbase fun v' w' h2 h3 h4=>hK _ _ (h v' w' h2 h3 h4)
theorem wpList_mk0 {ops:Array Oper} {rest:List Oper} {o:Oper} {a:Act} {Q:Exit->Act->World->Prop} (hg:o.guard=none) (l c:Operand) (t:TypeId) (hop:o.op=Op.makeSlice t l c)
  {e:TypeId} {z:Value} {bytes:Nat} (E:ElemT P t e z bytes) (base:Nat) (kl kc:IntKind) (C:Int) (n:Nat) (hl:a.eval l= .int kl 0) (hc:a.eval c= .int kc C) (hC:C=(n:Int))
  (b2:bytes*n≤281474976710656) (b4:base≤w.heap.size)
  (hK:∀w',Own w' base (.slice (some ⟨w.heap.size,0,none⟩) 0 n) []->w.grownBy w' none->wpList P ops Q rest (a.put o.dst (.slice (some ⟨w.heap.size,0,none⟩) 0 n)) w') :
  wpList P ops Q (o::rest) a w:=by
 obtain ⟨i,hi,hz,hsize,hby⟩:=E.hi
 have hb:=E.hb
 have hm:n≤maxLen:=by
  have:n≤bytes*n:=Nat.le_mul_of_pos_left _ hb
  unfold maxLen;omega
 exact wpList_make_own w hg l c t hop base e i z 1 E.ht hi hz hsize kl kc C n hl hc hC (by rw [hby];exact b2) hm b4 fun w' h2 h3=>hK w' (Own.of_owns h2) h3
end
theorem Own.of_string (w:World) (s:ByteArray) (e:TypeId) (hs:s.size≤maxLen) :
  Own (w.drew.alloc (.cells (bytesRow s (grownCap w s.size 0 e)) e ((bytesRow s (grownCap w s.size 0 e)).size,(bytesRow s (grownCap w s.size 0 e)).size+1))) w.heap.size (.slice (some ⟨w.heap.size,0,none⟩) s.size (grownCap w s.size 0 e)) (bvs s.data.toList):=by
 have hge:=grownCap_ge w s.size 0 e
 have hcm:grownCap w s.size 0 e≤maxLen:=grownCap_le_maxLen w _ 0 e hs
 have hsz:(bytesRow s (grownCap w s.size 0 e)).size=grownCap w s.size 0 e:=by
  unfold bytesRow;simp only [Array.size_append,Array.size_map,Array.size_replicate]
  show s.size+_=_
  omega
 have hl:(bvs s.data.toList).length=s.size:=by rw [bvs_len];rfl
 refine .inr ⟨w.heap.size,_,_,e,_,by rw [hl],Nat.le_refl _,heap_alloc_new w.drew _,by omega,hcm,hsz,?_,?_⟩
 ·rw [hl]
  unfold bytesRow
  simp only [Array.toList_append,Array.toList_map]
  rw [List.take_append_of_le_length (by simp),List.take_of_length_le (by simp)]
  rfl
 ·intro j hj
  simp only [hsz]
  omega
theorem wpList_bytes {P:Program} (w:World) {ops:Array Oper} {rest:List Oper} {o:Oper} {a:Act} {Q:Exit->Act->World->Prop} (hgd:o.guard=none) (x:Operand) (src dst:TypeId) (ho:o.op= .convert src dst x)
  (e:TypeId) (s:ByteArray) (hx:a.eval x= .string s) (hs:P.underlying src=some .string) (hd:P.underlying dst=some (.slice e)) (he:P.underlying e=some (.int .u8)) (hsz:s.size≤maxLen)
  (h:∀v' w',Own w' w.heap.size v' (bvs s.data.toList)->Below w.heap.size w w'->wpList P ops Q rest (a.put o.dst v') w'):wpList P ops Q (o::rest) a w:=by
 refine wpList_plain hgd fun K hK=>?_
 unfold Oper.wp
 simp [execOp,ho,hx,run_bytes_of_string w src dst e s hs hd he,Result.andThen]
 exact hK _ _ (h _ _ (Own.of_string w s e hsz) ((Below.refl _ _).drew.alloc (Nat.le_refl _) _))
theorem run_string_of {P:Program} {w:World} {v:Value} {l:List UInt8} (h:SliceAt w v (bvs l)) (src dst e:TypeId) (hs:P.underlying src=some (.slice e)) (he:P.underlying e=some (.int .u8)) (hd:P.underlying dst=some .string) :
  (convert src dst v).run P w= .ok (.string ⟨l.toArray⟩) w:=by
 obtain ⟨A,c,rfl,hc,hm,hr⟩:=h
 rw [bvs_len] at hr ⊢
 rcases A with _|ad
 ·have hl:l= []:=by
   rcases Nat.eq_zero_or_pos l.length with h0|h0
   ·exact List.length_eq_zero_iff.1 h0
   ·obtain ⟨ad,h,_⟩:=hr.2 h0
    cases h
  subst hl
  exact run_convert_bytes_nil w src e hs he _ _ dst hd
 ·refine run_convert_bytes_back w src dst e ad c l hs he hd fun j hj=>?_
  obtain ⟨ad',h,_,hcell⟩:=hr.2 (by omega)
  injection h with h
  subst h
  exact hcell j _ (by simp [bvs,hj];rfl)
end Go.Proofs.YtejpabdmiagnnaaGreatDoor
