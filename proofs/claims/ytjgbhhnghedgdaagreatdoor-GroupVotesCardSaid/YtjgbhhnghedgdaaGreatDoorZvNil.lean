import Derived.Test.YtjgbhhnghedgdaaGreatDoorZvTk2
set_option linter.all false
namespace Go.Proofs.YtjgbhhnghedgdaaGreatDoor
open Go.RowKit
set_option maxRecDepth 100000
set_option maxHeartbeats 4000000
def KX (es:List (Nat×Nat)) (j:Nat):AV->AV
 | .nil=>(match look es j with|some e=>.sl e []|none=>.nil)
 | x=>x
theorem KW (es:List (Nat×Nat)) (j:Nat) (x:AV):KX es j x=x∨x= .nil∧ ∃e,KX es j x= .sl e []:=by
 cases x with
 | nil =>
  cases h:look es j with
  | none=>exact .inl (by show (match look es j with|some e=>AV.sl e []|none=>.nil)=_;rw [h])
  | some e=>exact .inr ⟨rfl,e,by show (match look es j with|some e=>AV.sl e []|none=>.nil)=_;rw [h]⟩
 | _=>exact .inl rfl
def KY (es:List (Nat×Nat)):List AV->Nat->List AV
 | [],_=>[]
 | x::l,j=>KX es j x::KY es l (j+1)
def Rt (es:List (Nat×Nat)):AV->AV
 | .agg cs=>.agg (KY es cs 0)
 | x=>x
theorem yn (es:List (Nat×Nat)):∀(l:List AV) (j:Nat),(KY es l j).length=l.length
 | [],_=>rfl
 | _::l,j=>congrArg (· +1) (yn es l (j+1))
theorem CH (es:List (Nat×Nat)):∀(l:List AV) (j i:Nat) (y:AV),(KY es l j)[i]?=some y-> ∃x,l[i]?=some x∧(y=x∨x= .nil∧ ∃e,y= .sl e [])
 | [],_,_,_,h=>by cases h
 | x::l,j,0,y,h=>by
  have h:some (KX es j x)=some y:=h
  injection h with h
  subst h
  exact ⟨x,rfl,KW es j x⟩
 | x::l,j,i+1,y,h=>CH es l (j+1) i y h
theorem cz.Rt (es:List (Nat×Nat)) {S:Nat->Prop} {w:World} {v:Value} {x:AV} (h:cz S w v x):cz S w v (Rt es x):=by
 cases h with
 | agg vs cs hl h =>
  refine .agg vs _ (by rw [hl,yn]) fun j v c hv hc=>?_
  obtain ⟨x,hx,e⟩:=CH es cs 0 j c hc
  have hr:=h j v x hv hx
  rcases e with rfl|⟨rfl,e,rfl⟩
  ·exact hr
  ·cases hr;exact i9 none 0 0 e (by simp) (Nat.le_refl _) (by simp)
 | nil=>exact .nil
 | val v=>exact .val v
 | cw vs cs hl h=>exact .cw vs cs hl h
 | arr vs cs hl h=>exact .arr vs cs hl h
 | sl A n c e us row hl hn hc hm ha h=>exact .sl A n c e us row hl hn hc hm ha h
 | sg A n e us row hl hn hm ha h=>exact .sg A n e us row hl hn hm ha h
 | ptr ad us row off hl hs ha h=>exact .ptr ad us row off hl hs ha h
 | mI f vs cs hl h=>exact .mI f vs cs hl h
theorem bG.ER (es:List (Nat×Nat)) {P:Program} {f:FuncId} {args:List AV} {r:AV} (h:bG P f (args.map (Rt es)) r):bG P f args r:=by
 intro w S vs ko hS hv hr
 refine h w S vs ko hS (by rw [List.length_map];exact hv) fun j v y VF hy=>?_
 rw [List.getElem?_map] at hy
 cases hx:args[j]? with
 | none=>rw [hx] at hy;cases hy
 | some x=>rw [hx] at hy;cases hy;exact (hr j v x VF hx).Rt es
theorem bQ.Sk {s:AS} (id:Nat) (es:List (Nat×Nat)) {r:Row} (hr:look s.H id=some r):bQ s ⟨s.F,(id,⟨r.e,r.pure,r.full,KY es r.cells 0⟩)::cR s.H id⟩:=by
 intro S0 w0 n a w ⟨φ,hs⟩
 have hl:=yn es r.cells 0
 have hI:az ((id,(⟨r.e,r.pure,r.full,KY es r.cells 0⟩:Row))::cR s.H id) φ=az s.H φ:=by
  funext i
  unfold az
  rw [aD]
  by_cases e1:id=i
  ·subst e1;rw [if_pos rfl,hr];show some (r.e,(KY es r.cells 0).length,φ id)=_;rw [hl];rfl
  ·rw [if_neg e1,bH,if_neg e1]
 refine ⟨φ,hs.j8,hs.ke,hs.da,fun i av hi=>by rw [hI];exact hs.cC i av hi,fun i q hq=>?_,fun i hi=>?_,hs.inj,hs.cY,hs.apart,hs.new⟩
 ·rw [hI]
  rw [aD] at hq
  by_cases e1:id=i
  ·subst e1
   rw [if_pos rfl] at hq;injection hq with hq;subst hq
   have aQ:=hs.rows id r hr
   unfold bJ at aQ ⊢
   cases hg:φ id with
   | none=>rw [hg] at aQ;exact List.eq_nil_of_length_eq_zero (by rw [hl,aQ];rfl)
   | some g =>
    rw [hg] at aQ
    obtain ⟨cur,te,fr,u1,u2,u3,u4,u5⟩:=aQ
    refine ⟨cur,te,fr,u1,u2,by rw [hl];exact u3,fun h=>by rw [hl];exact u4 h,fun k u x hu hx=>?_⟩
    obtain ⟨y,hy,e⟩:=CH es r.cells 0 k x hx
    have:=u5 k u y hu hy
    unfold bh at this ⊢
    rcases e with rfl|⟨rfl,e2,rfl⟩
    ·exact this
    ·have hv:u= .slice none 0 0:=by
      cases hp:r.pure with
      | true=>rw [hp] at this;cases this;rfl
      | false =>
       rw [hp] at this
       have this:Den _ _ _ u .nil:=this
       cases this with
       | rep h=>cases h;rfl
     subst hv
     show match r.pure with|true=>cz _ _ _ _|false=>Den _ _ _ _ _
     cases r.pure with
     | true=>exact i9 none 0 0 e2 (by simp) (Nat.le_refl _) (by simp)
     | false=>exact .rep (i9 none 0 0 e2 (by simp) (Nat.le_refl _) (by simp))
  ·rw [if_neg e1,bH,if_neg e1] at hq
   exact hs.rows i q hq
 ·rw [aD] at hi
  by_cases e1:id=i
  ·subst e1;rw [if_pos rfl] at hi;cases hi
  ·rw [if_neg e1,bH,if_neg e1] at hi;exact hs.only i hi
def FW (s:AS) (id:Nat):Row:=match look s.H id with|some r=>r|none=>⟨0,true,false,[]⟩
theorem bQ.Nx {s:AS} (id:Nat) (es:List (Nat×Nat)) (hr:look s.H id=some (FW s id)):bQ s ⟨s.F,(id,⟨(FW s id).e,(FW s id).pure,(FW s id).full,KY es (FW s id).cells 0⟩)::cR s.H id⟩:=bQ.Sk id es hr
theorem Ny {ι:Type} {Inv:ι->Prop} {J:ι->AS} {s s1:AS} (hw:bQ s s1) (h:∃x,Inv x∧bQ s1 (J x)):∃x,Inv x∧bQ s (J x):=by
 obtain ⟨x,hx,h⟩:=h
 exact ⟨x,hx,fun S0 w0 n a w hs=>h S0 w0 n a w (hw S0 w0 n a w hs)⟩
def gF (e:fC):fC :=
 if e.kind=1 then {e with name:=[],kh:=0,kr:=0} else if e.kind=2 then {e with name:=[]} else if e.kind=3 then {e with bA:=0} else
 if e.kind=4 then {e with dep:=⟨0,0,[],[],[],0,e.dep.target⟩} else {e with bV:=0,target:=0}
structure MW (f:fC) (R:Bool):Prop where
 bad:(f.dep.bV≠0∨f.dep.peer≠0∨f.dep.box.length≠0∨f.dep.ae.length≠0∨f.dep.ax.length≠0∨f.dep.need≠0∨f.dep.target≠0∨f.name≠ []∨ ¬(f.kh=0∧f.kr=0)∨f.bA≠0∨f.bV≠0∨f.target≠0)->R=true
 ng:f.dep.bV=0->f.dep.peer=0->f.dep.box.length=0->f.dep.ae.length=0->f.dep.ax.length=0->f.dep.need=0->f.dep.target=0->f.name= []->f.kh=0∧f.kr=0->f.bA=0->f.bV=0->f.target=0->R=false
theorem KP {x:UInt64} (h:wv x=0):x=0:=by
 have h:((x.toNat:Nat):Int)=0:=h
 exact UInt64.toNat_inj.1 (by rw [show x.toNat=0 by omega];rfl)
theorem AP {h:Int} {r:UInt64} (g:¬(!(h == 0 && (wv r == 0 && true)))=true):h=0∧r=0:=by
 simp at g
 exact ⟨g.1,KP g.2⟩
theorem FP {h:Int} {r:UInt64} (g:(!(h == 0 && (wv r == 0 && true)))=true):¬(h=0∧r=0):=by
 rintro ⟨rfl,rfl⟩
 exact absurd g (by decide)
theorem FQ (e:fC) (h1:1≤e.kind) (h5:e.kind≤5):MW (gF e) (decide (¬fV e)):=by
 have key:((gF e).dep.bV=0∧(gF e).dep.peer=0∧(gF e).dep.box.length=0∧(gF e).dep.ae.length=0∧(gF e).dep.ax.length=0∧(gF e).dep.need=0∧(gF e).dep.target=0∧(gF e).name= []∧((gF e).kh=0∧(gF e).kr=0)∧(gF e).bA=0∧(gF e).bV=0∧(gF e).target=0)↔fV e:=by
  unfold gF fV wu
  by_cases k1:e.kind=1
  ·rw [if_pos k1];simp [k1];grind
  rw [if_neg k1]
  by_cases k2:e.kind=2
  ·rw [if_pos k2];simp [k2];grind
  rw [if_neg k2]
  by_cases k3:e.kind=3
  ·rw [if_pos k3];simp [k3];grind
  rw [if_neg k3]
  by_cases k4:e.kind=4
  ·rw [if_pos k4];simp [k4];grind
  rw [if_neg k4]
  have k5:e.kind=5:=ag
  simp [k5];grind
 refine ⟨fun h=>?_,fun a b c d e f g h i j k l=>?_⟩
 ·rw [decide_eq_true_iff]
  intro q
  obtain ⟨a,b,c,d,m,f,g,o,i,j,k,l⟩:=key.2 q
  clear key
  generalize gF e=z at *
  rcases h with q|q|q|q|q|q|q|q|q|q|q|q<;>contradiction
 ·rw [decide_eq_false_iff_not]
  exact fun q=>q (key.1 ⟨a,b,c,d,e,f,g,h,i,j,k,l⟩)
def Q7:List (Nat×Nat):=[(9,1),(10,1),(11,1)]
theorem jT (e:fC) (h1:1≤e.kind) (h5:e.kind≤5):bG Tryz.prog 73 [.agg (bf e)] (ao (decide (¬fV e))):=by
 refine zO Tryz.func73 94<|zq (bg.ob (fun (f:fC)=>(⟨[(2,ao false),(1,AV.addr 1 0),(0,AV.agg (bf e))],[(1,⟨1,false,true,bf f⟩)]⟩:AS)) (fun f=>(f=gF e)) bu ?_ ?_)
 ·by_cases k1:e.kind=1
  ·have hf:gF e= {e with name:=[],kh:=0,kr:=0}:=if_pos k1
   refine zq<|zB 0<|zP 1 [{}] [.aa [7,6,2,1,0] [1]] []<|dB 7 (e.kind == (1:Int)) eJ<|zQ 1 [{}] [yL 4 17]<|zX {} [yL 6 17]<|aJ<|al (⟨(gF e),rfl,(eS [.aa [2,1,0] [1]] [] [1] [yB (List.take 4 ((List.map (aF 1) (bf e)).set 3 (AV.val (Value.string (ByteArray.mk #[]))))++ [ai 0,ez]++List.drop 6 ((List.map (aF 1) (bf e)).set 3 (AV.val (Value.string (ByteArray.mk #[]))))=bf (gF e)) (by rw [hf];rfl)])⟩)
  by_cases k2:e.kind=2
  ·have hf:gF e= {e with name:=[]}:=by unfold gF;rw [if_neg k1,if_pos k2]
   refine zq<|zB 0<|zP 1 [{}] [.aa [7,6,2,1,0] [1]] []<|bk 7 (e.kind == (1:Int)) bD<|zq<|dB 12 (e.kind == (2:Int)) eJ<|zX {} [yL 4 17]<|aJ<|al (⟨(gF e),rfl,(eS [.aa [2,1,0] [1]] [] [1] [yB ((List.map (aF 1) (bf e)).set 3 (AV.val (Value.string (ByteArray.mk #[])))=bf (gF e)) (by rw [hf];rfl)])⟩)
  by_cases k3:e.kind=3
  ·have hf:gF e= {e with bA:=0}:=by unfold gF;rw [if_neg k1,if_neg k2,if_pos k3]
   refine zq<|zB 0<|zP 1 [{}] [.aa [7,6,2,1,0] [1]] []<|bk 7 (e.kind == (1:Int)) bD<|zq<|bk 12 (e.kind == (2:Int)) bD<|zP 1 [{}] [.aa [15,12,7,6,2,1,0] [1]] []<|dB 15 (e.kind == (3:Int)) eJ<|zX {} [yL 7 17]<|aJ<|al (⟨(gF e),rfl,(eS [.aa [2,1,0] [1]] [] [1] [yB ((List.map (aF 1) (bf e)).set 6 (ai 0)=bf (gF e)) (by rw [hf];rfl)])⟩)
  by_cases k4:e.kind=4
  ·have hf:gF e= {e with dep:=⟨0,0,[],[],[],0,e.dep.target⟩}:=by unfold gF;rw [if_neg k1,if_neg k2,if_neg k3,if_pos k4]
   refine zq<|zB 0<|zP 1 [{}] [.aa [7,6,2,1,0] [1]] []<|bk 7 (e.kind == (1:Int)) bD<|zq<|bk 12 (e.kind == (2:Int)) bD<|zP 1 [{}] [.aa [15,12,7,6,2,1,0] [1]] []<|bk 15 (e.kind == (3:Int)) bD<|zq<|dB 18 (e.kind == (4:Int)) eJ<|zX {} [yL 14 17]<|aJ<|al<|Ny (bQ.Nx 1 Q7 bu) (⟨(gF e),rfl,(eS [.aa [2,1,0] [1]] [] [1] [yB (KY Q7 (FW (AS.mk [(24,AV.addr 1 7),(23,AV.agg [ez,ez,AV.nil,AV.nil,AV.nil,ai 0,aw e.dep.target]),(22,aw e.dep.target),(21,AV.addr 1 13),(20,AV.addr 1 7),(18,ao (e.kind == (4:Int))),(19,ao (e.kind == (4:Int))),(15,ao (e.kind == (3:Int))),(12,ao (e.kind == (2:Int))),(7,ao (e.kind == (1:Int))),(6,ai e.kind),(2,ao false),(1,AV.addr 1 0),(0,AV.agg (bf e))] [(1,Row.mk 1 false true (List.take 7 (List.map (aF 1) (bf e))++ [ez,ez,AV.nil,AV.nil,AV.nil,ai 0,aw e.dep.target]++List.drop 14 (List.map (aF 1) (bf e))))]) 1).cells 0=bf (gF e)) (by rw [hf];rfl)])⟩)
  have hf:gF e= {e with bV:=0,target:=0}:=by unfold gF;rw [if_neg k1,if_neg k2,if_neg k3,if_neg k4]
  refine zq<|zB 0<|zP 1 [{}] [.aa [7,6,2,1,0] [1]] []<|bk 7 (e.kind == (1:Int)) bD<|zq<|bk 12 (e.kind == (2:Int)) bD<|zP 1 [{}] [.aa [15,12,7,6,2,1,0] [1]] []<|bk 15 (e.kind == (3:Int)) bD<|zq<|bk 18 (e.kind == (4:Int)) bD<|zP 1 [{}] [.aa [25,18,15,12,7,6,2,1,0] [1]] []<|dB 25 (e.kind == (5:Int)) eJ<|zQ 1 [{}] [yL 15 17]<|zX {} [yL 16 17]<|aJ<|al (⟨(gF e),rfl,(eS [.aa [2,1,0] [1]] [] [1] [yB (((List.map (aF 1) (bf e)).set 14 (ez)).set 15 (ez)=bf (gF e)) (by rw [hf];rfl)])⟩)
 intro f hf
 have hb:MW f (decide (¬fV e)):=by rw [hf];exact FQ e h1 h5
 have RM:(af ay f.dep.ae).length=f.dep.ae.length:=by rw [aE (e:=1) (fun _=>rfl)];omega
 generalize decide (¬fV e)=R at *
 clear hf h1 h5
 refine zP 1 [{}] [.aa [3,2,1,0] [3,1]] [yL 7 7] ((Classical.em (f.dep.bV=0)).symm.elim (fun g1=>?_) (fun g1=>?_))
 ·skip
  refine zP 2 [yH [(2,yV (ao (f.dep.bV != 0)))],{}] [.aa [2,4,3,1,0] [3,1]] ([yI (cG f.dep.bV 0)]++yM 4 (yS ((f.dep.bV != 0)=true))++yM 44 (yR true))<|zR (zV [yB (Value.bool true=Value.bool R) (by rw [hb.bad (.inl g1)])])
 refine (Classical.em (f.dep.peer=0)).symm.elim (fun g2=>?_) (fun g2=>?_)
 ·skip
  refine zP 2 [yH ([(2,yV (ao (f.dep.bV != 0))),(6,{av:=some (ao (f.dep.peer != 0)),g:=false}),(7,{b:=false})]++yg [4,5]),{}] [.aa [2,4,3,1,0] [3,1]] ([yI (cG f.dep.bV 0)]++yM 3 (yS ((f.dep.bV != 0)=false))++ [yI (cG f.dep.peer 0),yS ((f.dep.bV != 0)=false)]++yM 5 (yS ((f.dep.peer != 0)=true))++yM 39 (yR true))<|zR (zV [yB (Value.bool true=Value.bool R) (by rw [hb.bad (.inr (.inl g2))])])
 refine (Classical.em ((↑f.dep.box.length:Int)=0)).symm.elim (fun g3=>?_) (fun g3=>?_)
 ·skip
  refine zP 2 [yH ([(2,yV (ao (f.dep.bV != 0))),(6,{av:=some (ao (f.dep.peer != 0)),g:=false}),(7,{b:=false}),(11,{k:=f.dep.box.length,g:=false}),(13,{b:=false})]++yg [4,5,9,10,12]),{}] [.aa [2,4,3,1,0] [3,1]] ([yI (cG f.dep.bV 0)]++yM 3 (yS ((f.dep.bV != 0)=false))++ [yI (cG f.dep.peer 0),yS ((f.dep.bV != 0)=false)]++yM 3 (yS ((f.dep.peer != 0)=false))++ [yI (aB f.dep.box)]++yM 2 (yS ((f.dep.peer != 0)=false))++yM 5 (yS (((↑f.dep.box.length:Int) != (0:Int))=true))++yM 34 (yR true))<|zR (zV [yB (Value.bool true=Value.bool R) (by rw [hb.bad (.inr (.inr (.inl ag)))])])
 refine (Classical.em ((↑(af ay f.dep.ae).length:Int)=0)).symm.elim (fun g4=>?_) (fun g4=>?_)
 ·skip
  refine zP 2 [yH ([(2,yV (ao (f.dep.bV != 0))),(6,{av:=some (ao (f.dep.peer != 0)),g:=false}),(7,{b:=false}),(11,{k:=f.dep.box.length,g:=false}),(13,{b:=false}),(17,{k:=(af ay f.dep.ae).length,g:=false}),(19,{b:=false})]++yg [4,5,9,10,12,15,16,18]),{}] [.aa [2,4,3,1,0] [3,1]] ([yI (cG f.dep.bV 0)]++yM 3 (yS ((f.dep.bV != 0)=false))++ [yI (cG f.dep.peer 0),yS ((f.dep.bV != 0)=false)]++yM 3 (yS ((f.dep.peer != 0)=false))++ [yI (aB f.dep.box)]++yM 2 (yS ((f.dep.peer != 0)=false))++yM 3 (yS (((↑f.dep.box.length:Int) != (0:Int))=false))++ [yR ((af ay f.dep.ae).length)]++yM 2 (yS (((↑f.dep.box.length:Int) != (0:Int))=false))++yM 5 (yS (((↑(af ay f.dep.ae).length:Int) != (0:Int))=true))++yM 29 (yR true))<|zR (zV [yB (Value.bool true=Value.bool R) (by rw [hb.bad (.inr (.inr (.inr (.inl ag))))])])
 refine (Classical.em ((↑f.dep.ax.length:Int)=0)).symm.elim (fun g5=>?_) (fun g5=>?_)
 ·skip
  refine zP 2 [yH ([(2,yV (ao (f.dep.bV != 0))),(6,{av:=some (ao (f.dep.peer != 0)),g:=false}),(7,{b:=false}),(11,{k:=f.dep.box.length,g:=false}),(13,{b:=false}),(17,{k:=(af ay f.dep.ae).length,g:=false}),(19,{b:=false}),(23,{k:=f.dep.ax.length,g:=false}),(25,{b:=false})]++yg [4,5,9,10,12,15,16,18,21,22,24]),{}] [.aa [2,4,3,1,0] [3,1]] ([yI (cG f.dep.bV 0)]++yM 3 (yS ((f.dep.bV != 0)=false))++ [yI (cG f.dep.peer 0),yS ((f.dep.bV != 0)=false)]++yM 3 (yS ((f.dep.peer != 0)=false))++ [yI (aB f.dep.box)]++yM 2 (yS ((f.dep.peer != 0)=false))++yM 3 (yS (((↑f.dep.box.length:Int) != (0:Int))=false))++ [yR ((af ay f.dep.ae).length)]++yM 2 (yS (((↑f.dep.box.length:Int) != (0:Int))=false))++yM 3 (yS (((↑(af ay f.dep.ae).length:Int) != (0:Int))=false))++ [yI (aA f.dep.ax)]++yM 2 (yS (((↑(af ay f.dep.ae).length:Int) != (0:Int))=false))++yM 4 (yS (((↑f.dep.ax.length:Int) != (0:Int))=true))++yM 25 (yR true))<|zR (zV [yB (Value.bool true=Value.bool R) (by rw [hb.bad (.inr (.inr (.inr (.inr (.inl ag)))))])])
 refine (Classical.em (f.dep.need=0)).symm.elim (fun g6=>?_) (fun g6=>?_)
 ·skip
  refine zP 2 [yH ([(2,yV (ao (f.dep.bV != 0))),(6,{av:=some (ao (f.dep.peer != 0)),g:=false}),(7,{b:=false}),(11,{k:=f.dep.box.length,g:=false}),(13,{b:=false}),(17,{k:=(af ay f.dep.ae).length,g:=false}),(19,{b:=false}),(23,{k:=f.dep.ax.length,g:=false}),(25,{b:=false}),(30,{b:=false})]++yg [4,5,9,10,12,15,16,18,21,22,24,27,28,29]),{}] [.aa [2,4,3,1,0] [3,1]] ([yI (cG f.dep.bV 0)]++yM 3 (yS ((f.dep.bV != 0)=false))++ [yI (cG f.dep.peer 0),yS ((f.dep.bV != 0)=false)]++yM 3 (yS ((f.dep.peer != 0)=false))++ [yI (aB f.dep.box)]++yM 2 (yS ((f.dep.peer != 0)=false))++yM 3 (yS (((↑f.dep.box.length:Int) != (0:Int))=false))++ [yR ((af ay f.dep.ae).length)]++yM 2 (yS (((↑f.dep.box.length:Int) != (0:Int))=false))++yM 3 (yS (((↑(af ay f.dep.ae).length:Int) != (0:Int))=false))++ [yI (aA f.dep.ax)]++yM 2 (yS (((↑(af ay f.dep.ae).length:Int) != (0:Int))=false))++yM 4 (yS (((↑f.dep.ax.length:Int) != (0:Int))=false))++yM 4 (yS ((f.dep.need != (0:Int))=true))++yM 21 (yR true))<|zR (zV [yB (Value.bool true=Value.bool R) (by rw [hb.bad (.inr (.inr (.inr (.inr (.inr (.inl g6))))))])])
 refine zP 1 [yH ([(2,yV (ao (f.dep.bV != 0))),(6,{av:=some (ao (f.dep.peer != 0)),g:=false}),(7,{b:=false}),(11,{k:=f.dep.box.length,g:=false}),(13,{b:=false}),(17,{k:=(af ay f.dep.ae).length,g:=false}),(19,{b:=false}),(23,{k:=f.dep.ax.length,g:=false}),(25,{b:=false}),(30,{b:=false}),(34,{av:=some (ao (f.dep.target != 0)),g:=false}),(35,{b:=false})]++yg [4,5,9,10,12,15,16,18,21,22,24,27,28,29,32,33])] [.aa [4,3,2,1,0] [3,1]] ([yI (cG f.dep.bV 0)]++yM 3 (yS ((f.dep.bV != 0)=false))++ [yI (cG f.dep.peer 0),yS ((f.dep.bV != 0)=false)]++yM 3 (yS ((f.dep.peer != 0)=false))++ [yI (aB f.dep.box)]++yM 2 (yS ((f.dep.peer != 0)=false))++yM 3 (yS (((↑f.dep.box.length:Int) != (0:Int))=false))++ [yR ((af ay f.dep.ae).length)]++yM 2 (yS (((↑f.dep.box.length:Int) != (0:Int))=false))++yM 3 (yS (((↑(af ay f.dep.ae).length:Int) != (0:Int))=false))++ [yI (aA f.dep.ax)]++yM 2 (yS (((↑(af ay f.dep.ae).length:Int) != (0:Int))=false))++yM 4 (yS (((↑f.dep.ax.length:Int) != (0:Int))=false))++yM 3 (yS ((f.dep.need != (0:Int))=false))++ [yI (cG f.dep.target 0),yS ((f.dep.need != (0:Int))=false)]) ((Classical.em (f.dep.target=0)).symm.elim (fun g7=>?_) (fun g7=>?_))
 ·skip
  refine zP 1 [{}] [.aa [2,4,3,1,0] [3,1]] (yM 4 (yS ((f.dep.target != 0)=true))++yM 17 (yR true))<|zR (zV [yB (Value.bool true=Value.bool R) (by rw [hb.bad (.inr (.inr (.inr (.inr (.inr (.inr (.inl g7)))))))])])
 refine (Classical.em (f.name= [])).symm.elim (fun g8=>?_) (fun g8=>?_)
 ·skip
  refine zP 1 [yH ([(4,{av:=some (ao (f.name != [])),g:=false}),(5,{b:=false})]++yg [2,3])] [.aa [2,4,3,1,0] [3,1]] (yM 3 (yS ((f.dep.target != 0)=false))++ [yI (HJ f.name []),yS ((f.dep.target != 0)=false)]++yM 5 (yS ((f.name != [])=true))++yM 12 (yR true))<|zR (zV [yB (Value.bool true=Value.bool R) (by rw [hb.bad (.inr (.inr (.inr (.inr (.inr (.inr (.inr (.inl g8))))))))])])
 refine (Classical.em ((!(f.kh == (0:Int) && (wv f.kr == (0:Int) && true)))=true)).elim (fun g9=>?_) (fun g9=>?_)
 ·have T3:¬(f.kh=0∧f.kr=0):=FP g9
  refine zP 1 [yH ([(4,{av:=some (ao (f.name != [])),g:=false}),(5,{b:=false}),(11,{b:=false})]++yg [2,3,7,8,9,10])] [.aa [2,4,3,1,0] [3,1]] (yM 3 (yS ((f.dep.target != 0)=false))++ [yS (ao (!(ByteArray.mk f.name.toArray).toList == (ByteArray.mk #[]).toList)=ao (f.name != [])),yS ((f.dep.target != 0)=false)]++yM 5 (yS ((f.name != [])=false))++yM 4 (yI g9)++yM 8 (yR true))<|zR (zV [yB (Value.bool true=Value.bool R) (by rw [hb.bad (.inr (.inr (.inr (.inr (.inr (.inr (.inr (.inr (.inl T3)))))))))])])
 refine (Classical.em (f.bA=0)).symm.elim (fun g10=>?_) (fun g10=>?_)
 ·skip
  refine zP 1 [yH ([(4,{av:=some (ao (f.name != [])),g:=false}),(5,{b:=false}),(11,{b:=false}),(16,{b:=false})]++yg [2,3,7,8,9,10,13,14,15])] [.aa [2,4,3,1,0] [3,1]] (yM 3 (yS ((f.dep.target != 0)=false))++ [yS (ao (!(ByteArray.mk f.name.toArray).toList == (ByteArray.mk #[]).toList)=ao (f.name != [])),yS ((f.dep.target != 0)=false)]++yM 5 (yS ((f.name != [])=false))++yM 4 (yS ((!(f.kh == (0:Int) && (wv f.kr == (0:Int) && true)))=false))++yM 4 (yS ((f.bA != (0:Int))=true))++yM 4 (yR true))<|zR (zV [yB (Value.bool true=Value.bool R) (by rw [hb.bad (.inr (.inr (.inr (.inr (.inr (.inr (.inr (.inr (.inr (.inl g10))))))))))])])
 refine (Classical.em (f.bV=0)).symm.elim (fun g11=>?_) (fun g11=>?_)
 ·skip
  refine zP 1 [yH ([(4,{av:=some (ao (f.name != [])),g:=false}),(5,{b:=false}),(11,{b:=false}),(16,{b:=false}),(20,{av:=some (ao (f.bV != 0)),g:=false}),(21,{b:=false})]++yg [2,3,7,8,9,10,13,14,15,18,19])] [.aa [2,4,3,1,0] [3,1]] (yM 3 (yS ((f.dep.target != 0)=false))++ [yS (ao (!(ByteArray.mk f.name.toArray).toList == (ByteArray.mk #[]).toList)=ao (f.name != [])),yS ((f.dep.target != 0)=false)]++yM 5 (yS ((f.name != [])=false))++yM 4 (yS ((!(f.kh == (0:Int) && (wv f.kr == (0:Int) && true)))=false))++yM 3 (yS ((f.bA != (0:Int))=false))++ [yI (cG f.bV 0),yS ((f.bA != (0:Int))=false)]++yM 4 (yS ((f.bV != 0)=true)))<|zR (zV [yB (Value.bool true=Value.bool R) (by rw [hb.bad (.inr (.inr (.inr (.inr (.inr (.inr (.inr (.inr (.inr (.inr (.inl g11)))))))))))])])
 have T3:f.kh=0∧f.kr=0:=AP g9
 by_cases g12:f.target=0
 ·skip
  refine zP 1 [yH ([(4,{av:=some (ao (f.name != [])),g:=false}),(5,{b:=false}),(11,{b:=false}),(16,{b:=false}),(20,{av:=some (ao (f.bV != 0)),g:=false}),(21,{b:=false}),(25,{av:=some (ao (f.target != 0)),g:=false}),(26,{b:=false})]++yg [2,3,7,8,9,10,13,14,15,18,19,23,24])] [.aa [2,4,3,1,0] [3,1]] (yM 3 (yS ((f.dep.target != 0)=false))++ [yS (ao (!(ByteArray.mk f.name.toArray).toList == (ByteArray.mk #[]).toList)=ao (f.name != [])),yS ((f.dep.target != 0)=false)]++yM 5 (yS ((f.name != [])=false))++yM 4 (yS ((!(f.kh == (0:Int) && (wv f.kr == (0:Int) && true)))=false))++yM 3 (yS ((f.bA != (0:Int))=false))++ [yS (ao (wv f.bV != (0:Int))=ao (f.bV != 0)),yS ((f.bA != (0:Int))=false)]++yM 3 (yS ((f.bV != 0)=false))++ [yS (ao (wv f.target != (0:Int))=ao (f.target != 0)),yS ((f.bV != 0)=false)])<|zR (zV [yB (Value.bool (f.target != 0)=Value.bool R) (by rw [hb.ng g1 g2 ag ag ag g6 g7 g8 T3 g10 g11 g12];simp [g12])])
 ·skip
  refine zP 1 [yH ([(4,{av:=some (ao (f.name != [])),g:=false}),(5,{b:=false}),(11,{b:=false}),(16,{b:=false}),(20,{av:=some (ao (f.bV != 0)),g:=false}),(21,{b:=false}),(25,{av:=some (ao (f.target != 0)),g:=false}),(26,{b:=false})]++yg [2,3,7,8,9,10,13,14,15,18,19,23,24])] [.aa [2,4,3,1,0] [3,1]] (yM 3 (yS ((f.dep.target != 0)=false))++ [yS (ao (!(ByteArray.mk f.name.toArray).toList == (ByteArray.mk #[]).toList)=ao (f.name != [])),yS ((f.dep.target != 0)=false)]++yM 5 (yS ((f.name != [])=false))++yM 4 (yS ((!(f.kh == (0:Int) && (wv f.kr == (0:Int) && true)))=false))++yM 3 (yS ((f.bA != (0:Int))=false))++ [yS (ao (wv f.bV != (0:Int))=ao (f.bV != 0)),yS ((f.bA != (0:Int))=false)]++yM 3 (yS ((f.bV != 0)=false))++ [yI (cG f.target 0),yS ((f.bV != 0)=false)])<|zR (zV [yB (Value.bool (f.target != 0)=Value.bool R) (by rw [hb.bad (.inr (.inr (.inr (.inr (.inr (.inr (.inr (.inr (.inr (.inr (.inr g12)))))))))))];simp [g12])])
structure Aq (d:nH):Prop where
 box:d.box.length≤1000000
 Cu:d.ae.length≤1000000
 Q_:d.ax.length≤1000000
 Rv:∀i,i<d.ae.length->(d.ae.getD i default).length≤1000
theorem wB (d:nH) (hB:Aq d):bG Tryz.prog 161 [.agg (bj d)] (ai (fX d)):=by
 have ud:(af ay d.ae).length=d.ae.length:=by rw [aE (e:=1) (fun _=>rfl)];omega
 obtain ⟨b1,b2,b3,hh⟩:=hB
 by_cases c1:1024<d.box.length
 ·have e:fX d=8:=if_pos c1
  refine zO Tryz.func161 62<|zq<|zS<|zP 1 [yH [(2,{k:=d.box.length})]] [.aa [10,2,1,0] [1]] [yI (aB d.box)]<|iw 10 ((↑d.box.length:Int)>1024)<|zq<|dC (zV [yJ 8 (fX d) (by rw [e])])
 by_cases c2:oB d.ae.length d.need
 ·have e:fX d=9:=by unfold fX;rw [if_neg c1,if_pos c2]
  unfold oB at c2
  by_cases k1:d.ae.length<1
  ·refine zO Tryz.func161 62<|zq<|zS<|zP 1 [yH [(2,{k:=d.box.length})]] [.aa [10,2,1,0] [1]] [yI (aB d.box)]<|dF 10 ((↑d.box.length:Int)>1024)<|a_<|zP 1 [yH [(2,{k:=(af ay d.ae).length})]] [.aa [3,10,2,1,0] [1]] [yR ((af ay d.ae).length)]<|zS<|zP 1 [{}] [.aa [30,3,10,2,1,0] [1]] (yM 3 (yT ((↑(af ay d.ae).length:Int)<1))++yM 9 (yR true))<|zT 30<|zq<|dC (zV [yJ 9 (fX d) (by rw [e])])
  by_cases k2:8<d.ae.length
  ·refine zO Tryz.func161 62<|zq<|zS<|zP 1 [yH [(2,{k:=d.box.length})]] [.aa [10,2,1,0] [1]] [yI (aB d.box)]<|dF 10 ((↑d.box.length:Int)>1024)<|a_<|zP 1 [yH [(2,{k:=(af ay d.ae).length})]] [.aa [3,10,2,1,0] [1]] [yR ((af ay d.ae).length)]<|zS<|zP 1 [yH ([(5,{b:=false})]++yg [3,4])] [.aa [30,3,10,2,1,0] [1]] (yM 3 (yF ((↑(af ay d.ae).length:Int)<1))++yM 4 (yT ((↑(af ay d.ae).length:Int)>8))++yM 5 (yR true))<|zT 30<|zq<|dC (zV [yJ 9 (fX d) (by rw [e])])
  by_cases k3:d.need<1
  ·refine zO Tryz.func161 62<|zq<|zS<|zP 1 [yH [(2,{k:=d.box.length})]] [.aa [10,2,1,0] [1]] [yI (aB d.box)]<|dF 10 ((↑d.box.length:Int)>1024)<|a_<|zP 1 [yH [(2,{k:=(af ay d.ae).length})]] [.aa [3,10,2,1,0] [1]] [yR ((af ay d.ae).length)]<|zS<|zP 1 [yH ([(5,{b:=false}),(10,{b:=false})]++yg [3,4,7,8,9])] [.aa [30,3,10,2,1,0] [1]] (yM 3 (yF ((↑(af ay d.ae).length:Int)<1))++yM 4 (yF ((↑(af ay d.ae).length:Int)>8))++yM 5 (yT (d.need<1)))<|zT 30<|zq<|dC (zV [yJ 9 (fX d) (by rw [e])])
  ·refine zO Tryz.func161 62<|zq<|zS<|zP 1 [yH [(2,{k:=d.box.length})]] [.aa [10,2,1,0] [1]] [yI (aB d.box)]<|dF 10 ((↑d.box.length:Int)>1024)<|a_<|zP 1 [yH [(2,{k:=(af ay d.ae).length})]] [.aa [3,10,2,1,0] [1]] [yR ((af ay d.ae).length)]<|zS<|zP 1 [yH ([(5,{b:=false}),(10,{b:=false}),(16,{b:=false})]++yg [3,4,7,8,9,12,13,14,15])] [.aa [30,3,10,2,1,0] [1]] (yM 3 (yF ((↑(af ay d.ae).length:Int)<1))++yM 4 (yF ((↑(af ay d.ae).length:Int)>8))++yM 5 (yF (d.need<1)))<|iw 30 (d.need>(↑(af ay d.ae).length:Int))<|zq<|dC (zV [yJ 9 (fX d) (by rw [e])])
 by_cases c3:d.ax.length≠d.ae.length
 ·have e:fX d=4:=by unfold fX;rw [if_neg c1,if_neg c2,if_pos c3]
  unfold oB at c2
  refine zO Tryz.func161 62<|zq<|zS<|zP 1 [yH [(2,{k:=d.box.length})]] [.aa [10,2,1,0] [1]] [yI (aB d.box)]<|dF 10 ((↑d.box.length:Int)>1024)<|a_<|zP 1 [yH [(2,{k:=(af ay d.ae).length})]] [.aa [3,10,2,1,0] [1]] [yR ((af ay d.ae).length)]<|zS<|zP 1 [yH ([(5,{b:=false}),(10,{b:=false}),(16,{b:=false})]++yg [3,4,7,8,9,12,13,14,15])] [.aa [30,3,10,2,1,0] [1]] (yM 3 (yF ((↑(af ay d.ae).length:Int)<1))++yM 4 (yF ((↑(af ay d.ae).length:Int)>8))++yM 5 (yF (d.need<1)))<|dF 30 (d.need>(↑(af ay d.ae).length:Int))<|a_<|zS<|zP 1 [yH [(2,{k:=d.ax.length})]] [.aa [35,30,3,10,2,1,0] [1]] [yI (aA d.ax)]<|dB 35 ((↑d.ax.length:Int) != (↑(af ay d.ae).length:Int)) (by simp;omega)<|zq<|dC (zV [yJ 4 (fX d) (by rw [e])])
 have e:fX d=ff (ny d.ae) d.ae.length:=by unfold fX;rw [if_neg c1,if_neg c2,if_neg c3]
 rw [e]
 have Xa:d.ax.length=d.ae.length:=ag
 unfold oB at c2
 refine zO Tryz.func161 62<|zq<|zS<|zP 1 [yH [(2,{k:=d.box.length})]] [.aa [10,2,1,0] [1]] [yI (aB d.box)]<|dF 10 ((↑d.box.length:Int)>1024)<|a_<|zP 1 [yH [(2,{k:=(af ay d.ae).length})]] [.aa [3,10,2,1,0] [1]] [yR ((af ay d.ae).length)]<|zS<|zP 1 [yH ([(5,{b:=false}),(10,{b:=false}),(16,{b:=false})]++yg [3,4,7,8,9,12,13,14,15])] [.aa [30,3,10,2,1,0] [1]] (yM 3 (yF ((↑(af ay d.ae).length:Int)<1))++yM 4 (yF ((↑(af ay d.ae).length:Int)>8))++yM 5 (yF (d.need<1)))<|dF 30 (d.need>(↑(af ay d.ae).length:Int))<|a_<|zS<|zP 1 [yH [(2,{k:=d.ax.length})]] [.aa [35,30,3,10,2,1,0] [1]] [yI (aA d.ax)]<|bk 35 ((↑d.ax.length:Int) != (↑(af ay d.ae).length:Int)) (by simp_all)<|a_<|zS<|zQ 1 [yH [(2,{k:=(af ay d.ae).length})]] [yR ((af ay d.ae).length)]<|zB 0 (zL (fun (i:Nat)=>(⟨[(38,ai (↑(af ay d.ae).length:Int)),(37,AV.sl 1 (af ay d.ae)),(35,ao ((↑d.ax.length:Int) != (↑(af ay d.ae).length:Int))),(30,ao (decide (d.need>(↑(af ay d.ae).length:Int)))),(3,ai (↑(af ay d.ae).length:Int)),(10,ao (decide ((↑d.box.length:Int)>1024))),(1,AV.addr 1 0),(0,AV.agg (bj d)),(39,ai i)],[(1,⟨1,false,true,List.map (aF 1) (bj d)⟩)]⟩:AS)) (fun i=>(i≤d.ae.length∧ff (ny d.ae) i=0)) (fun i=>(d.ae.length-i)) (0) ?_ (zW [.aa [38,37,35,30,3,10,1,0,39] [1]]) ?_)
 ·exact ⟨ag,rfl⟩
 rintro i ⟨hi,h0⟩
 refine zq<|zS (zD 40 ((↑i:Int)<(↑(af ay d.ae).length:Int)) (fun g=>?_) (fun g=>?_))
 ·have dI:i<d.ae.length:=ag
  have gM:=i6 dI
  have hA:=hh i dI
  have stop:∀e:Int,e≠0->ny d.ae i=e->ff (ny d.ae) d.ae.length=e:=fun e he h1=>by
   have k2:ff (ny d.ae) (i+1)=ny d.ae i:=by show (if _ then _ else _)=_;rw [if_neg ag]
   rw [lN ag k2 d.ae.length ag,h1]
  by_cases c5:eF (d.ae.getD i default)=0
  case neg =>
   have k1:=stop _ c5 (Jf rfl c5)
   refine a_<|zS<|zB 1<|zP 1 [yH [(1,{k:=i}),(2,yV (cV (d.ae.getD i default)))]] [.aa [5,4,40,38,37,35,30,3,10,1,0,39] [1]] [yR (↑i:Int),yO (i<(af ay d.ae).length),yI gM]<|zS<|zP 2 [yH [(1,yV (ai (eF (d.ae.getD i default))))],{}] [.aa [47,6,5,4,40,38,37,35,30,3,10,1,0,39] [1]] [yI (eU (d.ae.getD i default) hA)]<|dB 47 (eF (d.ae.getD i default) != (0:Int)) (by simp_all)<|zP 1 [{}] [.aa [2,47,6,5,4,40,38,37,35,30,3,10,1,0,39] [1]] []<|dC<|bc<|aK<|dN<|bc<|aK (zV [yJ (eF (d.ae.getD i default)) (ff (ny d.ae) d.ae.length) (by rw [k1])])
  by_cases c6:0<i
  ·obtain ⟨k,hk⟩:∃k,k+1=i:=⟨i-1,ag⟩
   have tJ:=i6 (l:=d.ae) (i:=k) ag
   have c8:=Je c5 hk
   by_cases c7:Gi (d.ae.getD i default) (d.ae.getD k default)=true
   ·have k1:=stop 7 ag (by rw [c8,if_pos c7])
    refine a_<|zS<|zB 1<|zP 1 [yH [(1,{k:=i}),(2,yV (cV (d.ae.getD i default)))]] [.aa [5,4,40,38,37,35,30,3,10,1,0,39] [1]] [yR (↑i:Int),yO (i<(af ay d.ae).length),yI gM]<|zS<|zP 2 [yH [(1,yV (ai (eF (d.ae.getD i default))))],{}] [.aa [47,6,5,4,40,38,37,35,30,3,10,1,0,39] [1]] [yI (eU (d.ae.getD i default) hA)]<|bk 47 (eF (d.ae.getD i default) != (0:Int)) (by simp_all)<|a_<|zP 1 [yH [(7,yV (ai ↑k)),(8,{k:=k}),(9,yV (cV (d.ae.getD k default)))]] [.aa [60,47,6,5,4,40,38,37,35,30,3,10,1,0,39] [1]] (yM 5 (yT ((↑i:Int)>0))++ [yB (ai (IntKind.i64.wrap ((↑i:Int)-1))=ai ↑k) (congrArg (fun n=>AV.val (.int .i64 n)) (by rw [IntKind.wrap_i64];omega)),yT ((↑i:Int)>0),yR (↑k:Int),yO (k<(af ay d.ae).length),yT ((↑i:Int)>0),yI tJ]++yM 2 (yT ((↑i:Int)>0)))<|dB 60 (Op.bytesLess (ByteArray.mk (d.ae.getD i default).toArray).toList (ByteArray.mk (d.ae.getD k default).toArray).toList || (ByteArray.mk (d.ae.getD i default).toArray).toList == (ByteArray.mk (d.ae.getD k default).toArray).toList) (by assumption)<|zq<|zR<|bc<|aK<|dN<|bc<|aK (zV [yJ 7 (ff (ny d.ae) d.ae.length) (by rw [k1])])
   ·have c9:Gi (d.ae.getD i default) (d.ae.getD k default)=false:=by simpa using c7
    rw [if_neg c7] at c8
    refine a_<|zS<|zB 1<|zP 1 [yH [(1,{k:=i}),(2,yV (cV (d.ae.getD i default)))]] [.aa [5,4,40,38,37,35,30,3,10,1,0,39] [1]] [yR (↑i:Int),yO (i<(af ay d.ae).length),yI gM]<|zS<|zP 2 [yH [(1,yV (ai (eF (d.ae.getD i default))))],{}] [.aa [47,6,5,4,40,38,37,35,30,3,10,1,0,39] [1]] [yI (eU (d.ae.getD i default) hA)]<|bk 47 (eF (d.ae.getD i default) != (0:Int)) (by simp_all)<|a_<|zP 1 [yH [(7,yV (ai ↑k)),(8,{k:=k}),(9,yV (cV (d.ae.getD k default)))]] [.aa [60,47,6,5,4,40,38,37,35,30,3,10,1,0,39] [1]] (yM 5 (yT ((↑i:Int)>0))++ [yB (ai (IntKind.i64.wrap ((↑i:Int)-1))=ai ↑k) (congrArg (fun n=>AV.val (.int .i64 n)) (by rw [IntKind.wrap_i64];omega)),yT ((↑i:Int)>0),yR (↑k:Int),yO (k<(af ay d.ae).length),yT ((↑i:Int)>0),yI tJ]++yM 2 (yT ((↑i:Int)>0)))<|bk 60 (Op.bytesLess (ByteArray.mk (d.ae.getD i default).toArray).toList (ByteArray.mk (d.ae.getD k default).toArray).toList || (ByteArray.mk (d.ae.getD i default).toArray).toList == (ByteArray.mk (d.ae.getD k default).toArray).toList) (by assumption)<|zK<|aJ<|al<|zX (yH [(0,yV (ai ((↑i:Int)+1)))]) [yN ((↑i:Int)+1)] (aH (i+1) ⟨ag,by show (if _ then _ else _)=_;rw [if_neg ag,c8]⟩ ag (zW [.aa [38,37,35,30,3,10,1,0,39] [1]]))
  ·have e:i=0:=ag
   have h1:ny d.ae i=0:=by subst e;exact Fe c5
   refine a_<|zS<|zB 1<|zP 1 [yH [(1,{k:=i}),(2,yV (cV (d.ae.getD i default)))]] [.aa [5,4,40,38,37,35,30,3,10,1,0,39] [1]] [yR (↑i:Int),yO (i<(af ay d.ae).length),yI gM]<|zS<|zP 2 [yH [(1,yV (ai (eF (d.ae.getD i default))))],{}] [.aa [47,6,5,4,40,38,37,35,30,3,10,1,0,39] [1]] [yI (eU (d.ae.getD i default) hA)]<|bk 47 (eF (d.ae.getD i default) != (0:Int)) (by simp_all)<|a_<|zP 1 [yH ([(11,{b:=false})]++yg [3,4,5,6,7,8,9,10])] [.aa [60,47,6,5,4,40,38,37,35,30,3,10,1,0,39] [1]] (yM 9 (yF ((↑i:Int)>0)))<|zF 60<|zK<|aJ<|al<|zX (yH [(0,yV (ai ((↑i:Int)+1)))]) [yN ((↑i:Int)+1)] (aH (i+1) ⟨ag,by show (if _ then _ else _)=_;rw [if_neg ag,h1]⟩ ag (zW [.aa [38,37,35,30,3,10,1,0,39] [1]]))
 ·have e:i=d.ae.length:=ag
  subst e
  refine zE 0<|a6<|aM<|bm<|al<|zq<|zR (zV [yJ 0 (ff (ny d.ae) d.ae.length) (by rw [h0])])
def Nb (d:nH):List (List fS):=[[aN d.bV],[aN d.peer],[fj d.box],bM (u64 d.ae.length)::d.ae.map cX,bM (u64 d.ax.length)::d.ax.map aN,[aN (u64 d.need)]]
theorem xM {T:Type} (f:T->fS) (l:List T) {i:Nat} (h:i<l.length) (z:T):af dQ ((l.take i).map fun x=>[f x])++ [.sl 3 (af bp [f (l.getD i z)])]=af dQ ((l.take (i+1)).map fun x=>[f x]):=by
 rw [List.take_add_one,List.map_append,←fb,List.getD_eq_getElem?_getD,List.getElem?_eq_getElem h];rfl
theorem xb (d:nH) (hB:Aq d):bG Tryz.prog 124 [.agg (bj d)] (.cw [.own 1 (af dQ (if fX d=0 then Nb d else [])),ai (fX d)]):=by
 by_cases c:fX d=0
 case neg =>
  rw [if_neg c]
  refine zO Tryz.func124 72<|zq<|zS<|zP 2 [yH [(1,yV (ai (fX d)))],yH [(1,yV (ao true))]] [.aa [15,4,3,2,1,0] [1]] [yI (wB d hB),yB (ao (fX d != (0:Int))=ao true) (by simp [c])]<|zT 15<|zq<|dC (bP)
 rw [if_pos c,c]
 obtain ⟨o1,o2,o3,o4,o5,o6⟩:=J5 c
 have ud:(af ay d.ae).length=d.ae.length:=by rw [aE (e:=1) (fun _=>rfl)];omega
 obtain ⟨v1,v2,v3,v4⟩:=pP (xs:=d.ae.map cX) (na fun x hx=>tY (o6 x hx)) (by rw [List.length_map];omega) (by rw [List.length_map];omega)
 obtain ⟨w1,w2,w3,w4⟩:=pP (xs:=d.ax.map aN) (na fun x _=>.uint x) (by rw [List.length_map];omega) (by rw [List.length_map];omega)
 have ha:=sF _ v1 v2 v3
 have hd:=sF _ w1 w2 w3
 rw [v4,List.length_map,List.map_map] at ha
 rw [w4,List.length_map,List.map_map] at hd
 have hc:=wB d hB
 rw [c] at hc
 obtain ⟨b1,b2,b3,hh⟩:=hB
 refine zO Tryz.func124 72<|zq<|zS<|zP 2 [yH [(1,yC hc)],{}] [.aa [15,4,3,2,1,0] [1]] [yI hc]<|zF 15<|a_<|zq<|zS<|zQ 1 [yH [(2,{k:=(af ay d.ae).length})]] [yR ((af ay d.ae).length)]<|zB 0 (zL (fun (i:Nat)=>(⟨[(19,ai (↑(af ay d.ae).length:Int)),(18,AV.sl 1 (af ay d.ae)),(15,ao ((0:Int) != (0:Int))),(4,ai 0),(3,ai 0),(2,AV.nil),(1,AV.addr 1 0),(0,AV.agg (bj d)),(20,ai i),(5,AV.ref 5),(6,AV.ref 6)],[(5,⟨1,true,false,af dQ ((d.ae.take i).map fun x=>[cX x])⟩),(6,⟨1,true,false,af dQ ((d.ax.take i).map fun x=>[aN x])⟩),(1,⟨1,false,true,bj d⟩)]⟩:AS)) (fun i=>(i≤d.ae.length)) (fun i=>(d.ae.length-i)) (0) ?_ (zW [.nil 5 5 1,.nil 6 6 1,.aa [19,18,15,4,3,2,1,0,20,5,6] [5,6,1]]) ?_)
 ·omega
 intro i hi
 refine zq<|zS (zD 21 ((↑i:Int)<(↑(af ay d.ae).length:Int)) (fun g=>?_) (fun g=>?_))
 ·have dI:i<d.ae.length:=ag
  have gM:=i6 dI
  have tJ:=dX (l:=d.ax) (k:=i) ag
  have hA:=hh i dI
  have hz:=rG _ hA
  have s1:=xM cX d.ae dI default
  have s2:=xM aN d.ax (i:=i) ag 0
  refine a_<|zS<|zB 1<|zP 2 [yH [(1,{k:=i}),(2,yV (cV (d.ae.getD i default)))],yH [(2,yD (mf (d.ae.getD i default)))]] [.aa [5,8,7,21,19,18,15,4,3,2,1,0,20,6] [29,6,1]] [yR (↑i:Int),yO (i<(af ay d.ae).length),yI gM,yI (mf (d.ae.getD i default)),yB (((af dQ (List.map (fun x↦ [cX x]) (List.take i d.ae))).length+1)*24≤140737488355328) (by simp only [List.length_take,List.length_map,aE (f:=dQ) (e:=1) (fun _=>rfl)];omega)]<|zX (yH [(4,{k:=i}),(5,yV (aw (d.ax.getD i 0))),(6,yD (dn (d.ax.getD i 0)))]) [yR (↑i:Int),yB (i<(ah d.ax).length) (by simp only [aA];omega),yI tJ,yI (dn (d.ax.getD i 0)),yB (((af dQ (List.map (fun x↦ [aN x]) (List.take i d.ax))).length+1)*24≤140737488355328) (by simp only [List.length_take,List.length_map,aE (f:=dQ) (e:=1) (fun _=>rfl)];omega)]<|aJ<|al<|zX (yH [(0,yV (ai ((↑i:Int)+1)))]) [yN ((↑i:Int)+1)] (aH (i+1) (by assumption) ag (eS [.uX 29 5,.uX 38 6,.aa [19,18,15,4,3,2,1,0,20,5,6] [5,6,1]] [] [5,6,1] [yI s1,yI s2,yB (List.map (aF 37) (List.map (kv 38 6) (bE 6 (Row.mk 1 false true (List.map (kv 29 5) (bE 5 (Row.mk 1 false true (List.map (aF 38) (bE 6 (Row.mk 1 false true (List.map (aF 37) (fN 36 (Row.mk 3 true false (af bp [aN (d.ax.getD i 0)])) (Row.mk 1 false true (List.map (aF 36) (List.map (aF 28) (List.map (aF 29) (bE 5 (Row.mk 1 false true (List.map (aF 28) (fN 27 (Row.mk 3 true false (af bp [cX (d.ae.getD i default)])) (Row.mk 1 false true (List.map (aF 27) (bj d)))).cells))).cells))))).cells))).cells))).cells))).cells)=bj d) bu]))
 ·have e:i=d.ae.length:=ag
  subst e
  have t1:d.ae.take d.ae.length=d.ae:=List.take_length
  have t2:d.ax.take d.ae.length=d.ax:=by rw [←o5];exact List.take_length
  rw [t1,t2]
  refine zE 0<|a6<|aM<|bm<|al<|zP 1 [yH [(1,yD ha)]] [.aa [10,9,21,19,18,15,4,3,2,1,0,20,5,6] [6,1]] [yI ha]<|zS<|zq<|zF 46<|a_<|zP 1 [yH [(1,yD hd)]] [.aa [10,11,46,9,21,19,18,15,4,3,2,1,0,20,5,6] [1]] [yI hd]<|zS<|zq<|zF 54<|a_<|zP 1 [{hs:=[(2,yD (dn (d.bV))),(5,yD (dn (d.peer))),(8,yD (rj (d.box) b1)),(13,yV (aw (u64 d.need))),(14,yD (dn (u64 d.need)))],T:=15}] [.aa [3,2,54,10,11,46,9,21,19,18,15,4,1,0,20,5,6] [71,1]] [yI (dn d.bV),yI (dn d.peer),yI (rj d.box b1),yI (a7 d.need),yI (dn (u64 d.need))]<|zR (bP)
end Go.Proofs.YtjgbhhnghedgdaaGreatDoor
