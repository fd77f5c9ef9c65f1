import Derived.Test.YtejpabdmiagnnaaGreatDoorZrRI
set_option linter.all false
namespace Go.Proofs.YtejpabdmiagnnaaGreatDoor
open Go.RowKit
def killsL:List Nat->AV->AV
 | [],x=>x
 | i::l,x=>killsL l (kill2 i x)
theorem retireAll_FH:∀(l:List Nat) (F F':List (Nat×AV)) (H:List (Nat×Row)),(retireAll ⟨F,H⟩ l).F=mapv (killsL l) F∧(retireAll ⟨F,H⟩ l).H=(retireAll ⟨F',H⟩ l).H
 | [],F,F',H=>⟨by
   show F=mapv (fun x=>x) F
   induction F with
   | nil=>rfl
   | cons p F ih=>obtain ⟨k,x⟩:=p;simp only [mapv,←ih],rfl⟩
 | i::l,F,F',H=>by
  obtain ⟨h1,h2⟩:=retireAll_FH l (mapv (kill2 i) F) (mapv (kill2 i) F') (mapv (killRow i) (drop_ H i))
  refine ⟨?_,h2⟩
  show (retireAll ⟨mapv (kill2 i) F,mapv (killRow i) (drop_ H i)⟩ l).F=_
  rw [h1,mapv_mapv];rfl
def opdsOK (F:List (Nat×AV)):List Operand->Bool
 | []=>true
 | x::l=>match opdOK F x with|true=>opdsOK F l|false=>false
def storeStill (s:AS) (x y:Operand):Bool :=
 match opd s x with
 | .addr id _=>(match look s.H id with
  | some r=>(match r.pure,ids1 (opd s y) with
   | false,_=>true
   | true,[]=>true
   | _,_=>false)
  | none=>false)
 | _=>false
def evW (P:Program) (n:Nat) (s:AS) (o:Oper) (h:Hint):Option ((AV->AV)×AV×List (Nat×Row)×List Prop) :=
 match o.guard,o.op,o.dst with
 | none,.call ⟨.builtin .append,⟨[x,y]⟩,⟨[t,xt]⟩⟩,some d=>(match opdOK s.F x,opdOK s.F y,evAppend P n s d t xt (opd s x) (opd s y) h with
  | true,true,some (q,C)=>some (appT d (opd s x),.ref d,q.H,C)
  | _,_,_=>none)
 | none,.alloc t,some d=>(match evAlloc P n s d t h with
  | some (q,C)=>some (kill2 d,.addr d 0,q.H,C)
  | none=>none)
 | none,.call ⟨.value (.func f),xs,_⟩,some d=>(match h.ln,h.av,opdsOK s.F xs.toList,((xs.toList.map (opd s)).flatMap ids1).filter fun i=> !(memN i (h.ln.map (·.1))) with
  | _::_,some r,true,[]=>(match evCallM P n s (some d) (.value (.func f)) xs.toList h with
   | some (q,C)=>some (fun x=>killsL ((adTop d r).2.map (·.1)) (killsL (ownOf h.ln) x),(adTop d r).1,q.H,C)
   | none=>none)
  | [],some r,true,_=>(match h.b,evCall P n s (some d) (.value (.func f)) xs.toList h with
   | true,some (q,C)=>some (killsL ((adTop d r).2.map (·.1)),(adTop d r).1,q.H,C)
   | _,_=>none)
  | _,_,_,_=>none)
 | none,.store t x y,none=>(match opdOK s.F x,opdOK s.F y,storeStill s x y,evStoreB P s t x y h with
  | true,true,true,some (q,C)=>some (fun x=>x,.dead,q.H,C)
  | _,_,_,_=>none)
 | none,.buildSlice t len ⟨parts⟩,some d=>(match opdsOK s.F (parts.map (·.2)),parts.flatMap (fun p=>ids1 (opd s p.2)) with
  | true,[]=>(match evLit P n s d t len parts h with
   | some (q,C)=>some (kill2 d,.ref d,q.H,C)
   | none=>none)
  | _,_=>none)
 | _,_,_=>none
def putF (d:Option Nat) (X:AV) (F:List (Nat×AV)):List (Nat×AV):=match d with|some d=>(d,X)::drop_ F d|none=>F
theorem mapv_id:∀(F:List (Nat×AV)),mapv (fun x=>x) F=F
 | []=>rfl
 | (k,x)::F=>by simp only [mapv,mapv_id F]
theorem store_lift {P:Program} {F F':List (Nat×AV)} {H:List (Nat×Row)} {t:TypeId} {x y:Operand} {h:Hint} {q:AS} {C:List Prop} (hst:storeStill ⟨F,H⟩ x y=true) (ex:opd ⟨F',H⟩ x=opd ⟨F,H⟩ x) (ey:opd ⟨F',H⟩ y=opd ⟨F,H⟩ y) (he:evStoreB P ⟨F,H⟩ t x y h=some (q,C)):evStoreB P ⟨F',H⟩ t x y h=some (⟨F',q.H⟩,C):=by
 unfold evStoreB at he ⊢
 unfold storeStill at hst
 rw [ex,ey]
 split at hst
 ·rename_i id off hx
  split at hst
  ·rename_i r hr
   have hr:look H id=some r:=hr
   cases hz:sizeT P t with
   | none=>simp only [hx,hr,hz] at he;cases he
   | some z =>
    simp only [hx,hr,hz] at he ⊢
    split at hst
    ·rename_i hp
     rw [hp] at he ⊢
     simp only at he ⊢
     split at he
     ·rename_i l hl
      split at he
      ·rename_i h1 h2
       cases he
       rfl
      ·cases he
     ·cases he
    ·rename_i hp hi
     rw [hp,hi] at he ⊢
     simp only [thawAll,hr,hx,ex,ey] at he ⊢
     split at he
     ·rename_i r1 l id' off' hr1 hl hid
      cases hr1;cases hid
      split at he
      ·rename_i h1 h2 h3 h4
       cases he
       rfl
      ·cases he
     ·cases he
    ·cases hst
  ·cases hst
 ·cases hst
theorem opds_min {F F':List (Nat×AV)} {H:List (Nat×Row)} (hF:∀i x,look F i=some x->look F' i=some x):∀ {l:List Operand},opdsOK F l=true->l.map (opd ⟨F',H⟩)=l.map (opd ⟨F,H⟩)
 | [],_=>rfl
 | x::l,h=>by
  simp only [opdsOK] at h
  split at h
  ·rename_i hx
   rw [List.map_cons,List.map_cons,opd_min (H:=H) hF hx,opds_min hF h]
  ·cases h
theorem litCells_min {F F':List (Nat×AV)} {H:List (Nat×Row)} {z:Nat} (hF:∀i x,look F i=some x->look F' i=some x):∀(l:List (Nat×Operand)) (i:Nat),opdsOK F (l.map (·.2))=true->litCells ⟨F',H⟩ z i l=litCells ⟨F,H⟩ z i l∧l.flatMap (fun p=>ids1 (opd ⟨F',H⟩ p.2))=l.flatMap (fun p=>ids1 (opd ⟨F,H⟩ p.2))
 | [],_,_=>⟨rfl,rfl⟩
 | (j,x)::l,i,h=>by
  simp only [List.map_cons,opdsOK] at h
  split at h
  ·rename_i hx
   obtain ⟨h1,h2⟩:=litCells_min (H:=H) (z:=z) hF l (i+1) h
   have ex:=opd_min (H:=H) hF hx
   refine ⟨?_,?_⟩
   ·simp only [litCells,ex,h1]
   ·simp only [List.flatMap_cons,ex,h2]
  ·cases h
theorem lit_lift {P:Program} {n d t len:Nat} {F F':List (Nat×AV)} {H:List (Nat×Row)} {l:List (Nat×Operand)} {h:Hint} {q:AS} {C:List Prop} (hF:∀i x,look F i=some x->look F' i=some x) (ho:opdsOK F (l.map (·.2))=true) (hi:l.flatMap (fun p=>ids1 (opd ⟨F,H⟩ p.2))= []) (he:evLit P n ⟨F,H⟩ d t len l h=some (q,C)) :
  evLit P n ⟨F',H⟩ d t len l h=some (⟨(d,.ref d)::drop_ (mapv (kill2 d) F') d,q.H⟩,C):=by
 have hc:∀z,litCells ⟨F',H⟩ z 0 l=litCells ⟨F,H⟩ z 0 l:=fun z=>(litCells_min hF l 0 ho).1
 have hi':=(litCells_min (z:=0) (H:=H) hF l 0 ho).2
 rw [hi] at hi'
 unfold evLit at he ⊢
 rw [hi] at he
 rw [hi']
 simp only [thawAll] at he ⊢
 split at he
 ·rename_i el hu
  split at he
  ·rename_i z zero s1 hz hzero hs1
   cases hs1
   try simp only [hz,hzero,hc]
   split at he
   ·rename_i cells h1 h2 h3
    try simp only [h1,h2,h3]
    split at he
    ·rename_i h4
     try simp only [h4]
     split at he
     ·rename_i row hav
      try simp only [hav]
      split at he
      ·rename_i s' hp hs'
       cases he
       unfold putD at hs' ⊢
       try simp only [hp] at hs' ⊢
       split at hs'
       ·cases hs'
        rfl
       ·cases hs'
      ·cases he
     ·rename_i hav
      split at he
      ·rename_i s' hp hs'
       cases he
       unfold putD at hs' ⊢
       try simp only [hp] at hs' ⊢
       split at hs'
       ·cases hs'
        rfl
       ·cases hs'
      ·cases he
    ·cases he
   ·cases he
  ·cases he
 ·cases he
theorem evW_ok {P:Program} {n:Nat} {F:List (Nat×AV)} {H H':List (Nat×Row)} {o:Oper} {h:Hint} {Tr:AV->AV} {X:AV} {C:List Prop} (hev:evW P n ⟨F,H⟩ o h=some (Tr,X,H',C)) :
  o.guard=none∧ ∀F',(∀i x,look F i=some x->look F' i=some x)->OpOK P n ⟨F',H⟩ o ⟨putF o.dst X (mapv Tr F'),H'⟩ C:=by
 unfold evW at hev
 split at hev
 ·rename_i x y t xt d hg hop hd
  split at hev
  ·rename_i q C' h1 h2 h3
   cases hev
   refine ⟨hg,fun F' hF=>?_⟩
   rw [hd]
   simp only [putF]
   have hev2:=app_lift (F':=F') h3
   have ex:=opd_min (H:=H) hF h1
   have ey:=opd_min (H:=H) hF h2
   rw [←ey,←ex] at hev2
   have:=evAppend_ok (n:=n) (s:=⟨F',H⟩) hop hd hev2
   rw [ex] at this
   exact this
  ·cases hev
 ·rename_i t d hg hop hd
  split at hev
  ·rename_i q C' h1
   cases hev
   refine ⟨hg,fun F' hF=>?_⟩
   rw [hd]
   simp only [putF]
   have h2:evAlloc P n ⟨F',H⟩ d t h=some (⟨(d,.addr d 0)::drop_ (mapv (kill2 d) F') d,q.H⟩,C):=by
    unfold evAlloc at h1 ⊢
    split at h1
    ·split at h1
     ·split at h1
      ·rename_i s' hs'
       cases h1
       unfold putD at hs' ⊢
       simp only at hs' ⊢
       split at hs'
       ·cases hs';rfl
       ·cases hs'
      ·cases h1
     ·split at h1
      ·rename_i s' hs'
       cases h1
       unfold putD at hs' ⊢
       simp only at hs' ⊢
       split at hs'
       ·cases hs';rfl
       ·cases hs'
      ·cases h1
    ·cases h1
   exact evAlloc_ok (s:=⟨F',H⟩) hop hd h2
  ·cases hev
 ·rename_i f xs ts d hg hop hd
  split at hev
  ·rename_i p l r hln hav hopds hids
   split at hev
   ·rename_i q C' h1
    cases hev
    refine ⟨hg,fun F' hF=>?_⟩
    rw [hd]
    simp only [putF]
    have eo:=opds_min (H:=H) hF hopds
    have h2:evCallM P n ⟨F',H⟩ (some d) (.value (.func f)) xs.toList h=some (⟨(d,(adTop d r).1)::drop_ (mapv (fun x=>killsL ((adTop d r).2.map (·.1)) (killsL (ownOf h.ln) x)) F') d,q.H⟩,C):=by
     unfold evCallM at h1 ⊢
     rw [eo]
     simp only [hav,callee] at h1 ⊢
     rw [hids] at h1 ⊢
     simp only [thawAll] at h1 ⊢
     split at h1
     ·rename_i s1 hE hs1
      cases hs1
      split at h1
      ·rename_i Hl Hb C2 g1 g2 g3 g4
       have g1':lentRows ⟨F',H⟩ h.ln h.ln=some Hl:=by
        have key:∀(ρ l:List (Nat×Nat)),lentRows ⟨F',H⟩ ρ l=lentRows ⟨F,H⟩ ρ l:=by
         intro ρ l
         induction l with
         | nil=>rfl
         | cons p l ih=>obtain ⟨c,k⟩:=p;simp only [lentRows,ih]
        rw [key];exact g1
       have g4':varsM ⟨F',H⟩ h.ho h.ln=some C2:=by
        have key:∀(l:List (Nat×Nat)),varsM ⟨F',H⟩ h.ho l=varsM ⟨F,H⟩ h.ho l:=by
         intro l
         induction l with
         | nil=>rfl
         | cons p l ih=>obtain ⟨c,k⟩:=p;simp only [varsM,ih]
        rw [key];exact g4
       rw [hE]
       simp only
       rw [g1',g2,g3,g4']
       simp only
       have em:(xs.toList.map fun x=>ren2L h.ln (opd ⟨F',H⟩ x))=xs.toList.map fun x=>ren2L h.ln (opd ⟨F,H⟩ x):=by
        have:=congrArg (List.map (ren2L h.ln)) eo
        rwa [List.map_map,List.map_map] at this
       rw [em]
       have eB:∀F0,backS ⟨F0,H⟩ h.ln Hb=⟨mapv (killsL (ownOf h.ln)) F0,Hb++dropsL (retireAll ⟨F,H⟩ (ownOf h.ln)).H (h.ln.map (·.1))⟩:=fun F0=>by
        unfold backS
        rw [(retireAll_FH (ownOf h.ln) F0 F H).1,(retireAll_FH (ownOf h.ln) F0 F H).2]
       rw [eB] at h1 ⊢
       split at h1
       ·rename_i s' hnb hput
        cases h1
        have eR:=fun F0=>retireAll_FH ((adTop d r).2.map (·.1)) F0 (mapv (killsL (ownOf h.ln)) F) (Hb++dropsL (retireAll ⟨F,H⟩ (ownOf h.ln)).H (h.ln.map (·.1)))
        rw [hnb,(eR (mapv (killsL (ownOf h.ln)) F')).1,(eR (mapv (killsL (ownOf h.ln)) F')).2]
        unfold putD at hput ⊢
        simp only at hput ⊢
        split at hput
        ·cases hput
         simp only [setF,mapv_mapv]
        ·cases hput
       ·cases h1
      ·cases h1
     ·cases h1
    have hop':o.op= .call ⟨.value (.func f),xs,ts⟩:=hop
    rw [←hd] at h2
    exact evCallM_ok (s:=⟨F',H⟩) hop' h2
   ·cases hev
  ·rename_i x4 r hln hav hopds
   split at hev
   ·rename_i q C' hb h1
    cases hev
    refine ⟨hg,fun F' hF=>?_⟩
    rw [hd]
    simp only [putF]
    have eo:=opds_min (H:=H) hF hopds
    have eV:∀(l:List AV),viewsL ⟨F',H⟩ l=viewsL ⟨F,H⟩ l:=by
     intro l
     have e0:∀x,view0 ⟨F',H⟩ x=view0 ⟨F,H⟩ x:=fun x=>rfl
     have eL:∀(m:List AV),viewL ⟨F',H⟩ m=viewL ⟨F,H⟩ m:=by
      intro m
      induction m with
      | nil=>rfl
      | cons x m ih=>simp only [viewL,ih,e0]
     have e1:∀x,view ⟨F',H⟩ x=view ⟨F,H⟩ x:=by
      intro x
      unfold view
      split
      ·rw [eL]
      ·rfl
     induction l with
     | nil=>rfl
     | cons x l ih=>simp only [viewsL,ih,e1]
    have h2:evCall P n ⟨F',H⟩ (some d) (.value (.func f)) xs.toList h=some (⟨(d,(adTop d r).1)::drop_ (mapv (killsL ((adTop d r).2.map (·.1))) F') d,q.H⟩,C):=by
     unfold evCall at h1 ⊢
     rw [eo]
     simp only [hav,callee,hb] at h1 ⊢
     rw [eV]
     split at h1
     ·rename_i hE
      split at h1
      ·rename_i vs C2 d0 hv hfl hd0
       cases hd0
       split at h1
       ·rename_i s' hnb hput
        cases h1
        have eR:=fun F0=>retireAll_FH ((adTop d r).2.map (·.1)) F0 F H
        rw [hnb,(eR F').1,(eR F').2]
        unfold putD at hput ⊢
        simp only at hput ⊢
        split at hput
        ·cases hput
         simp only [setF]
        ·cases hput
       ·cases h1
      ·rename_i hd0
       cases hd0
      ·cases h1
     ·cases h1
    have hop':o.op= .call ⟨.value (.func f),xs,ts⟩:=hop
    rw [←hd] at h2
    exact evCall_ok (s:=⟨F',H⟩) hop' h2
   ·cases hev
  ·cases hev
 ·rename_i t x y hg hop hd
  split at hev
  ·rename_i q C' h1 h2 h3 h4
   cases hev
   refine ⟨hg,fun F' hF=>?_⟩
   rw [hd]
   simp only [putF,mapv_id]
   have h5:=store_lift (F':=F') h3 (opd_min (H:=H) hF h1) (opd_min (H:=H) hF h2) h4
   exact evStoreB_ok (s:=⟨F',H⟩) hop hd h5
  ·cases hev
 ·rename_i t len parts d hg hop hd
  split at hev
  ·rename_i h1 h2
   split at hev
   ·rename_i q C' h3
    cases hev
    refine ⟨hg,fun F' hF=>?_⟩
    rw [hd]
    exact evLit_ok (s:=⟨F',H⟩) hop hd (lit_lift hF h1 h2 h3)
   ·cases hev
  ·cases hev
 ·cases hev
def evWG (P:Program) (ops:List Oper) (n:Nat) (s:AS) (o:Oper) (h:Hint):Option ((AV->AV)×AV×List (Nat×Row)×List Prop) :=
 match o.guard with
 | none=>evW P n s o h
 | some (j,want)=>(match ops[j]? with
  | some p=>(match p.dst with
   | some d=>(match getF s d,h.g == want,opdOK s.F (.tmp d),evW P n s {o with guard:=none} h with
    | .val (.bool b),true,true,some (Tr,X,H',C)=>some (Tr,X,H',(b=h.g)::C)
    | _,_,_,_=>none)
   | none=>none)
  | none=>none)
theorem evWG_ok {P:Program} {ops:List Oper} {n:Nat} {F:List (Nat×AV)} {H H':List (Nat×Row)} {o:Oper} {h:Hint} {Tr:AV->AV} {X:AV} {C:List Prop} (hev:evWG P ops n ⟨F,H⟩ o h=some (Tr,X,H',C)) (hC:AllP C) {F':List (Nat×AV)} (hF:∀i x,look F i=some x->look F' i=some x) {S0:Zone} {w0 w:World} {a:Act} (hs:Sim S0 w0 n ⟨F',H⟩ a w) :
  Region.wanted o (yielded ops.toArray a.tmps)=true∧OpOK P n ⟨F',H⟩ o ⟨putF o.dst X (mapv Tr F'),H'⟩ []:=by
 unfold evWG at hev
 split at hev
 ·rename_i hg
  obtain ⟨-,hok⟩:=evW_ok hev
  refine ⟨by unfold Region.wanted;rw [hg],fun _=>hok F' hF hC⟩
 ·rename_i j want hg
  split at hev
  ·rename_i p hp
   split at hev
   ·rename_i d hd
    split at hev
    ·rename_i b Tr' X' H'' C' hbb hw hdk he
     cases hev
     obtain ⟨hbg,hC⟩:=hC
     obtain ⟨-,hok⟩:=evW_ok he
     refine ⟨?_,fun _=>hok F' hF hC⟩
     obtain ⟨φ,hs⟩:=hs
     have ht:=hs.get d
     have e:getF ⟨F',H⟩ d=getF ⟨F,H⟩ d:=opd_min (H:=H) hF hdk
     rw [e,hbb] at ht
     have hy:=yielded_at (ops:=ops) hp hd (den_bool ht)
     unfold Region.wanted;rw [hg];simp only [hy,hbg]
     have:h.g=want:=by simpa using hw
     rw [this];simp
    ·cases hev
   ·cases hev
  ·cases hev
theorem look_putF {od:Option Nat} {i:Nat} {X:AV} {Tr:AV->AV} {F:List (Nat×AV)} (h:od≠some i):look (putF od X (mapv Tr F)) i=(look F i).map Tr:=by
 cases od with
 | none=>exact look_mapv _ _ _
 | some d =>
  have hne:d≠i:=fun e=>h (by rw [e])
  simp only [putF]
  rw [look_cons,if_neg hne,look_mapdrop hne]
section
variable {P:Program} {ops:List Oper} {S0:Zone} {w0:World} {Q:Exit->Act->World->Prop} {n T:Nat} {col col':List AV} {kept:List (Nat×AV)} {H H':List (Nat×Row)} {L:Nat->Bool} {k:Nat} {o:Oper}
theorem state_evW {h:Hint} {Tr:AV->AV} {X:AV} {C:List Prop} {a:Act} {w:World} (hnd:(ops.filterMap (·.dst)).Nodup)
  (hk:k<T) (ho:ops[k]?=some o) (hdep:∀d∈depsOf o,L d=true∧d<T) (hkept:∀i x,look kept i=some x-> ∀j p,j<T->ops[j]?=some p->p.dst≠some i)
  (hev:evWG P ops n ⟨depF ops col (depsOf o)++kept,H⟩ o h=some (Tr,X,H',C)) (hC:AllP C)
  (hcol:∀j z,j<T->j≠k->L j=true->col'[j]?=some z->col[j]?.map Tr=some z∨z= .dead) (hcolk:col'[k]?=some X)
  (hs:Sim S0 w0 n ⟨slotL ops col L T++kept,H⟩ a w) :
  if Region.wanted o (yielded ops.toArray a.tmps)=true then o.wp P a w (fun a' w'=>Sim S0 w0 n ⟨slotL ops col' (putL L k) T++mapv Tr kept,H'⟩ a' w') Q else Sim S0 w0 n ⟨slotL ops col' (putL L k) T++mapv Tr kept,H'⟩ (a.put o.dst undef) w:=by
 have hF:=look_min (T:=T) hnd hdep hkept (col:=col)
 obtain ⟨hw,ok⟩:=evWG_ok hev hC hF hs
 rw [if_pos hw]
 refine Oper.wp_mono ?_ (ok trivial S0 w0 a w Q hs)
 rintro a' w' ⟨φ,hs'⟩
 refine ⟨φ,SimO.sub hs' fun i z hz=>?_⟩
 rw [look_append] at hz
 cases hl:look (slotL ops col' (putL L k) T) i with
 | some z' =>
  rw [hl] at hz
  simp at hz;subst hz
  obtain ⟨j,p,h1,h2,h3,h4,h5⟩:=look_slotL _ _ _ _ _ _ hl
  by_cases hjk:j=k
  ·subst hjk
   rw [ho] at h3;injection h3 with h3;subst h3
   rw [hcolk] at h5;injection h5 with h5;subst h5
   left
   rw [h4];simp only [putF];rw [look_cons,if_pos rfl]
  ·have hLj:L j=true:=by unfold putL at h2;rw [if_neg hjk] at h2;exact h2
   have hne:o.dst≠some i:=fun e=>hjk (dst_inj (ops:=ops.toArray) (by simpa using hnd) (by simpa using h3) (by simpa using ho) h4 e)
   rcases hcol j z' h1 hjk hLj h5 with hc|hc
   ·left
    rw [look_putF hne,look_append]
    cases hcj:col[j]? with
    | none=>rw [hcj] at hc;cases hc
    | some y' =>
     rw [hcj] at hc
     rw [slotL_look hnd col L T j i p y' h1 hLj h3 h4 hcj]
     simpa using hc
   ·exact .inr hc
 | none =>
  rw [hl] at hz
  simp at hz
  rw [look_mapv] at hz
  cases hki:look kept i with
  | none=>rw [hki] at hz;cases hz
  | some y' =>
   rw [hki] at hz
   have hne:o.dst≠some i:=fun e=>hkept i y' hki k o hk ho e
   left
   rw [look_putF hne,look_append,slotL_none fun j p hj hp=>hkept i y' hki j p hj hp,hki]
   simpa using hz
end
theorem depF_take (ops:List Oper) (col:List AV) (k:Nat):∀(l:List Nat),(∀d∈l,d<k)->depF ops (col.take k) l=depF ops col l
 | [],_=>rfl
 | d::l,h=>by
  have hd:(col.take k)[d]?=col[d]?:=by rw [List.getElem?_take,if_pos (h d (by simp))]
  simp only [depF,hd,depF_take ops col k l fun e he=>h e (by simp [he])]
instance:Inhabited Stage:=⟨⟨[],[],[]⟩⟩
def evStages (P:Program) (n T:Nat) (ops:List Oper) (hs:List (Nat×Hint)) (R:List (List Nat)):List Nat->List Nat->List Nat->Bool->List AV->List (Nat×AV)->List (Nat×Row)->Option (List Stage×List Prop)
 | [],done,last,first,old,kept,H=>(match colP P ops hs R done [] last first old kept H (ops.take T) 0 [] with
  | some (col,C)=>some ([⟨col,kept,H⟩],C)
  | none=>none)
 | W::rest,done,last,first,old,kept,H=>(match colP P ops hs R done (W::rest) last first old kept H (ops.take T) 0 [],ops[W]? with
  | some (col,C),some o=>(match evWG P ops n ⟨depF ops col (depsOf o)++kept,H⟩ o (hintAt hs W) with
   | some (Tr,x,H',D)=>(match evStages P n T ops hs R rest (done++ [W]) [W] false ((col.map Tr).set W x) (mapv Tr kept) H' with
    | some (l,E)=>some (⟨col,kept,H⟩::l,C++(D++E))
    | none=>none)
   | none=>none)
  | _,_=>none)
def ColOK (P:Program) (T:Nat) (ops:List Oper) (hs:List (Nat×Hint)) (R:List (List Nat)) (rest done last:List Nat) (first:Bool) (old:List AV) (st:Stage):Prop :=
 ∃C,colP P ops hs R done rest last first old st.kept st.H (ops.take T) 0 []=some (st.col,C)∧AllP C
theorem stages_at {P:Program} {n T:Nat} {ops:List Oper} {hs:List (Nat×Hint)} {R:List (List Nat)}:∀(rest done last:List Nat) (first:Bool) (old:List AV) (kept:List (Nat×AV)) (H:List (Nat×Row)) (l:List Stage) (E:List Prop),
  evStages P n T ops hs R rest done last first old kept H=some (l,E)->AllP E ->
  (l.getD 0 default).kept=kept∧(l.getD 0 default).H=H∧ColOK P T ops hs R rest done last first old (l.getD 0 default) ∧
  ∀(i W:Nat),rest[i]?=some W-> ∃o Tr x D,ops[W]?=some o∧evWG P ops n ⟨depF ops (l.getD i default).col (depsOf o)++(l.getD i default).kept,(l.getD i default).H⟩ o (hintAt hs W)=some (Tr,x,(l.getD (i+1) default).H,D)∧AllP D ∧
   (l.getD (i+1) default).kept=mapv Tr (l.getD i default).kept∧ColOK P T ops hs R (rest.drop (i+1)) (done++rest.take (i+1)) [W] false (((l.getD i default).col.map Tr).set W x) (l.getD (i+1) default)
 | [],done,last,first,old,kept,H,l,E,he,hE=>by
  simp only [evStages] at he
  split at he
  ·rename_i col C hc
   cases he
   exact ⟨rfl,rfl,⟨_,hc,hE⟩,fun i W h=>by simp at h⟩
  ·cases he
 | W::rest,done,last,first,old,kept,H,l,E,he,hE=>by
  simp only [evStages] at he
  split at he
  ·rename_i col C o hc ho
   split at he
   ·rename_i Tr x H' D hw
    split at he
    ·rename_i l' E' hrec
     cases he
     obtain ⟨hC,hDE⟩:=allP_app.1 hE
     obtain ⟨hD,hE'⟩:=allP_app.1 hDE
     obtain ⟨h1,h2,h3,h4⟩:=stages_at rest _ _ _ _ _ _ _ _ hrec hE'
     refine ⟨rfl,rfl,⟨_,hc,hC⟩,fun i W' hi=>?_⟩
     cases i with
     | zero =>
      simp at hi;subst hi
      exact ⟨o,Tr,x,D,ho,by rw [←h2] at hw;exact hw,hD,h1,by simpa using h3⟩
     | succ i =>
      obtain ⟨o',Tr',x',D',k1,k2,k3,k4,k5⟩:=h4 i W' (by simpa using hi)
      refine ⟨o',Tr',x',D',k1,k2,k3,k4,?_⟩
      have e:done++(W::rest).take (i+1+1)=done++ [W]++rest.take (i+1):=by simp
      rw [e]
      exact k5
    ·cases he
   ·cases he
  ·cases he
def chainW (R:List (List Nat)):List Nat->Bool
 | []=>true
 | [_]=>true
 | a::b::l=>match (R.getD b []).any (Nat.beq a) with|true=>chainW R (b::l)|false=>false
theorem chainW_at (R:List (List Nat)):∀(l:List Nat),chainW R l=true-> ∀(i a b:Nat),l[i]?=some a->l[i+1]?=some b->a∈R.getD b []
 | [],_,i,a,b,h,_=>by simp at h
 | [x],_,i,a,b,h,h2=>by simp at h2
 | x::y::l,hc,i,a,b,h,h2=>by
  simp only [chainW] at hc
  split at hc
  ·rename_i hy
   cases i with
   | zero=>simp at h h2;subst h;subst h2;exact any_beq.1 hy
   | succ i=>exact chainW_at R (y::l) hc i a b (by simpa using h) (by simpa using h2)
  ·cases hc
def allLt (T:Nat):List Nat->Bool
 | []=>true
 | a::l=>match Nat.blt a T with|true=>allLt T l|false=>false
theorem allLt_at (T:Nat):∀(l:List Nat),allLt T l=true-> ∀a∈l,a<T
 | [],_,a,h=>by cases h
 | x::l,hc,a,h=>by
  simp only [allLt] at hc
  split at hc
  ·rename_i hx
   rcases List.mem_cons.1 h with rfl|h
   ·simpa [Nat.blt_eq] using hx
   ·exact allLt_at T l hc a h
  ·cases hc
def evDrawW (P:Program) (n T:Nat) (Ws:List Nat) (ops:List Oper) (hs:List (Nat×Hint)) (s:AS):Option (AS×List Prop) :=
 match P.follows .mixedOrders,factsB ops.toArray n,tailB ops.toArray T,chainW (reachT (ops.take T) []) Ws,allLt T Ws,nodupB Ws with
 | true,true,true,true,true,true=>(match evStages P n T ops hs (reachT (ops.take T) []) Ws [] [] true [] (keptF ((ops.take T).filterMap (·.dst)) s.F) s.H with
  | some (l,C)=>(match evOps P n ops hs (ops.drop T) T ⟨headF (ops.take T) (l.getD Ws.length default).col++(l.getD Ws.length default).kept,(l.getD Ws.length default).H⟩ with
   | some (s',D)=>some (s',C++D)
   | none=>none)
  | none=>none)
 | _,_,_,_,_,_=>none
theorem nodup_idx:∀ {l:List Nat},l.Nodup-> ∀ {i j x:Nat},l[i]?=some x->l[j]?=some x->i=j
 | [],_,i,j,x,h,_=>by simp at h
 | y::l,hn,i,j,x,h1,h2=>by
  rw [List.nodup_cons] at hn
  cases i with
  | zero =>
   cases j with
   | zero=>rfl
   | succ j =>
    simp at h1 h2;subst h1
    exact absurd (List.mem_of_getElem? h2) hn.1
  | succ i =>
   cases j with
   | zero =>
    simp at h1 h2;subst h2
    exact absurd (List.mem_of_getElem? h1) hn.1
   | succ j=>exact congrArg (· +1) (nodup_idx hn.2 (i:=i) (j:=j) (x:=x) (by simpa using h1) (by simpa using h2))
theorem slotL_false (ops:List Oper) (col:List AV) (L:Nat->Bool) (hL:∀k,L k=false):∀T,slotL ops col L T= []
 | 0=>rfl
 | k+1=>by simp only [slotL,hL k,slotL_false ops col L hL k]
theorem getD_set_map {col:List AV} {Tr:AV->AV} {W:Nat} {x:AV} {q:Nat} (hq:q≠W) {z:AV} (h:((col.map Tr).set W x).getD q .dead=z):col[q]?.map Tr=some z∨z= .dead:=by
 rw [List.getD_eq_getElem?_getD,List.getElem?_set_ne (Ne.symm hq),List.getElem?_map] at h
 cases hc:col[q]? with
 | none=>rw [hc] at h;exact .inr h.symm
 | some y=>rw [hc] at h;left;simpa using h
section
variable {P:Program} {ops:List Oper} {S0:Zone} {w0:World} {Q:Exit->Act->World->Prop}
theorem evDrawW_ok {n T:Nat} {Ws:List Nat} {hs:List (Nat×Hint)} {s s':AS} {C:List Prop} (he:evDrawW P n T Ws ops hs s=some (s',C)) (hC:AllP C) {a:Act} {w:World} (hsim:Sim S0 w0 n s a w) (hQ:∀a' w',Sim S0 w0 n s' a' w'->Q .normal a' w'):P.follows .mixedOrders=true∧wpAny P .any ops.toArray Q ops.toArray.size (Array.replicate ops.toArray.size false) a {w with drawn:=w.drawn+1}:=by
 unfold evDrawW at he
 split at he
 ·rename_i hm hB hT hch hlW hnW
  split at he
  ·rename_i l C1 hst
   split at he
   ·rename_i s2 D htail
    cases he
    obtain ⟨hC1,hD⟩:=allP_app.1 hC
    obtain ⟨hdl,hnd,hin⟩:=factsB_parts hB
    have hnd':(ops.filterMap (·.dst)).Nodup:=by simpa using hnd
    unfold tailB at hT
    simp only [Bool.and_eq_true,decide_eq_true_eq] at hT
    obtain ⟨⟨⟨hT1,hT2⟩,hT3⟩,hT4⟩:=hT
    have hTs:T<ops.length:=by simpa using hT1
    have hdl':∀(k:Nat) (o:Oper),ops[k]?=some o-> ∀d∈depsOf o,d<k:=fun k o h=>hdl k o (by simpa using h)
    have hin':∀(k:Nat) (o:Oper) (s:Nat),ops[k]?=some o->o.dst=some s->s<n:=fun k o s h=>hin k o s (by simpa using h)
    generalize hRe:reachT (ops.take T) []=R at hst hch
    have hR:ReachOK ops R:=by
     rw [←hRe]
     refine reachT_ok ops (ops.take T) [] (fun k o _ L _ _ j hj=>by simp at hj) (fun j o h=>?_) hdl'
     simpa using take_get _ _ _ _ h
    obtain ⟨hk0,hH0,hc0,hstep⟩:=stages_at _ _ _ _ _ _ _ _ _ hst hC1
    have hlW:=allLt_at T Ws hlW
    have hnW:=nodupB_ok hnW
    generalize hst':(fun i=>l.getD i default)=st at *
    have ste:∀i,l.getD i default=st i:=fun i=>by rw [←hst']
    simp only [ste] at hk0 hH0 hc0 hstep htail
    have hkept:∀i,i≤Ws.length-> ∀(k:Nat) (x:AV),look (st i).kept k=some x-> ∀(j:Nat) (p:Oper),j<T->ops[j]?=some p->p.dst≠some k:=by
     intro i
     induction i with
     | zero =>
      intro _ k x hx j p hj hp
      rw [hk0] at hx
      exact (head_dsts ops T k).1 (look_keptF _ _ _ _ hx).2 j p hj hp
     | succ i ih =>
      intro hi k x hx
      obtain ⟨o,Tr,X,D',-,-,-,k4,-⟩:=hstep i (Ws[i]'(by omega)) (List.getElem?_eq_getElem (by omega))
      rw [k4,look_mapv] at hx
      cases hl:look (st i).kept k with
      | none=>rw [hl] at hx;cases hx
      | some y=>exact ih (by omega) k y hl
    have hcol:∀i,i≤Ws.length-> ∃last first old,ColOK P T ops hs R (Ws.drop i) (Ws.take i) last first old (st i):=by
     intro i hi
     cases i with
     | zero=>exact ⟨_,_,_,by simpa using hc0⟩
     | succ i =>
      obtain ⟨o,Tr,X,D',-,-,-,-,k5⟩:=hstep i (Ws[i]'(by omega)) (List.getElem?_eq_getElem (by omega))
      exact ⟨_,_,_,by simpa using k5⟩
    let J:(Nat->Bool)->Act->World->Prop:=fun L a' w'=>∃i,i≤Ws.length∧(∀(j W:Nat),Ws[j]?=some W->(L W=true↔j<i))∧Sim S0 w0 n ⟨slotL ops (st i).col L T++(st i).kept,(st i).H⟩ a' w'
    obtain ⟨φ,hs0⟩:=hsim
    refine ⟨hm,wpAny_state (n:=n) hT1 hT2 hT3 hT4 hB J ?_ ?_ ops.toArray.size _ a _ ⟨by simp,fun k o hk=>?_⟩ ?_ (fun j _=>by rw [getD_replicate_false]) (by simp)⟩
    ·intro k o L a' w' hk ho hLk hdeps hclosed htl ⟨i,hi,hW,hsim⟩
     have ho':ops[k]?=some o:=by simpa using ho
     have hcl:∀(j:Nat) (p:Oper),L j=true->ops[j]?=some p-> ∀d∈depsOf p,L d=true:=fun j p hj hp=>hclosed j p hj (by simpa using hp)
     have hreach:∀j∈R.getD k [],L j=true:=hR k o ho' L hcl hdeps
     have hreach2:∀q,L q=true-> ∀j∈R.getD q [],L j=true:=fun q hq j hj=>by
      cases hoq:ops[q]? with
      | some p=>exact hR q p hoq L hcl (fun d hd=>hcl q p hq hoq d hd) j hj
      | none =>
       exfalso
       have h1:ops.length≤q:=List.getElem?_eq_none_iff.1 hoq
       have:=htl q (by omega)
       rw [hq] at this;cases this
     have hdT:∀d∈depsOf o,L d=true∧d<T:=fun d hd=>⟨hdeps d hd,by have:=hdl' k o ho' d hd;omega⟩
     have hnohit:∀i',i≤i'-> ∀q,(∀j∈R.getD q [],L j=true)->hit (R.getD q []) (Ws.drop i')=false:=by
      intro i' hi' q hq
      cases hh:hit (R.getD q []) (Ws.drop i') with
      | false=>rfl
      | true =>
       exfalso
       obtain ⟨x,h1,h2⟩:=hit_iff.1 hh
       obtain ⟨j,hj⟩:=List.mem_iff_getElem?.1 h2
       rw [List.getElem?_drop] at hj
       have:=(hW _ x hj).1 (hq x h1)
       omega
     by_cases hkW:k∈Ws
     ·obtain ⟨j,hj⟩:=List.mem_iff_getElem?.1 hkW
      have hjl:j<Ws.length:=(List.getElem?_eq_some_iff.1 hj).1
      have hji:¬j<i:=fun h=>by have:=(hW j k hj).2 h;rw [hLk] at this;cases this
      have e:j=i:=by
       rcases Nat.lt_or_ge i j with h|h
       ·obtain ⟨j',rfl⟩:∃j',j=j'+1:=⟨j-1,by omega⟩
        have hw':Ws[j']?=some (Ws[j']'(by omega)):=List.getElem?_eq_getElem (by omega)
        have h1:=hreach _ (chainW_at R Ws hch j' _ k hw' hj)
        have:=(hW j' _ hw').1 h1
        omega
       ·omega
      subst e
      obtain ⟨o',Tr,x,D',k1,k2,k3,k4,Cc,k5,k6⟩:=hstep j k hj
      rw [ho'] at k1;cases k1
      simp only [List.nil_append] at k5
      obtain ⟨c1,c2,c3⟩:=colP_at _ 0 [] _ _ k5 k6 rfl
      simp only [Nat.zero_add] at c1 c3
      have hTl:(ops.take T).length=T:=by rw [List.length_take];omega
      have hkd:k ∉ Ws.drop (j+1):=fun hm=>by
       obtain ⟨j2,hj2⟩:=List.mem_iff_getElem?.1 hm
       rw [List.getElem?_drop] at hj2
       have:=nodup_idx hnW hj hj2
       omega
      have hkt:k∈Ws.take (j+1):=List.mem_iff_getElem?.2 ⟨j,by rw [List.getElem?_take,if_pos (by omega)];exact hj⟩
      have hold:((((st j).col.map Tr).set k x).getD k .dead)=x:=by
       obtain ⟨last,first,old,Cd,hcd,hCd⟩:=hcol j hi
       obtain ⟨d1,-,-⟩:=colP_at _ 0 [] _ _ hcd hCd rfl
       rw [Nat.zero_add,hTl] at d1
       rw [List.getD_eq_getElem?_getD,List.getElem?_set_self (by rw [List.length_map];omega)];rfl
      have hnext:=state_evW (P:=P) (S0:=S0) (w0:=w0) (Q:=Q) (n:=n) (T:=T) (col':=(st (j+1)).col) (L:=L) (a:=a') (w:=w') hnd' hk ho' hdT (hkept j hi) k2 k3 (by
       intro q z hq hqk hLq hz
       have hoq:(ops.take T)[q]?=some (ops[q]'(by omega)):=by rw [List.getElem?_take,if_pos hq];exact List.getElem?_eq_getElem (by omega)
       obtain ⟨x',D2,e1,e2,e3⟩:=c3 q _ hoq
       rw [e1] at hz;injection hz with hz;subst hz
       unfold cellP at e3
       split at e3
       ·split at e3
        ·split at e3
         ·rename_i xx CC hev
          split at e3
          ·cases e3
           exact getD_set_map hqk e2.1
          ·rename_i hno
           exfalso
           cases hh:hit (R.getD q []) [k] with
           | false=>exact hno rfl hh
           | true =>
            obtain ⟨y,h1,h2⟩:=hit_iff.1 hh
            have:y=k:=by simpa using h2
            subst this
            have:=hreach2 q hLq y h1
            rw [hLk] at this;cases this
         ·cases e3
        ·cases e3
         exact getD_set_map hqk rfl
       ·cases e3
        exact .inr rfl) (by
       have hok:(ops.take T)[k]?=some o:=by rw [List.getElem?_take,if_pos hk];exact ho'
       obtain ⟨x',D2,e1,e2,e3⟩:=c3 k _ hok
       rw [e1]
       unfold cellP at e3
       have r1:(Ws.drop (j+1)).any (Nat.beq k)=false:=by
        cases hh:(Ws.drop (j+1)).any (Nat.beq k) with
        | false=>rfl
        | true=>exact absurd (any_beq.1 hh) hkd
       have r2:=hnohit (j+1) (by omega) k hreach
       have r3:(Ws.take (j+1)).any (Nat.beq k)=true:=any_beq.2 hkt
       rw [r1,r2,r3] at e3
       simp only at e3
       injection e3 with e3;injection e3 with e3 _
       rw [←e3,hold]) hsim
      have fin:∀a'' w'',Sim S0 w0 n ⟨slotL ops (st (j+1)).col (putL L k) T++mapv Tr (st j).kept,(st (j+1)).H⟩ a'' w''->J (putL L k) a'' w'':=by
       intro a'' w'' h
       refine ⟨j+1,by omega,fun j2 W2 h2=>?_,by rw [k4];exact h⟩
       by_cases e:W2=k
       ·subst e
        have:=nodup_idx hnW hj h2
        unfold putL;rw [if_pos rfl];simp;omega
       ·unfold putL;rw [if_neg e,hW j2 W2 h2]
        have:j2≠j:=fun e2=>by subst e2;rw [hj] at h2;cases h2;exact e rfl
        omega
      split
      ·rename_i hw
       rw [if_pos hw] at hnext
       exact Oper.wp_mono fin hnext
      ·rename_i hw
       rw [if_neg hw] at hnext
       exact fin _ _ hnext
     ·obtain ⟨last,first,old,Cc,k5,k6⟩:=hcol i hi
      obtain ⟨c1,c2,c3⟩:=colP_at _ 0 [] _ _ k5 k6 rfl
      simp only [Nat.zero_add] at c1 c3
      have hok:(ops.take T)[k]?=some o:=by rw [List.getElem?_take,if_pos hk];exact ho'
      obtain ⟨x',D2,e1,e2,e3⟩:=c3 k _ hok
      unfold cellP at e3
      have r1:(Ws.drop i).any (Nat.beq k)=false:=by
       cases hh:(Ws.drop i).any (Nat.beq k) with
       | false=>rfl
       | true=>exact absurd (List.mem_of_mem_drop (any_beq.1 hh)) hkW
      have r2:=hnohit i (Nat.le_refl _) k hreach
      have r3:(Ws.take i).any (Nat.beq k)=false:=by
       cases hh:(Ws.take i).any (Nat.beq k) with
       | false=>rfl
       | true=>exact absurd (List.mem_of_mem_take (any_beq.1 hh)) hkW
      have r4:(Ws.take i).any (fun W=>(R.getD W []).any (Nat.beq k))=false:=by
       cases hh:(Ws.take i).any (fun W=>(R.getD W []).any (Nat.beq k)) with
       | false=>rfl
       | true =>
        exfalso
        obtain ⟨W,h1,h2⟩:=List.any_eq_true.1 hh
        obtain ⟨j,hj⟩:=List.mem_iff_getElem?.1 h1
        rw [List.getElem?_take] at hj
        split at hj
        ·rename_i hji
         have:=hreach2 W ((hW j W hj).2 hji) k (any_beq.1 h2)
         rw [hLk] at this;cases this
        ·cases hj
      rw [r1,r2,r3,r4] at e3
      simp only at e3
      have hev:∃C',evHG P ops ⟨depF ops ((st i).col.take k) (depsOf o)++(st i).kept,(st i).H⟩ o (hintAt hs k)=some (x',C')∧AllP C':=by
       split at e3
       ·rename_i xx CC hev
        split at e3
        ·cases e3;exact ⟨_,hev,e2.2⟩
        ·cases e3;exact ⟨_,hev,e2⟩
       ·cases e3
      obtain ⟨C',hev,hC'⟩:=hev
      rw [depF_take ops _ k _ (hdl' k o ho')] at hev
      have hnext:=state_step (P:=P) (S0:=S0) (w0:=w0) (Q:=Q) (n:=n) (T:=T) (L:=L) (a:=a') (w:=w') hnd' hin' hk ho' hdT (hkept i hi) hev hC' e1 hsim
      have fin:∀a'' w'',Sim S0 w0 n ⟨slotL ops (st i).col (putL L k) T++(st i).kept,(st i).H⟩ a'' w''->J (putL L k) a'' w'':=by
       intro a'' w'' h
       refine ⟨i,hi,fun j2 W2 h2=>?_,h⟩
       have e:W2≠k:=fun e=>by subst e;exact hkW (List.mem_of_getElem? h2)
       unfold putL;rw [if_neg e];exact hW j2 W2 h2
      split
      ·rename_i hw
       rw [if_pos hw] at hnext
       exact Oper.wp_mono fin hnext
      ·rename_i hw
       rw [if_neg hw] at hnext
       exact fin _ _ hnext
    ·intro L a' w' hall htl ⟨i,hi,hW,φ',hsim⟩
     have e:i=Ws.length:=by
      rcases Nat.lt_or_ge i Ws.length with h|h
      ·have hw':Ws[i]?=some (Ws[i]'h):=List.getElem?_eq_getElem h
       have:=(hW i _ hw').1 (hall _ (hlW _ (List.getElem_mem h)))
       omega
      ·omega
     subst e
     have hfin:=evOps_ok (S0:=S0) (w0:=w0) (Q:=Q) _ _ _ _ _ htail hD a' w' ⟨φ',SimO.sub hsim fun i x hx=>.inl ?_⟩ hQ
     ·simpa using hfin
     ·rw [look_append] at hx ⊢
      cases hh:look (headF (ops.take T) (st Ws.length).col) i with
      | some y =>
       rw [hh] at hx
       simp at hx;subst hx
       obtain ⟨k,o,h1,h2,h3⟩:=look_headF _ _ _ _ hh
       have hkT:k<T:=by have:=(List.getElem?_eq_some_iff.1 h1).1;rw [List.length_take] at this;omega
       rw [slotL_look hnd' _ L T k i o y hkT (hall k hkT) (take_get _ _ _ _ h1) h2 h3];rfl
      | none =>
       rw [hh] at hx
       simp at hx
       rw [slotL_none fun j p hj hp=>hkept _ (Nat.le_refl _) i x hx j p hj hp]
       simpa using hx
    ·rw [getD_replicate_false] at hk;cases hk
    ·refine ⟨0,by omega,fun j W _=>by show (Array.replicate ops.toArray.size false).getD W false=true↔_;rw [getD_replicate_false];simp,φ,?_⟩
     rw [slotL_false _ _ _ (fun k=>getD_replicate_false _ _)]
     have hg:SimO S0 w0 n [] s a w.drew φ:=hs0.grow ((Below.refl _ _).drew)
     rw [hH0,hk0]
     exact SimO.sub (F:=s.F) hg fun i x hx=>.inl (look_keptF _ _ _ _ (by simpa using hx)).1
   ·cases he
  ·cases he
 ·cases he
def evRegW (P:Program) (n T:Nat) (Ws:List Nat) (hs:List (Nat×Hint)) (c:Code) (s:AS):Option (AS×List Prop) :=
 match c with
 | .region _ ⟨l⟩ true=>evDrawW P n T Ws l hs s
 | _=>none
theorem AWP.regW {n:Nat} {c:Code} {Q:Exit->AS->Prop} {s s':AS} {C:List Prop} (T:Nat) (Ws:List Nat) (hs:List (Nat×Hint)) (he:evRegW P n T Ws hs c s=some (s',C)) (hC:AllP C) (h:Q .normal s'):AWP P n c Q s:=by
 intro S0 w0 a w hsim
 unfold evRegW at he
 split at he
 ·exact evDrawW_ok (S0:=S0) (w0:=w0) he hC hsim fun a' w' hs'=>⟨s',h,hs'.one⟩
 ·cases he
theorem AWP.regWX {n:Nat} {c:Code} {Q:Exit->AS->Prop} {s:AS} {C:List Prop} (T:Nat) (Ks:List Nat) (hs:List (Nat×Hint)) (he:resC (evRegW P n T Ks hs c s)=some C) (hC:AllP C) (h:Q .normal (resS (evRegW P n T Ks hs c s))):AWP P n c Q s:=AWP.regW T Ks hs (res_some he) hC h
end
end Go.Proofs.YtejpabdmiagnnaaGreatDoor
