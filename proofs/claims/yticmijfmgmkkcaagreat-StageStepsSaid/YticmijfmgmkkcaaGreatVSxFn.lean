import Derived.Test.YticmijfmgmkkcaaGreatVSxLaw
set_option linter.unusedSimpArgs false
set_option linter.unusedVariables false
set_option maxRecDepth 100000
namespace Go.Sx
open Go.RowKit
inductive AK where
 | dat (s:Bool) (ty:Ty)
 | eptr (ty:Ty)
 | fn (f:FuncId) (first caps:List AK)
mutual
@[reducible] def AK.den:AK→Type
 | .dat _ ty=>ty.den
 | .eptr ty=>ty.den
 | .fn _ a b=>AK.dens a × AK.dens b
@[reducible] def AK.dens:List AK→Type
 | []=>Unit
 | k :: l=>k.den × AK.dens l
end
mutual
def toAV:(k:AK)→k.den→AV
 | .dat s ty,y=>argAV s ty y
 | .eptr ty,y=>.eptr (enc ty y)
 | .fn f a b,y=>.fn (.func f) (toAVs a y.1) (toAVs b y.2)
def toAVs:(l:List AK)→AK.dens l→List AV
 | [],_=>[]
 | k :: l,y=>toAV k y.1 :: toAVs l y.2
end
def cellPV:AV→Option PV
 | .int k n=>some (.int k n)
 | .bool b=>some (.bool b)
 | .str s=>some (.str s)
 | .sl t xs=>some (.sl t xs)
 | .nils=>some .nils
 | .cap0=>some .nils
 | _=>none
def cellPVs:List AV→Option (List PV)
 | []=>some []
 | x :: l=>match cellPV x,cellPVs l with
  | some p,some ps=>some (p :: ps)
  | _,_=>none
def decPre (ty:Ty) (ps:List PV):Option ty.den:=match decP ty ps with
 | some (y,_)=>some y
 | none=>none
def ofDat:(s:Bool)→(ty:Ty)→AV→Option ty.den
 | true,ty,.agg cs=>(match cellPVs cs with | some ps=>dec ty ps | none=>none)
 | false,ty,x=>if Nat.beq ty.size 1 then (match cellPV x with | some p=>dec ty [p] | none=>none) else none
 | _,_,_=>none
mutual
def ofAV:(k:AK)→AV→Option k.den
 | .dat s ty,x=>ofDat s ty x
 | .eptr ty,.eptr ps=>decPre ty ps
 | .fn f a b,.fn (.func g) xs ys=>if Nat.beq f g then (match ofAVs a xs with
  | some x=>(match ofAVs b ys with
   | some y=>some (x,y)
   | none=>none)
  | none=>none) else none
 | .eptr _,_=>none
 | .fn _ _ _,_=>none
def ofAVs:(l:List AK)→List AV→Option (AK.dens l)
 | [],[]=>some ()
 | k :: l,x :: xs=>match ofAV k x with
  | some y=>(match ofAVs l xs with
   | some ys=>some (y,ys)
   | none=>none)
  | none=>none
 | [],_ :: _=>none
 | _ :: _,[]=>none
end
theorem cellPV_ok {E:Env} {v:Value} {x:AV} {p:PV} (hx:RdA E v x) (h:cellPV x=some p):RdP E.w E.Fz v p:=by
 unfold cellPV at h
 split at h
 all_goals first
  | (cases h;done)
  | cases h
 ·cases hx;exact .int _ _
 ·cases hx;exact .bool _
 ·cases hx;exact .str _
 ·exact hx.sl_inv
 ·cases hx;exact .nils _ _
 ·cases hx;exact .nils _ _
theorem cellPVs_ok:∀ {cs:List AV} {ps:List PV},cellPVs cs=some ps→cs.length=ps.length∧∀ (i:Nat) p,ps[i]?=some p→∃ x,cs[i]?=some x∧cellPV x=some p
 | [],ps,h=>by cases h;exact ⟨rfl,fun i p h=>by simp at h⟩
 | x :: l,ps,h=>by
  unfold cellPVs at h
  split at h
  ·rename_i p qs h1 h2
   cases h
   obtain ⟨e,ih⟩:=cellPVs_ok h2
   refine ⟨by simp [e],fun i q hq=>?_⟩
   cases i with
   | zero=>simp at hq;subst hq;exact ⟨x,rfl,h1⟩
   | succ i=>simpa using ih i q (by simpa using hq)
  ·cases h
theorem ofDat_ok {E:Env} {s:Bool} {ty:Ty} {x:AV} {y:ty.den} {v:Value} (h:ofDat s ty x=some y) (hx:RdA E v x):RdA E v (argAV s ty y):=by
 unfold ofDat at h
 split at h
 ·rename_i cs
  split at h
  ·rename_i ps hps
   obtain ⟨hl,hc⟩:=cellPVs_ok hps
   obtain ⟨vs,rfl,hsz,h1,h2⟩:=hx.agg_inv
   have hle:=dec_le _ _ _ h
   obtain ⟨hl2,hg⟩:=hle.get
   show RdA E _ (.agg ((enc _ y).map up))
   refine .agg _ _ (by rw [hsz,hl,hl2];simp) h1 (fun i u z hu hz=>?_)
   simp only [List.getElem?_map,Option.map_eq_some_iff] at hz
   obtain ⟨q,hq,rfl⟩:=hz
   have hi:i < ps.length:=by rw [hl2];exact (List.getElem?_eq_some_iff.1 hq).1
   obtain ⟨x',hx',hp'⟩:=hc i _ (List.getElem?_eq_getElem hi)
   exact .up ((cellPV_ok (h2 i u x' hu hx') hp').le (hg i _ q (List.getElem?_eq_getElem hi) hq))
  ·cases h
 ·rename_i x
  split at h
  ·split at h
   ·rename_i p hp
    have hle:=dec_le _ _ _ h
    obtain ⟨hl2,hg⟩:=hle.get
    unfold argAV
    rw [if_neg (by simp)]
    cases he:enc _ y with
    | nil=>rw [he] at hl2;simp at hl2
    | cons q l=>exact .up ((cellPV_ok hx hp).le (hg 0 p q rfl (by rw [he];rfl)))
   ·cases h
  ·cases h
 ·cases h
mutual
theorem ofAV_ok {E:Env}:∀ (k:AK) (x:AV) (y:k.den) (v:Value),ofAV k x=some y→RdA E v x→RdA E v (toAV k y)
 | .dat s ty,x,y,v,h,hx=>by
  simp only [ofAV] at h
  exact ofDat_ok h hx
 | .eptr ty,x,y,v,h,hx=>by
  cases x with
  | eptr ps =>
   simp only [ofAV,decPre] at h
   split at h
   ·rename_i z l hz
    cases h
    obtain ⟨ds,rfl,hle⟩:=decP_le _ _ _ _ hz
    obtain ⟨hl2,hg⟩:=hle.get
    show RdA E v (.eptr (enc ty y))
    cases hx with
    | eptr b o _ g hcell hrd =>
     refine .eptr b o _ g (fun j hj=>hcell j (by simp;omega)) (fun j p hp=>?_)
     have hj:j < ds.length:=by rw [hl2];exact (List.getElem?_eq_some_iff.1 hp).1
     exact (hrd j ds[j] (by rw [List.getElem?_append_left hj];exact List.getElem?_eq_getElem hj)).le (hg j _ p (List.getElem?_eq_getElem hj) hp)
   ·cases h
  | _=>simp [ofAV] at h
 | .fn f a b,x,y,v,h,hx=>by
  cases x with
  | fn g xs ys =>
   cases g with
   | func g =>
    simp only [ofAV] at h
    split at h
    ·rename_i hfg
     have:=Nat.eq_of_beq_eq_true hfg
     subst this
     split at h
     ·rename_i x' h1
      split at h
      ·rename_i y' h2
       cases h
       cases hx with
       | fn _ vs ws _ _ hv hw k1 k2 =>
        obtain ⟨l1,g1⟩:=ofAVs_ok a xs x' h1
        obtain ⟨l2,g2⟩:=ofAVs_ok b ys y' h2
        refine .fn _ _ _ _ _ (hv.trans l1.symm) (hw.trans l2.symm) (fun i v' x' hv' hx'=>?_) (fun i v' x' hv' hx'=>?_)
        ·exact g1 (fun i u z=>k1 i u z) i v' x' hv' hx' vs.toList (fun i u hu=>by simpa using hu) (by simpa using hv)
        ·exact g2 (fun i u z=>k2 i u z) i v' x' hv' hx' ws.toList (fun i u hu=>by simpa using hu) (by simpa using hw)
      ·cases h
     ·cases h
    ·cases h
   | _=>simp [ofAV] at h
  | _=>simp [ofAV] at h
theorem ofAVs_ok {E:Env}:∀ (l:List AK) (xs:List AV) (y:AK.dens l),ofAVs l xs=some y→(toAVs l y).length=xs.length ∧
 ∀ {vs:Array Value},(∀ (i:Nat) v x,vs[i]?=some v→xs[i]?=some x→RdA E v x)→∀ (i:Nat) v x,vs[i]?=some v→(toAVs l y)[i]?=some x→∀ us:List Value,(∀ (i:Nat) u,us[i]?=some u→vs[i]?=some u)→us.length=xs.length→RdA E v x
 | [],xs,y,h=>by
  cases xs with
  | nil=>exact ⟨rfl,fun _ i v x _ hx=>by simp [toAVs] at hx⟩
  | cons _ _=>simp [ofAVs] at h
 | k :: l,xs,y,h=>by
  cases xs with
  | nil=>simp [ofAVs] at h
  | cons x xs =>
   simp only [ofAVs] at h
   split at h
   ·rename_i y1 h1
    split at h
    ·rename_i ys h2
     cases h
     obtain ⟨e,ih⟩:=ofAVs_ok l xs ys h2
     refine ⟨by simp [toAVs,e],fun {vs} hall i v z hv hz us hus hlen=>?_⟩
     cases i with
     | zero =>
      simp [toAVs] at hz
      subst hz
      exact ofAV_ok k x y1 v h1 (hall 0 v x hv rfl)
     | succ i =>
      have hvs:vs=#[vs[0]!]++(vs.toList.drop 1).toArray:=by
       apply Array.ext'
       cases hvl:vs.toList with
       | nil =>
        exfalso
        have:vs.size=0:=by rw [← Array.length_toList,hvl];rfl
        have:=(Array.getElem?_eq_some_iff.1 hv).1
        omega
       | cons a b =>
        have:vs=(a :: b).toArray:=by rw [← hvl]
        subst this
        simp
      exact ih (vs:=(vs.toList.drop 1).toArray) (fun j u w hu hw=>hall (j+1) u w (by simpa [Nat.add_comm] using hu) (by simpa using hw)) i v z (by simpa [Nat.add_comm] using hv) (by simpa [toAVs] using hz) (us.drop 1)
       (fun j u hu=>by
         have:=hus (j+1) u (by simpa [Nat.add_comm] using hu)
         simpa [Nat.add_comm] using this) (by simp at hlen ⊢;omega)
    ·cases h
   ·cases h
end
@[reducible] def Rens:List (Bool × Ty)→Type
 | []=>Unit
 | q :: r=>q.2.den × Rens r
def resAVs:(r:List (Bool × Ty))→Rens r→List AV
 | [],_=>[]
 | q :: r,y=>argAV q.1 q.2 y.1 :: resAVs r y.2
def resAV:(l:List (Bool × Ty))→Rens l→AV
 | [r],y=>argAV r.1 r.2 y.1
 | l,y=>.tup (resAVs l y)
def rich:List (Bool × Ty)→Bool
 | []=>false
 | (s,t) :: l=>s || (match t with | .sl _=>true | _=>false) || rich l
def fnC (a:List AK) (r:List (Bool × Ty)) (need:AK.dens a→Prop) (f:AK.dens a→Rens r):Ctr:=fun args =>
 match ofAVs a args with
 | some y=>some ⟨⟨some (need y),none,[],resAV r (f y)⟩,if rich r then fun k=>∀ z,z=f y→k (resAV r z) else fun k=>k (resAV r (f y))⟩
 | none=>none
theorem goodF {P:Program} {cx:Ctx} (hcx:GoodCtx P cx) {g:FuncId} (d:Nat) (a:List AK) (r:List (Bool × Ty)) (need:AK.dens a→Prop) (f:AK.dens a→Rens r)
 (hfn:∃ fn,P.funcs[g]?=some fn∧fn.body.isSome=true∧(fn.name == "runtime.NumGoroutine")=false)
 (h:∀ y,need y→callN cx P d g (toAVs a y) [] 0 (finK ⟨none,none,[],resAV r (f y)⟩)):GoodC P g (fnC a r need f):=by
 refine ⟨hfn,fun args cg hC k hk=>?_,fun args cr gen hC hn w F0 vs hF hsz hrd=>?_⟩
 ·unfold fnC at hC
  split at hC
  ·rename_i y hy
   cases hC
   simp only at hk
   split at hk
   ·exact hk _ rfl
   ·exact hk
  ·cases hC
 unfold fnC at hC
 split at hC
 ·rename_i y hy
  cases hC
  obtain ⟨C,hgood,hCa⟩:=goodC_one hcx d hfn _ _ (h y hn)
  obtain ⟨e,hall⟩:=ofAVs_ok (E:=Env.base w F0) a args y hy
  exact hgood.calls _ _ _ hCa trivial w F0 vs hF (hsz.trans e.symm) (fun i v x hv hx=>hall hrd i v x hv hx vs.toList (fun i u hu=>by simpa using hu) (by simpa using hsz))
 ·cases hC
def PV.plain:PV→Bool
 | .int _ _=>true
 | .bool _=>true
 | .str _=>true
 | .sl _ _=>true
 | .fn _=>true
 | _=>false
theorem enc_plain (t:Ty):∀ (y:t.den),∀ q∈enc t y,q.plain=true:=by
 induction t with
 | pair a b iha ihb =>
  intro y q hq
  simp only [enc,List.mem_append] at hq
  exact hq.elim (iha _ _) (ihb _ _)
 | expr =>
  intro y q hq
  simp only [enc,List.mem_cons,List.not_mem_nil,or_false] at hq
  rcases hq with rfl | rfl | rfl | rfl | rfl <;> rfl
 | _ =>
  intro y q hq
  simp only [enc,List.mem_cons,List.not_mem_nil,or_false] at hq
  subst hq
  rfl
mutual
def idsOf (H:List Ob):AV→List Nat
 | .own id=>[id]
 | .ownp id _ _ _=>[id]
 | .ownc id _ _ _=>[id]
 | .fn f a b=>(match downF H (.fn f a b) with | some (_,l)=>l | none=>[])
 | .agg l=>idsOfL H l
 | .tup l=>idsOfL H l
 | _=>[]
def idsOfL (H:List Ob):List AV→List Nat
 | []=>[]
 | x :: l=>idsOf H x++idsOfL H l
end
mutual
def idsR (H:List Ob):AV→List Nat
 | .csl t id m=>(match lowerArg H (.csl t id m) with | some (_,l)=>l | none=>[])
 | .tup l=>idsRL H l
 | x=>idsOf H x
def idsRL (H:List Ob):List AV→List Nat
 | []=>[]
 | x :: l=>idsR H x++idsRL H l
end
def ofRes1 (H:List Ob):(s:Bool)→(ty:Ty)→AV→Option ty.den
 | true,ty,.agg cs=>(match downL H cs with | some (ps,_)=>dec ty ps | none=>none)
 | false,ty,.csl t id m=>(match lowerArg H (.csl t id m) with | some (.sl t' xss,_)=>dec ty [.sl t' xss] | _=>none)
 | false,ty,x=>if Nat.beq ty.size 1 then (match down H x with | some (p,_)=>dec ty [p] | none=>none) else none
 | _,_,_=>none
def ofResL (H:List Ob):(r:List (Bool × Ty))→List AV→Option (Rens r)
 | [],[]=>some ()
 | q :: r,x :: l=>(match ofRes1 H q.1 q.2 x with
  | some y=>(match ofResL H r l with
   | some ys=>some (y,ys)
   | none=>none)
  | none=>none)
 | _,_=>none
def ofRes (H:List Ob):(r:List (Bool × Ty))→AV→Option (Rens r)
 | [q],x=>(match ofRes1 H q.1 q.2 x with
  | some y=>some (y,())
  | none=>none)
 | r,.tup l=>ofResL H r l
 | _,_=>none
theorem down_ids {H:List Ob} {x:AV} {p:PV} {l:List Nat} (h:down H x=some (p,l)):∀ id∈l,id∈idsOf H x:=by
 unfold down at h
 split at h
 ·split at h
  ·rename_i T l' hT
   cases h
   intro id hid
   unfold idsOf
   rw [hT]
   exact hid
  ·cases h
 all_goals first
  | (cases h;done)
  | (cases h;intro id hid;simp at hid;done)
  | skip
 all_goals
  split at h
  all_goals first
   | (cases h;done)
   | (cases h;intro id hid;simpa [idsOf] using hid)
   | (split at h
      ·cases h;intro id hid;simpa [idsOf] using hid
      ·cases h)
theorem fin_cell {H:List Ob} {x:AV} {p q:PV} {l ids:List Nat} (h:down H x=some (p,l)) (hl:∀ id∈l,id∈ids) (hle:PV.le p q) (hq:q.plain=true) :
 fit (shOf (up q)) (frV ids H x)=up q∧frV ids H x≠.any:=by
 have hone:l.all ids.contains=true:=List.all_eq_true.2 fun id hid=>by simpa using hl id hid
 have key:∀ y:AV,(y=up p∨(p=.nils∧(y=.nils∨y=.cap0)))→fit (shOf (up q)) y=up q∧y≠.any:=by
  intro y hy
  rcases hle with rfl | ⟨rfl,t,rfl⟩
  ·rcases hy with rfl | ⟨rfl,_⟩
   ·cases p <;> first | (exact ⟨rfl,fun h=>by cases h⟩) | (rename_i T;cases T <;> exact ⟨rfl,fun h=>by cases h⟩) | cases hq
   ·cases hq
  ·rcases hy with rfl | ⟨_,rfl | rfl⟩ <;> exact ⟨rfl,fun h=>by cases h⟩
 have fr:∀ x,down H x=some (p,l)→frOne ids H x=up p:=fun x h=>by unfold frOne;rw [h];simp only;rw [if_pos hone]
 cases x with
 | own id=>exact key _ (.inl (fr _ h))
 | ownp id k lo len=>exact key _ (.inl (fr _ h))
 | ownc id k lo len=>exact key _ (.inl (fr _ h))
 | slf t xs=>simp only [down,Option.some.injEq,Prod.mk.injEq] at h;exact key _ (.inl (by rw [← h.1];rfl))
 | cap0=>simp only [down,Option.some.injEq,Prod.mk.injEq] at h;exact key _ (.inr ⟨h.1.symm,.inr rfl⟩)
 | nils=>simp only [down,Option.some.injEq,Prod.mk.injEq] at h;exact key _ (.inr ⟨h.1.symm,.inl rfl⟩)
 | int k m=>simp only [down,Option.some.injEq,Prod.mk.injEq] at h;exact key _ (.inl (by rw [← h.1];rfl))
 | bool k=>simp only [down,Option.some.injEq,Prod.mk.injEq] at h;exact key _ (.inl (by rw [← h.1];rfl))
 | str k=>simp only [down,Option.some.injEq,Prod.mk.injEq] at h;exact key _ (.inl (by rw [← h.1];rfl))
 | fn f a b=>exact key _ (.inl (fr _ h))
 | val k =>
  refine key _ (.inl ?_)
  show AV.val k=up p
  unfold down at h
  split at h
  case h_1 heq=>cases heq
  case h_2 heq=>cases heq;cases h;rfl
  all_goals first
   | (rename_i heq;cases heq;cases h;rfl)
   | (rename_i heq;cases heq)
   | cases h
 | sl t xs=>simp only [down,Option.some.injEq,Prod.mk.injEq] at h;exact key _ (.inl (by rw [← h.1];rfl))
 | _=>simp [down] at h
theorem fin_cells {H:List Ob} {ids:List Nat}:∀ {cs:List AV} {ps qs:List PV} {l:List Nat},downL H cs=some (ps,l)→(∀ id∈idsOfL H cs,id∈ids)→LeL ps qs→(∀ q∈qs,q.plain=true) →
 fitL (shOfL (qs.map up)) (frVL ids H cs)=qs.map up
 | [],ps,qs,l,h,_,hle,_=>by
  cases h
  cases hle
  rfl
 | x :: cs,ps,qs,l,h,hl,hle,hq=>by
  unfold downL at h
  split at h
  ·rename_i p a ps' b h1 h2
   cases h
   cases hle with
   | cons hp hps =>
    simp only [List.map_cons,shOfL,frVL,fitL]
    rw [(fin_cell (ids:=ids) h1 (fun id hid=>hl id (by simp [idsOfL,down_ids h1 id hid])) hp (hq _ (by simp))).1,
     fin_cells h2 (fun id hid=>hl id (by simp [idsOfL,hid])) hps (fun q hq'=>hq q (by simp [hq']))]
  ·cases h
theorem renL_upFs {σ:List (Option Nat)}:∀ caps:List FnT,renL σ (upFs caps)=upFs caps
 | []=>rfl
 | c :: l=>by simp only [upFs,renL];rw [renL_upFs l];rfl
theorem ren_up {σ:List (Option Nat)} {q:PV} (h:q.plain=true):ren σ (up q)=up q:=by
 cases q with
 | fn T =>
  cases T with
  | nil=>rfl
  | mk f caps=>simp only [up,ren];rw [renL_upFs];rfl
 | _=>first | rfl | cases h
theorem renL_up {σ:List (Option Nat)}:∀ {l:List PV},(∀ q∈l,q.plain=true)→renL σ (l.map up)=l.map up
 | [],_=>rfl
 | q :: l,h=>by simp only [List.map_cons,renL];rw [ren_up (h q (by simp)),renL_up (fun q' hq=>h q' (by simp [hq]))]
def notAny:AV→Prop
 | .any=>False
 | .when _ _ _ _=>False
 | _=>True
theorem frOne_notAny {H:List Ob} {ids:List Nat} {x:AV} (h:notAny x):notAny (frOne ids H x):=by
 unfold frOne
 split
 ·rename_i p _ _
  split
  ·cases p with
   | fn T=>cases T <;> trivial
   | _=>trivial
  ·exact h
 ·exact h
theorem lower_csl_notAny {H:List Ob} {t:Ty} {id m:Nat} {y:AV} {l:List Nat} (h:lowerArg H (.csl t id m)=some (y,l)):notAny y:=by
 simp only [lowerArg] at h
 split at h
 ·split at h
  ·split at h
   ·split at h
    ·cases h;trivial
    ·cases h
   ·cases h
  ·cases h
 ·cases h
theorem frCsl_notAny {H:List Ob} {ids:List Nat} {t:Ty} {id m:Nat}:notAny (frCsl ids H (.csl t id m)):=by
 unfold frCsl
 split
 ·rename_i y l hl
  split
  ·exact lower_csl_notAny hl
  ·trivial
 ·trivial
theorem frMp_notAny {H:List Ob} {ids:List Nat} {id:Nat}:notAny (frMp ids H id):=by
 unfold frMp
 repeat' split
 all_goals trivial
theorem frV_notAny {H:List Ob} {ids:List Nat} {x:AV} (h:notAny x):notAny (frV ids H x):=by
 cases x <;> first
  | trivial
  | exact frCsl_notAny
  | exact frMp_notAny
  | exact frOne_notAny (by trivial)
  | exact h
theorem down_notAny {H:List Ob} {x:AV} {r:PV × List Nat} (h:down H x=some r):notAny x:=by
 cases x <;> first
  | trivial
  | simp [down] at h
theorem idsR_down {H:List Ob} {x:AV} {r:PV × List Nat} (h:down H x=some r):idsR H x=idsOf H x:=by
 cases x <;> first
  | rfl
  | simp [down] at h
theorem frCsl_eq {H:List Ob} {ids:List Nat} {t t':Ty} {id m:Nat} {xss:List t'.den} {l:List Nat} (hlow:lowerArg H (.csl t id m)=some (.sl t' xss,l)) (h:∀ i∈l,i∈ids) :
 frV ids H (.csl t id m)=.sl t' xss:=by
 show frCsl ids H (.csl t id m)=_
 unfold frCsl
 rw [hlow]
 simp only
 rw [if_pos]
 exact List.all_eq_true.2 fun i hi=>by simpa using h i hi
theorem fin_one {H:List Ob} {ids:List Nat} {s:Bool} {ty:Ty} {x:AV} {y:ty.den} (h:ofRes1 H s ty x=some y) (hid:∀ id∈idsR H x,id∈ids) :
 fit (shOf (argAV s ty y)) (frV ids H x)=argAV s ty y∧(∀ σ,ren σ (argAV s ty y)=argAV s ty y)∧notAny (argAV s ty y)∧notAny (frV ids H x):=by
 unfold ofRes1 at h
 split at h
 ·rename_i cs
  split at h
  ·rename_i ps l hd
   have hle:=dec_le _ _ _ h
   refine ⟨?_,fun σ=>?_,trivial,trivial⟩
   ·show fit (shOf (.agg ((enc _ y).map up))) (frV ids H (.agg cs))=.agg ((enc _ y).map up)
    simp only [shOf,frV,fit]
    rw [fin_cells hd (by simpa [idsR,idsOf] using hid) hle (enc_plain _ y)]
   ·show ren σ (.agg ((enc _ y).map up))=.agg ((enc _ y).map up)
    simp only [ren]
    rw [renL_up (enc_plain _ y)]
  ·cases h
 ·split at h
  ·rename_i t' xss l hlow
   have hle:=dec_le _ _ _ h
   have hpl:=enc_plain _ y
   unfold argAV
   rw [if_neg (by simp)]
   have hfr:=frCsl_eq hlow fun i hi=>hid i (by
    unfold idsR
    rw [hlow]
    exact hi)
   cases he:enc _ y with
   | nil=>rw [he] at hle;cases hle
   | cons q l' =>
    rw [he] at hle
    cases hle with
    | cons hp _ =>
     have hq:q=.sl t' xss:=by
      rcases hp with e | ⟨e,_⟩
      ·exact e.symm
      ·cases e
     subst hq
     rw [hfr]
     exact ⟨rfl,fun σ=>rfl,trivial,trivial⟩
  ·cases h
 ·split at h
  ·split at h
   ·rename_i p l hd
    have hle:=dec_le _ _ _ h
    have hpl:=enc_plain _ y
    rw [idsR_down hd] at hid
    unfold argAV
    rw [if_neg (by simp)]
    cases he:enc _ y with
    | nil=>have:=enc_length _ y;have:=size_pos ‹Ty›;rw [he] at *;simp at *;omega
    | cons q l' =>
     rw [he] at hle hpl
     cases hle with
     | cons hp _ =>
      have:=fin_cell (ids:=ids) hd (fun id h=>hid id (down_ids hd id h)) hp (hpl q (by simp))
      refine ⟨this.1,fun σ=>ren_up (hpl q (by simp)), ?_, ?_⟩
      ·have h5:=hpl q (by simp)
       cases q with
       | fn T=>cases T <;> trivial
       | _=>first | trivial | cases h5
      ·exact frV_notAny (down_notAny hd)
   ·cases h
  ·cases h
 ·cases h
theorem fin_list {H:List Ob} {ids:List Nat}:∀ {r:List (Bool × Ty)} {l:List AV} {y:Rens r},ofResL H r l=some y→(∀ id∈idsRL H l,id∈ids) →
 fitL (shOfL (resAVs r y)) (frVL ids H l)=resAVs r y∧∀ σ,renL σ (resAVs r y)=resAVs r y
 | [],l,y,h,hid=>by
  cases l with
  | nil=>exact ⟨rfl,fun _=>rfl⟩
  | cons _ _=>simp [ofResL] at h
 | q :: r,l,y,h,hid=>by
  cases l with
  | nil=>simp [ofResL] at h
  | cons x l =>
   simp only [ofResL] at h
   split at h
   ·rename_i y1 h1
    split at h
    ·rename_i ys h2
     cases h
     obtain ⟨e1,e2,_,_⟩:=fin_one (ids:=ids) h1 (fun id hi=>hid id (by simp [idsRL,hi]))
     obtain ⟨e3,e4⟩:=fin_list (ids:=ids) h2 (fun id hi=>hid id (by simp [idsRL,hi]))
     refine ⟨?_,fun σ=>?_⟩
     ·show (fit (shOf (argAV q.1 q.2 y1)) (frV ids H x) :: fitL (shOfL (resAVs r ys)) (frVL ids H l))=argAV q.1 q.2 y1 :: resAVs r ys
      rw [e1,e3]
     ·show (ren σ (argAV q.1 q.2 y1) :: renL σ (resAVs r ys))=argAV q.1 q.2 y1 :: resAVs r ys
      rw [e2,e4]
    ·cases h
   ·cases h
theorem noW_of {x:AV} (h:notAny x):noW x=x:=by cases x <;> first | rfl | cases h
theorem fin_of {r:List (Bool × Ty)} {z zz:Rens r} {x:AV} {H:List Ob} {n:Nat} (h:ofRes H r x=some z) (hz:zz=z):finK ⟨none,none,[],resAV r zz⟩ x H n:=by
 subst hz
 have key:∀ res:AV,fit (shOf res) (frV (idsR H x) H x)=res→(∀ σ,ren σ res=res)→notAny res→notAny (frV (idsR H x) H x)→finK ⟨none,none,[],res⟩ x H n:=by
  intro res h1 h2 h3 h4
  refine ⟨trivial,rfl,idsR H x,[], ?_,rfl,trivial,by simp [Sx.distinct,Sx.keeps]⟩
  rw [noW_of h4]
  show mask [res] [fit (shOf res) (frV (idsR H x) H x)]=[ren [] res]
  rw [h1,h2]
  cases res <;> first | rfl | cases h3
 have tup:∀ (r:List (Bool × Ty)) (z:Rens r) (l:List AV) (_:ofResL H r l=some z),x=.tup l→finK ⟨none,none,[],.tup (resAVs r z)⟩ x H n:=by
  intro r z l h0 hx
  subst hx
  obtain ⟨e1,e2⟩:=fin_list (ids:=idsR H (.tup l)) h0 (fun id hi=>by simpa [idsR] using hi)
  refine key _ ?_ (fun σ=>?_) trivial trivial
  ·simp only [shOf,frV,fit]
   rw [e1]
  ·simp only [ren]
   rw [e2]
 cases r with
 | nil =>
  cases x with
  | tup l=>exact tup [] zz l h rfl
  | _=>simp [ofRes] at h
 | cons q r =>
  cases r with
  | nil =>
   simp only [ofRes] at h
   split at h
   ·rename_i y h1
    cases h
    obtain ⟨e1,e2,e3,e4⟩:=fin_one (ids:=idsR H x) h1 (fun id hi=>hi)
    exact key _ e1 e2 e3 e4
   ·cases h
  | cons q' r =>
   cases x with
   | tup l=>exact tup (q :: q' :: r) zz l h rfl
   | _=>simp [ofRes] at h
def fnO (a:List AK) (t:Ty) (need:AK.dens a→Prop) (f:AK.dens a→List t.den):Ctr:=fun args =>
 match ofAVs a args with
 | some y=>some ⟨⟨some (need y),none,[.rows t (f y)],.own 0⟩,fun k=>k (.own 0)⟩
 | none=>none
theorem goodO {P:Program} {cx:Ctx} (hcx:GoodCtx P cx) {g:FuncId} (d:Nat) (a:List AK) (t:Ty) (need:AK.dens a→Prop) (f:AK.dens a→List t.den)
 (hfn:∃ fn,P.funcs[g]?=some fn∧fn.body.isSome=true∧(fn.name == "runtime.NumGoroutine")=false)
 (h:∀ y,need y→callN cx P d g (toAVs a y) [] 0 (finK ⟨none,none,[.rows t (f y)],.own 0⟩)):GoodC P g (fnO a t need f):=by
 refine ⟨hfn,fun args cg hC k hk=>?_,fun args cr gen hC hn w F0 vs hF hsz hrd=>?_⟩
 ·unfold fnO at hC
  split at hC
  ·cases hC
   exact hk
  ·cases hC
 unfold fnO at hC
 split at hC
 ·rename_i y hy
  cases hC
  obtain ⟨C,hgood,hCa⟩:=goodC_one hcx d hfn _ _ (h y hn)
  obtain ⟨e,hall⟩:=ofAVs_ok (E:=Env.base w F0) a args y hy
  exact hgood.calls _ _ _ hCa trivial w F0 vs hF (hsz.trans e.symm) (fun i v x hv hx=>hall hrd i v x hv hx vs.toList (fun i u hu=>by simpa using hu) (by simpa using hsz))
 ·cases hC
theorem fin_own {t:Ty} {xs zz:List t.den} {k:Nat} {H:List Ob} {n:Nat} (h:getOb H k=.rows t xs) (hz:zz=xs):finK ⟨none,none,[.rows t zz],.own 0⟩ (.own k) H n:=by
 subst hz
 refine ⟨trivial,rfl,[],[some k], ?_,rfl,⟨h,trivial⟩,by simp [Sx.distinct,Sx.keeps]⟩
 have:frV [] H (.own k)=.own k:=by
  simp only [frV,frOne,down,h]
  simp
 rw [this]
 rfl
theorem fin_cap0 {t:Ty} {zz:List t.den} {H:List Ob} {n:Nat} (hz:zz=[]):finK ⟨none,none,[.rows t zz],.own 0⟩ .cap0 H n:=by
 subst hz
 exact ⟨trivial,rfl,[],[none],rfl,rfl,⟨rfl,trivial⟩,by simp [Sx.distinct,Sx.keeps]⟩
def LawOk (P:Program) (f:FuncId) (tys:List Ty) (ss:List Bool):Prop :=
 ∃ (cx:Ctx) (d:Nat),GoodCtx P cx∧∀ y:Dens tys,fineAll tys y→callN cx P d f (argAVs ss tys y) [] 0 (finK ⟨none,none,[],resAV [(false,.bool)] (true,())⟩)
theorem law_row {p:Pinned} {s:ChangeSpec} {c:OpenClaim} (f:FuncId) (fn:Func) (tys:List Ty) (ss:List Bool) (tb:TypeId)
 (hn:c.program=p.name) (hs:c.sum=p.sum) (hsp:c.spec=s.name)
 (hstart:c.start=.entering) (hout:c.outside=[]) (hin:c.inits=[]) (hun:c.under=none) (hi4:c.initsInPlace=[]∧c.initsUnfollowed=false∧c.initsRecurse=false∧c.initsNamed=[]∧c.initsPassed=[]) (hnb:c.noBlocks=false) (hlv:c.leaving=false) (hfo:c.followed=none) (hnar:c.narrowed=false) (hstill:c.still=false)
 (hfn:p.checked.prog.funcNamed c.func=some f) (hf:p.checked.prog.funcs[f]?=some fn)
 (closed:joinedFacts p.checked.prog f fn s c=true)
 (hinst:fn.isInstance p.checked.prog c.origin c.targs) (hwrap:fn.isWrapper p.checked.prog c.wrapper c.mainSum)
 (hcell:c.assume={}∧c.domain=[]∧c.apart=false∧c.fresh=true∧c.handsOn=false∧c.again=false)
 (hpre:∀ (H:Type) (enc:TypeId × Value→H),c.pre enc p.checked.prog fn (OpenSpec.ofChange s)=s.pre6 enc p.checked.prog fn [] false)
 (own:ownKnob p.checked.prog.godebug=none) (noInit:p.checked.prog.inits.idxOf? f=none)
 (witness:∀ (os:Os) (H:Type) (en:TypeId × Value→H),∃ (w:World) (tape:Tape) (i:Input),w.os=os∧(w.forCall tape i).Shaped p.checked.prog∧i.vars=[]∧Input.okWide p.checked.prog (w.forCall tape i) .any w.heap.size f i ∧
   s.pre6 en p.checked.prog fn [] false (w.forCall tape i).memory i.args∧({}:Assume).holds p.checked.prog (lone (Frame.enter p.checked.prog f i.args .normal) [] (w.forCall tape i)))
 (hl:laidOutB p.checked.prog=true) (hts:fn.params.toList.all (fun t=>p.checked.prog.readableRec t && Nat.blt t p.checked.prog.types.size)=true) (hfit:fitsAll p.checked.prog tys fn.params.toList=true) (hss:fn.params.toList.map (isStruct p.checked.prog)=ss)
 (hv:s.vars=[]) (hsd:∀ (H:Type) (ds:List (DataW H)),ds.length=tys.length→(s.fn H ds).results=[.lit (.bool true)]∧(s.fn H ds).args=ds∧(s.fn H ds).vars=[])
 (hr:fn.resultTypes=#[tb]) (ht:p.checked.prog.underlying tb=some .bool) (hb:fn.body.isSome=true∧(fn.name == "runtime.NumGoroutine")=false)
 (h:LawOk p.checked.prog f tys ss):c.holds p (OpenSpec.ofChange s):=by
 obtain ⟨cx,d,hcx,h⟩:=h
 refine OpenClaim.holds_of_wide f fn hn hs hsp hstart hout hin hun hi4 hnb hlv hfo hnar hstill hfn hf closed hinst hwrap fun os started H enc _=>?_
 rw [hpre H enc,hcell.1,hcell.2.2.1,hcell.2.2.2.1,hcell.2.2.2.2.1,hcell.2.2.2.2.2]
 exact law_lifted cx d tys ss hcx own started noInit hf (witness os H enc) hl hts hfit hss hv (hsd H) hr ht hb h
end Go.Sx
