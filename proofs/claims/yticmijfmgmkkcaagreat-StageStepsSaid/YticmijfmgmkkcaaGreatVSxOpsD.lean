import Derived.Test.YticmijfmgmkkcaaGreatVSxOpsC
set_option linter.unusedSimpArgs false
set_option linter.unusedVariables false
set_option maxRecDepth 100000
namespace Go.Sx
open Go.RowKit
def Env.base (w:World) (F0:Nat→Nat→Prop):Env:=⟨w,w.heap.size,F0,fun _=>none,fun _=>False,fun _=>False,fun _=>False,fun _ _=>none,w.heap.size,fun _=>False⟩
def Env.aft (w w':World) (F0:Nat→Nat→Prop) (m:Nat) (hd:Nat→Option Hdr) (kd:Nat→Nat→Option (Option Hdr)):Env:=⟨w',w.heap.size,F0,hd,fun id=>id < m,fun id=>id < m,fun id=>id < m,kd,w.heap.size,fun _=>False⟩
def CallPost (w:World) (F0:Nat→Nat→Prop) (r:CR) (e:Ending) (w':World):Prop :=
 OptP r.given∧∃ v hd kd,e=.returned v∧Below w.heap.size w w'∧RdA (Env.aft w w' F0 r.news.length hd kd) v r.res ∧
  (∀ (j:Nat) ob,r.news[j]?=some ob→OkOb (Env.aft w w' F0 r.news.length hd kd) j ob) ∧
  (∀ j h,j < r.news.length→hd j=some h→w.heap.size≤h.blk∧h.blk < w'.heap.size) ∧
  (∀ j j' h h',j < r.news.length→j' < r.news.length→hd j=some h→hd j'=some h'→j≠j'→h.blk≠h'.blk)
structure GoodC (P:Program) (g:FuncId) (C:Ctr):Prop where
 fn:∃ fn,P.funcs[g]?=some fn∧fn.body.isSome=true∧(fn.name == "runtime.NumGoroutine")=false
 gen:∀ args r,C args=some r→∀ k,r.gen k→k r.cr.res
 calls:∀ args r gen,C args=some ⟨r,gen⟩→OptP r.need→∀ (w:World) (F0:Nat→Nat→Prop) (vs:Array Value),(∀ b o,F0 b o→b < w.heap.size)→vs.size=args.length →
  (∀ (i:Nat) v x,vs[i]?=some v→args[i]?=some x→RdA (Env.base w F0) v x)→Calls P g vs w (CallPost w F0 r)
def GoodCtx (P:Program) (cx:Ctx):Prop:=∀ g s C,lookL cx.tab g=some (s,C)→GoodC P g C
mutual
theorem fit_ok {E:Env}:∀ (s:Sh) (x:AV) {v:Value},RdA E v x→RdA E v (fit s x)
 | .any,x,v,h=>by unfold fit;exact h
 | .ints t,x,v,h=>by
  unfold fit
  split
  ·obtain ⟨_,rfl⟩:=h.cap0_inv;exact .sl _ _ _ (.sl0 _ _ _)
  ·obtain ⟨_,_,rfl⟩:=h.nils_inv;exact .sl _ _ _ (.sl0 _ _ _)
  ·rename_i he;cases he
  ·rename_i he;cases he
  ·exact h
 | .agg l,x,v,h=>by
  cases x with
  | agg cs =>
   obtain ⟨vs,rfl,h1,h2,h3⟩:=h.agg_inv
   obtain ⟨g1,g2⟩:=fitL_ok (E:=E) l cs
   exact .agg vs _ (by rw [h1,g1]) h2 fun i u y hu hy=>g2 i u y (fun x hx=>h3 i u x hu hx) hy
  | tup cs =>
   have ⟨vs,hv,h1,h3⟩ : ∃ vs:Array Value,v=.tuple vs∧vs.size=cs.length∧∀ (i:Nat) u x,vs[i]?=some u→cs[i]?=some x→RdA E u x:=match h with | .tup vs _ h1 h2=>⟨vs,rfl,h1,h2⟩
   subst hv
   obtain ⟨g1,g2⟩:=fitL_ok (E:=E) l cs
   exact .tup vs _ (by rw [h1,g1]) fun i u y hu hy=>g2 i u y (fun x hx=>h3 i u x hu hx) hy
  | _=>unfold fit;exact h
theorem fitL_ok {E:Env}:∀ (ss:List Sh) (l:List AV),l.length=(fitL ss l).length∧∀ (i:Nat) (u:Value) (y:AV),(∀ x,l[i]?=some x→RdA E u x)→(fitL ss l)[i]?=some y→RdA E u y
 | [],l=>⟨by cases l <;> rfl,fun i u y h hy=>h y (by cases l <;> exact hy)⟩
 | s :: ss,[]=>⟨rfl,fun i u y h hy=>by simp [fitL] at hy⟩
 | s :: ss,x :: l=>by
  obtain ⟨g1,g2⟩:=fitL_ok (E:=E) ss l
  refine ⟨by simp [fitL,← g1],fun i u y h hy=>?_⟩
  cases i with
  | zero =>
   simp only [fitL,List.getElem?_cons_zero,Option.some.injEq] at hy
   subst hy
   exact fit_ok s x (h x rfl)
  | succ i=>exact g2 i u y (fun x hx=>h x (by simpa using hx)) (by simpa [fitL] using hy)
end
section
variable {P:Program} {cx:Ctx} {E:Env} {a:Act} {e:Operand→AV} {H:List Ob} {n:Nat} {r:Res}
 {dst:Option Tmp} {ty:TypeId} {pos:String} {after:Array Go.Edge} {guard:Option (Nat × Bool)} {wn:Nat→Prop} {K:Act→World→Prop} {Q:Exit→Act→World→Prop} {ro:Option Nat}
theorem base_fz {w:World} {F:Nat→Nat→Prop} {b o:Nat} (hb:b < w.heap.size) (h:F b o):(Env.base w F).Fz b o:=.inl ⟨hb,h⟩
theorem up_down {p:PV} {E':Env} {v:Value} (h:RdP E'.w E'.Fz v p):RdA E' v (up p):=.up h
theorem rowsP_ok {w:World} {F:Nat→Nat→Prop} {t:Ty}:∀ {ps:List PV} {xss:List (List t.den)},rowsP t ps=some xss→ps.length=xss.length ∧
 ∀ (i:Nat) p xs v,ps[i]?=some p→xss[i]?=some xs→RdP w F v p→RdP w F v (.sl t xs)
 | [],xss,h=>by
  cases h
  exact ⟨rfl,fun i p xs v hp=>by simp at hp⟩
 | .nils :: l,xss,h=>by
  simp only [rowsP,Option.map_eq_some_iff] at h
  obtain ⟨ys,h1,rfl⟩:=h
  obtain ⟨g1,g2⟩:=rowsP_ok (w:=w) (F:=F) h1
  refine ⟨by simp [g1],fun i p xs v hp hx hv=>?_⟩
  cases i with
  | zero =>
   simp only [List.getElem?_cons_zero,Option.some.injEq] at hp hx
   subst hp;subst hx
   cases hv
   exact .sl0 _ _ _
  | succ i=>exact g2 i p xs v (by simpa using hp) (by simpa using hx) hv
 | .sl t' ys :: l,xss,h=>by
  simp only [rowsP] at h
  split at h
  ·rename_i zs hz
   simp only [Option.map_eq_some_iff] at h
   obtain ⟨us,h1,rfl⟩:=h
   obtain ⟨g1,g2⟩:=rowsP_ok (w:=w) (F:=F) h1
   refine ⟨by simp [g1],fun i p xs v hp hx hv=>?_⟩
   cases i with
   | zero =>
    simp only [List.getElem?_cons_zero,Option.some.injEq] at hp hx
    subst hp;subst hx
    obtain ⟨e,he⟩:=castL_some hz
    subst e
    subst he
    exact hv
   | succ i=>exact g2 i p xs v (by simpa using hp) (by simpa using hx) hv
  ·cases h
 | .int _ _ :: _,_,h=>by simp [rowsP] at h
 | .bool _ :: _,_,h=>by simp [rowsP] at h
 | .str _ :: _,_,h=>by simp [rowsP] at h
 | .val _ :: _,_,h=>by simp [rowsP] at h
theorem flat_rows (t:Ty):∀ xss:List (List t.den),flat (.sl t) xss=xss.map (PV.sl t)
 | []=>rfl
 | x :: xs=>by
  have h:=flat_rows t xs
  unfold flat at h ⊢
  rw [List.flatMap_cons,h]
  rfl
theorem lower_csl (hL:∀ id,E.A id→getOb H id≠.dead→E.L id) (hH:∀ id,E.L id→getOb H id≠.dead→OkOb E id (getOb H id)) {ids':List Nat} {v:Value} {t:Ty} {id m:Nat} (hx:RdA E v (.csl t id m))
 {x':AV} {ids:List Nat} (h:lowerArg H (.csl t id m)=some (x',ids)) (hsub:∀ id∈ids,id∈ids'):∃ xss:List (List t.den),x'=.sl (.sl t) xss∧RdP E.w (FF E ids') v (.sl (.sl t) xss):=by
 simp only [lowerArg] at h
 split at h
 ·rename_i cs hob
  split at h
  ·rename_i hm
   split at h
   ·rename_i ps l hd
    split at h
    ·rename_i xss hr
     cases h
     refine ⟨xss,rfl, ?_⟩
     simp only [Bool.and_eq_true] at hm
     have hm':=Nat.eq_of_beq_eq_true hm.1
     have hm2:=Nat.le_of_ble_eq_true hm.2
     obtain ⟨hA,h1,hp⟩:=hx.csl_inv
     have hne:getOb H id≠.dead:=by rw [hob];simp
     have hl:=hL id hA hne
     have hok:=hH id hl hne
     rw [hob] at hok
     obtain ⟨hd',hρ,arr,el,g1,g2,g3⟩:=hok
     obtain ⟨hd'',hρ',hv⟩:=hp hl
     rw [hρ] at hρ'
     cases hρ'
     have hcl:CellL E arr.toList cs:=⟨by simpa using g2,fun i u y hu hy=>g3 i u y (by simpa using hu) hy⟩
     obtain ⟨d1,d2⟩:=downL_ok (ids':=ids') hL hH hcl hd (fun i hi=>hsub i (by simp [hi]))
     obtain ⟨r1,r2⟩:=rowsP_ok (w:=E.w) (F:=FF E ids') hr
     subst hv
     have hlen:xss.length=m:=by
      have:arr.toList.length=ps.length:=d1
      rw [Array.length_toList] at this
      omega
     by_cases h0:m=0
     ·subst h0
      have:xss=[]:=List.eq_nil_of_length_eq_zero hlen
      subst this
      exact .sl0 _ _ _
     ·refine .sl hd'.blk 0 m m (.sl t) xss (fun j=>(arr[j]?).getD undef) hlen.symm (Nat.le_refl _) ?_ (fun j hj=>?_) (fun j p hp=>?_)
      ·exact Nat.le_trans hm2 (by decide)
      ·have hj':j < m:=by
        have:=flat_rows t xss
        rw [this,List.length_map] at hj
        omega
       have hlt:j < arr.size:=by omega
       refine ⟨.inr ⟨id,hsub id (by simp),hl,.inl ⟨hd',hρ,rfl⟩⟩, ?_⟩
       rw [Nat.zero_add]
       simp [World.cell?,g1,hlt]
      ·rw [flat_rows,List.getElem?_map,Option.map_eq_some_iff] at hp
       obtain ⟨xs,hxs,rfl⟩:=hp
       have hj:j < xss.length:=(List.getElem?_eq_some_iff.1 hxs).1
       have hjp:j < ps.length:=by omega
       have hja:j < arr.toList.length:=by rw [d1];exact hjp
       have hv:=List.getElem?_eq_getElem hja
       have:=(d2 j _ _ hv (List.getElem?_eq_getElem hjp)).2
       have h2:=r2 j _ _ _ (List.getElem?_eq_getElem hjp) hxs this
       have e:(arr[j]?).getD undef=arr.toList[j]:=by
        have hlt:j < arr.size:=by simpa using hja
        simp [hlt]
       rw [e]
       exact h2
    ·cases h
   ·cases h
  ·cases h
 ·cases h
theorem lowerArg_ok (hL:∀ id,E.A id→getOb H id≠.dead→E.L id) (hH:∀ id,E.L id→getOb H id≠.dead→OkOb E id (getOb H id)) {F:Nat→Nat→Prop} {ids':List Nat} (hF:∀ b o,FF E ids' b o→F b o∧b < E.w.heap.size) {v:Value} {x:AV} (hx:RdA E v x) :
 ∀ (x':AV) (ids:List Nat),lowerArg H x=some (x',ids)→(∀ id∈ids,id∈ids')→RdA (Env.base E.w F) v x':=by
 have toB:∀ {v p},RdP E.w (FF E ids') v p→RdP E.w (Env.base E.w F).Fz v p:=fun h=>h.monoF fun b o hb=>base_fz (hF b o hb).2 (hF b o hb).1
 have toB':∀ {v p},RdP E.w E.Fz v p→RdP E.w (Env.base E.w F).Fz v p:=fun h=>toB (h.monoF fun b o hb=>.inl hb)
 have ffid:∀ {id:Nat} {hd:Hdr},id∈ids'→E.L id→E.ρ id=some hd→∀ o,(Env.base E.w F).Fz hd.blk o:=fun hid hl hρ o =>
  base_fz (hF _ o (.inr ⟨_,hid,hl,.inl ⟨_,hρ,rfl⟩⟩)).2 (hF _ o (.inr ⟨_,hid,hl,.inl ⟨_,hρ,rfl⟩⟩)).1
 induction hx with
 | int k m=>intro x' ids h _;simp only [lowerArg,Option.some.injEq,Prod.mk.injEq] at h;obtain ⟨rfl,_⟩:=h;exact .int _ _
 | bool b=>intro x' ids h _;simp only [lowerArg,Option.some.injEq,Prod.mk.injEq] at h;obtain ⟨rfl,_⟩:=h;exact .bool _
 | str s=>intro x' ids h _;simp only [lowerArg,Option.some.injEq,Prod.mk.injEq] at h;obtain ⟨rfl,_⟩:=h;exact .str _
 | val v h1=>intro x' ids h _;simp only [lowerArg,Option.some.injEq,Prod.mk.injEq] at h;obtain ⟨rfl,_⟩:=h;exact .val _ h1
 | nils b c=>intro x' ids h _;simp only [lowerArg,Option.some.injEq,Prod.mk.injEq] at h;obtain ⟨rfl,_⟩:=h;exact .nils _ _
 | cap0 b=>intro x' ids h _;simp only [lowerArg,Option.some.injEq,Prod.mk.injEq] at h;obtain ⟨rfl,_⟩:=h;exact .cap0 _
 | sl v t xs h1=>intro x' ids h _;simp only [lowerArg,Option.some.injEq,Prod.mk.injEq] at h;obtain ⟨rfl,_⟩:=h;exact .sl _ _ _ (toB' h1)
 | mp v id _ _ _=>intro x' ids h _;simp [lowerArg] at h
 | any v=>intro x' ids h _;simp [lowerArg] at h
 | tup vs xs hv _ ih=>intro x' ids h _;simp [lowerArg] at h
 | when v c s w x _ _ _=>intro x' ids h _;simp [lowerArg] at h
 | yld=>intro x' ids h _;simp [lowerArg] at h
 | grow=>intro x' ids h _;simp [lowerArg] at h
 | gptr=>intro x' ids h _;simp [lowerArg] at h
 | slf t xs ba h1=>intro x' ids h _;simp only [lowerArg,Option.some.injEq,Prod.mk.injEq] at h;obtain ⟨rfl,_⟩:=h;exact .sl _ _ _ (toB' h1)
 | ownc v id k lo m hA h1 hp =>
  intro x' ids h hsub
  simp only [lowerArg,Option.map_eq_some_iff,Prod.mk.injEq,Prod.exists] at h
  obtain ⟨p,l,h2,rfl,rfl⟩:=h
  exact up_down (E':=Env.base E.w F) (toB (down_ok hL hH (.ownc v id k lo m hA h1 hp) h2 hsub))
 | own v id hA h1 hp =>
  intro x' ids h hsub
  simp only [lowerArg,Option.map_eq_some_iff,Prod.mk.injEq,Prod.exists] at h
  obtain ⟨p,l,h2,rfl,rfl⟩:=h
  exact up_down (E':=Env.base E.w F) (toB (down_ok hL hH (.own v id hA h1 hp) h2 hsub))
 | ownp v id k lo m hA h1 hp =>
  intro x' ids h hsub
  simp only [lowerArg,Option.map_eq_some_iff,Prod.mk.injEq,Prod.exists] at h
  obtain ⟨p,l,h2,rfl,rfl⟩:=h
  exact up_down (E':=Env.base E.w F) (toB (down_ok hL hH (.ownp v id k lo m hA h1 hp) h2 hsub))
 | dmp b es ms clock hB hb hh hsz hes=>intro x' ids h hsub;simp [lowerArg] at h
 | csl v t id m hA h1 hp =>
  intro x' ids h hsub
  obtain ⟨y,hy⟩:=lower_csl hL hH (ids':=ids') (.csl v t id m hA h1 hp) h hsub
  obtain ⟨rfl,hy⟩:=hy
  exact up_down (E':=Env.base E.w F) (p:=.sl _ _) (toB hy)
 | ptr v id off hA h1 hp =>
  intro x' ids h hsub
  simp only [lowerArg] at h
  split at h
  ·rename_i cs hob
   split at h
   ·rename_i ps l hd
    simp only [Option.some.injEq,Prod.mk.injEq] at h
    obtain ⟨rfl,rfl⟩:=h
    have hne:getOb H id≠.dead:=by rw [hob];simp
    have hl:=hL id hA hne
    have hok:=hH id hl hne
    rw [hob] at hok
    obtain ⟨hd',hρ,arr,el,g1,g2,g3⟩:=hok
    obtain ⟨hd'',hρ',hv⟩:=hp hl
    rw [hρ] at hρ'
    cases hρ'
    have hcl:CellL E (arr.toList.drop off) (cs.drop off):=by
     refine ⟨by simp [g2],fun i u y hu hy=>?_⟩
     rw [List.getElem?_drop] at hu hy
     exact g3 _ u y (by simpa using hu) hy
    obtain ⟨d1,d2⟩:=downL_ok (ids':=ids') hL hH hcl hd (fun i hi=>hsub i (by simp [hi]))
    subst hv
    refine .eptr hd'.blk off ps (fun j=>(arr[off+j]?).getD undef) (fun j hj=>⟨ffid (hsub id (by simp)) hl hρ _, ?_⟩) (fun j p hp=>?_)
    ·have hlt:off+j < arr.size:=by
      rw [← d1] at hj
      simp only [List.length_drop,Array.length_toList] at hj
      omega
     simp [World.cell?,g1,hlt,Env.base]
    ·have hlt:j < (arr.toList.drop off).length:=by rw [d1];exact (List.getElem?_eq_some_iff.1 hp).1
     have hu:(arr.toList.drop off)[j]?=some ((arr.toList.drop off)[j]):=List.getElem?_eq_getElem hlt
     have h3:=(d2 j _ p hu hp).2
     rw [List.getElem?_drop] at hu
     have h4:(arr[off+j]?).getD undef=(arr.toList.drop off)[j]:=by
      have:arr[off+j]?=some ((arr.toList.drop off)[j]):=by simp
      rw [this];rfl
     rw [h4]
     exact toB h3
   ·cases h
  ·cases h
 | rptr v id k row off hA h1 hp =>
  intro x' ids h hsub
  have key:∀ (t:Ty) (xs:List t.den),RowsAt E t xs (E.ρ id)→E.L id→(if k == t.size then some (AV.eptr ((enc t (xs.getD row (dflt t))).drop off),[id]) else none)=some (x',ids)→RdA (Env.base E.w F) v x':=by
   intro t xs hrow hl h
   split at h
   ·rename_i hk
    simp only [Option.some.injEq,Prod.mk.injEq] at h
    obtain ⟨rfl,rfl⟩:=h
    have hk':k=t.size:=by simpa using hk
    subst hk'
    obtain ⟨hd',hρ,hlt,hv⟩:=hp hl
    rw [hρ] at hrow
    obtain ⟨g1,g2,g3,g3',arr,el,g4,g5,g6⟩:=hrow
    subst hv
    have get:∀ (j:Nat) p,((enc t (xs.getD row (dflt t))).drop off)[j]?=some p→∃ u,arr[hd'.off+row * t.size+off+j]?=some u∧RdP E.w E.Fz u p:=by
     intro j p hp
     rw [List.getElem?_drop] at hp
     have:=flat_get t xs row (by omega) (dflt t) _ p hp
     obtain ⟨u,h2,h3⟩:=g6 _ p this
     exact ⟨u,by rw [← h2];congr 1;omega,h3⟩
    refine .eptr hd'.blk _ _ (fun j=>(arr[hd'.off+row * t.size+off+j]?).getD undef) (fun j hj=>⟨ffid (hsub id (by simp)) hl hρ _, ?_⟩) (fun j p hp=>?_)
    ·obtain ⟨u,h2,_⟩:=get j _ (List.getElem?_eq_getElem hj)
     simp [World.cell?,g4,h2,Env.base]
    ·obtain ⟨u,h2,h3⟩:=get j p hp
     have:(arr[hd'.off+row * t.size+off+j]?).getD undef=u:=by rw [h2];rfl
     rw [this]
     exact toB' h3
   ·cases h
  simp only [lowerArg] at h
  split at h
  ·rename_i t xs hob
   have hne:getOb H id≠.dead:=by rw [hob];simp
   have hl:=hL id hA hne
   have hok:=hH id hl hne
   rw [hob] at hok
   exact key t xs hok hl h
  ·rename_i t xs hob
   have hne:getOb H id≠.dead:=by rw [hob];simp
   have hl:=hL id hA hne
   have hok:=hH id hl hne
   rw [hob] at hok
   exact key t xs hok hl h
  ·cases h
 | eptr b o cs g hcell hrd =>
  intro x' ids h _
  simp only [lowerArg,Option.some.injEq,Prod.mk.injEq] at h
  obtain ⟨rfl,_⟩:=h
  refine .eptr b o cs g (fun j hj=>?_) (fun j p hp=>toB' (hrd j p hp))
  obtain ⟨h1,h2⟩:=hcell j hj
  exact ⟨base_fz (hF _ _ (.inl h1)).2 (hF _ _ (.inl h1)).1,h2⟩
 | agg vs xs hv h1 _ ih =>
  intro x' ids h hsub
  simp only [lowerArg] at h
  split at h
  ·rename_i l m hl
   simp only [Option.some.injEq,Prod.mk.injEq] at h
   obtain ⟨rfl,rfl⟩:=h
   have:=lowerArgs_get hl
   refine .agg vs l (by rw [hv,this.1]) h1 (fun i v y hv' hy=>?_)
   obtain ⟨x,ids2,h2,h3,h4⟩:=this.2 i y hy
   exact ih i v x hv' h2 y ids2 h3 (fun id hid=>hsub id (h4 id hid))
  ·cases h
 | fn f vs ws xs ys hv hw _ _ ih1 ih2 =>
  intro x' ids h hsub
  simp only [lowerArg] at h
  split at h
  ·rename_i l m l' m' hl hl'
   simp only [Option.some.injEq,Prod.mk.injEq] at h
   obtain ⟨rfl,rfl⟩:=h
   have t1:=lowerArgs_get hl
   have t2:=lowerArgs_get hl'
   refine .fn f vs ws l l' (by rw [hv,t1.1]) (by rw [hw,t2.1]) (fun i v y hv' hy=>?_) (fun i v y hv' hy=>?_)
   ·obtain ⟨x,ids2,h2,h3,h4⟩:=t1.2 i y hy
    exact ih1 i v x hv' h2 y ids2 h3 (fun id hid=>hsub id (by simp [h4 id hid]))
   ·obtain ⟨x,ids2,h2,h3,h4⟩:=t2.2 i y hy
    exact ih2 i v x hv' h2 y ids2 h3 (fun id hid=>hsub id (by simp [h4 id hid]))
  ·cases h
where
 lowerArgs_get {H:List Ob}:∀ {xs:List AV} {l:List AV} {m:List Nat},lowerArgs H xs=some (l,m)→xs.length=l.length∧∀ (i:Nat) y,l[i]?=some y→∃ x ids,xs[i]?=some x∧lowerArg H x=some (y,ids)∧∀ id∈ids,id∈m
  | [],l,m,h=>by
   simp only [lowerArgs,Option.some.injEq,Prod.mk.injEq] at h
   obtain ⟨rfl,rfl⟩:=h
   exact ⟨rfl,fun i y hy=>by simp at hy⟩
  | x :: xs,l,m,h=>by
   simp only [lowerArgs] at h
   split at h
   ·rename_i y ia ys ib h1 h2
    simp only [Option.some.injEq,Prod.mk.injEq] at h
    obtain ⟨rfl,rfl⟩:=h
    have ih:=lowerArgs_get h2
    refine ⟨by simp [ih.1],fun i z hz=>?_⟩
    match i,hz with
    | 0,hz=>cases hz;exact ⟨x,ia,rfl,h1,fun id hid=>by simp [hid]⟩
    | i+1,hz =>
     obtain ⟨x',ids,g1,g2,g3⟩:=ih.2 i z (by simpa using hz)
     exact ⟨x',ids,by simpa using g1,g2,fun id hid=>by simp [g3 id hid]⟩
   ·cases h
theorem shiftL_get (n:Nat):∀ (l:List AV),(shiftL n l).length=l.length∧∀ (i:Nat) x,l[i]?=some x→(shiftL n l)[i]?=some (shift n x)
 | []=>⟨rfl,fun i x h=>by simp at h⟩
 | y :: l=>by
  have ih:=shiftL_get n l
  refine ⟨by simp [shiftL,ih.1],fun i x h=>?_⟩
  match i,h with
  | 0,h=>cases h;rfl
  | i+1,h=>simpa [shiftL] using ih.2 i x (by simpa using h)
theorem fineResL_get:∀ {l:List AV} {i:Nat} {x:AV},fineResL l=true→l[i]?=some x→fineRes x=true
 | [],i,x,_,h=>by simp at h
 | y :: l,0,x,h,hx=>by cases hx;simp only [fineResL,Bool.and_eq_true] at h;exact h.1
 | y :: l,i+1,x,h,hx=>by simp only [fineResL,Bool.and_eq_true] at h;exact fineResL_get h.2 (by simpa using hx)
theorem plainResL_get {news:List Ob}:∀ {l:List AV} {i:Nat} {x:AV},plainResL news l=true→l[i]?=some x→plainRes news x=true
 | [],i,x,_,h=>by simp at h
 | y :: l,0,x,h,hx=>by cases hx;simp only [plainResL,Bool.and_eq_true] at h;exact h.1
 | y :: l,i+1,x,h,hx=>by simp only [plainResL,Bool.and_eq_true] at h;exact plainResL_get h.2 (by simpa using hx)
theorem callC_ok {g:FuncId} {args:List AV} {vs:Array Value} (hcx:GoodCtx P cx) (hr:Ready E n r.news.length) (hA:∃ N,∀ id,E.A id→id < N) (hL:∀ id,E.A id→getOb H id≠.dead→E.L id) (hH:∀ id,E.L id→getOb H id≠.dead→OkOb E id (getOb H id))
 (hn:OptP r.need) (hsz:vs.size=args.length) (hargs:∀ (i:Nat) v x,vs[i]?=some v→args[i]?=some x→RdA E v x) (h:callC cx H n g args=some r) :
 (∃ fn,P.funcs[g]?=some fn∧fn.body.isSome=true∧(fn.name == "runtime.NumGoroutine")=false) ∧
 Calls P g vs E.w (fun en w'=>OptP r.given∧∃ v E',en=.returned v∧E'.w=w'∧Ext E n r wn E'∧RdA E' v r.val):=by
 unfold callC at h
 split at h
 ·cases h
 ·rename_i shs C hC
  have hgood:=hcx g shs C hC
  refine ⟨hgood.fn, ?_⟩
  split at h
  ·cases h
  ·rename_i args' ids hlow
   split at h
   ·cases h
   ·rename_i cr _ hcr
    split at h
    ·rename_i hfine0
     simp only [Bool.and_eq_true] at hfine0
     obtain ⟨hfine,hfob⟩:=hfine0
     have main:∀ (F:Nat→Nat→Prop) (frz:List Nat),(∀ b o,FF E ids b o→F b o∧b < E.w.heap.size)→(∀ b o,F b o→b < E.w.heap.size)→r=⟨cr.need,cr.given,shift n cr.res,cr.news,none,none,frz⟩ →
      ((∀ b o,F b o→FF E frz b o)∨(plainRes cr.news cr.res=true∧cr.news.all flatOb=true)) →
      Calls P g vs E.w (fun en w'=>OptP r.given∧∃ v E',en=.returned v∧E'.w=w'∧Ext E n r wn E'∧RdA E' v r.val):=by
      intro F frz hF hFs h0 hmode
      subst h0
      have hla:=lowerArg_ok.lowerArgs_get hlow
      obtain ⟨fl1,fl2⟩:=fitL_ok (E:=Env.base E.w F) shs args'
      have hcalls:=hgood.calls (fitL shs args') cr _ hcr hn E.w F vs hFs (by rw [hsz,hla.1,fl1]) (fun i v x hv hx=>fl2 i v x (fun x' hx'=>by
       obtain ⟨y,ids2,h1,h2,h3⟩:=hla.2 i x' hx'
       exact lowerArg_ok hL hH hF (hargs i v y hv h1) x' ids2 h2 h3) hx)
      refine hcalls.mono fun en w' hpost=>?_
      obtain ⟨hgiven,v,hd,kd,he,hbelow,hres,hnews,hblk,htwo⟩:=hpost
      refine ⟨hgiven,v,E.ext n cr.news.length none frz wn w' hd,he,rfl, ?_, ?_⟩
      all_goals
       have hstep:Step E n ⟨cr.need,cr.given,shift n cr.res,cr.news,none,none,frz⟩ w' hd :=
        ⟨hbelow.mono hr.B,fun b hb _=>hbelow.block b hb,fun j h hj hh=>⟨(hblk j h hj hh).2,.inl (hblk j h hj hh).1⟩,htwo,fun _ hid=>by { cases hid },fun _ hp=>by { cases hp }⟩
       have hfz:(∀ b o,F b o→FF E frz b o)→∀ b o,(Env.aft E.w w' F cr.news.length hd kd).Fz b o→(E.ext n cr.news.length none frz wn w' hd).Fz b o∧w'.cell? ⟨b,o,none⟩=w'.cell? ⟨b,o,none⟩:=by
        intro hmode b o hb
        refine ⟨?_,rfl⟩
        rcases hb with ⟨h1,h2⟩ | ⟨h1,h2,h3,_⟩
        ·exact (hstep.ff (wn:=wn) hr rfl (fun p hp=>by cases hp) (hmode b o h2)).1
        ·refine .inr ⟨Nat.le_trans hr.B h1,h2,fun id hW ho=>?_,fun hh=>Nat.lt_irrefl _ (Nat.lt_of_lt_of_le (hr.hlt b hh) h1)⟩
         rcases Env.ext_own ho with ⟨hid,h,hρ,hb⟩ | ⟨hid,ho⟩
         ·exact h3 (id - n) (show id - n < cr.news.length by omega) (.inl ⟨h,hρ,hb⟩)
         ·rcases hW with ⟨hW,_⟩ | ⟨g1,g2,_⟩
          ·have:=(hr.ltO id b (hr.wl id hW) ho).2
           have h1':E.w.heap.size≤b:=h1
           omega
          ·exact absurd ⟨g1,g2⟩ hid
      ·refine hstep.ext (wn:=wn) hr hA (fun hevo j ob hj=>?_) (fun _ id ob h=>by cases h)
       have hlt:j < cr.news.length:=(List.getElem?_eq_some_iff.1 hj).1
       have hok:=hnews j ob hj
       have hρ:(E.ext n cr.news.length none frz wn w' hd).ρ (n+j)=hd j:=by
        simp only [Env.ext]
        rw [if_pos ⟨by omega,by omega⟩,Nat.add_sub_cancel_left]
       have rows:∀ (t:Ty) (xs:List t.den),t.flat=true∨(∀ b o,F b o→FF E frz b o)→RowsAt (Env.aft E.w w' F cr.news.length hd kd) t xs (hd j)→RowsAt (E.ext n cr.news.length none frz wn w' hd) t xs (hd j):=by
        intro t xs hor hrow
        cases hdj:hd j with
        | none=>rw [hdj] at hrow;exact hrow
        | some hh =>
         rw [hdj] at hrow
         obtain ⟨g1,g2,g3,g3',arr,el,g4,g5,g6⟩:=hrow
         refine ⟨g1,g2,g3,g3',arr,el,g4,g5,fun i p hp=>?_⟩
         obtain ⟨u,h1,h2⟩:=g6 i p hp
         refine ⟨u,h1, ?_⟩
         rcases hor with hor | hor
         ·exact flat_rd hor hp h2
         ·exact h2.mono (hfz hor)
       cases ob with
       | dead=>exact hok
       | cells cs =>
        have:=List.all_eq_true.1 hfob _ (List.mem_of_getElem? hj)
        simp [fineOb] at this
       | fmap es =>
        have:=List.all_eq_true.1 hfob _ (List.mem_of_getElem? hj)
        simp [fineOb] at this
       | rows t xs =>
        show RowsAt _ t xs _
        rw [hρ]
        refine rows t xs ?_ hok
        rcases hmode with hm | ⟨_,hm⟩
        ·exact .inr hm
        ·have:=List.all_eq_true.1 hm _ (List.mem_of_getElem? hj)
         exact .inl this
       | froz t xs =>
        have:=List.all_eq_true.1 hfob _ (List.mem_of_getElem? hj)
        simp [fineOb] at this
       | grid t m xss =>
        have:=List.all_eq_true.1 hfob _ (List.mem_of_getElem? hj)
        simp [fineOb] at this
       | loop a1 a2 a3 a4 a5 a6 =>
        have:=List.all_eq_true.1 hfob _ (List.mem_of_getElem? hj)
        simp [fineOb] at this
      ·have hfine':(∀ b o,F b o→FF E frz b o)∧fineRes cr.res=true∨plainRes cr.news cr.res=true:=by
        rcases hmode with hm | ⟨hm,_⟩
        ·exact .inl ⟨hm,hfine⟩
        ·exact .inr hm
       show RdA _ v (shift n cr.res)
       clear hcr hfine hmode hcalls he
       generalize hres':cr.res=x at hres hfine'
       clear hres'
       induction hres with
       | int k m=>exact .int _ _
       | bool b=>exact .bool _
       | str s=>exact .str _
       | nils b c=>exact .nils _ _
       | cap0 b=>exact .cap0 _
       | val v h1=>exact .val _ h1
       | sl v t xs h1 =>
        rcases hfine' with ⟨hm,_⟩ | hm
        ·exact .sl _ _ _ (h1.mono (hfz hm))
        ·simp [plainRes] at hm
       | own v id hA' h1 hp =>
        refine .own _ (n+id) (.inr ⟨by omega,by have:id < cr.news.length:=hA';omega⟩) h1 fun _=>?_
        have hρ:(E.ext n cr.news.length none frz wn w' hd).ρ (n+id)=hd id:=by
         have:id < cr.news.length:=hA'
         simp only [Env.ext]
         rw [if_pos ⟨by omega,by omega⟩,Nat.add_sub_cancel_left]
        rw [hρ]
        exact hp hA'
       | agg us xs hv h1 _ ih =>
        have hs:=shiftL_get n xs
        refine .agg us (shiftL n xs) (by rw [hv,hs.1]) h1 (fun i u y hu hy=>?_)
        have hlt:i < xs.length:=by rw [← hs.1];exact (List.getElem?_eq_some_iff.1 hy).1
        have hxi:xs[i]?=some xs[i]:=List.getElem?_eq_getElem hlt
        have:=hs.2 i _ hxi
        rw [this] at hy
        cases hy
        refine ih i u _ hu hxi ?_
        rcases hfine' with ⟨hm,hf⟩ | hm
        ·exact .inl ⟨hm,fineResL_get (l:=xs) (by simpa [fineRes] using hf) hxi⟩
        ·exact .inr (plainResL_get (l:=xs) (by simpa [plainRes] using hm) hxi)
       | tup us xs hv _ ih =>
        have hs:=shiftL_get n xs
        refine .tup us (shiftL n xs) (by rw [hv,hs.1]) (fun i u y hu hy=>?_)
        have hlt:i < xs.length:=by rw [← hs.1];exact (List.getElem?_eq_some_iff.1 hy).1
        have hxi:xs[i]?=some xs[i]:=List.getElem?_eq_getElem hlt
        have:=hs.2 i _ hxi
        rw [this] at hy
        cases hy
        refine ih i u _ hu hxi ?_
        rcases hfine' with ⟨hm,hf⟩ | hm
        ·exact .inl ⟨hm,fineResL_get (l:=xs) (by simpa [fineRes] using hf) hxi⟩
        ·exact .inr (plainResL_get (l:=xs) (by simpa [plainRes] using hm) hxi)
       | any v=>exact .any _
       | eptr b o cs g hcell hrd =>
        rcases hfine' with ⟨hm,_⟩ | hm
        ·exact .eptr b o cs g (fun j hj=>⟨(hfz hm b (o+j) (hcell j hj).1).1,(hcell j hj).2⟩) (fun j p hp=>(hrd j p hp).mono (hfz hm))
        ·simp [plainRes] at hm
       | fn f us ws xs ys hv hw h1 h2 ih1 ih2 =>
        rcases hfine' with ⟨hm,hf⟩ | hm
        ·simp only [fineRes,Bool.and_eq_true] at hf
         refine .fn f us ws xs ys hv hw (fun i u x hu hx=>?_) (fun i u x hu hx=>?_)
         ·have he:=List.all_eq_true.1 hf.1 x (List.mem_of_getElem? hx)
          cases x with
          | eptr cs=>exact ih1 i u _ hu hx (.inl ⟨hm,by simp [fineRes]⟩)
          | _=>simp [eptrB] at he
         ·have he:=List.all_eq_true.1 hf.2 x (List.mem_of_getElem? hx)
          cases x with
          | eptr cs=>exact ih2 i u _ hu hx (.inl ⟨hm,by simp [fineRes]⟩)
          | _=>simp [eptrB] at he
        ·simp [plainRes] at hm
       | dmp b es ms clock hB hb hh hsz hes =>
        have h1:E.w.heap.size≤b:=hB
        refine .dmp b es ms clock (Nat.le_trans hr.B h1) ⟨hb.1,fun id hW ho=>?_,fun hh=>Nat.lt_irrefl _ (Nat.lt_of_lt_of_le (hr.hlt b hh) h1)⟩ hh hsz hes
        rcases Env.ext_own ho with ⟨hid,h,hρ,hbb⟩ | ⟨hid,ho⟩
        ·exact hb.2.1 (id - n) (show id - n < cr.news.length by omega) (.inl ⟨h,hρ,hbb⟩)
        ·rcases hW with ⟨hW,_⟩ | ⟨g1,g2,_⟩
         ·have:=(hr.ltO id b (hr.wl id hW) ho).2
          omega
         ·exact absurd ⟨g1,g2⟩ hid
       | _=>rcases hfine' with ⟨_,hf⟩ | hm <;> simp_all [fineRes,plainRes]
     have hffs:∀ b o,FF E ids b o→b < E.w.heap.size:=by
      intro b o hb
      rcases hb with (⟨h1,_⟩ | ⟨_,h1,_⟩) | ⟨id,_,hl,ho⟩
      ·exact Nat.lt_of_lt_of_le h1 hr.B
      ·exact h1
      ·exact (hr.ltO id b hl ho).2
     split at h
     ·rename_i hplain
      simp only [Bool.and_eq_true] at hplain
      exact main (fun b _=>b < E.w.heap.size) [] (fun b o hb=>⟨hffs b o hb,hffs b o hb⟩) (fun b o hb=>hb) (Option.some.inj h).symm (.inr hplain)
     ·exact main (FF E ids) ids (fun b o hb=>⟨hb,hffs b o hb⟩) hffs (Option.some.inj h).symm (.inl fun _ _ hb=>hb)
    ·cases h
end
end Go.Sx
