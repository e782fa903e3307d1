import Derived.Test.YticmijfmgmkkcaaGreatVSxCode
set_option linter.unusedSimpArgs false
set_option linter.unusedVariables false
set_option maxRecDepth 100000
namespace Go.Sx
open Go.RowKit
def Env.give (E:Env) (ids:List Nat):Env:={ E with W:=fun id=>E.W id∧id ∉ ids }
section
variable {P:Program} {cx:Ctx} {E:Env} {H:List Ob} {n:Nat} {ids:List Nat}
theorem give_nb {b:Nat} (h:E.Nb b):(E.give ids).Nb b:=⟨h.1,fun id hW=>h.2.1 id hW.1,h.2.2⟩
theorem give_fz {b o:Nat} (h:E.Fz b o):(E.give ids).Fz b o:=by
 rcases h with h | ⟨h1,h2⟩
 ·exact .inl h
 ·exact .inr ⟨h1,give_nb h2⟩
theorem give_evo (n0:Nat):Evo n0 E (E.give ids):=⟨rfl,rfl,rfl,Below.refl _ _,fun _ _ h=>h,fun _ _ _ h=>⟨h,rfl⟩,fun _ _ _ _ _ _ h=>h,fun _ h=>⟨give_nb h,rfl⟩,rfl,fun _ _=>rfl⟩
theorem EnvOk.give (hE:EnvOk E H n):EnvOk (E.give ids) (frzAll ids H) n:=by
 refine ⟨by rw [(frzAll_get ids H 0).2.2];exact hE.len,hE.ns,fun id hne=>?_,fun id hw=>?_,fun id hl hne=>?_,hE.sub,fun id hw=>hE.wl id hw.1,hE.injO,hE.ltO,hE.f0,hE.B,hE.hid,hE.hlt⟩
 ·refine hE.live id fun hd=>hne ?_
  have:=(frzAll_get ids H id).1
  rw [hd] at this
  exact this.dead
 ·exact ⟨hE.wr id ((frzAll_get ids H id).1.wr hw),fun hm=>(frzAll_get ids H id).2.1 hm hw⟩
 ·have hf:=(frzAll_get ids H id).1
  have hne':getOb H id≠.dead:=fun hd=>hne (by rw [hd] at hf;exact hf.dead)
  exact hf.ok hne (OkOb.mono (give_evo n) hE.ns (hE.sub id hl) hl rfl (fun _ _=>rfl) (hE.ok id hl hne'))
theorem frVL_get:∀ (l:List AV),(frVL ids H l).length=l.length∧∀ (i:Nat) y,(frVL ids H l)[i]?=some y→∃ x,l[i]?=some x∧y=frV ids H x
 | []=>⟨rfl,fun i y h=>by simp [frVL] at h⟩
 | x :: l=>by
  have ih:=frVL_get l
  refine ⟨by simp [frVL,ih.1],fun i y h=>?_⟩
  cases i with
  | zero=>simp only [frVL,List.getElem?_cons_zero,Option.some.injEq] at h;exact ⟨x,rfl,h.symm⟩
  | succ i =>
   simp only [frVL,List.getElem?_cons_succ] at h
   obtain ⟨z,h1,h2⟩:=ih.2 i y h
   exact ⟨z,by simpa using h1,h2⟩
theorem frOne_ok (hE:EnvOk E H n) {v:Value} {x:AV} (h:RdA E v x):RdA (E.give ids) v (frOne ids H x):=by
 unfold frOne
 split
 ·rename_i p l hd
  split
  ·rename_i hall
   refine .up ((down_ok (fun id _ hne=>hE.live id hne) (fun id hl hne=>hE.ok id hl hne) h hd (fun id hid=>hid)).monoF fun b o hb=>?_)
   rcases hb with hb | ⟨id2,hid2,hl2,ho2⟩
   ·exact give_fz hb
   ·have hid3:id2∈ids:=by simpa using List.all_eq_true.1 hall id2 hid2
    obtain ⟨g1,g2⟩:=hE.ltO id2 b hl2 ho2
    refine .inr ⟨g1,g2,fun id3 hW3 ho3=>?_,hE.hid id2 b hl2 ho2⟩
    have e:=hE.injO id3 id2 b (hE.wl id3 hW3.1) hl2 ho3 ho2
    subst e
    exact hW3.2 hid3
  ·exact h.mono (give_evo n) hE.ns
 ·exact h.mono (give_evo n) hE.ns
theorem plainE_get:∀ {es:List (Int × AV)} {es':List (Int × List (Option PV))},plainE es=some es'→es.length=es'.length ∧
 ∀ (i:Nat) p',es'[i]?=some p'→∃ cs,es[i]?=some (p'.1,.agg cs)∧p'.2=cs.map plainC
 | [],es',h=>by cases h;exact ⟨rfl,fun i p' h=>by simp at h⟩
 | (p,x) :: es,es',h=>by
  unfold plainE at h
  split at h
  ·rename_i heq;cases heq
  ·rename_i p0 cs l heq
   cases heq
   split at h
   ·rename_i r hr
    cases h
    obtain ⟨g1,g2⟩:=plainE_get hr
    refine ⟨by simp [g1],fun i p' hp=>?_⟩
    cases i with
    | zero=>cases hp;exact ⟨cs,rfl,rfl⟩
    | succ i=>simpa using g2 i p' (by simpa using hp)
   ·cases h
  ·cases h
theorem FlatRd.of {v:Value} {cs:List AV} (h:RdA E v (.agg cs)):FlatRd v (cs.map plainC):=by
 obtain ⟨vs,rfl,h1,h2,h3⟩:=h.agg_inv
 refine ⟨vs,rfl,by rw [h1];simp,h2,fun i u p hu hp=>?_⟩
 rw [List.getElem?_map,Option.map_eq_some_iff] at hp
 obtain ⟨x,hx,hp⟩:=hp
 have hr:=h3 i u x hu hx
 cases x <;> simp only [plainC,Option.some.injEq] at hp <;> first
  | cases hp;done
  | (subst hp;cases hr;rfl)
theorem frMp_ok (hE:EnvOk E H n) {v:Value} {id:Nat} (h:RdA E v (.mp id)):RdA (E.give ids) v (frMp ids H id):=by
 unfold frMp
 split
 ·rename_i es hob
  split
  ·rename_i hid
   split
   ·rename_i es' hes
    have hne:getOb H id≠.dead:=by rw [hob];simp
    have hl:=hE.live id hne
    have hok:=hE.ok id hl hne
    rw [hob] at hok
    obtain ⟨hd,hρ,ms,clock,hb,hsz,hall⟩:=hok
    obtain ⟨hd',hρ',rfl⟩:=h.mp_inv.2.2 hl
    rw [hρ] at hρ'
    cases hρ'
    obtain ⟨g1,g2⟩:=hE.lt id hd hl hρ
    obtain ⟨e1,e2⟩:=plainE_get hes
    have ho:E.Own id hd.blk:=.inl ⟨hd,hρ,rfl⟩
    refine .dmp hd.blk es' ms clock g1 ⟨g2,fun id3 hW3 ho3=>?_,hE.hid id _ hl ho⟩ hb (hsz.trans e1) fun i m p' hm hp'=>?_
    ·have e:=hE.injO id3 id hd.blk (hE.wl id3 hW3.1) hl ho3 ho
     subst e
     exact hW3.2 (by simpa using hid)
    ·obtain ⟨cs,k1,k2⟩:=e2 i p' hp'
     obtain ⟨k3,k4⟩:=hall i m _ hm k1
     exact ⟨k3,by rw [k2];exact FlatRd.of k4⟩
   ·exact h.mono (give_evo n) hE.ns
  ·exact h.mono (give_evo n) hE.ns
 ·exact h.mono (give_evo n) hE.ns
theorem frV_ok (hE:EnvOk E H n) {v:Value} {x:AV} (h:RdA E v x):RdA (E.give ids) v (frV ids H x):=by
 induction h with
 | any v=>exact .any v
 | int k m=>exact .int _ _
 | bool b=>exact .bool _
 | str s=>exact .str _
 | val v h1=>exact .val _ h1
 | nils b c=>exact .nils _ _
 | cap0 b=>exact .cap0 _
 | sl v t xs h1=>exact .sl _ _ _ (h1.monoF fun b o hb=>give_fz hb)
 | ptr v id off hA h1 hp=>exact .ptr _ id off hA h1 hp
 | mp v id hA h1 hp=>exact frMp_ok hE (.mp v id hA h1 hp)
 | dmp b es ms clock hB hb hh hsz hes=>exact .dmp b es ms clock hB (give_nb hb) hh hsz hes
 | rptr v id k row off hA h1 hp=>exact .rptr _ id k row off hA h1 hp
 | eptr b o cs g hcell hrd=>exact .eptr b o cs g (fun j hj=>⟨give_fz (hcell j hj).1,(hcell j hj).2⟩) (fun j p hp=>(hrd j p hp).monoF fun b o hb=>give_fz hb)
 | ownp v id k lo m hA h1 hp=>exact frOne_ok hE (.ownp v id k lo m hA h1 hp)
 | fn f vs ws xs ys hv hw h1 h2 _ _=>exact frOne_ok hE (.fn f vs ws xs ys hv hw h1 h2)
 | when v c s w x h1 h2 _=>exact .when v c s w x (fun hc=>(h1 hc).mono (give_evo n) hE.ns) h2
 | own v id hA h1 hp=>exact frOne_ok hE (.own v id hA h1 hp)
 | ownc v id k lo m hA h1 hp=>exact frOne_ok hE (.ownc v id k lo m hA h1 hp)
 | csl v t id m hA h1 hp =>
  show RdA (E.give ids) v (frCsl ids H (.csl t id m))
  unfold frCsl
  split
  ·rename_i y l hlow
   split
   ·rename_i hall
    obtain ⟨xss,rfl,hy⟩:=lower_csl (fun id _ hne=>hE.live id hne) (fun id hl hne=>hE.ok id hl hne) (.csl v t id m hA h1 hp) hlow (fun id hid=>hid)
    refine .up (p:=.sl _ _) (hy.monoF fun b o hb=>?_)
    rcases hb with hb | ⟨id2,hid2,hl2,ho2⟩
    ·exact give_fz hb
    ·have hid3:id2∈ids:=by simpa using List.all_eq_true.1 hall id2 hid2
     obtain ⟨g1,g2⟩:=hE.ltO id2 b hl2 ho2
     refine .inr ⟨g1,g2,fun id3 hW3 ho3=>?_,hE.hid id2 b hl2 ho2⟩
     have e:=hE.injO id3 id2 b (hE.wl id3 hW3.1) hl2 ho3 ho2
     subst e
     exact hW3.2 hid3
   ·exact (RdA.csl v t id m hA h1 hp).mono (give_evo n) hE.ns
  ·exact (RdA.csl v t id m hA h1 hp).mono (give_evo n) hE.ns
 | slf t xs ba h1=>exact .sl _ _ _ (h1.monoF fun b o hb=>give_fz hb)
 | yld v id hA h1 hp=>exact .yld _ id hA h1 hp
 | grow v id i hA h1 hp=>exact .grow _ id i hA h1 hp
 | gptr v id i j hA h1 hp=>exact .gptr _ id i j hA h1 hp
 | agg vs xs hv h1 _ ih =>
  have g:=frVL_get (ids:=ids) (H:=H) xs
  refine .agg vs (frVL ids H xs) (by rw [hv,g.1]) h1 fun i u y hu hy=>?_
  obtain ⟨x,hx,rfl⟩:=g.2 i y hy
  exact ih i u x hu hx
 | tup vs xs hv _ ih =>
  have g:=frVL_get (ids:=ids) (H:=H) xs
  refine .tup vs (frVL ids H xs) (by rw [hv,g.1]) fun i u y hu hy=>?_
  obtain ⟨x,hx,rfl⟩:=g.2 i y hy
  exact ih i u x hu hx
theorem base_ok {w:World} {F0:Nat→Nat→Prop} (hF:∀ b o,F0 b o→b < w.heap.size):EnvOk (Env.base w F0) [] 0 :=
 ⟨rfl,fun _ h=>h.elim,fun id h=>absurd (getN_ge _ (by simp)) h,fun id h=>absurd (getN_ge _ (by simp)) (wr_ne h),fun _ h=>h.elim,fun _ h=>h.elim,fun _ h=>h.elim,fun _ _ _ h=>h.elim,fun _ _ h=>h.elim,hF,Nat.le_refl _,fun _ _ h=>h.elim,fun _ h=>h.elim⟩
theorem fit_ne (s:Sh) (x:AV) (h:∀ c q w v,x≠.when c q w v):∀ c q w v,fit s x≠.when c q w v:=by
 intro c q w v he
 cases x with
 | when a b c d=>exact h a b c d rfl
 | _=>cases s <;> simp [fit] at he
theorem fin_ok {w w':World} {F0:Nat→Nat→Prop} {r:CR} {v:Value} {x:AV} (hE:EnvOk E H n) (hv:RdA E v x) (hevo:Evo 0 (Env.base w F0) E) (hw:E.w=w') (hk:finK r x H n) :
 CallPost w F0 r (.returned v) w':=by
 subst hw
 obtain ⟨hgiv,hfine,ids,σ,hwk⟩:=hk
 have hE1:=hE.give (ids:=ids)
 have hv1:=frV_ok (ids:=ids) hE hv
 have hs1:SlOk (E.give ids) ⟨#[v],[]⟩ [fit (shOf r.res) (noW (frV ids H x))]:=by
  refine ⟨rfl,fun t=>?_,fun t c s w v ht=>?_,Marks.nil _⟩
  ·cases t with
   | zero=>exact fit_ok _ _ (noW_ok hv1)
   | succ t=>exact .any _
  ·cases t with
   | zero=>simp only [List.getElem?_cons_zero,Option.some.injEq] at ht;exact absurd ht (fit_ne _ _ (noW_ne _) _ _ _ _)
   | succ t=>simp at ht
 obtain ⟨E2,hw2,hE2,hs2,hevo2,_,hL,hW,hA⟩:=weaken hE1 hs1 hwk
 have hevo':Evo 0 (Env.base w F0) E2:=(hevo.trans (give_evo 0)).trans hevo2
 have hnd:∀ id,id < r.news.length→(getOb r.news id).wr:=by
  intro id hid
  have hm:=List.all_eq_true.1 hfine _ (List.getElem_mem hid)
  have:getOb r.news id=r.news[id]:=by
   unfold getOb;rw [getN_eq,List.getElem?_eq_getElem hid];rfl
  rw [this]
  cases hob:r.news[id] <;> rw [hob] at hm <;> first | trivial | cases hm
 have heq:E2=Env.aft w E.w F0 r.news.length E2.ρ E2.K:=by
  have e1:E2.B=w.heap.size:=hevo'.B
  have e2:E2.F0=F0:=hevo'.F0
  have e6:E2.M=w.heap.size:=hevo'.M
  have e7:E2.Hd=fun _=>False:=hevo'.Hd
  have e3:E2.L=fun id=>id < r.news.length:=funext fun id=>propext ⟨fun h=>getOb_lt ((hL id).1 h),fun h=>(hL id).2 (wr_ne (hnd id h))⟩
  have e4:E2.W=fun id=>id < r.news.length:=funext fun id=>propext ⟨fun h=>getOb_lt (wr_ne ((hW id).1 h)),fun h=>(hW id).2 (hnd id h)⟩
  have e5:E2.A=fun id=>id < r.news.length:=funext fun id=>propext (hA id)
  cases E2
  simp only at hw2 e1 e2 e3 e4 e5 e6 e7 ⊢
  subst hw2;subst e1;subst e2;subst e3;subst e4;subst e5;subst e6;subst e7
  rfl
 have hg:OptP r.given:=by
  cases hq:r.given with
  | none=>trivial
  | some q=>rw [hq] at hgiv;exact hgiv
 refine ⟨hg,v,E2.ρ,E2.K,rfl, ?_, ?_, ?_, ?_, ?_⟩
 ·exact hevo'.below.trans (by rw [hw2];exact Below.refl _ _)
 ·have:=hs2.rd 0
  rw [← heq]
  exact this
 ·intro j ob hj
  rw [← heq]
  have hlt:j < r.news.length:=(List.getElem?_eq_some_iff.1 hj).1
  have hob:getOb r.news j=ob:=by unfold getOb;rw [getN_eq,hj];rfl
  have:=hE2.ok j ((hL j).2 (wr_ne (hnd j hlt))) (wr_ne (hnd j hlt))
  rw [hob] at this
  exact this
 ·intro j h hj hρ
  have:=hE2.lt j h ((hL j).2 (wr_ne (hnd j hj))) hρ
  rw [hevo'.B,hw2] at this
  exact this
 ·intro j j' h h' hj hj' hρ hρ' hne
  exact hE2.inj j j' h h' ((hL j).2 (wr_ne (hnd j hj))) ((hL j').2 (wr_ne (hnd j' hj'))) hρ hρ' hne
theorem goodC_ofS {call:CallSem} (hcall:CallOk P call) {g:FuncId} {C:Ctr} (hfn:∃ fn,P.funcs[g]?=some fn∧fn.body.isSome=true∧(fn.name == "runtime.NumGoroutine")=false)
 (hgen:∀ args r,C args=some r→∀ k,r.gen k→k r.cr.res) (h:∀ args r gen,C args=some ⟨r,gen⟩→OptP r.need→call g args [] 0 (finK r)):GoodC P g C:=by
 refine ⟨hfn,hgen,fun args r gen hC hn w F0 vs hF hsz hrd=>?_⟩
 obtain ⟨_,hc⟩:=hcall.1 g args [] 0 _ (h args r gen hC hn) (Env.base w F0) vs (base_ok hF) hsz hrd
 refine hc.mono fun en w' hpost=>?_
 obtain ⟨v,E',x,H',n',rfl,hw,_,hE',hv,hevo,hk⟩:=hpost
 exact fin_ok hE' hv hevo hw hk
theorem goodC_of (hcx:GoodCtx P cx) (hdraw:DrawnOk P cx) {g:FuncId} {C:Ctr} (d:Nat) (hfn:∃ fn,P.funcs[g]?=some fn∧fn.body.isSome=true∧(fn.name == "runtime.NumGoroutine")=false)
 (hgen:∀ args r,C args=some r→∀ k,r.gen k→k r.cr.res) (h:∀ args r gen,C args=some ⟨r,gen⟩→OptP r.need→callN cx P d g args [] 0 (finK r)):GoodC P g C :=
 goodC_ofS (callN_ok hcx hdraw d) hfn hgen h
end
end Go.Sx
