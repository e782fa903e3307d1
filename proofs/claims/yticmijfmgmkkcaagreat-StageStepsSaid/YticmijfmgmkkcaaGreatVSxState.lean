import Derived.Test.YticmijfmgmkkcaaGreatVSxForce
set_option linter.unusedSimpArgs false
set_option linter.unusedVariables false
set_option maxRecDepth 100000
namespace Go.Sx
open Go.RowKit
structure EnvOk (E:Env) (H:List Ob) (n:Nat):Prop where
 len:H.length=n
 ns:∀ id,E.A id→id < n
 live:∀ id,getOb H id≠.dead→E.L id
 wr:∀ id,(getOb H id).wr→E.W id
 ok:∀ id,E.L id→getOb H id≠.dead→OkOb E id (getOb H id)
 sub:∀ id,E.L id→E.A id
 wl:∀ id,E.W id→E.L id
 injO:∀ id id' b,E.L id→E.L id'→E.Own id b→E.Own id' b→id=id'
 ltO:∀ id b,E.L id→E.Own id b→E.B≤b∧b < E.w.heap.size
 f0:∀ b o,E.F0 b o→b < E.B
 B:E.B≤E.w.heap.size
 hid:∀ id b,E.L id→E.Own id b→¬ E.Hd b
 hlt:∀ b,E.Hd b→b < E.w.heap.size
theorem EnvOk.inj {E:Env} {H:List Ob} {n:Nat} (hr:EnvOk E H n) (id id':Nat) (h h':Hdr) (hl:E.L id) (hl':E.L id') (hρ:E.ρ id=some h) (hρ':E.ρ id'=some h') (hne:id≠id'):h.blk≠h'.blk:=fun e =>
 hne (hr.injO id id' h.blk hl hl' (.inl ⟨h,hρ,rfl⟩) (.inl ⟨h',hρ',e.symm⟩))
theorem EnvOk.lt {E:Env} {H:List Ob} {n:Nat} (hr:EnvOk E H n) (id:Nat) (h:Hdr) (hl:E.L id) (hρ:E.ρ id=some h):E.B≤h.blk∧h.blk < E.w.heap.size:=hr.ltO id h.blk hl (.inl ⟨h,hρ,rfl⟩)
theorem EnvOk.ready {E:Env} {H:List Ob} {n:Nat} (h:EnvOk E H n) (m:Nat):Ready E n m :=
 ⟨h.sub,h.wl,h.injO,h.ltO,h.f0,h.B,fun id h1 _ ha=>Nat.lt_irrefl _ (Nat.lt_of_lt_of_le (h.ns id ha) h1),h.hid,h.hlt⟩
theorem EnvOk.fin {E:Env} {H:List Ob} {n:Nat} (h:EnvOk E H n):∃ N,∀ id,E.A id→id < N:=⟨n,h.ns⟩
def Frz (o o':Ob):Prop:=o'=o∨(∃ t xs,o=.rows t xs∧o'=.froz t xs)∨o'=.dead
theorem Frz.trans {a b c:Ob} (h:Frz a b) (k:Frz b c):Frz a c:=by
 rcases k with rfl | ⟨t,xs,rfl,rfl⟩ | rfl
 ·exact h
 ·rcases h with h | ⟨_,_,_,h⟩ | h
  ·exact .inr (.inl ⟨t,xs,h.symm,rfl⟩)
  ·cases h
  ·cases h
 ·exact .inr (.inr rfl)
theorem Frz.ok {E:Env} {id:Nat} {o o':Ob} (h:Frz o o') (hne:o'≠.dead) (hok:OkOb E id o):OkOb E id o':=by
 rcases h with rfl | ⟨t,xs,rfl,rfl⟩ | rfl
 ·exact hok
 ·exact hok
 ·exact absurd rfl hne
theorem Frz.dead {o:Ob} (h:Frz .dead o):o=.dead:=by
 rcases h with rfl | ⟨t,xs,h,_⟩ | rfl
 ·rfl
 ·cases h
 ·rfl
theorem getOb_setN (ob:Ob) (H:List Ob) (i id:Nat):getOb (setN ob H i) id=if i=id∧i < H.length then ob else getOb H id:=getN_setN _ _ _ _ _
theorem frzOb_get (H:List Ob) (i id:Nat):Frz (getOb H id) (getOb (frzOb H i) id)∧(i=id→¬ (getOb (frzOb H i) id).wr)∧(frzOb H i).length=H.length:=by
 have lt:getOb H i≠.dead→i < H.length:=by
  intro h
  rcases Nat.lt_or_ge i H.length with h1 | h1
  ·exact h1
  ·exact absurd (getN_ge _ h1) h
 unfold frzOb
 split
 ·rename_i t xs hob
  have hi:=lt (by rw [hob];simp)
  refine ⟨?_, ?_,setN_length _ _ _⟩
  ·rw [getOb_setN]
   split
   ·rename_i h;rw [← h.1,hob];exact .inr (.inl ⟨t,xs,rfl,rfl⟩)
   ·exact .inl rfl
  ·rintro rfl
   rw [getOb_setN,if_pos ⟨rfl,hi⟩]
   exact id
 ·rename_i cs hob
  have hi:=lt (by rw [hob];simp)
  refine ⟨?_, ?_,setN_length _ _ _⟩
  ·rw [getOb_setN]
   split
   ·exact .inr (.inr rfl)
   ·exact .inl rfl
  ·rintro rfl
   rw [getOb_setN,if_pos ⟨rfl,hi⟩]
   exact id
 ·rename_i es hob
  have hi:=lt (by rw [hob];simp)
  refine ⟨?_, ?_,setN_length _ _ _⟩
  ·rw [getOb_setN]
   split
   ·exact .inr (.inr rfl)
   ·exact .inl rfl
  ·rintro rfl
   rw [getOb_setN,if_pos ⟨rfl,hi⟩]
   exact id
 ·rename_i t m xss hob
  have hi:=lt (by rw [hob];simp)
  refine ⟨?_, ?_,setN_length _ _ _⟩
  ·rw [getOb_setN]
   split
   ·exact .inr (.inr rfl)
   ·exact .inl rfl
  ·rintro rfl
   rw [getOb_setN,if_pos ⟨rfl,hi⟩]
   exact id
 ·rename_i a1 a2 a3 a4 a5 a6 hob
  have hi:=lt (by rw [hob];simp)
  refine ⟨?_, ?_,setN_length _ _ _⟩
  ·rw [getOb_setN]
   split
   ·exact .inr (.inr rfl)
   ·exact .inl rfl
  ·rintro rfl
   rw [getOb_setN,if_pos ⟨rfl,hi⟩]
   exact id
 ·rename_i h1 h2 h3 h4 h5
  refine ⟨.inl rfl, ?_,rfl⟩
  rintro rfl
  cases hob:getOb H i with
  | grid t m xss=>exact absurd hob (h4 t m xss)
  | loop a1 a2 a3 a4 a5 a6=>exact absurd hob (h5 a1 a2 a3 a4 a5 a6)
  | fmap es=>exact absurd hob (h3 es)
  | cells cs=>exact absurd hob (h2 cs)
  | rows t xs=>exact absurd hob (h1 t xs)
  | _=>exact id
theorem Frz.wr {o o':Ob} (h:Frz o o') (hw:o'.wr):o.wr:=by
 rcases h with rfl | ⟨t,xs,rfl,rfl⟩ | rfl
 ·exact hw
 ·trivial
 ·exact absurd hw id
theorem frzAll_get:∀ (ids:List Nat) (H:List Ob) (id:Nat),Frz (getOb H id) (getOb (frzAll ids H) id)∧(id∈ids→¬ (getOb (frzAll ids H) id).wr)∧(frzAll ids H).length=H.length
 | [],H,id=>⟨.inl rfl,by simp,rfl⟩
 | i :: ids,H,id=>by
  obtain ⟨h1,h2,h3⟩:=frzOb_get H i id
  obtain ⟨k1,k2,k3⟩:=frzAll_get ids (frzOb H i) id
  refine ⟨h1.trans k1,fun hid hw=>?_,k3.trans h3⟩
  rcases List.mem_cons.1 hid with rfl | hid
  ·exact h2 rfl (k1.wr hw)
  ·exact k2 hid hw
theorem killH_get (k:Option Nat) (H:List Ob) (id:Nat) (hlt:∀ i,k=some i→i < H.length):getOb (killH k H) id=if k=some id then .dead else getOb H id:=by
 cases k with
 | none=>simp [killH]
 | some i =>
  simp only [killH,getOb_setN,Option.some.injEq]
  have:=hlt i rfl
  simp [this]
theorem killH_length (k:Option Nat) (H:List Ob):(killH k H).length=H.length:=by
 cases k <;> simp [killH,setN_length]
theorem stH_length (st:Option (Nat × Ob)) (H:List Ob):(stH st H).length=H.length:=by
 cases st <;> simp [stH,setN_length]
theorem stH_get (st:Option (Nat × Ob)) (H:List Ob) (id:Nat) (hlt:∀ p,st=some p→p.1 < H.length):(∃ ob,st=some (id,ob)∧getOb (stH st H) id=ob)∨((∀ p,st=some p→p.1≠id)∧getOb (stH st H) id=getOb H id):=by
 cases st with
 | none=>exact .inr ⟨fun p h=>(by cases h),rfl⟩
 | some p =>
  obtain ⟨i,ob⟩:=p
  by_cases h:i=id
  ·subst h
   have:=hlt _ rfl
   exact .inl ⟨ob,rfl,by show getOb (setN ob H i) i=ob;rw [getOb_setN,if_pos ⟨rfl,this⟩]⟩
  ·refine .inr ⟨fun p hp=>(by cases hp;exact h), ?_⟩
   simp only [stH,getOb_setN]
   rw [if_neg (fun h'=>h h'.1)]
structure TurnOk (E:Env) (H:List Ob) (r:Res):Prop where
 kill:∀ id,r.kill=some id→E.A id∧(getOb H id).wr
 st:∀ p,r.st=some p→E.A p.1∧(getOb H p.1).wr
theorem wr_ne {o:Ob} (h:o.wr):o≠.dead:=by rintro rfl;exact h
theorem getOb_lt {H:List Ob} {id:Nat} (h:getOb H id≠.dead):id < H.length:=by
 rcases Nat.lt_or_ge id H.length with h1 | h1
 ·exact h1
 ·exact absurd (getN_ge _ h1) h
section
variable {E E':Env} {H:List Ob} {n:Nat} {r:Res}
def newW (n:Nat) (r:Res):Nat→Prop:=fun id=>(getOb r.news (id - n)).wr
theorem heap_get (hl:H.length=n) (ht:TurnOk E H r) (id:Nat) :
 (∃ j,id=n+j∧getOb (r.heap H) id=getOb r.news j) ∨
   (id < n∧∃ ob,((∃ ob',r.st=some (id,ob')∧ob=ob')∨((∀ p,r.st=some p→p.1≠id)∧ob=getOb H id)) ∧
     (r.kill=some id→getOb (r.heap H) id=.dead)∧(r.kill≠some id→Frz ob (getOb (r.heap H) id))∧(id∈r.frz→¬ (getOb (r.heap H) id).wr)):=by
 have hst:∀ p,r.st=some p→p.1 < H.length:=fun p hp=>getOb_lt (wr_ne (ht.st p hp).2)
 have hk:∀ i,r.kill=some i→i < (stH r.st H).length:=fun i hi=>by rw [stH_length];exact getOb_lt (wr_ne (ht.kill i hi).2)
 have hlen:(frzAll r.frz (killH r.kill (stH r.st H))).length=n:=by rw [(frzAll_get _ _ 0).2.2,killH_length,stH_length,hl]
 unfold Res.heap
 have hget:getOb (frzAll r.frz (killH r.kill (stH r.st H))++r.news) id=if id < n then getOb (frzAll r.frz (killH r.kill (stH r.st H))) id else getOb r.news (id - n):=by
  unfold getOb;rw [getN_append,hlen]
 by_cases hid:id < n
 ·right
  rw [if_pos hid] at hget
  rw [hget]
  obtain ⟨g1,g2,_⟩:=frzAll_get r.frz (killH r.kill (stH r.st H)) id
  rw [killH_get _ _ _ hk] at g1
  have:∃ ob,((∃ ob',r.st=some (id,ob')∧ob=ob')∨((∀ p,r.st=some p→p.1≠id)∧ob=getOb H id))∧getOb (stH r.st H) id=ob:=by
   rcases stH_get r.st H id hst with ⟨ob,h1,h2⟩ | ⟨h1,h2⟩
   ·exact ⟨ob,.inl ⟨ob,h1,rfl⟩,h2⟩
   ·exact ⟨getOb H id,.inr ⟨h1,rfl⟩,h2⟩
  obtain ⟨ob,h1,h2⟩:=this
  refine ⟨hid,ob,h1,fun h=>?_,fun h=>?_,g2⟩
  ·rw [if_pos h] at g1;exact g1.dead
  ·rw [if_neg h,h2] at g1;exact g1
 ·left
  rw [if_neg hid] at hget
  exact ⟨id - n,by omega,hget⟩
theorem EnvOk.step (h:EnvOk E H n) (hx:Ext E n r (newW n r) E') (ht:TurnOk E H r):EnvOk E' (r.heap H) (n+r.news.length):=by
 have hB:E'.B=E.B:=(hx.evo 0).B
 have hF:E'.F0=E.F0:=(hx.evo 0).F0
 have newlt:∀ j,getOb r.news j≠.dead→j < r.news.length:=fun j hj=>getOb_lt hj
 have stL:∀ p,r.st=some p→E.L p.1:=fun p hp=>h.live p.1 (wr_ne (ht.st p hp).2)
 refine ⟨?_, ?_, ?_, ?_, ?_, ?_, ?_,hx.injO,hx.ltO, ?_, ?_,hx.hid,fun b hb=>Nat.lt_of_lt_of_le (h.hlt b (by rw [← (hx.evo 0).Hd];exact hb)) (hx.evo 0).below.size⟩
 ·unfold Res.heap
  rw [List.length_append,(frzAll_get _ _ 0).2.2,killH_length,stH_length,h.len]
 ·intro id ha
  rcases (hx.A id).1 ha with ha | ⟨_,h2⟩
  ·have:=h.ns id ha;omega
  ·exact h2
 ·intro id hne
  rcases heap_get h.len ht id with ⟨j,rfl,hg⟩ | ⟨hid,ob,hob,hk,hf,_⟩
  ·rw [hg] at hne
   exact (hx.L _).2 (.inr ⟨by omega,by have:=newlt j hne;omega⟩)
  ·have hnk:r.kill≠some id:=fun hk'=>hne (hk hk')
   refine (hx.L _).2 (.inl ⟨?_,hnk⟩)
   rcases hob with ⟨ob',hst,rfl⟩ | ⟨_,rfl⟩
   ·exact stL _ hst
   ·refine h.live id fun hd=>hne ?_
    have:=hf hnk
    rw [hd] at this
    exact this.dead
 ·intro id hw
  rcases heap_get h.len ht id with ⟨j,rfl,hg⟩ | ⟨hid,ob,hob,hk,hf,hfw⟩
  ·rw [hg] at hw
   refine (hx.W _).2 (.inr ⟨by omega,by have:=newlt j (wr_ne hw);omega, ?_⟩)
   show (getOb r.news (n+j - n)).wr
   rw [Nat.add_sub_cancel_left];exact hw
  ·have hnk:r.kill≠some id:=fun hk'=>wr_ne hw (hk hk')
   refine (hx.W _).2 (.inl ⟨?_,hnk,fun hm=>hfw hm hw⟩)
   rcases hob with ⟨ob',hst,rfl⟩ | ⟨_,rfl⟩
   ·exact h.wr id (ht.st _ hst).2
   ·exact h.wr id ((hf hnk).wr hw)
 ·intro id hl hne
  rcases heap_get h.len ht id with ⟨j,rfl,hg⟩ | ⟨hid,ob,hob,hk,hf,hfw⟩
  ·rw [hg] at hne ⊢
   exact hx.new j _ (getN_of_lt (newlt j hne))
  ·have hnk:r.kill≠some id:=fun hk'=>hne (hk hk')
   refine (hf hnk).ok hne ?_
   rcases hob with ⟨ob',hst,rfl⟩ | ⟨hst,rfl⟩
   ·exact hx.st id _ hst
   ·have hl':E.L id:=(((hx.L id).1 hl).resolve_right fun h'=>by omega).1
    refine hx.old id _ hl' hnk hst (h.ok id hl' fun hd=>hne ?_)
    have:=hf hnk
    rw [hd] at this
    exact this.dead
 ·intro id hl
  rcases (hx.L id).1 hl with ⟨h1,_⟩ | h1
  ·exact (hx.A id).2 (.inl (h.sub id h1))
  ·exact (hx.A id).2 (.inr h1)
 ·intro id hw
  rcases (hx.W id).1 hw with ⟨h1,h2,_⟩ | ⟨h1,h2,_⟩
  ·exact (hx.L id).2 (.inl ⟨h.wl id h1,h2⟩)
  ·exact (hx.L id).2 (.inr ⟨h1,h2⟩)
 ·intro b o hb
  rw [hF] at hb;rw [hB]
  exact h.f0 b o hb
 ·rw [hB]
  exact Nat.le_trans h.B (hx.evo 0).below.size
end
structure Marks (E:Env) (ds:List Deferred):Prop where
 each:∀ d∈ds,∃ b,d={ target:=.collected b,args:=#[] }∧E.M≤b∧E.Nb b∧E.w.heap[b]?=some (.deferred (some []))
 two:ds.Pairwise (fun d d'=>d.target≠d'.target)
theorem Marks.nil (E:Env):Marks E []:=⟨fun d h=>by simp at h,.nil⟩
theorem Marks.mono {n:Nat} {E E':Env} {ds:List Deferred} (h:Marks E ds) (hE:Evo n E E'):Marks E' ds:=by
 refine ⟨fun d hd=>?_,h.two⟩
 obtain ⟨b,h1,h2,h3,h4⟩:=h.each d hd
 obtain ⟨h5,h6⟩:=hE.hp b h3
 exact ⟨b,h1,by rw [hE.M];exact h2,h5,h6.trans h4⟩
structure SlOk (E:Env) (a:Act) (sl:List AV):Prop where
 size:a.tmps.size=sl.length
 rd:∀ t,RdA E (a.eval (.tmp t)) (getN .any sl t)
 stat:WhenStat sl
 defers:Marks E a.defers
theorem SlOk.mono {E E':Env} {a:Act} {sl:List AV} {n:Nat} (h:SlOk E a sl) (hE:Evo n E E') (hA:∀ id,E.A id→id < n):SlOk E' a sl :=
 ⟨h.size,fun t=>(h.rd t).mono hE hA,h.stat,h.defers.mono hE⟩
theorem noRef_get {d:Nat}:∀ {sl:List AV},noRef d sl=true→∀ (t:Nat) c s w v,sl[t]?=some (.when c s w v)→s≠d
 | [],_,t,c,s,w,v,h=>by simp at h
 | x :: l,h0,0,c,s,w,v,h=>by
  cases h
  simp only [noRef] at h0
  split at h0
  ·cases h0
  ·rename_i hne
   intro e
   subst e
   exact hne (Nat.beq_refl s)
 | x :: l,h0,t+1,c,s,w,v,h=>by
  refine noRef_get (sl:=l) ?_ t c s w v (by simpa using h)
  cases x <;> simp only [noRef] at h0 <;> first | exact h0 | (split at h0 <;> first | cases h0 | exact h0)
theorem SlOk.put {E:Env} {a:Act} {sl:List AV} {dst:Option Tmp} {u:Value} {v:AV} {K:List AV→Prop} (h:SlOk E a sl) (hv:RdA E u v)
 (hw:∀ c s w x,v=.when c s w x→condOf sl s w=some c∧∀ c' s' w' v',x≠.when c' s' w' v') (hk:putK dst v sl K):∃ sl',K sl'∧SlOk E (a.put dst u) sl'∧sl'.length=sl.length:=by
 cases dst with
 | none=>exact ⟨sl,hk,h,rfl⟩
 | some d =>
  simp only [putK] at hk
  split at hk
  ·rename_i hc
   simp only [Bool.and_eq_true] at hc
   obtain ⟨h1,h2,h3⟩:=hc
   have hd:d < sl.length:=Nat.le_of_ble_eq_true h1
   rw [setK_eq] at hk
   have cond:∀ s w,s≠d→condOf (setN v sl d) s w=condOf sl s w:=by
    intro s w hs
    unfold condOf
    rw [getN_setN,if_neg (fun h=>hs h.1.symm)]
   refine ⟨_,hk,⟨?_, ?_, ?_,h.defers⟩,setN_length _ _ _⟩
   ·simp [Act.put,setN_length,h.size]
   ·intro t
    rw [getN_setN]
    by_cases ht:d=t
    ·subst ht
     rw [if_pos ⟨rfl,hd⟩]
     have:(a.put (some d) u).eval (.tmp d)=u:=by
      have hd':d < a.tmps.size:=by rw [h.size];exact hd
      simp [Act.put,Act.eval,Array.getD_eq_getD_getElem?,hd']
     rw [this];exact hv
    ·rw [if_neg (fun h=>ht h.1)]
     have:(a.put (some d) u).eval (.tmp t)=a.eval (.tmp t):=by
      simp only [Act.put,Act.eval,Array.getD_eq_getD_getElem?,Array.getElem?_setIfInBounds]
      rw [if_neg ht]
     rw [this];exact h.rd t
   ·intro t c s w x ht
    have hg:getN .any (setN v sl d) t=.when c s w x:=by rw [getN_eq,ht];rfl
    rw [getN_setN] at hg
    by_cases htd:d=t
    ·subst htd
     rw [if_pos ⟨rfl,hd⟩] at hg
     subst hg
     have hs:s≠d:=by
      simp only [notSelf,Bool.not_eq_true',] at h3
      intro e
      subst e
      rw [Nat.beq_refl] at h3
      cases h3
     rw [cond s w hs]
     exact hw c s w x rfl
    ·rw [if_neg (fun h=>htd h.1)] at hg
     have ht':sl[t]?=some (.when c s w x):=by
      rw [getN_eq] at hg
      cases hg2:sl[t]? with
      | none=>rw [hg2] at hg;cases hg
      | some y=>rw [hg2] at hg;simp only [Option.getD_some] at hg;rw [hg]
     rw [cond s w (noRef_get h2 t c s w x ht')]
     exact h.stat t c s w x ht'
  ·exact hk.elim
end Go.Sx
