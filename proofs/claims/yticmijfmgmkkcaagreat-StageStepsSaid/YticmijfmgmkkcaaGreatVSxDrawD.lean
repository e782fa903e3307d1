import Derived.Test.YticmijfmgmkkcaaGreatVSxDrawC
set_option linter.unusedSimpArgs false
set_option linter.unusedVariables false
set_option maxRecDepth 100000
namespace Go.Sx
open Go.RowKit
structure Inv (ops:List Oper) (ds:List DrawOp) (S:Nat→List AV) (B:Nat→List Ob) (M:Nat→Nat) (R:Nat→Res) (D:Nat→Prop) (E0 E:Env) (a:Act):Prop where
 cl:∀ (k:Nat) (d:DrawOp),ds[k]?=some d→D k→∀ e∈d.o.after.toList,edgeBinds e=true→D e.on
 dn:∀ k,D k→k < ds.length
 A:∀ id,E.A id↔E0.A id∨∃ k,D k∧M k≤id∧id < M (k+1)
 sub:∀ id,E.L id→E.A id
 wl:∀ id,E.W id→E.L id
 injO:∀ id id' b,E.L id→E.L id'→E.Own id b→E.Own id' b→id=id'
 ltO:∀ id b,E.L id→E.Own id b→E.B≤b∧b < E.w.heap.size
 f0:∀ b o,E.F0 b o→b < E.B
 Bx:E.B≤E.w.heap.size
 hid:∀ id b,E.L id→E.Own id b→¬ E.Hd b
 hlt:∀ b,E.Hd b→b < E.w.heap.size
 objs:∀ m id,m≤ds.length→(∀ k,k < m→Aff M R k id→D k)→(∀ k,D k→m≤k→¬ Aff M R k id)→getOb (B m) id≠.dead→E.L id∧OkOb E id (getOb (B m) id)
 wr:∀ m id,m≤ds.length→(∀ k,k < m→Aff M R k id→D k)→(∀ k,D k→m≤k→¬ Aff M R k id∧id ∉ (R k).frz)→(getOb (B m) id).wr→E.W id
 slots:∀ m t,m≤ds.length→(∀ k o,k < m→ops[k]?=some o→o.dst=some t→D k)→(∀ k o,D k→m≤k→ops[k]?=some o→o.dst≠some t)→RdA E (a.eval (.tmp t)) (getN .any (S m) t)
 size:a.tmps.size=(S 0).length
 given:∀ k,D k→OptP (R k).given
 aff:∀ k id,D k→Aff M R k id→E.A id
 evo:Evo (M 0) E0 E
 defers:Marks E a.defers
section
variable {P:Program} {cx:Ctx} {opsA:Array Oper} {ds:List DrawOp} {S:Nat→List AV} {B:Nat→List Ob} {M:Nat→Nat} {R:Nat→Res}
 {D:Nat→Prop} {E0 E:Env} {a:Act} {K':Act→World→Prop} {Q:Exit→Act→World→Prop} {ro:Option Nat}
theorem dst_meets {ops:List Oper} {x y:Oper} {t:Nat} (h:x.dst=some t) (h':y.dst=some t):meets ops x y=true:=by
 simp [meets,h,h']
theorem looks_meets {ops:List Oper} {x y:Oper} {t:Nat} (h:x.dst=some t) (h':t∈opLooks ops y):meets ops x y=true∧meets ops y x=true:=by
 simp [meets,h,h']
theorem Inv.step (hf:DrawFacts P cx opsA.toList ds S B M R) (hI:Inv opsA.toList ds S B M R D E0 E a) (h0:∀ id,E0.A id→id < M 0) {k:Nat} {d:DrawOp} (hd:ds[k]?=some d) (hk:¬ D k)
 (hed:∀ e∈d.o.after.toList,edgeBinds e=true→D e.on) (hK:∀ E' a',Inv opsA.toList ds S B M R (fun j=>D j∨j=k) E0 E' a'→K' a' E'.w) :
 (Region.wanted d.o (yielded opsA a.tmps)=true∧d.o.wpI ro P a E.w K' Q)∨(Region.wanted d.o (yielded opsA a.tmps)=false∧K' (a.put d.o.dst undef) E.w):=by
 have hkl:k < ds.length:=(List.getElem?_eq_some_iff.1 hd).1
 have hs:=hf.step k d hd
 have hbef:∀ j,hasB d.bef j=true→D j:=hf.bef D hI.cl k d hd hed
 have befD:∀ (j:Nat) (d':DrawOp),ds[j]?=some d'→D j→∀ i,hasB d'.bef i=true→D i:=fun j d' hd' hj=>hf.bef D hI.cl j d' hd' (hI.cl j d' hd' hj)
 have dsat:∀ {j},j < ds.length→∃ d',ds[j]?=some d':=fun hj=>at_some _ hj
 have lateNo:∀ {j:Nat} {d':DrawOp},ds[j]?=some d'→D j→k < j→d'.late=true→silent d.o.op=false→False:=by
  intro j d' hd' hj hkj hl hsil
  exact hk (befD j d' hd' hj k (hf.late j d' hd' hl k d.o hkj (hf.op k d hd) hsil))
 have apart:∀ {i j id:Nat},i < ds.length→j < ds.length→M i≤id→id < M (i+1)→M j≤id→id < M (j+1)→i=j:=by
  intro i j id hi hj h1 h2 h3 h4
  rcases Nat.lt_trichotomy i j with h | h | h
  ·have:=hf.mono (k:=i+1) (m:=j) h (by omega);omega
  ·exact h
  ·have:=hf.mono (k:=j+1) (m:=i) h (by omega);omega
 have notA:∀ id,M k≤id→id < M (k+1)→¬ E.A id:=by
  intro id h1 h2 ha
  rcases (hI.A id).1 ha with ha | ⟨j,hj,h3,h4⟩
  ·have:=h0 id ha
   have:=hf.mono (k:=0) (m:=k) (Nat.zero_le _) (by omega)
   omega
  ·have:=apart (hI.dn j hj) hkl h3 h4 h1 h2
   exact hk (this ▸ hj)
 have hM:M (k+1)=M k+(R k).news.length:=hs.num
 have fin:∃ N,∀ id,E.A id→id < N:=⟨M ds.length,fun id ha=>by
  rcases (hI.A id).1 ha with ha | ⟨j,hj,h3,h4⟩
  ·exact Nat.lt_of_lt_of_le (h0 id ha) (hf.mono (Nat.zero_le _) (Nat.le_refl _))
  ·exact Nat.lt_of_lt_of_le h4 (hf.mono (hI.dn j hj) (Nat.le_refl _))⟩
 have ready:∀ m,m≤(R k).news.length→Ready E (M k) m:=fun m hm=>⟨hI.sub,hI.wl,hI.injO,hI.ltO,hI.f0,hI.Bx,fun id h1 h2=>notA id h1 (by omega),hI.hid,hI.hlt⟩
 have stage:silent d.o.op=false→∀ id,E.A id→getOb (B k) id≠.dead→(∀ j,j < k→Aff M R j id→D j)∧∀ j,D j→k≤j→¬ Aff M R j id:=by
  intro hsil id ha hne
  have hidk:id < M k:=by rw [← hf.blen k (by omega)];exact getOb_lt hne
  refine ⟨fun j hj haff=>?_,fun j hj hkj haff=>?_⟩
  ·obtain ⟨d',hd'⟩:=dsat (j:=j) (by omega)
   have hs':=hf.step j d' hd'
   rcases haff with h | ⟨ob,h⟩ | h
   ·exfalso
    have hg:getOb (B (j+1)) id=.dead:=by
     rw [hs'.heap]
     have hlt:id < M j:=by
      have hw:=(opRes_turned hs'.res).1 id h
      rw [← hf.blen j (by omega)];exact getOb_lt (wr_ne hw)
     rcases heap_get (hf.blen j (by omega)) (hf.turn (by omega)) id with ⟨i,rfl,_⟩ | ⟨_,ob,_,hkl',_⟩
     ·omega
     ·exact hkl' h
    have hlt:id < M (j+1):=by
     have hw:=(opRes_turned hs'.res).1 id h
     have:id < M j:=by rw [← hf.blen j (by omega)];exact getOb_lt (wr_ne hw)
     exact Nat.lt_of_lt_of_le this (hf.mono (Nat.le_succ j) (by omega))
    exact hne (hf.died hlt hg k (by omega) (by omega))
   ·rcases hf.sto j d' hd' _ h with hb | ⟨_,hb⟩
    ·have hl:=hf.bar j d' hd' hb k d (by omega) hd
     have hloud:=wr_loud hs'.res (.inr (.inl ⟨_,h⟩))
     exact hbef j (hf.late k d hd hl j d'.o hj (hf.op j d' hd') hloud)
    ·exact hbef j (hb k d hj hd hsil)
   ·rcases (hI.A id).1 ha with ha | ⟨i,hi,h3,h4⟩
    ·have:=h0 id ha
     have:=hf.mono (k:=0) (m:=j) (Nat.zero_le _) (by omega)
     omega
    ·have:=apart (hI.dn i hi) (by omega) h3 h4 h.1 h.2
     exact this ▸ hi
  ·have hjl:=hI.dn j hj
   obtain ⟨d',hd'⟩:=dsat hjl
   have hs':=hf.step j d' hd'
   have hkj':k < j:=by
    rcases Nat.lt_or_ge k j with h | h
    ·exact h
    ·have:k=j:=by omega
     exact absurd (this ▸ hj) hk
   rcases haff with h | ⟨ob,h⟩ | h
   ·exact lateNo hd' hj hkj' (hs'.late id h) hsil
   ·rcases hf.sto j d' hd' _ h with hb | ⟨hb,_⟩
    ·exact lateNo hd' hj hkj' (hf.bar j d' hd' hb j d' (Nat.le_refl _) hd') hsil
    ·rcases hb k d.o hkj' (hf.op k d hd) hsil with hb | hb
     ·exact hk (befD j d' hd' hj k hb)
     ·exact absurd hidk (Nat.not_lt.2 hb)
   ·have:=hf.mono (k:=k) (m:=j) (by omega) (by omega)
    omega
 have rd:∀ t∈opLooks opsA.toList d.o,RdA E (a.eval (.tmp t)) (getN .any (S k) t):=by
  intro t ht
  refine hI.slots k t (by omega) (fun j o hj ho hdst=>?_) (fun j o hj hkj ho hdst=>?_)
  ·exact hbef j ((hf.ord k d hd).1 j o hj ho (looks_meets hdst ht).1)
  ·have hjl:=hI.dn j hj
   obtain ⟨d',hd'⟩:=dsat hjl
   have:=hf.op j d' hd'
   rw [ho] at this
   cases this
   rcases Nat.lt_or_ge k j with h | h
   ·exact hk (befD j d' hd' hj k ((hf.ord j d' hd').1 k d.o h (hf.op k d hd) (looks_meets hdst ht).2))
   ·have:k=j:=by omega
    exact hk (this ▸ hj)
 have wrk:∀ id,((R k).kill=some id∨∃ ob,(R k).st=some (id,ob))→E.A id→(getOb (B k) id).wr→E.W id:=by
  intro id hor ha hw
  have hloud:silent d.o.op=false:=wr_loud hs.res (by
   rcases hor with h | ⟨ob,h⟩
   ·exact .inl ⟨_,h⟩
   ·exact .inr (.inl ⟨_,h⟩))
  obtain ⟨s1,s2⟩:=stage hloud id ha (wr_ne hw)
  refine hI.wr k id (by omega) s1 (fun j hj hkj=>⟨s2 j hj hkj,fun hfr=>?_⟩) hw
  have hjl:=hI.dn j hj
  obtain ⟨d',hd'⟩:=dsat hjl
  have hs':=hf.step j d' hd'
  have hkj':k < j:=by
   rcases Nat.lt_or_ge k j with h | h
   ·exact h
   ·have:k=j:=by omega
    exact absurd (this ▸ hj) hk
  rcases hor with h | ⟨ob,h⟩
  ·have hlive:=opRes_live hs'.res id hfr
   have hlt:id < M k:=by rw [← hf.blen k (by omega)];exact getOb_lt (wr_ne hw)
   have hg:getOb (B (k+1)) id=.dead:=by
    rw [hs.heap]
    rcases heap_get (hf.blen k (by omega)) (hf.turn hkl) id with ⟨i,rfl,_⟩ | ⟨_,ob,_,hkl',_⟩
    ·omega
    ·exact hkl' h
   exact hlive (hf.died (by omega) hg j (by omega) (by omega))
  ·rcases hf.sto k d hd _ h with hb | ⟨_,hb⟩
   ·exact lateNo hd' hj hkj' (hf.bar k d hd hb j d' (by omega) hd') hloud
   ·exact hk (befD j d' hd' hj k (hb j d' hkj' hd' (wr_loud hs'.res (.inr (.inr (.inl fun e=>by rw [e] at hfr;simp at hfr))))))
 have need:OptP (R k).need:=hf.need k d hd fun j _ hb=>hI.given j (hbef j hb)
 have noMid:∀ {m id:Nat},Aff M R k id→m≤ds.length→getOb (B m) id≠.dead→(∀ j,j < m→Aff M R j id→D j∨j=k)→k < m →
  (∀ j,k+1≤j→j < m→¬ Aff M R j id)∧id < M (k+1):=by
  intro m id haff hm hne hall hkm
  have hlt:id < M (k+1):=by
   rcases haff with h | ⟨ob,h⟩ | h
   ·have hw:=(opRes_turned hs.res).1 id h
    have:id < M k:=by rw [← hf.blen k (by omega)];exact getOb_lt (wr_ne hw)
    omega
   ·have hw:=(opRes_turned hs.res).2 _ h
    have:id < M k:=by rw [← hf.blen k (by omega)];exact getOb_lt (wr_ne hw)
    omega
   ·exact h.2
  refine ⟨fun j h1 h2 hj=>?_,hlt⟩
  have hjD:D j:=(hall j h2 hj).resolve_right (by omega)
  obtain ⟨d',hd'⟩:=dsat (j:=j) (by omega)
  rcases haff with h | ⟨ob,h⟩ | h
  ·have hg:getOb (B (k+1)) id=.dead:=by
    rw [hs.heap]
    have hw:=(opRes_turned hs.res).1 id h
    have:id < M k:=by rw [← hf.blen k (by omega)];exact getOb_lt (wr_ne hw)
    rcases heap_get (hf.blen k (by omega)) (hf.turn hkl) id with ⟨i,rfl,_⟩ | ⟨_,ob,_,hkl',_⟩
    ·omega
    ·exact hkl' h
   exact hne (hf.died hlt hg m (by omega) hm)
  ·rcases hf.sto k d hd _ h with hb | ⟨_,hb⟩
   ·exact lateNo hd' hjD (by omega) (hf.bar k d hd hb j d' (by omega) hd') (wr_loud hs.res (.inr (.inl ⟨_,h⟩)))
   ·refine hk (befD j d' hd' hjD k (hb j d' (by omega) hd' (wr_loud (hf.step j d' hd').res ?_)))
    rcases hj with hj | ⟨ob',hj⟩ | hj
    ·exact .inl ⟨_,hj⟩
    ·exact .inr (.inl ⟨_,hj⟩)
    ·refine .inr (.inr (.inr fun e=>?_))
     have:=(hf.step j d' hd').num
     rw [e] at this
     simp at this
     omega
  ·exact notA id h.1 h.2 (hI.aff j id hjD hj)
 have final:∀ E' v,Ext E (M k) (R k) (newW (M k) (R k)) E'→OptP (R k).given→RdA E' v (R k).val→K' (a.put d.o.dst v) E'.w:=by
  intro E' v hx hgiv hv
  obtain ⟨N,hN⟩:=fin
  have hB:E'.B=E.B:=(hx.evo 0).B
  have hF:E'.F0=E.F0:=(hx.evo 0).F0
  have rdA:∀ x u,RdA E u x→RdA E' u x:=fun x u h=>h.mono (hx.evo N) hN
  have put_eval:∀ t,d.o.dst≠some t→(a.put d.o.dst v).eval (.tmp t)=a.eval (.tmp t):=by
   intro t hne
   cases hdst:d.o.dst with
   | none=>rfl
   | some t' =>
    have:t'≠t:=fun e=>hne (by rw [hdst,e])
    simp only [Act.put,Act.eval,Array.getD_eq_getD_getElem?,Array.getElem?_setIfInBounds]
    rw [if_neg this]
  have affA:∀ id,Aff M R k id→E'.A id:=by
   intro id haff
   rcases haff with h | ⟨ob,h⟩ | h
   ·exact (hx.A id).2 (.inl ((opRes_turn rd hs.res).kill id h).1)
   ·exact (hx.A id).2 (.inl ((opRes_turn rd hs.res).st _ h).1)
   ·exact (hx.A id).2 (.inr ⟨h.1,by omega⟩)
  have turned:∀ {m id:Nat},Aff M R k id→m≤ds.length→getOb (B m) id≠.dead→(∀ j,j < m→Aff M R j id→D j∨j=k)→k < m →
   E'.L id∧OkOb E' id (getOb (B m) id)∧((getOb (B m) id).wr→E'.W id):=by
   intro m id haff hm hne hall hkm
   obtain ⟨hno,hlt⟩:=noMid haff hm hne hall hkm
   have hfz:=hf.keep hlt m (by omega) hm (fun j h1 h2=>hno j h1 h2)
   rw [hs.heap] at hfz
   rcases heap_get (hf.blen k (by omega)) (hf.turn hkl) id with ⟨j,hj,hg⟩ | ⟨hidk,ob,hob,hkill,hfr,hfw⟩
   ·rw [hg] at hfz
    have hne0:getOb (R k).news j≠.dead:=fun e=>hne (by rw [e] at hfz;exact hfz.dead)
    have hjl:=getOb_lt hne0
    have hL':E'.L id:=(hx.L id).2 (.inr ⟨by omega,by omega⟩)
    refine ⟨hL',hfz.ok hne ?_,fun hw=>(hx.W id).2 (.inr ⟨by omega,by omega, ?_⟩)⟩
    ·have:=hx.new j _ (getN_of_lt (d:=Ob.dead) hjl)
     rw [hj];exact this
    ·show (getOb (R k).news (id - M k)).wr
     rw [hj,Nat.add_sub_cancel_left]
     exact hfz.wr hw
   ·have hnk:(R k).kill≠some id:=fun h=>hne (by rw [hkill h] at hfz;exact hfz.dead)
    rcases haff with h | ⟨ob',h⟩ | h
    ·exact absurd h hnk
    ·rcases hob with ⟨ob2,hst,rfl⟩ | ⟨hst,_⟩
     ·have hfz2:=(hfr hnk).trans hfz
      obtain ⟨ha,hw0⟩:=(opRes_turn rd hs.res).st _ hst
      have hloud:=wr_loud hs.res (.inr (.inl ⟨_,hst⟩))
      obtain ⟨s1,s2⟩:=stage hloud id ha (wr_ne hw0)
      have hl:=(hI.objs k id (by omega) s1 s2 (wr_ne hw0)).1
      refine ⟨(hx.L id).2 (.inl ⟨hl,hnk⟩),hfz2.ok hne (hx.st id _ hst),fun hw=>(hx.W id).2 (.inl ⟨wrk id (.inr ⟨_,hst⟩) ha hw0,hnk,fun hm=>hfw hm (hfz.wr hw)⟩)⟩
     ·exact absurd rfl (hst _ h)
    ·omega
  refine hK E' _ ⟨?_, ?_, ?_, ?_, ?_,hx.injO,hx.ltO, ?_, ?_,hx.hid,fun b hb=>Nat.lt_of_lt_of_le (hI.hlt b (by rw [← (hx.evo 0).Hd];exact hb)) (hx.evo 0).below.size, ?_, ?_, ?_, ?_, ?_, ?_, ?_, ?_⟩
  ·intro j d' hd' hj e he hb
   rcases hj with hj | rfl
   ·exact .inl (hI.cl j d' hd' hj e he hb)
   ·rw [hd] at hd'
    cases hd'
    exact .inl (hed e he hb)
  ·intro j hj
   rcases hj with hj | rfl
   ·exact hI.dn j hj
   ·exact hkl
  ·intro id
   rw [hx.A id,hI.A id]
   constructor
   ·rintro ((h | ⟨j,hj,h⟩) | h)
    ·exact .inl h
    ·exact .inr ⟨j,.inl hj,h⟩
    ·exact .inr ⟨k,.inr rfl,h.1,by omega⟩
   ·rintro (h | ⟨j,hj | rfl,h⟩)
    ·exact .inl (.inl h)
    ·exact .inl (.inr ⟨j,hj,h⟩)
    ·exact .inr ⟨h.1,by omega⟩
  ·intro id hl
   rcases (hx.L id).1 hl with ⟨h1,_⟩ | h1
   ·exact (hx.A id).2 (.inl (hI.sub id h1))
   ·exact (hx.A id).2 (.inr h1)
  ·intro id hw
   rcases (hx.W id).1 hw with ⟨h1,h2,_⟩ | ⟨h1,h2,_⟩
   ·exact (hx.L id).2 (.inl ⟨hI.wl id h1,h2⟩)
   ·exact (hx.L id).2 (.inr ⟨h1,h2⟩)
  ·intro b o hb
   rw [hF] at hb;rw [hB]
   exact hI.f0 b o hb
  ·rw [hB]
   exact Nat.le_trans hI.Bx (hx.evo 0).below.size
  ·intro m id hm hall hnone hne
   by_cases haff:Aff M R k id
   ·have hkm:k < m:=by
     rcases Nat.lt_or_ge k m with h | h
     ·exact h
     ·exact absurd haff (hnone k (.inr rfl) h)
    obtain ⟨h1,h2,_⟩:=turned haff hm hne hall hkm
    exact ⟨h1,h2⟩
   ·obtain ⟨h1,h2⟩:=hI.objs m id hm (fun j hj ha=>(hall j hj ha).resolve_right fun e=>haff (e ▸ ha)) (fun j hj=>hnone j (.inl hj)) hne
    have hnk:(R k).kill≠some id:=fun h=>haff (.inl h)
    exact ⟨(hx.L id).2 (.inl ⟨h1,hnk⟩),hx.old id _ h1 hnk (fun p hp e=>haff (.inr (.inl ⟨p.2,by rw [hp,← e]⟩))) h2⟩
  ·intro m id hm hall hnone hw
   by_cases haff:Aff M R k id
   ·have hkm:k < m:=by
     rcases Nat.lt_or_ge k m with h | h
     ·exact h
     ·exact absurd haff (hnone k (.inr rfl) h).1
    exact (turned haff hm (wr_ne hw) hall hkm).2.2 hw
   ·have hW:=hI.wr m id hm (fun j hj ha=>(hall j hj ha).resolve_right fun e=>haff (e ▸ ha)) (fun j hj=>hnone j (.inl hj)) hw
    have hnk:(R k).kill≠some id:=fun h=>haff (.inl h)
    refine (hx.W id).2 (.inl ⟨hW,hnk,fun hfr=>?_⟩)
    rcases Nat.lt_or_ge k m with hkm | hkm
    ·have hlive:=opRes_live hs.res id hfr
     have hidk:id < M k:=by rw [← hf.blen k (by omega)];exact getOb_lt hlive
     have hloud:=wr_loud hs.res (.inr (.inr (.inl (by intro e;rw [e] at hfr;simp at hfr))))
     have hl:=hf.leave hkl hidk haff
     refine hl.2 hfr ?_
     refine (hf.keep (k:=k+1) (by omega) m (by omega) hm fun j h1 h2 hj=>?_).wr hw
     have hjD:D j:=(hall j h2 hj).resolve_right (by omega)
     obtain ⟨d',hd'⟩:=dsat (j:=j) (by omega)
     have hs':=hf.step j d' hd'
     rcases hj with h | ⟨ob,h⟩ | h
     ·exact lateNo hd' hjD (by omega) (hs'.late id h) hloud
     ·rcases hf.sto j d' hd' _ h with hb | ⟨hb,_⟩
      ·exact lateNo hd' hjD (by omega) (hf.bar j d' hd' hb j d' (Nat.le_refl _) hd') hloud
      ·rcases hb k d.o (by omega) (hf.op k d hd) hloud with hb | hb
       ·exact hk (befD j d' hd' hjD k hb)
       ·exact absurd hidk (Nat.not_lt.2 hb)
     ·have:=hf.mono (k:=k) (m:=j) (by omega) (by omega)
      omega
    ·exact (hnone k (.inr rfl) hkm).2 hfr
  ·intro m t hm hall hnone
   by_cases hdst:d.o.dst=some t
   ·have hkm:k < m:=by
     rcases Nat.lt_or_ge k m with h | h
     ·exact h
     ·exact absurd hdst (hnone k d.o (.inr rfl) h (hf.op k d hd))
    have hslot:=hf.slot (k:=k+1) (t:=t) m (by omega) hm fun j o h1 h2 ho hdj=>by
     have hjD:D j:=(hall j o h2 ho hdj).resolve_right (by omega)
     obtain ⟨d',hd'⟩:=dsat (j:=j) (by omega)
     have:=hf.op j d' hd'
     rw [ho] at this
     cases this
     exact hk (befD j d' hd' hjD k ((hf.ord j d' hd').1 k d.o (by omega) (hf.op k d hd) (dst_meets hdst hdj)))
    rw [hslot,hs.put.eq,hdst]
    obtain ⟨htl,_⟩:=hs.put.ok t hdst
    simp only [getN_setN]
    rw [if_pos ⟨trivial,htl⟩]
    have:(a.put (some t) v).eval (.tmp t)=v:=by
     have hta:t < a.tmps.size:=by rw [hI.size,← hf.slen k (by omega)];exact htl
     simp [Act.put,Act.eval,Array.getD_eq_getD_getElem?,hta]
    rw [this]
    exact hv
   ·rw [put_eval t hdst]
    exact rdA _ _ (hI.slots m t hm (fun j o hj ho hdj=>(hall j o hj ho hdj).resolve_right fun e=>by
     subst e
     rw [hf.op j d hd] at ho
     cases ho
     exact hdst hdj) (fun j o hj=>hnone j o (.inl hj)))
  ·cases hdst:d.o.dst <;> simp [Act.put,hI.size]
  ·intro j hj
   rcases hj with hj | rfl
   ·exact hI.given j hj
   ·exact hgiv
  ·intro j id hj haff
   rcases hj with hj | rfl
   ·exact (hx.A id).2 (.inl (hI.aff j id hj haff))
   ·exact affA id haff
  ·exact hI.evo.trans (hx.evo (M 0))
  ·have e:(a.put d.o.dst v).defers=a.defers:=by cases d.o.dst <;> rfl
   rw [e];exact hI.defers.mono (hx.evo 0)
 cases hsil:silent d.o.op with
 | true =>
  obtain ⟨hres,hnews,hfrz,hkill,hst⟩:=opRes_silent hsil hs.res
  have dead:∀ id,getOb [] id=.dead:=fun id=>getN_ge _ (by simp)
  refine opRes_ok (wn:=newW (M k) (R k)) (H:=[]) (sl:=S k) (n:=M k) ⟨hf.good,fun m hm=>ready m (hm.resolve_left (by simp)),fin,fun id _ h=>absurd (dead id) h,fun id _ h=>absurd (dead id) h,fun id h=>?_,rd,hf.stat k (by omega),need⟩ hres final
  rcases h with h | ⟨ob,h⟩
  ·rw [hkill] at h;cases h
  ·rw [hst] at h;cases h
 | false =>
  refine opRes_ok (wn:=newW (M k) (R k)) (H:=B k) (sl:=S k) (n:=M k) ⟨hf.good,fun m hm=>ready m (hm.resolve_left (by simp)),fin,fun id ha hne=>?_,fun id hl hne=>?_,wrk,rd,hf.stat k (by omega),need⟩ hs.res final
  ·obtain ⟨s1,s2⟩:=stage hsil id ha hne
   exact (hI.objs k id (by omega) s1 s2 hne).1
  ·obtain ⟨s1,s2⟩:=stage hsil id (hI.sub id hl) hne
   exact (hI.objs k id (by omega) s1 s2 hne).2
end
end Go.Sx
