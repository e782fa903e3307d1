import Derived.Test.YticmijfmgmkkcaaGreatVSxDrawD
set_option linter.unusedSimpArgs false
set_option linter.unusedVariables false
set_option maxRecDepth 100000
namespace Go.Sx
open Go.RowKit
theorem binds_any (e:Go.Edge):Region.binds .any e=edgeBinds e:=by
 unfold Region.binds edgeBinds
 cases e.ground <;> rfl
section
variable {P:Program} {cx:Ctx}
theorem flags_facts (hcx:GoodCtx P cx) {ops:List Oper} {sl:List AV} {H:List Ob} {n:Nat} {K:Kont} (hlen:H.length=n) (hstat:WhenStat sl) (hord:ordOk ops 0 (flags ops)=true) (h:runDraw cx P ops (flags ops) 0 [] [] sl H n K) :
 ∃ S B M R,DrawFacts P cx ops (flags ops) S B M R∧S 0=sl∧B 0=H∧M 0=n∧((∀ j,j < ops.length→OptP (R j).given)→K (S ops.length) (B ops.length) (M ops.length)):=by
 obtain ⟨S,B,M,R,h1,h2,h3,h4,h5,h6,h7⟩:=draw_data (flags ops) 0 [] [] sl H n K rfl h
 obtain ⟨f1,f2,f3⟩:=flagsGo_get (L:=louds 0 ops) (ops.zip (befL [] ops)) 0
 have hbl:(befL [] ops).length=ops.length:=by rw [befL_length];simp
 have hfl:(flags ops).length=ops.length:=by
  show (flagsGo _ _ _).length=_
  rw [f1,List.length_zip,hbl,Nat.min_self]
 have hop:∀ (k:Nat) (d:DrawOp),(flags ops)[k]?=some d→ops[k]?=some d.o∧getN 0 (befL [] ops) k=d.bef:=by
  intro k d hd
  have:=(f2 k d hd).1
  rw [List.getElem?_zip_eq_some] at this
  refine ⟨this.1, ?_⟩
  rw [getN_eq,this.2];rfl
 refine ⟨S,B,M,R,⟨hcx,hfl,by rw [h2,h3];exact hlen,by rw [h1];exact hstat,h4,fun k d hd=>(hop k d hd).1,fun k d hd hj=>h5 k d hd (fun j q hm=>by simp at hm) (fun j hjk hb=>hj j hjk (by rw [Nat.zero_add] at hb;exact hb)), ?_,f3,fun k d hd p hp=>(h7 k d hd p hp).imp (fun h=>h) fun ⟨_,g2,g3⟩=>⟨fun j o hj ho hs=>by
  have:=g2 j o hj (by rw [Nat.zero_add];exact ho) hs
  rw [Nat.zero_add] at this
  exact this,fun j d' hj hd' hs=>by
  have:=g3 j d' hj hd' hs
  rw [Nat.zero_add] at this
  exact this⟩, ?_, ?_⟩,h1,h2,h3,fun hg=>?_⟩
 ·intro k d hd hl j o hj ho hs
  rw [(f2 k d hd).2,Nat.zero_add] at hl
  have:=louds_get ops 0 j o ho hs
  rw [Nat.zero_add] at this
  exact isLate_get hl j hj this
 ·intro k d hd
  have:=ordOk_get (flags ops) 0 hord k d hd
  rw [Nat.zero_add] at this
  exact this
 ·intro D hD k d hd he j hj
  have hD':∀ i o,ops[i]?=some o→D i→∀ e∈o.after.toList,edgeBinds e=true→D e.on:=by
   intro i o ho hi
   have hlt:i < (flags ops).length:=by rw [hfl];exact (List.getElem?_eq_some_iff.1 ho).1
   obtain ⟨d',hd'⟩:=at_some i hlt
   have:=(hop i d' hd').1
   rw [ho] at this
   cases this
   exact hD i d' hd' hi
  refine befL_closed ops [] ops rfl (by simp) hD' (fun i j hi=>by simp at hi) k j (fun o ho=>?_) ?_
  ·rw [(hop k d hd).1] at ho
   cases ho
   exact he
  ·rw [(hop k d hd).2]
   exact hasB_iff.1 hj
 ·rw [hfl] at h6
  exact h6 (fun j q hm=>by simp at hm) hg
theorem range_find {M:Nat→Nat} {id:Nat}:∀ m,M 0≤id→id < M m→∃ j,j < m∧M j≤id∧id < M (j+1)
 | 0,h1,h2=>by omega
 | m+1,h1,h2=>by
  rcases Nat.lt_or_ge id (M m) with h | h
  ·obtain ⟨j,h3,h4⟩:=range_find m h1 h
   exact ⟨j,by omega,h4⟩
  ·exact ⟨m,by omega,h,h2⟩
theorem Inv.start {ops:List Oper} {ds:List DrawOp} {S:Nat→List AV} {B:Nat→List Ob} {M:Nat→Nat} {R:Nat→Res} {E:Env} {a:Act} (hf:DrawFacts P cx ops ds S B M R) (hE:EnvOk E (B 0) (M 0)) (hs:SlOk E a (S 0)) :
 Inv ops ds S B M R (fun _=>False) E E a:=by
 have old:∀ m id,m≤ds.length→(∀ k,k < m→Aff M R k id→False)→getOb (B m) id≠.dead→Frz (getOb (B 0) id) (getOb (B m) id):=by
  intro m id hm hno hne
  have hlt:id < M m:=by rw [← hf.blen m hm];exact getOb_lt hne
  rcases Nat.lt_or_ge id (M 0) with h | h
  ·exact hf.keep h m (Nat.zero_le _) hm fun j _ hj haff=>hno j hj haff
  ·obtain ⟨j,hj,hr⟩:=range_find m h hlt
   exact (hno j hj (.inr (.inr hr))).elim
 refine ⟨fun _ _ _ h=>h.elim,fun _ h=>h.elim,fun id=>⟨.inl,fun h=>h.elim (fun h=>h) fun ⟨_,h,_⟩=>h.elim⟩,hE.sub,hE.wl,hE.injO,hE.ltO,hE.f0,hE.B,hE.hid,hE.hlt, ?_, ?_, ?_,hs.size,fun _ h=>h.elim,fun _ _ h=>h.elim,Evo.refl _ _,hs.defers⟩
 ·intro m id hm hno _ hne
  have hfz:=old m id hm hno hne
  have hne0:getOb (B 0) id≠.dead:=fun e=>hne (by rw [e] at hfz;exact hfz.dead)
  exact ⟨hE.live id hne0,hfz.ok hne (hE.ok id (hE.live id hne0) hne0)⟩
 ·intro m id hm hno _ hw
  exact hE.wr id ((old m id hm hno (wr_ne hw)).wr hw)
 ·intro m t hm hno _
  rw [hf.slot (k:=0) m (Nat.zero_le _) hm fun j o _ hj ho hd=>hno j o hj ho hd]
  exact hs.rd t
theorem Inv.finish {ops:List Oper} {ds:List DrawOp} {S:Nat→List AV} {B:Nat→List Ob} {M:Nat→Nat} {R:Nat→Res} {E0 E:Env} {a:Act} (hf:DrawFacts P cx ops ds S B M R) (h0:∀ id,E0.A id→id < M 0)
 (hI:Inv ops ds S B M R (fun j=>j < ds.length) E0 E a):EnvOk E (B ds.length) (M ds.length)∧SlOk E a (S ds.length):=by
 have bound:∀ id,E.A id→id < M ds.length:=by
  intro id ha
  rcases (hI.A id).1 ha with ha | ⟨j,hj,h3,h4⟩
  ·exact Nat.lt_of_lt_of_le (h0 id ha) (hf.mono (Nat.zero_le _) (Nat.le_refl _))
  ·exact Nat.lt_of_lt_of_le h4 (hf.mono hj (Nat.le_refl _))
 refine ⟨⟨hf.blen _ (Nat.le_refl _),bound,fun id hne=>?_,fun id hw=>?_,fun id _ hne=>?_,hI.sub,hI.wl,hI.injO,hI.ltO,hI.f0,hI.Bx,hI.hid,hI.hlt⟩,⟨?_,fun t=>?_,hf.stat _ (Nat.le_refl _),hI.defers⟩⟩
 ·exact (hI.objs _ id (Nat.le_refl _) (fun j hj _=>hj) (fun j hj hk=>by omega) hne).1
 ·exact hI.wr _ id (Nat.le_refl _) (fun j hj _=>hj) (fun j hj hk=>by omega) hw
 ·exact (hI.objs _ id (Nat.le_refl _) (fun j hj _=>hj) (fun j hj hk=>by omega) hne).2
 ·rw [hf.slen _ (Nat.le_refl _)];exact hI.size
 ·exact hI.slots _ t (Nat.le_refl _) (fun j o hj _ _=>hj) (fun j o hj hk=>by omega)
theorem any_ok {opsA:Array Oper} {ds:List DrawOp} {S:Nat→List AV} {B:Nat→List Ob} {M:Nat→Nat} {R:Nat→Res} {E0:Env} {Q:Exit→Act→World→Prop} {ro:Option Nat} (hf:DrawFacts P cx opsA.toList ds S B M R) (h0:∀ id,E0.A id→id < M 0)
 (hQ:∀ E a,Inv opsA.toList ds S B M R (fun j=>j < ds.length) E0 E a→Q .normal a E.w):∀ (fuel:Nat) (listed:Array Bool) (E:Env) (a:Act),listed.size=opsA.size→listed.toList.count false≤fuel →
 Inv opsA.toList ds S B M R (fun j=>listed.getD j false=true) E0 E a→wpAnyIn (fen ro) 0 P .any opsA Q fuel listed a E.w:=by
 have hlen:ds.length=opsA.size:=by rw [hf.len];simp
 have done:∀ (listed:Array Bool) (E:Env) (a:Act),listed.size=opsA.size→Inv opsA.toList ds S B M R (fun j=>listed.getD j false=true) E0 E a→Region.ready .any opsA listed=[]→Q .normal a E.w:=by
  intro listed E a hsz hI hr
  have all:∀ j,j < ds.length→listed.getD j false=true:=by
   intro j
   induction j using Nat.strongRecOn with
   | _ j ih =>
    intro hj
    cases hl:listed.getD j false with
    | true=>rfl
    | false =>
     exfalso
     obtain ⟨d,hd⟩:=at_some j hj
     have ho:opsA[j]?=some d.o:=by rw [← Array.getElem?_toList];exact hf.op j d hd
     have hm:j∈Region.ready .any opsA listed:=by
      unfold Region.ready
      refine List.mem_filter.2 ⟨List.mem_range.2 (by omega), ?_⟩
      have h1:listed.getD j true=false:=by
       have hjs:j < listed.size:=by omega
       simp only [Array.getD_eq_getD_getElem?,Array.getElem?_eq_getElem hjs,Option.getD_some] at hl ⊢
       exact hl
      simp only [h1,Bool.not_false,Bool.true_and,ho,Option.map_some,Option.getD_some]
      rw [Array.all_eq_true']
      intro e he
      rw [binds_any]
      cases hb:edgeBinds e with
      | false=>rfl
      | true =>
       have hon:=(hf.ord j d hd).2 e (by simpa using he) hb
       simpa using ih e.on hon (by omega)
     rw [hr] at hm
     simp at hm
  refine hQ E a ?_
  have:(fun j=>listed.getD j false=true)=fun j=>j < ds.length:=funext fun j=>propext ⟨hI.dn j,all j⟩
  rw [← this]
  exact hI
 have mem:∀ (listed:Array Bool) (i:Nat),listed.size=opsA.size→i∈Region.ready .any opsA listed→∃ d,ds[i]?=some d∧i < listed.size∧listed.getD i false=false∧∀ e∈d.o.after.toList,edgeBinds e=true→listed.getD e.on false=true:=by
  intro listed i hsz hi
  unfold Region.ready at hi
  obtain ⟨h1,h2⟩:=List.mem_filter.1 hi
  have hlt:i < opsA.size:=List.mem_range.1 h1
  obtain ⟨d,hd⟩:=at_some (ds:=ds) i (by omega)
  have ho:opsA[i]?=some d.o:=by rw [← Array.getElem?_toList];exact hf.op i d hd
  simp only [Bool.and_eq_true,ho,Option.map_some,Option.getD_some] at h2
  obtain ⟨h3,h4⟩:=h2
  have his:i < listed.size:=by omega
  refine ⟨d,hd,his, ?_,fun e he hb=>?_⟩
  ·simp only [Array.getD_eq_getD_getElem?,Array.getElem?_eq_getElem his,Option.getD_some,Bool.not_eq_true'] at h3 ⊢
   exact h3
  ·rw [Array.all_eq_true'] at h4
   have:=h4 e (by simpa using he)
   rw [binds_any,hb] at this
   simpa using this
 intro fuel
 induction fuel with
 | zero =>
  intro listed E a hsz hc hI
  have hr:Region.ready .any opsA listed=[]:=by
   cases hr:Region.ready .any opsA listed with
   | nil=>rfl
   | cons i l =>
    exfalso
    obtain ⟨d,_,his,hf',_⟩:=mem listed i hsz (by rw [hr];simp)
    have:false∈listed.toList:=by
     simp only [Array.getD_eq_getD_getElem?,Array.getElem?_eq_getElem his,Option.getD_some] at hf'
     rw [← hf']
     exact Array.getElem_mem_toList his
    have:=List.count_pos_iff.2 this
    omega
  exact ⟨hr,done listed E a hsz hI hr⟩
 | succ fuel ih =>
  intro listed E a hsz hc hI
  refine ⟨done listed E a hsz hI,fun i hi=>?_⟩
  obtain ⟨d,hd,his,hfalse,hed⟩:=mem listed i hsz hi
  have ho:opsA[i]?=some d.o:=by rw [← Array.getElem?_toList];exact hf.op i d hd
  have hset:(fun j=>(listed.setIfInBounds i true).getD j false=true)=fun j=>listed.getD j false=true∨j=i:=by
   funext j
   refine propext ?_
   simp only [Array.getD_eq_getD_getElem?,Array.getElem?_setIfInBounds]
   by_cases hij:i=j
   ·subst hij
    simp [his]
   ·rw [if_neg hij]
    constructor
    ·exact .inl
    ·rintro (h | h)
     ·exact h
     ·exact absurd h.symm hij
  have hcount:(listed.setIfInBounds i true).toList.count false≤fuel:=by
   have hl:listed.toList[i]'(by simpa using his)=false:=by
    simp only [Array.getD_eq_getD_getElem?,Array.getElem?_eq_getElem his,Option.getD_some] at hfalse
    simpa using hfalse
   rw [Array.toList_setIfInBounds,List.count_set (by simpa using his),hl]
   simp only [beq_self_eq_true,if_true,show (true == false)=false from rfl,Bool.false_eq_true,if_false]
   omega
  have:=hI.step (ro:=ro) (Q:=Q) (K':=wpAnyIn (fen ro) 0 P .any opsA Q fuel (listed.setIfInBounds i true)) hf h0 hd (by rw [hfalse];simp) hed fun E' a' hI'=>ih _ E' a' (by simpa using hsz) hcount (by rw [hset];exact hI')
  unfold wpOpIn
  rw [ho]
  simp only
  rcases this with ⟨h1,h2⟩ | ⟨h1,h2⟩
  ·rw [if_pos h1];exact h2
  ·rw [if_neg (by rw [h1];simp)];exact ⟨fun _ _=>trivial,h2⟩
theorem drawnOk1 (hcx:GoodCtx P cx):DrawnOk1 P cx:=by
 intro ro opsA id E a sl H n K Q hE hs hord h hK
 simp only [Bool.and_eq_true] at hord
 obtain ⟨S,B,M,R,hf,h1,h2,h3,h4⟩:=flags_facts hcx hE.len hs.stat hord.2 h
 have hE1:=hE.drew
 have hs1:SlOk { E with w:={ E.w with drawn:=E.w.drawn+1 } } a sl:=hs.mono (drew_evo n E) hE.ns
 subst h1;subst h2;subst h3
 have hI:=Inv.start hf hE1 hs1
 refine wpIn_region_any hord.1 ?_
 refine any_ok (E0:={ E with w:={ E.w with drawn:=E.w.drawn+1 } }) hf hE.ns (fun E' a' hI'=>?_) opsA.size (Array.replicate opsA.size false) { E with w:={ E.w with drawn:=E.w.drawn+1 } } a (by simp) ?_ ?_
 ·obtain ⟨k1,k2⟩:=Inv.finish (E0:={ E with w:={ E.w with drawn:=E.w.drawn+1 } }) hf hE.ns hI'
  have hl:(flags opsA.toList).length=opsA.toList.length:=hf.len
  rw [hl] at k1 k2
  refine hK E' a' _ _ _ (h4 fun j hj=>hI'.given j (by rw [hl];exact hj)) k1 k2 ((drew_evo _ E).trans hI'.evo) (hf.mono (Nat.zero_le _) (by rw [hl];exact Nat.le_refl _))
 ·simp
 ·have:(fun j=>(Array.replicate opsA.size false).getD j false=true)=fun _=>False:=by
   funext j
   simp only [Array.getD_eq_getD_getElem?,Array.getElem?_replicate]
   split <;> simp
  rw [this]
  exact hI
end
end Go.Sx
