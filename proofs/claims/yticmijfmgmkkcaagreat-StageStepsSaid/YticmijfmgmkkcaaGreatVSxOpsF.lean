import Derived.Test.YticmijfmgmkkcaaGreatVSxOpsE
set_option linter.unusedSimpArgs false
set_option linter.unusedVariables false
set_option maxRecDepth 100000
namespace Go.Sx
open Go.RowKit
section
variable {P:Program} {cx:Ctx} {E E':Env} {a:Act} {H:List Ob} {n:Nat} {r:Res} {wn:Nat→Prop}
def Env.idle (E:Env) (w:World):Env:={ E with w:=w }
theorem idle_nb (hx:Ext E n r wn E') (hr:Ready E n r.news.length) (hk:r.kill=none) (hf:r.frz=[]) {b:Nat} (h:E'.Nb b):(E.idle E'.w).Nb b:=by
 refine ⟨h.1,fun id hW ho=>?_,by rw [show (E.idle E'.w).Hd=E'.Hd from (hx.evo 0).Hd.symm];exact h.2.2⟩
 have hl:E.L id:=hr.wl id hW
 have ha:E.A id:=hr.sub id hl
 have hW':E'.W id:=(hx.W id).2 (.inl ⟨hW,by rw [hk];simp,by rw [hf];simp⟩)
 have hl':E'.L id:=(hx.L id).2 (.inl ⟨hl,by rw [hk];simp⟩)
 exact h.2.1 id hW' ((hx.evo (id+1)).own (Nat.lt_succ_self id) ha hl' ho)
theorem idle_fz (hx:Ext E n r wn E') (hr:Ready E n r.news.length) (hk:r.kill=none) (hf:r.frz=[]) {b o:Nat} (h:E'.Fz b o):(E.idle E'.w).Fz b o:=by
 have hB:E'.B=E.B:=(hx.evo 0).B
 have hF:E'.F0=E.F0:=(hx.evo 0).F0
 rcases h with ⟨h1,h2⟩ | ⟨h1,h2⟩
 ·exact .inl ⟨hB ▸ h1,hF ▸ h2⟩
 ·exact .inr ⟨hB ▸ h1,idle_nb hx hr hk hf h2⟩
theorem idle_ext {q g:Option Prop} {v:AV} (hx:Ext E n r wn E') (hr:Ready E n r.news.length) (hA:∃ N,∀ id,E.A id→id < N) (hk:r.kill=none) (hst:r.st=none) (hf:r.frz=[]):Ext E n ⟨q,g,v,[],none,none,[]⟩ wn (E.idle E'.w):=by
 obtain ⟨N,hN⟩:=hA
 have evo:∀ n0,Evo n0 E (E.idle E'.w):=by
  intro n0
  have h0:=hx.evo 0
  refine ⟨rfl,rfl,rfl,h0.below,fun _ _ h=>h,fun _ _ _ h=>⟨h,rfl⟩,fun _ _ _ _ _ _ h=>h,fun b hb=>?_,rfl,h0.hh⟩
  obtain ⟨h1,h2⟩:=h0.hp b hb
  exact ⟨idle_nb hx hr hk hf h1,h2⟩
 refine ⟨evo, ?_, ?_, ?_,hr.injO, ?_,hr.hid, ?_, ?_, ?_, ?_⟩
 ·intro id;simp [Env.idle];omega
 ·intro id;simp [Env.idle];omega
 ·intro id;simp [Env.idle];omega
 ·intro id b hl ho
  obtain ⟨h1,h2⟩:=hr.ltO id b hl ho
  exact ⟨h1,Nat.lt_of_lt_of_le h2 (hx.evo 0).below.size⟩
 ·intro j ob h;simp at h
 ·intro id ob h;cases h
 ·intro id b hl ho _ _
  exact hx.keep id b hl ho (by rw [hk];simp) (by rw [hst];simp)
 ·intro id ob hl _ _ hok
  refine OkOb.mono (evo N) hN (hr.sub id hl) hl rfl (fun b ho=>hx.keep id b hl ho (by rw [hk];simp) (by rw [hst];simp)) hok
theorem asSlL_get {news:List Ob}:∀ {l m:List AV},asSlL n news l=some m→l.length=m.length∧∀ (i:Nat) x y,l[i]?=some x→m[i]?=some y→asSl n news x=some y
 | [],m,h=>by
  simp only [asSlL,Option.some.injEq] at h
  subst h
  exact ⟨rfl,fun i x y hx=>by simp at hx⟩
 | x :: l,m,h=>by
  simp only [asSlL] at h
  split at h
  ·rename_i y ys h1 h2
   cases h
   have ih:=asSlL_get h2
   refine ⟨by simp [ih.1],fun i u v hu hv=>?_⟩
   match i,hu,hv with
   | 0,hu,hv=>cases hu;cases hv;exact h1
   | i+1,hu,hv=>exact ih.2 i u v (by simpa using hu) (by simpa using hv)
  ·cases h
theorem asSl_ok (hx:Ext E n r wn E') (hr:Ready E n r.news.length) (hk:r.kill=none) (hf:r.frz=[]) {v:Value} {x:AV} (hv:RdA E' v x) :
 ∀ x',asSl n r.news x=some x'→RdA (E.idle E'.w) v x':=by
 have old:∀ id,¬ n≤id→E'.A id→E.A id:=fun id h ha=>((hx.A id).1 ha).resolve_right fun h'=>h h'.1
 have oldL:∀ id,E.L id→E'.L id∧E'.ρ id=E.ρ id:=fun id hl=>by
  have hl':E'.L id:=(hx.L id).2 (.inl ⟨hl,by rw [hk];simp⟩)
  exact ⟨hl',((hx.evo (id+1)).ids id (Nat.lt_succ_self id) (hr.sub id hl) hl').2⟩
 have toP:∀ {v p},RdP E'.w E'.Fz v p→RdP (E.idle E'.w).w (E.idle E'.w).Fz v p:=fun h=>h.monoF fun b o hb=>idle_fz hx hr hk hf hb
 induction hv with
 | any v=>intro x' h;cases h;exact .any _
 | int k m=>intro x' h;cases h;exact .int _ _
 | bool b=>intro x' h;cases h;exact .bool _
 | str s=>intro x' h;cases h;exact .str _
 | val v h1=>intro x' h;cases h;exact .val _ h1
 | nils b c=>intro x' h;cases h;exact .nils _ _
 | cap0 b=>intro x' h;cases h;exact .cap0 _
 | sl v t xs h1=>intro x' h;cases h;exact .sl _ _ _ (toP h1)
 | when v c s w x _ _ _=>intro x' h;cases h
 | fn f vs ws xs ys hv hw _ _ ih1 ih2 =>
  intro x' h
  simp only [asSl] at h
  split at h
  ·rename_i a' b' ha hb
   cases h
   obtain ⟨la,ga⟩:=asSlL_get ha
   obtain ⟨lb,gb⟩:=asSlL_get hb
   refine .fn f vs ws a' b' (hv.trans la) (hw.trans lb) (fun i v x hv' hx=>?_) fun i v x hv' hx=>?_
   ·have hi:i < xs.length:=by rw [la];exact (List.getElem?_eq_some_iff.1 hx).1
    exact ih1 i v _ hv' (List.getElem?_eq_getElem hi) _ (ga i _ _ (List.getElem?_eq_getElem hi) hx)
   ·have hi:i < ys.length:=by rw [lb];exact (List.getElem?_eq_some_iff.1 hx).1
    exact ih2 i v _ hv' (List.getElem?_eq_getElem hi) _ (gb i _ _ (List.getElem?_eq_getElem hi) hx)
  ·cases h
 | ownp v id k lo m hA h1 hp=>intro x' h;cases h
 | ownc v id k lo m hA h1 hp=>intro x' h;cases h
 | csl v t id m hA h1 hp =>
  intro x' h
  simp only [asSl] at h
  split at h
  ·cases h
  ·rename_i hle
   cases h
   have hle':¬ n≤id:=by simpa using hle
   refine .csl _ t id m (old id hle' hA) h1 fun hl=>?_
   obtain ⟨g1,g2⟩:=oldL id hl
   have:=hp g1
   rw [g2] at this
   exact this
 | dmp=>intro x' h;cases h
 | grow=>intro x' h;cases h
 | gptr=>intro x' h;cases h
 | slf t xs ba h1=>intro x' h;cases h;exact .slf t xs ba (toP h1)
 | yld v id hA h1 hp =>
  intro x' h
  simp only [asSl] at h
  split at h
  ·cases h
  ·rename_i hle
   cases h
   have hle':¬ n≤id:=by simpa using hle
   refine .yld _ id (old id hle' hA) h1 fun hl=>?_
   obtain ⟨g1,g2⟩:=oldL id hl
   have:=hp g1
   rw [g2] at this
   exact this
 | eptr b o cs g hcell hrd =>
  intro x' h
  cases h
  exact .eptr b o cs g (fun j hj=>⟨idle_fz hx hr hk hf (hcell j hj).1,(hcell j hj).2⟩) (fun j p hp=>toP (hrd j p hp))
 | ptr v id off hA h1 hp =>
  intro x' h
  simp only [asSl] at h
  split at h
  ·cases h
  ·rename_i hle
   cases h
   have hle':¬ n≤id:=by simpa using hle
   refine .ptr _ id off (old id hle' hA) h1 fun hl=>?_
   obtain ⟨g1,g2⟩:=oldL id hl
   have:=hp g1
   rw [g2] at this
   exact this
 | mp v id hA h1 hp =>
  intro x' h
  simp only [asSl] at h
  split at h
  ·cases h
  ·rename_i hle
   cases h
   have hle':¬ n≤id:=by simpa using hle
   refine .mp _ id (old id hle' hA) h1 fun hl=>?_
   obtain ⟨g1,g2⟩:=oldL id hl
   have:=hp g1
   rw [g2] at this
   exact this
 | rptr v id k row off hA h1 hp =>
  intro x' h
  simp only [asSl] at h
  split at h
  ·cases h
  ·rename_i hle
   cases h
   have hle':¬ n≤id:=by simpa using hle
   refine .rptr _ id k row off (old id hle' hA) h1 fun hl=>?_
   obtain ⟨g1,g2⟩:=oldL id hl
   have:=hp g1
   rw [g2] at this
   exact this
 | own v id hA h1 hp =>
  intro x' h
  simp only [asSl] at h
  split at h
  ·rename_i hle
   have hle':n≤id:=by simpa using hle
   split at h
   ·rename_i t xs hob
    cases h
    have hlt:id - n < r.news.length:=by
     rcases Nat.lt_or_ge (id - n) r.news.length with h | h
     ·exact h
     ·exfalso
      have:getOb r.news (id - n)=.dead:=by
       unfold getOb
       rw [getN_eq,List.getElem?_eq_none h]
       rfl
      rw [this] at hob
      cases hob
    have hget:r.news[id - n]?=some (.rows t xs):=by
     rw [← hob]
     exact getN_of_lt hlt
    have hl':E'.L id:=(hx.L id).2 (.inr ⟨hle',by omega⟩)
    have hok:=hx.new (id - n) _ hget
    rw [show n+(id - n)=id by omega] at hok
    have hrow:RowsAt E' t xs (E'.ρ id):=hok
    have hd:=rows_down (ids:=[id]) hrow hl' (hp hl') (by simp)
    refine .sl _ _ _ (hd.monoF fun b o hb=>?_)
    rcases hb with hb | ⟨id2,hid2,hl2,ho2⟩
    ·exact idle_fz hx hr hk hf hb
    ·simp only [List.mem_singleton] at hid2
     subst hid2
     have hlt2:=hx.ltO id2 b hl2 ho2
     refine .inr ⟨(hx.evo 0).B ▸ hlt2.1,hlt2.2,fun id3 hW3 ho3=>?_,by rw [show (E.idle E'.w).Hd=E'.Hd from (hx.evo 0).Hd.symm];exact hx.hid id2 b hl2 ho2⟩
     have hl3:E.L id3:=hr.wl id3 hW3
     obtain ⟨g1,g2⟩:=oldL id3 hl3
     have e:=hx.injO id3 id2 b g1 hl2 ((hx.evo (id3+1)).own (Nat.lt_succ_self id3) (hr.sub id3 hl3) g1 ho3) ho2
     subst e
     exact hr.fresh id3 hle' (by omega) (hr.sub id3 hl3)
   ·cases h
  ·rename_i hle
   cases h
   have hle':¬ n≤id:=by simpa using hle
   refine .own _ id (old id hle' hA) h1 fun hl=>?_
   obtain ⟨g1,g2⟩:=oldL id hl
   have:=hp g1
   rw [g2] at this
   exact this
 | agg vs xs hv h1 _ ih =>
  intro x' h
  simp only [asSl,Option.map_eq_some_iff] at h
  obtain ⟨ys,h2,rfl⟩:=h
  have hg:=asSlL_get h2
  refine .agg vs ys (by rw [hv,hg.1]) h1 fun i u y hu hy=>?_
  have hlt:i < xs.length:=by rw [hg.1];exact (List.getElem?_eq_some_iff.1 hy).1
  exact ih i u _ hu (List.getElem?_eq_getElem hlt) y (hg.2 i _ y (List.getElem?_eq_getElem hlt) hy)
 | tup vs xs hv _ ih =>
  intro x' h
  simp only [asSl,Option.map_eq_some_iff] at h
  obtain ⟨ys,h2,rfl⟩:=h
  have hg:=asSlL_get h2
  refine .tup vs ys (by rw [hv,hg.1]) fun i u y hu hy=>?_
  have hlt:i < xs.length:=by rw [hg.1];exact (List.getElem?_eq_some_iff.1 hy).1
  exact ih i u _ hu (List.getElem?_eq_getElem hlt) y (hg.2 i _ y (List.getElem?_eq_getElem hlt) hy)
end
end Go.Sx
