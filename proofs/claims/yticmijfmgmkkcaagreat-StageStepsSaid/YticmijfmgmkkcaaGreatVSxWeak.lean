import Derived.Test.YticmijfmgmkkcaaGreatVSxRun
set_option linter.unusedSimpArgs false
set_option linter.unusedVariables false
set_option maxRecDepth 100000
namespace Go.Sx
open Go.RowKit
theorem okObs_get {σ:List (Option Nat)} {H:List Ob}:∀ {τ:List (Option Nat)} {l:List Ob},okObs σ H τ l→∀ i,getOb l i≠.dead →
 (∃ j,getN none τ i=some j∧((∃ cs ds,getOb l i=.cells cs∧getOb H j=.cells ds∧mask cs ds=renL σ cs∧cs.length=ds.length)∨(∃ t xs,getOb l i=.rows t xs∧getOb H j=.rows t xs) ∨
   (∃ t xs,getOb l i=.froz t xs∧(getOb H j=.rows t xs∨getOb H j=.froz t xs))∨(∃ t m xss,getOb l i=.grid t m xss∧getOb H j=.grid t m xss) ∨
   ∃ st pe ps x y sl sl',getOb l i=.loop st pe ps x y sl∧getOb H j=.loop st pe ps x y sl'∧mask sl sl'=renL σ sl∧sl.length=sl'.length))∨(getN none τ i=none∧∃ t,getOb l i=.rows t [])
 | τ,[],_,i,hne=>absurd (getN_ge _ (by simp)) hne
 | [],ob :: l,h,i,_=>by cases ob <;> exact h.elim
 | x :: τ,ob :: l,h,i,hne=>by
  have tail:∀ {k},okObs σ H τ l→getOb (ob :: l) (k+1)≠.dead→_:=fun {k} h0 hne=>okObs_get (i:=k) h0 hne
  have t0:∀ k,getOb (ob :: l) (k+1)=getOb l k:=fun _=>rfl
  cases i with
  | succ k =>
   have h0:okObs σ H τ l:=by
    cases x <;> cases ob <;> simp only [okObs] at h <;> first | exact h.2 | exact h | exact h.elim
   exact tail h0 hne
  | zero =>
   cases x with
   | none =>
    right
    cases ob with
    | rows t xs=>simp only [okObs] at h;obtain ⟨rfl,_⟩:=h;exact ⟨rfl,t,rfl⟩
    | dead=>exact absurd rfl hne
    | _=>simp only [okObs] at h
   | some j =>
    left
    refine ⟨j,rfl, ?_⟩
    cases ob with
    | dead=>exact absurd rfl hne
    | cells cs =>
     simp only [okObs] at h
     obtain ⟨h1,_⟩:=h
     cases hob:getOb H j with
     | cells ds=>rw [hob] at h1;exact .inl ⟨cs,ds,rfl,rfl,h1⟩
     | _=>rw [hob] at h1;exact h1.elim
    | fmap es=>simp only [okObs] at h
    | rows t xs=>simp only [okObs] at h;exact .inr (.inl ⟨t,xs,rfl,h.1⟩)
    | froz t xs =>
     simp only [okObs] at h
     obtain ⟨h1,_⟩:=h
     refine .inr (.inr (.inl ⟨t,xs,rfl, ?_⟩))
     cases hob:getOb H j with
     | rows t' ys=>rw [hob] at h1;cases h1;exact .inl rfl
     | froz t' ys=>rw [hob] at h1;exact .inr h1
     | _=>rw [hob] at h1;exact h1.elim
    | grid t m xss=>simp only [okObs] at h;exact .inr (.inr (.inr (.inl ⟨t,m,xss,rfl,h.1⟩)))
    | loop st pe ps x y sl =>
     simp only [okObs] at h
     obtain ⟨h1,_⟩:=h
     cases hob:getOb H j with
     | loop st' pe' ps' x' y' sl' =>
      rw [hob] at h1
      obtain ⟨⟨rfl,rfl,rfl,rfl,rfl⟩,h2,h3⟩:=h1
      exact .inr (.inr (.inr (.inr ⟨_,_,_,_,_,_,_,rfl,rfl,h2,h3⟩)))
     | _=>rw [hob] at h1;exact h1.elim
theorem distinct_get:∀ {τ:List (Option Nat)} {l:List Ob} {seen:List Nat},distinct τ l seen=true→τ.length=l.length ∧
 (∀ i j,getOb l i≠.dead→getN none τ i=some j→j ∉ seen)∧∀ i i' j,getOb l i≠.dead→getOb l i'≠.dead→getN none τ i=some j→getN none τ i'=some j→i=i'
 | [],[],_,_=>⟨rfl,fun i j h=>absurd (getN_ge _ (by simp)) h,fun i i' j h=>absurd (getN_ge _ (by simp)) h⟩
 | [],ob :: l,_,h=>by simp [distinct] at h
 | x :: τ,[],_,h=>by cases x <;> simp [distinct] at h
 | none :: τ,ob :: l,seen,h=>by
  simp only [distinct] at h
  obtain ⟨h1,h2,h3⟩:=distinct_get h
  refine ⟨by simp [h1],fun i j hne hj=>?_,fun i i' j hne hne' hj hj'=>?_⟩
  ·cases i with
   | zero=>cases hj
   | succ i=>exact h2 i j hne hj
  ·cases i with
   | zero=>cases hj
   | succ i =>
    cases i' with
    | zero=>cases hj'
    | succ i'=>exact congrArg (· + 1) (h3 i i' j hne hne' hj hj')
 | some k :: τ,ob :: l,seen,h=>by
  by_cases hd:ob=.dead
  ·subst hd
   simp only [distinct] at h
   obtain ⟨h1,h2,h3⟩:=distinct_get h
   refine ⟨by simp [h1],fun i j hne hj=>?_,fun i i' j hne hne' hj hj'=>?_⟩
   ·cases i with
    | zero=>exact absurd rfl hne
    | succ i=>exact h2 i j hne hj
   ·cases i with
    | zero=>exact absurd rfl hne
    | succ i =>
     cases i' with
     | zero=>exact absurd rfl hne'
     | succ i'=>exact congrArg (· + 1) (h3 i i' j hne hne' hj hj')
  ·have h':k ∉ seen∧distinct τ l (k :: seen)=true:=by
    cases ob <;> first | exact absurd rfl hd | (simp only [distinct,Bool.and_eq_true,Bool.not_eq_true',List.contains_eq_mem,decide_eq_false_iff_not] at h;exact h)
   obtain ⟨hk,h⟩:=h'
   obtain ⟨h1,h2,h3⟩:=distinct_get h
   refine ⟨by simp [h1],fun i j hne hj=>?_,fun i i' j hne hne' hj hj'=>?_⟩
   ·cases i with
    | zero=>cases hj;exact hk
    | succ i=>exact fun hm=>h2 i j hne hj (List.mem_cons_of_mem _ hm)
   ·cases i with
    | zero =>
     cases i' with
     | zero=>rfl
     | succ i'=>cases hj;exact absurd (List.mem_cons_self) (h2 i' _ hne' hj')
    | succ i =>
     cases i' with
     | zero=>cases hj';exact absurd (List.mem_cons_self) (h2 i _ hne hj)
     | succ i'=>exact congrArg (· + 1) (h3 i i' j hne hne' hj hj')
theorem keeps_get:∀ {n0 k:Nat} {τ:List (Option Nat)} {l:List Ob},keeps n0 k τ l=true→∀ i,i < n0→getOb l i≠.dead→getN none τ i=some (k+i)
 | 0,_,_,_,_,i,hi,_=>absurd hi (Nat.not_lt_zero i)
 | n0+1,k,τ,[],_,i,_,hne=>absurd (getN_ge _ (by simp)) hne
 | n0+1,k,[],ob :: l,h,i,_,_=>by simp [keeps] at h
 | n0+1,k,none :: τ,ob :: l,h,i,hi,hne=>by
  simp only [keeps,Bool.and_eq_true] at h
  cases i with
  | zero=>cases ob <;> first | exact absurd rfl hne | (simp at h)
  | succ i =>
   have:=keeps_get h.2 i (by omega) hne
   show getN none τ i=_
   rw [this];congr 1;omega
 | n0+1,k,some j :: τ,ob :: l,h,i,hi,hne=>by
  simp only [keeps,Bool.and_eq_true] at h
  cases i with
  | zero =>
   have:Nat.beq k j=true:=by
    cases ob <;> first | exact absurd rfl hne | exact h.1
   show some j=_
   rw [Nat.eq_of_beq_eq_true this];rfl
  | succ i =>
   have:=keeps_get h.2 i (by omega) hne
   show getN none τ i=_
   rw [this];congr 1;omega
theorem renL_get (σ:List (Option Nat)):∀ (l:List AV),(renL σ l).length=l.length∧∀ i:Nat,(renL σ l)[i]?=(l[i]?).map (ren σ)
 | []=>⟨rfl,fun i=>by simp [renL]⟩
 | x :: l=>by
  have ih:=renL_get σ l
  refine ⟨by simp [renL,ih.1],fun i=>?_⟩
  cases i with
  | zero=>simp [renL]
  | succ i=>simpa [renL] using ih.2 i
theorem mask_get {σ:List (Option Nat)}:∀ {l m c:List AV},l.length=m.length→mask l m=renL σ c→l=c→∀ (i:Nat) x y,l[i]?=some x→m[i]?=some y→x=.any∨y=ren σ x∨y=.cap0∧∃ t,x=.sl t []
 | [],m,_,_,_,_,i,x,y,hx,_=>by simp at hx
 | x0 :: l,[],_,h,_,_,i,x,y,_,_=>by simp at h
 | x0 :: l,y0 :: m,_,h,h',rfl,i,x,y,hx,hy=>by
  have hl:l.length=m.length:=by simpa using h
  have hc:(x0=.any∨y0=ren σ x0∨y0=.cap0∧∃ t,x0=.sl t [])∧mask l m=renL σ l:=by
   cases x0 with
   | sl t xs =>
    cases y0 with
    | cap0 =>
     simp only [mask,renL,List.cons.injEq] at h'
     exact ⟨.inr (.inr ⟨rfl,t,h'.1.symm⟩),h'.2⟩
    | _ =>
     simp only [mask,renL,List.cons.injEq] at h'
     exact ⟨.inr (.inl h'.1),h'.2⟩
   | _=>simp only [mask,renL,List.cons.injEq] at h' <;> first | exact ⟨.inl rfl,h'.2⟩ | exact ⟨.inr (.inl h'.1),h'.2⟩
  cases i with
  | zero=>cases hx;cases hy;exact hc.1
  | succ i=>exact mask_get hl hc.2 rfl i x y (by simpa using hx) (by simpa using hy)
theorem RdA.tup_inv {E:Env} {v:Value} {xs:List AV} (h:RdA E v (.tup xs)):∃ vs:Array Value,v=.tuple vs∧vs.size=xs.length∧∀ (i:Nat) u x,vs[i]?=some u→xs[i]?=some x→RdA E u x :=
 match h with | .tup vs _ h1 h2=>⟨vs,rfl,h1,h2⟩
theorem RdA.bad {E:Env} {v:Value} (h:RdA E v bad):False:=by
 unfold Sx.bad at h
 cases h
 rename_i h
 exact absurd h (by simp [Value.oneCell'])
def Env.retell (E:Env) (σ:List (Option Nat)) (T:List Ob):Env where
 w:=E.w
 B:=E.B
 F0:=E.F0
 ρ:=fun id=>match getN none σ id with | some j=>E.ρ j | none=>none
 L:=fun id=>getOb T id≠.dead
 W:=fun id=>(getOb T id).wr
 A:=fun id=>id < T.length
 K:=fun id=>match getN none σ id with | some j=>E.K j | none=>fun _=>none
 M:=E.M
 Hd:=E.Hd
section
variable {E:Env} {H T:List Ob} {n n0:Nat} {σ:List (Option Nat)}
theorem retell_live (hE:EnvOk E H n) (ho:okObs σ H σ T) {id j:Nat} (hne:getOb T id≠.dead) (hj:getN none σ id=some j):E.L j∧((getOb T id).wr→E.W j):=by
 rcases okObs_get ho id hne with ⟨j',hj',h⟩ | ⟨hj',_⟩
 ·rw [hj] at hj'
  cases hj'
  rcases h with ⟨cs,ds,h1,h2,_⟩ | ⟨t,xs,h1,h2⟩ | ⟨t,xs,h1,h2⟩ | ⟨t,m,xss,h1,h2⟩ | ⟨_,_,_,_,_,_,_,h1,h2,_⟩
  ·exact ⟨hE.live j (by rw [h2];simp),fun _=>hE.wr j (by rw [h2];trivial)⟩
  ·exact ⟨hE.live j (by rw [h2];simp),fun _=>hE.wr j (by rw [h2];trivial)⟩
  ·refine ⟨hE.live j ?_,fun hw=>?_⟩
   ·rcases h2 with h2 | h2 <;> rw [h2] <;> simp
   ·rw [h1] at hw;exact hw.elim
  ·exact ⟨hE.live j (by rw [h2];simp),fun _=>hE.wr j (by rw [h2];trivial)⟩
  ·exact ⟨hE.live j (by rw [h2];simp),fun _=>hE.wr j (by rw [h2];trivial)⟩
 ·rw [hj] at hj';cases hj'
theorem retell_own {id b:Nat} (h:(E.retell σ T).Own id b):∃ j,getN none σ id=some j∧E.Own j b:=by
 rcases h with ⟨hd,hρ,hb⟩ | ⟨i,hd,hK,hb⟩
 ·simp only [Env.retell] at hρ
  split at hρ
  ·rename_i j hj
   exact ⟨j,hj,.inl ⟨hd,hρ,hb⟩⟩
  ·cases hρ
 ·simp only [Env.retell] at hK
  cases hj:getN none σ id with
  | some j=>rw [hj] at hK;exact ⟨j,rfl,.inr ⟨i,hd,hK,hb⟩⟩
  | none=>rw [hj] at hK;cases hK
theorem retell_nb (hE:EnvOk E H n) (ho:okObs σ H σ T) {b:Nat} (h:E.Nb b):(E.retell σ T).Nb b:=by
 refine ⟨h.1,fun id hW hown=>?_,h.2.2⟩
 have hW':(getOb T id).wr:=hW
 obtain ⟨j,hj,h2⟩:=retell_own hown
 exact h.2.1 j ((retell_live hE ho (wr_ne hW') hj).2 hW') h2
theorem retell_fz (hE:EnvOk E H n) (ho:okObs σ H σ T) {b o:Nat} (h:E.Fz b o):(E.retell σ T).Fz b o:=by
 rcases h with ⟨h1,h2⟩ | ⟨h1,h2⟩
 ·exact .inl ⟨h1,h2⟩
 ·exact .inr ⟨h1,retell_nb hE ho h2⟩
mutual
theorem ren_ok (hE:EnvOk E H n) (ho:okObs σ H σ T) (hl:σ.length=T.length):∀ (y:AV) {v:Value},RdA E v (ren σ y)→RdA (E.retell σ T) v y
 | .any,v,_=>.any v
 | .int _ _,v,h=>by rw [show v=_ from RdA.int_inv h];exact .int _ _
 | .bool _,v,h=>by rw [show v=_ from RdA.bool_inv h];exact .bool _
 | .str _,v,h=>by simp only [ren] at h;cases h;exact .str _
 | .val _,v,h=>by simp only [ren] at h;cases h;exact .val _ ‹_›
 | .nils,v,h=>by obtain ⟨_,_,rfl⟩:=RdA.nils_inv h;exact .nils _ _
 | .cap0,v,h=>by obtain ⟨_,rfl⟩:=RdA.cap0_inv h;exact .cap0 _
 | .sl t xs,v,h=>.sl _ _ _ ((RdA.sl_inv h).monoF fun b o hb=>retell_fz hE ho hb)
 | .eptr cs,v,h=>by
  simp only [ren] at h
  cases h
  rename_i b o g hcell hrd
  exact .eptr b o cs g (fun j hj=>⟨retell_fz hE ho (hcell j hj).1,(hcell j hj).2⟩) (fun j p hp=>(hrd j p hp).monoF fun b o hb=>retell_fz hE ho hb)
 | .ptr id off,v,h=>by
  simp only [ren] at h
  split at h
  ·rename_i j hj
   obtain ⟨h1,h2,h3⟩:=h.ptr_inv
   have hlt:id < T.length:=by
    rcases Nat.lt_or_ge id σ.length with h | h
    ·omega
    ·rw [getN_ge _ h] at hj;cases hj
   refine .ptr _ id off hlt h2 fun hl=>?_
   obtain ⟨hd,h4,h5⟩:=h3 (retell_live hE ho hl hj).1
   exact ⟨hd,by simp only [Env.retell,hj];exact h4,h5⟩
  ·exact h.bad.elim
 | .rptr id k row off,v,h=>by
  simp only [ren] at h
  split at h
  ·rename_i j hj
   obtain ⟨h1,h2,h3⟩:=h.rptr_inv
   have hlt:id < T.length:=by
    rcases Nat.lt_or_ge id σ.length with h | h
    ·omega
    ·rw [getN_ge _ h] at hj;cases hj
   refine .rptr _ id k row off hlt h2 fun hl=>?_
   obtain ⟨hd,h4,h5⟩:=h3 (retell_live hE ho hl hj).1
   exact ⟨hd,by simp only [Env.retell,hj];exact h4,h5⟩
  ·exact h.bad.elim
 | .own id,v,h=>by
  simp only [ren] at h
  split at h
  ·rename_i hlt
   have hlt':id < T.length:=by rw [← hl];exact Nat.le_of_ble_eq_true hlt
   split at h
   ·rename_i j hj
    obtain ⟨h1,h2,h3⟩:=h.own_inv
    refine .own _ id hlt' h2 fun hl=>?_
    have:=h3 (retell_live hE ho hl hj).1
    simp only [Env.retell,hj];exact this
   ·rename_i hj
    obtain ⟨ba,rfl⟩:=RdA.cap0_inv h
    refine .own _ id hlt' rfl fun _=>?_
    simp only [Env.retell,hj]
    exact ⟨ba,rfl⟩
  ·exact h.bad.elim
 | .ownp id k lo m,v,h=>by
  simp only [ren] at h
  split at h
  ·rename_i j hj
   obtain ⟨h1,h2,h3⟩:=h.ownp_inv
   have hlt:id < T.length:=by
    rcases Nat.lt_or_ge id σ.length with h | h
    ·omega
    ·rw [getN_ge _ h] at hj;cases hj
   refine .ownp _ id k lo m hlt h2 fun hl=>?_
   have:=h3 (retell_live hE ho hl hj).1
   simp only [Env.retell,hj];exact this
  ·exact h.bad.elim
 | .mp id,v,h=>by
  simp only [ren] at h
  split at h
  ·rename_i j hj
   obtain ⟨h1,h2,h3⟩:=h.mp_inv
   have hlt:id < T.length:=by
    rcases Nat.lt_or_ge id σ.length with h | h
    ·omega
    ·rw [getN_ge _ h] at hj;cases hj
   refine .mp _ id hlt h2 fun hl=>?_
   have:=h3 (retell_live hE ho hl hj).1
   simp only [Env.retell,hj];exact this
  ·exact h.bad.elim
 | .fn f a b,v,h=>by
  simp only [ren] at h
  obtain ⟨vs,ws,rfl,h1,h2,h3,h4⟩:=fn_inv h
  have ga:=renL_get σ a
  have gb:=renL_get σ b
  exact .fn f vs ws a b (by rw [h1,ga.1]) (by rw [h2,gb.1]) (fun i u x hu hx=>ren_okL hE ho hl a i u x hx (h3 i u _ hu (by rw [ga.2,hx];rfl)))
   (fun i u x hu hx=>ren_okL hE ho hl b i u x hx (h4 i u _ hu (by rw [gb.2,hx];rfl)))
 | .agg cs,v,h=>by
  simp only [ren] at h
  obtain ⟨vs,rfl,h1,h2,h3⟩:=h.agg_inv
  have g:=renL_get σ cs
  exact .agg vs cs (by rw [h1,g.1]) h2 (fun i u x hu hx=>ren_okL hE ho hl cs i u x hx (h3 i u _ hu (by rw [g.2,hx];rfl)))
 | .tup cs,v,h=>by
  simp only [ren] at h
  obtain ⟨vs,rfl,h1,h3⟩:=h.tup_inv
  have g:=renL_get σ cs
  exact .tup vs cs (by rw [h1,g.1]) (fun i u x hu hx=>ren_okL hE ho hl cs i u x hx (h3 i u _ hu (by rw [g.2,hx];rfl)))
 | .when _ _ _ _,v,h=>by simp only [ren] at h;exact h.bad.elim
 | .rnd _,v,h=>by simp only [ren] at h;exact h.bad.elim
 | .dmp es,v,h=>by
  show RdA _ v (.dmp es)
  cases h with
  | dmp b _ ms clock hB hb hh hsz hes=>exact .dmp b es ms clock hB (retell_nb hE ho hb) hh hsz hes
 | .slf t xs,v,h=>by
  simp only [ren] at h
  obtain ⟨⟨ba,rfl⟩,h2⟩:=h.slf_inv
  exact .slf t xs ba (h2.monoF fun b o hb=>retell_fz hE ho hb)
 | .yld id,v,h=>by
  simp only [ren] at h
  split at h
  ·rename_i j hj
   obtain ⟨h1,h2,h3⟩:=h.yld_inv
   have hlt:id < T.length:=by
    rcases Nat.lt_or_ge id σ.length with h | h
    ·omega
    ·rw [getN_ge _ h] at hj;cases hj
   refine .yld _ id hlt h2 fun hl=>?_
   have:=h3 (retell_live hE ho hl hj).1
   simp only [Env.retell,hj];exact this
  ·exact h.bad.elim
 | .grow id i,v,h=>by
  simp only [ren] at h
  split at h
  ·rename_i j hj
   obtain ⟨h1,h2,h3⟩:=h.grow_inv
   have hlt:id < T.length:=by
    rcases Nat.lt_or_ge id σ.length with h | h
    ·omega
    ·rw [getN_ge _ h] at hj;cases hj
   refine .grow _ id i hlt h2 fun hl=>?_
   have:=h3 (retell_live hE ho hl hj).1
   simp only [Env.retell,hj];exact this
  ·exact h.bad.elim
 | .gptr id i k,v,h=>by
  simp only [ren] at h
  split at h
  ·rename_i j hj
   obtain ⟨h1,h2,h3⟩:=h.gptr_inv
   have hlt:id < T.length:=by
    rcases Nat.lt_or_ge id σ.length with h | h
    ·omega
    ·rw [getN_ge _ h] at hj;cases hj
   refine .gptr _ id i k hlt h2 fun hl=>?_
   have:=h3 (retell_live hE ho hl hj).1
   simp only [Env.retell,hj];exact this
  ·exact h.bad.elim
 | .csl t id m,v,h=>by
  simp only [ren] at h
  split at h
  ·rename_i j hj
   obtain ⟨h1,h2,h3⟩:=h.csl_inv
   have hlt:id < T.length:=by
    rcases Nat.lt_or_ge id σ.length with h | h
    ·omega
    ·rw [getN_ge _ h] at hj;cases hj
   refine .csl _ t id m hlt h2 fun hl=>?_
   have:=h3 (retell_live hE ho hl hj).1
   simp only [Env.retell,hj];exact this
  ·exact h.bad.elim
 | .ownc id k lo m,v,h=>by
  simp only [ren] at h
  split at h
  ·rename_i j hj
   obtain ⟨h1,h2,h3⟩:=h.ownc_inv
   have hlt:id < T.length:=by
    rcases Nat.lt_or_ge id σ.length with h | h
    ·omega
    ·rw [getN_ge _ h] at hj;cases hj
   refine .ownc _ id k lo m hlt h2 fun hl=>?_
   have:=h3 (retell_live hE ho hl hj).1
   simp only [Env.retell,hj];exact this
  ·exact h.bad.elim
theorem ren_okL (hE:EnvOk E H n) (ho:okObs σ H σ T) (hl:σ.length=T.length):∀ (l:List AV) (i:Nat) (u:Value) (x:AV),l[i]?=some x→RdA E u (ren σ x)→RdA (E.retell σ T) u x
 | [],i,u,x,hx,_=>by simp at hx
 | y :: l,0,u,x,hx,h=>by
  have:y=x:=by simpa using hx
  subst this
  exact ren_ok hE ho hl y h
 | y :: l,i+1,u,x,hx,h=>ren_okL hE ho hl l i u x (by simpa using hx) h
end
theorem weaken_at {a:Act} {sl:List AV} {S:St} (hE:EnvOk E H n) (hs:SlOk E a sl) (h:weak n0 σ sl H n S) :
 EnvOk (E.retell σ S.H) S.H S.n∧SlOk (E.retell σ S.H) a S.sl∧Evo n0 E (E.retell σ S.H)∧n0≤S.n:=by
 obtain ⟨T,TH,m⟩:=S
 obtain ⟨h1,h2,ho,h4⟩:=h
 simp only at h1 h2 ho h4 ⊢
 simp only [Bool.and_eq_true] at h4
 obtain ⟨⟨⟨⟨h5,h6⟩,h7⟩,h8⟩,h9⟩:=h4
 have h7':=Nat.eq_of_beq_eq_true h7
 subst h7'
 have h8':=Nat.le_of_ble_eq_true h8
 obtain ⟨d1,d2,d3⟩:=distinct_get h5
 have evo:Evo n0 E (E.retell σ TH):=by
  refine ⟨rfl,rfl,rfl,Below.refl _ _,fun id hi _=>Nat.lt_of_lt_of_le hi h8',fun id hi ha hl=>?_,fun id hi ha hl i o hio=>?_,fun b hb=>⟨retell_nb hE ho hb,rfl⟩,rfl,fun _ _=>rfl⟩
  ·have hj:=keeps_get h6 id hi hl
   rw [Nat.zero_add] at hj
   exact ⟨(retell_live hE ho hl hj).1,by simp only [Env.retell,hj]⟩
  ·have hj:=keeps_get h6 id hi hl
   rw [Nat.zero_add] at hj
   simp only [Env.retell,hj];exact hio
 refine ⟨?_, ?_, ?_,h8'⟩
 ·refine ⟨rfl,fun id h=>h,fun id h=>h,fun id h=>h, ?_,fun id h=>getOb_lt h,fun id h=>wr_ne h, ?_, ?_,hE.f0,hE.B,fun id b hl ho1=>(retell_own ho1).elim fun j hj=>hE.hid j b (retell_live hE ho hl hj.1).1 hj.2,hE.hlt⟩
  ·intro id hl hne
   rcases okObs_get ho id hne with ⟨j,hj,h⟩ | ⟨hj,t,h⟩
   ·have hρ:(E.retell σ TH).ρ id=E.ρ j:=by simp only [Env.retell,hj]
    have hK:(E.retell σ TH).K id=E.K j:=by simp only [Env.retell,hj]
    rcases h with ⟨cs,ds,g1,g2,g3,g4⟩ | ⟨t,xs,g1,g2⟩ | ⟨t,xs,g1,g2⟩ | ⟨t,mo,xss,g1,g2⟩ | ⟨st,pe,ps,x,y,sl1,sl2,g1,g2,g3,g4⟩
    rotate_left 3
    ·rw [g1]
     have hok:=hE.ok j (hE.live j (by rw [g2];simp)) (by rw [g2];simp)
     rw [g2] at hok
     obtain ⟨hd,k1,k2⟩:=hok
     refine ⟨hd,hρ.trans k1, ?_⟩
     rw [hK]
     exact k2.mono (fun b o hb=>⟨retell_fz hE ho hb,rfl⟩) rfl (fun _ _ _=>rfl)
    ·rw [g1]
     have hok:=hE.ok j (hE.live j (by rw [g2];simp)) (by rw [g2];simp)
     rw [g2] at hok
     obtain ⟨hd,k1,r,k2,k3,k4,k5,k6,k7,k8,k9⟩:=hok
     refine ⟨hd,hρ.trans k1,r,k2,k3,k4,k5,k6,k7,by rw [k8,g4],fun i v s hv hs=>?_⟩
     have hlt:i < sl2.length:=by rw [← g4];exact (List.getElem?_eq_some_iff.1 hs).1
     have k10:=k9 i v _ hv (List.getElem?_eq_getElem hlt)
     rcases mask_get g4 g3 rfl i s _ hs (List.getElem?_eq_getElem hlt) with rfl | hr | ⟨hr,t,rfl⟩
     ·exact .any _
     ·rw [hr] at k10
      exact ren_ok hE ho d1 s k10
     ·rw [hr] at k10
      obtain ⟨a',rfl⟩:=k10.cap0_inv
      exact .sl _ _ _ (.sl0 _ _ _)
    ·rw [g1]
     have hok:=hE.ok j (hE.live j (by rw [g2];simp)) (by rw [g2];simp)
     rw [g2] at hok
     obtain ⟨hd,k1,arr,el,k2,k3,k4⟩:=hok
     refine ⟨hd,hρ.trans k1,arr,el,k2,by rw [k3,g4],fun i v x hv hx=>?_⟩
     have hlt:i < ds.length:=by rw [← g4];exact (List.getElem?_eq_some_iff.1 hx).1
     obtain ⟨k5,k6⟩:=k4 i v _ hv (List.getElem?_eq_getElem hlt)
     refine ⟨k5, ?_⟩
     rcases mask_get g4 g3 rfl i x _ hx (List.getElem?_eq_getElem hlt) with rfl | hr | ⟨hr,t,rfl⟩
     rotate_left 2
     ·rw [hr] at k6
      obtain ⟨a',rfl⟩:=k6.cap0_inv
      exact .sl _ _ _ (.sl0 _ _ _)
     ·exact .any _
     ·rw [hr] at k6
      exact ren_ok hE ho d1 x k6
    ·rw [g1]
     have hok:=hE.ok j (hE.live j (by rw [g2];simp)) (by rw [g2];simp)
     rw [g2] at hok
     have hrow:RowsAt E t xs (E.ρ j):=hok
     show RowsAt _ t xs _
     rw [hρ]
     exact RowsAt.mono (fun b o hb=>⟨retell_fz hE ho hb,rfl⟩) (fun _ _=>rfl) hrow
    ·rw [g1]
     have hrow:RowsAt E t xs (E.ρ j):=by
      rcases g2 with g2 | g2
      ·have hok:=hE.ok j (hE.live j (by rw [g2];simp)) (by rw [g2];simp)
       rw [g2] at hok
       exact hok
      ·have hok:=hE.ok j (hE.live j (by rw [g2];simp)) (by rw [g2];simp)
       rw [g2] at hok
       exact hok
     show RowsAt _ t xs _
     rw [hρ]
     exact RowsAt.mono (fun b o hb=>⟨retell_fz hE ho hb,rfl⟩) (fun _ _=>rfl) hrow
   ·rw [h]
    show RowsAt _ t [] _
    have hρ:(E.retell σ TH).ρ id=none:=by simp only [Env.retell,hj]
    rw [hρ]
    rfl
  ·intro id id' b hl hl' ho1 ho2
   obtain ⟨j,hj,k1⟩:=retell_own ho1
   obtain ⟨j',hj',k2⟩:=retell_own ho2
   have e:=hE.injO j j' b (retell_live hE ho hl hj).1 (retell_live hE ho hl' hj').1 k1 k2
   subst e
   exact d3 id id' j hl hl' hj hj'
  ·intro id b hl ho1
   obtain ⟨j,hj,k1⟩:=retell_own ho1
   exact hE.ltO j b (retell_live hE ho hl hj).1 k1
 ·have key:∀ t x,T[t]?=some x→x=.any∨RdA E (a.eval (.tmp t)) (ren σ x):=by
   intro t x hx
   have hlt:t < sl.length:=by rw [← h2];exact (List.getElem?_eq_some_iff.1 hx).1
   have hy:=List.getElem?_eq_getElem hlt
   rcases mask_get h2 h1 rfl t x _ hx hy with h | h | ⟨h,t',rfl⟩
   rotate_left 2
   ·right
    have:=hs.rd t
    rw [getN_eq,hy] at this
    simp only [Option.getD_some] at this
    rw [h] at this
    obtain ⟨a',ha'⟩:=this.cap0_inv
    rw [ha']
    exact .sl _ _ _ (.sl0 _ _ _)
   ·exact .inl h
   ·right
    have:=hs.rd t
    rw [getN_eq,hy] at this
    rw [← h];exact this
  refine ⟨by rw [hs.size,h2],fun t=>?_,fun t c s w v ht=>?_,hs.defers.mono evo⟩
  ·cases hx:T[t]? with
   | none=>rw [getN_eq,hx];exact .any _
   | some x =>
    rw [getN_eq,hx]
    rcases key t x hx with rfl | h
    ·exact .any _
    ·exact ren_ok hE ho d1 x h
  ·rcases key t _ ht with h | h
   ·cases h
   ·simp only [ren] at h
    exact h.bad.elim
 ·exact evo
theorem weaken {a:Act} {sl:List AV} {S:St} (hE:EnvOk E H n) (hs:SlOk E a sl) (h:weak n0 σ sl H n S) :
 ∃ E',E'.w=E.w∧EnvOk E' S.H S.n∧SlOk E' a S.sl∧Evo n0 E E'∧n0≤S.n∧(∀ id,E'.L id↔getOb S.H id≠.dead)∧(∀ id,E'.W id↔(getOb S.H id).wr)∧∀ id,E'.A id↔id < S.H.length:=by
 obtain ⟨h1,h2,h3,h4⟩:=weaken_at hE hs h
 exact ⟨E.retell σ S.H,rfl,h1,h2,h3,h4,fun _=>Iff.rfl,fun _=>Iff.rfl,fun _=>Iff.rfl⟩
end
end Go.Sx
