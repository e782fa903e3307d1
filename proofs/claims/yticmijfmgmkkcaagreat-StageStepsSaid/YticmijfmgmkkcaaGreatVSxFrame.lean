import Derived.Test.YticmijfmgmkkcaaGreatVSxFn
set_option linter.unusedSimpArgs false
set_option linter.unusedVariables false
set_option maxRecDepth 100000
namespace Go.Sx
open Go.RowKit
mutual
def renA (τ:List (Option Nat)):AV→AV
 | .ptr id off=>match getN none τ id with | some j=>.ptr j off | none=>.any
 | .rptr id k row off=>match getN none τ id with | some j=>.rptr j k row off | none=>.any
 | .own id=>match getN none τ id with | some j=>.own j | none=>.any
 | .ownp id k lo len=>match getN none τ id with | some j=>.ownp j k lo len | none=>.any
 | .mp id=>match getN none τ id with | some j=>.mp j | none=>.any
 | .yld id=>match getN none τ id with | some j=>.yld j | none=>.any
 | .rnd _=>.any
 | .grow id i=>match getN none τ id with | some j=>.grow j i | none=>.any
 | .gptr id i k=>match getN none τ id with | some j=>.gptr j i k | none=>.any
 | .ownc id k lo len=>match getN none τ id with | some j=>.ownc j k lo len | none=>.any
 | .csl t id m=>match getN none τ id with | some j=>.csl t j m | none=>.any
 | .dmp _=>.any
 | .fn f a b=>.fn f (renAL τ a) (renAL τ b)
 | .agg cs=>.agg (renAL τ cs)
 | .tup vs=>.tup (renAL τ vs)
 | .when _ _ _ _=>.any
 | v=>v
def renAL (τ:List (Option Nat)):List AV→List AV
 | []=>[]
 | x :: l=>renA τ x :: renAL τ l
end
def renOb (τ:List (Option Nat)):Ob→Ob
 | .cells cs=>.cells (renAL τ cs)
 | .fmap es=>.fmap (es.map fun p=>(p.1,renA τ p.2))
 | .loop st pe ps x y sl=>.loop st pe ps x y (renAL τ sl)
 | ob=>ob
def renObs (τ:List (Option Nat)):List Ob→List Ob
 | []=>[]
 | ob :: l=>renOb τ ob :: renObs τ l
def putL:List (Option Nat)→List Ob→List Ob→List Ob
 | [],l,H=>H++l
 | some j :: σ,ob :: l,H=>putL σ l (setN ob H j)
 | none :: σ,_ :: l,H=>putL σ l H
 | _ :: _,[],H=>H
def hasN:List (Option Nat)→Nat→Bool
 | [],_=>false
 | some j :: σ,i=>Nat.beq j i || hasN σ i
 | none :: σ,i=>hasN σ i
def keepL (σ:List (Option Nat)):Nat→List Ob→List Ob
 | _,[]=>[]
 | k,ob :: l=>(bif hasN σ k then ob else .dead) :: keepL σ (k+1) l
def newN:Nat→Nat→List (Option Nat)
 | _,0=>[]
 | n,k+1=>some n :: newN (n+1) k
def obDead:Ob→Bool
 | .dead=>true
 | _=>false
def obWr:Ob→Bool
 | .dead=>true
 | .froz _ _=>false
 | _=>true
def nonesDead:List (Option Nat)→List Ob→Bool
 | none :: σ,ob :: l=>obDead ob && nonesDead σ l
 | some _ :: σ,_ :: l=>nonesDead σ l
 | [],_=>true
 | _ :: _,[]=>false
def frameOk (σ:List (Option Nat)) (T T1:List Ob):Bool:=T.all (fun ob=>!obDead ob) && T1.all obWr && nonesDead σ T1
def frameS (S:FuncId→List AV→List Ob→AV→List Ob→Prop):CallSem:=fun g args H n K =>
 (match args with | .rnd _ :: _=>False | _=>True)∧∃ args0 T x1 T1 σ,S g args0 T x1 T1∧weak 0 σ (args.map noW) (keepL σ 0 H) n ⟨args0,T,T.length⟩∧frameOk σ T T1=true ∧
   K (renA (σ++newN n (T1.length - T.length)) x1) (putL σ (renObs (σ++newN n (T1.length - T.length)) T1) H) (n+(T1.length - T.length))
structure Carry (E E':Env) (τ:List (Option Nat)):Prop where
 A:∀ id j,E.A id→getN none τ id=some j→E'.A j
 L:∀ id j,getN none τ id=some j→E'.L j→E.L id∧E'.ρ j=E.ρ id∧E'.K j=E.K id
 fz:∀ b o,E.Fz b o→E'.Fz b o∧E'.w.cell? ⟨b,o,none⟩=E.w.cell? ⟨b,o,none⟩
theorem renAL_get (τ:List (Option Nat)):∀ (l:List AV),(renAL τ l).length=l.length∧∀ i:Nat,(renAL τ l)[i]?=(l[i]?).map (renA τ)
 | []=>⟨rfl,fun i=>by simp [renAL]⟩
 | x :: l=>by
  have ih:=renAL_get τ l
  refine ⟨by simp [renAL,ih.1],fun i=>?_⟩
  cases i with
  | zero=>simp [renAL]
  | succ i=>simpa [renAL] using ih.2 i
theorem renObs_get (τ:List (Option Nat)):∀ (l:List Ob),(renObs τ l).length=l.length∧∀ i,getOb (renObs τ l) i=renOb τ (getOb l i)
 | []=>⟨rfl,fun i=>by simp [renObs,getOb,getN,renOb]⟩
 | x :: l=>by
  have ih:=renObs_get τ l
  refine ⟨by simp [renObs,ih.1],fun i=>?_⟩
  cases i with
  | zero=>rfl
  | succ i=>exact ih.2 i
theorem renAL_rd {E E':Env} {τ:List (Option Nat)} {xs:List AV} {vs:Array Value} (ih:∀ (i:Nat) v x,vs[i]?=some v→xs[i]?=some x→RdA E' v (renA τ x)) :
 ∀ (i:Nat) v x,vs[i]?=some v→(renAL τ xs)[i]?=some x→RdA E' v x:=by
 intro i v x hv hx
 rw [(renAL_get τ xs).2,Option.map_eq_some_iff] at hx
 obtain ⟨y,hy,rfl⟩:=hx
 exact ih i v y hv hy
theorem renA_ok {E E':Env} {τ:List (Option Nat)} (c:Carry E E' τ) {v:Value} {y:AV} (h:RdA E v y):RdA E' v (renA τ y):=by
 induction h with
 | any v=>exact .any v
 | int k n=>exact .int k n
 | bool b=>exact .bool b
 | str s=>exact .str s
 | val v h=>exact .val v h
 | nils a c=>exact .nils a c
 | cap0 a=>exact .cap0 a
 | sl v t xs h=>exact .sl v t xs (h.mono c.fz)
 | ptr v id off ha h1 h =>
  simp only [renA]
  split
  ·rename_i j hj
   refine .ptr v j off (c.A id j ha hj) h1 fun hl=>?_
   obtain ⟨g1,g2,_⟩:=c.L id j hj hl
   rw [g2];exact h g1
  ·exact .any _
 | rptr v id k row off ha h1 h =>
  simp only [renA]
  split
  ·rename_i j hj
   refine .rptr v j k row off (c.A id j ha hj) h1 fun hl=>?_
   obtain ⟨g1,g2,_⟩:=c.L id j hj hl
   rw [g2];exact h g1
  ·exact .any _
 | eptr b o cs g hcell hrd =>
  refine .eptr b o cs g (fun j hj=>?_) (fun j p hp=>(hrd j p hp).mono c.fz)
  obtain ⟨h1,h2⟩:=hcell j hj
  obtain ⟨h3,h4⟩:=c.fz _ _ h1
  exact ⟨h3,h4.trans h2⟩
 | own v id ha h1 h =>
  simp only [renA]
  split
  ·rename_i j hj
   refine .own v j (c.A id j ha hj) h1 fun hl=>?_
   obtain ⟨g1,g2,_⟩:=c.L id j hj hl
   rw [g2];exact h g1
  ·exact .any _
 | ownp v id k lo n ha h1 h =>
  simp only [renA]
  split
  ·rename_i j hj
   refine .ownp v j k lo n (c.A id j ha hj) h1 fun hl=>?_
   obtain ⟨g1,g2,_⟩:=c.L id j hj hl
   rw [g2];exact h g1
  ·exact .any _
 | mp v id ha h1 h =>
  simp only [renA]
  split
  ·rename_i j hj
   refine .mp v j (c.A id j ha hj) h1 fun hl=>?_
   obtain ⟨g1,g2,_⟩:=c.L id j hj hl
   rw [g2];exact h g1
  ·exact .any _
 | fn f vs ws xs ys hv hw _ _ ih1 ih2=>exact .fn f vs ws _ _ (by rw [hv,(renAL_get τ xs).1]) (by rw [hw,(renAL_get τ ys).1]) (renAL_rd (E:=E) ih1) (renAL_rd (E:=E) ih2)
 | agg vs xs hv h1 _ ih=>exact .agg vs _ (by rw [hv,(renAL_get τ xs).1]) h1 (renAL_rd (E:=E) ih)
 | tup vs xs hv _ ih=>exact .tup vs _ (by rw [hv,(renAL_get τ xs).1]) (renAL_rd (E:=E) ih)
 | when v c s w x _ h2 ih=>exact .any _
 | yld v id ha h1 h =>
  simp only [renA]
  split
  ·rename_i j hj
   refine .yld v j (c.A id j ha hj) h1 fun hl=>?_
   obtain ⟨g1,g2,_⟩:=c.L id j hj hl
   rw [g2];exact h g1
  ·exact .any _
 | grow v id i ha h1 h =>
  simp only [renA]
  split
  ·rename_i j hj
   refine .grow v j i (c.A id j ha hj) h1 fun hl=>?_
   obtain ⟨g1,_,g3⟩:=c.L id j hj hl
   rw [g3];exact h g1
  ·exact .any _
 | gptr v id i k ha h1 h =>
  simp only [renA]
  split
  ·rename_i j hj
   refine .gptr v j i k (c.A id j ha hj) h1 fun hl=>?_
   obtain ⟨g1,_,g3⟩:=c.L id j hj hl
   rw [g3];exact h g1
  ·exact .any _
 | dmp b es ms clock hB hb hh hsz hes=>exact .any _
 | csl v t id n ha h1 h =>
  simp only [renA]
  split
  ·rename_i j hj
   refine .csl v t j n (c.A id j ha hj) h1 fun hl=>?_
   obtain ⟨g1,g2,_⟩:=c.L id j hj hl
   rw [g2];exact h g1
  ·exact .any _
 | ownc v id k lo n ha h1 h =>
  simp only [renA]
  split
  ·rename_i j hj
   refine .ownc v j k lo n (c.A id j ha hj) h1 fun hl=>?_
   obtain ⟨g1,g2,_⟩:=c.L id j hj hl
   rw [g2];exact h g1
  ·exact .any _
 | slf t xs a h=>exact .slf t xs a (h.mono c.fz)
theorem renOb_ok {E E':Env} {τ:List (Option Nat)} (c:Carry E E' τ) (hw:E'.w=E.w) {id j:Nat} (hρ:E'.ρ j=E.ρ id) (hK:E'.K j=E.K id) {ob:Ob} (h:OkOb E id ob):OkOb E' j (renOb τ ob):=by
 cases ob with
 | dead=>exact h
 | cells cs =>
  obtain ⟨hd,h1,arr,el,h2,h3,h4⟩:=h
  refine ⟨hd,hρ.trans h1,arr,el,by rw [hw];exact h2,by rw [h3,(renAL_get τ cs).1],fun i v x hv hx=>?_⟩
  rw [(renAL_get τ cs).2,Option.map_eq_some_iff] at hx
  obtain ⟨y,hy,rfl⟩:=hx
  obtain ⟨h5,h6⟩:=h4 i v y hv hy
  exact ⟨h5,renA_ok c h6⟩
 | rows t xs =>
  show RowsAt E' t xs (E'.ρ j)
  rw [hρ]
  exact RowsAt.mono c.fz (fun _ _=>by rw [hw]) h
 | froz t xs =>
  show RowsAt E' t xs (E'.ρ j)
  rw [hρ]
  exact RowsAt.mono c.fz (fun _ _=>by rw [hw]) h
 | fmap es =>
  obtain ⟨hd,h1,ms,clock,h2,h3,h4⟩:=h
  refine ⟨hd,hρ.trans h1,ms,clock,by rw [hw];exact h2,by rw [h3,List.length_map],fun i m p hm hp=>?_⟩
  rw [List.getElem?_map,Option.map_eq_some_iff] at hp
  obtain ⟨q,hq,rfl⟩:=hp
  obtain ⟨h5,h6⟩:=h4 i m q hm hq
  exact ⟨h5,renA_ok c h6⟩
 | grid t more xss =>
  obtain ⟨hd,h1,h2⟩:=h
  refine ⟨hd,hρ.trans h1, ?_⟩
  rw [hK]
  exact h2.mono c.fz (by rw [hw]) (fun _ _ _=>by rw [hw])
 | loop st pe ps x y sl =>
  obtain ⟨hd,h1,r,h2,h3,h4,h5,h6,h7,h8,h9⟩:=h
  refine ⟨hd,hρ.trans h1,r,by rw [hw];exact h2,h3,h4,h5,h6,h7,by rw [h8,(renAL_get τ sl).1],fun i v s hv hs=>?_⟩
  rw [(renAL_get τ sl).2,Option.map_eq_some_iff] at hs
  obtain ⟨z,hz,rfl⟩:=hs
  exact renA_ok c (h9 i v z hv hz)
theorem hasN_iff:∀ (σ:List (Option Nat)) (j:Nat),hasN σ j=true↔∃ i,getN none σ i=some j
 | [],j=>⟨fun h=>by simp [hasN] at h,fun ⟨i,h⟩=>by simp [getN] at h⟩
 | some k :: σ,j=>by
  have ih:=hasN_iff σ j
  simp only [hasN,Bool.or_eq_true]
  constructor
  ·rintro (h | h)
   ·exact ⟨0,congrArg some (Nat.eq_of_beq_eq_true h)⟩
   ·obtain ⟨i,hi⟩:=ih.1 h
    exact ⟨i+1,hi⟩
  ·rintro ⟨i,hi⟩
   cases i with
   | zero=>cases hi;exact .inl (Nat.beq_refl _)
   | succ i=>exact .inr (ih.2 ⟨i,hi⟩)
 | none :: σ,j=>by
  have ih:=hasN_iff σ j
  simp only [hasN]
  constructor
  ·intro h
   obtain ⟨i,hi⟩:=ih.1 h
   exact ⟨i+1,hi⟩
  ·rintro ⟨i,hi⟩
   cases i with
   | zero=>cases hi
   | succ i=>exact ih.2 ⟨i,hi⟩
theorem keepL_get (σ:List (Option Nat)):∀ (l:List Ob) (k:Nat),(keepL σ k l).length=l.length∧∀ i,getOb (keepL σ k l) i=if hasN σ (k+i)=true then getOb l i else .dead
 | [],k=>⟨rfl,fun i=>by simp [keepL,getOb,getN]⟩
 | ob :: l,k=>by
  have ih:=keepL_get σ l (k+1)
  refine ⟨by simp [keepL,ih.1],fun i=>?_⟩
  cases i with
  | zero =>
   show (bif hasN σ k then ob else .dead)=if hasN σ (k+0)=true then ob else .dead
   rw [Nat.add_zero]
   cases hasN σ k <;> rfl
  | succ i =>
   have:=ih.2 i
   rw [show k+1+i=k+(i+1) by omega] at this
   exact this
theorem newN_get:∀ (k n i:Nat),getN none (newN n k) i=if i < k then some (n+i) else none
 | 0,n,i=>by simp [newN,getN]
 | k+1,n,i=>by
  cases i with
  | zero=>simp [newN,getN]
  | succ i =>
   have:=newN_get k (n+1) i
   show getN none (newN (n+1) k) i=_
   rw [this]
   by_cases h:i < k
   ·rw [if_pos h,if_pos (by omega)];congr 1;omega
   ·rw [if_neg h,if_neg (by omega)]
theorem getN_app {α:Type} {d:α} (l m:List α) (i:Nat):getN d (l++m) i=if i < l.length then getN d l i else getN d m (i - l.length):=by
 rw [getN_eq,getN_eq,getN_eq]
 by_cases h:i < l.length
 ·rw [if_pos h,List.getElem?_append_left h]
 ·rw [if_neg h,List.getElem?_append_right (by omega)]
theorem putL_get:∀ (σ:List (Option Nat)) (l H:List Ob),(∀ i i' j,getN none σ i=some j→getN none σ i'=some j→i=i')→(∀ i j,getN none σ i=some j→j < H.length)→σ.length≤l.length →
 (putL σ l H).length=H.length+(l.length - σ.length)∧(∀ i j,getN none σ i=some j→getOb (putL σ l H) j=getOb l i) ∧
 (∀ j,j < H.length→(∀ i,getN none σ i≠some j)→getOb (putL σ l H) j=getOb H j)∧∀ k,getOb (putL σ l H) (H.length+k)=getOb l (σ.length+k)
 | [],l,H,_,_,_=>by
  refine ⟨by simp [putL],fun i j h=>by simp [getN] at h,fun j hj _=>?_,fun k=>?_⟩
  ·show getN .dead (H++l) j=_
   rw [getN_app,if_pos hj];rfl
  ·show getN .dead (H++l) (H.length+k)=_
   rw [getN_app,if_neg (by omega),Nat.add_sub_cancel_left]
   simp [getOb]
 | x :: σ,[],H,_,_,h=>by simp at h
 | some j0 :: σ,ob :: l,H,hd,hlt,hle=>by
  have hj0:=hlt 0 j0 rfl
  have ih:=putL_get σ l (setN ob H j0) (fun i i' j h h'=>Nat.succ.inj (hd (i+1) (i'+1) j h h')) (fun i j h=>by rw [setN_length];exact hlt (i+1) j h) (by simpa using hle)
  rw [setN_length] at ih
  obtain ⟨h1,h2,h3,h4⟩:=ih
  have no:∀ i,getN none σ i≠some j0:=fun i h=>absurd (hd (i+1) 0 j0 h rfl) (by omega)
  refine ⟨by simpa [putL] using h1,fun i j h=>?_,fun j hj hno=>?_,fun k=>?_⟩
  ·cases i with
   | zero =>
    cases h
    show getOb (putL σ l (setN ob H j0)) j0=ob
    rw [h3 j0 hj0 no,getOb_setN,if_pos ⟨rfl,hj0⟩]
   | succ i=>exact h2 i j h
  ·show getOb (putL σ l (setN ob H j0)) j=_
   rw [h3 j hj fun i=>hno (i+1),getOb_setN,if_neg]
   exact fun h=>hno 0 (by rw [← h.1];rfl)
  ·show getOb (putL σ l (setN ob H j0)) (H.length+k)=getOb (ob :: l) (σ.length+1+k)
   rw [h4,show σ.length+1+k=(σ.length+k)+1 by omega]
   rfl
 | none :: σ,ob :: l,H,hd,hlt,hle=>by
  have ih:=putL_get σ l H (fun i i' j h h'=>Nat.succ.inj (hd (i+1) (i'+1) j h h')) (fun i j h=>hlt (i+1) j h) (by simpa using hle)
  obtain ⟨h1,h2,h3,h4⟩:=ih
  refine ⟨by simpa [putL] using h1,fun i j h=>?_,fun j hj hno=>?_,fun k=>?_⟩
  ·cases i with
   | zero=>cases h
   | succ i=>exact h2 i j h
  ·exact h3 j hj fun i=>hno (i+1)
  ·show getOb (putL σ l H) (H.length+k)=getOb (ob :: l) (σ.length+1+k)
   rw [h4,show σ.length+1+k=(σ.length+k)+1 by omega]
   rfl
def Env.carry (E E4:Env) (back:Nat→Option Nat):Env where
 w:=E4.w
 B:=E.B
 F0:=E.F0
 ρ:=fun j=>match back j with | some i=>E4.ρ i | none=>E.ρ j
 L:=fun j=>match back j with | some i=>E4.L i | none=>E.L j
 W:=fun j=>match back j with | some i=>E4.W i | none=>E.W j
 A:=fun j=>match back j with | some i=>E4.A i | none=>E.A j
 K:=fun j=>match back j with | some i=>E4.K i | none=>E.K j
 M:=E.M
 Hd:=E.Hd
section
variable {E E4:Env} {back:Nat→Option Nat}
theorem carry_some {j i:Nat} (h:back j=some i):(E.carry E4 back).ρ j=E4.ρ i∧(E.carry E4 back).K j=E4.K i∧((E.carry E4 back).L j↔E4.L i)∧((E.carry E4 back).W j↔E4.W i)∧((E.carry E4 back).A j↔E4.A i):=by
 simp [Env.carry,h]
theorem carry_none {j:Nat} (h:back j=none):(E.carry E4 back).ρ j=E.ρ j∧(E.carry E4 back).K j=E.K j∧((E.carry E4 back).L j↔E.L j)∧((E.carry E4 back).W j↔E.W j)∧((E.carry E4 back).A j↔E.A j):=by
 simp [Env.carry,h]
theorem carry_own_some {j i b:Nat} (h:back j=some i):(E.carry E4 back).Own j b↔E4.Own i b:=by
 simp [Env.Own,Env.carry,h]
theorem carry_own_none {j b:Nat} (h:back j=none):(E.carry E4 back).Own j b↔E.Own j b:=by
 simp [Env.Own,Env.carry,h]
end
def Env.only (E:Env) (σ:List (Option Nat)):Env:={ E with
 L:=fun j=>E.L j∧hasN σ j=true
 W:=fun j=>E.W j∧hasN σ j=true
 Hd:=fun b=>E.Hd b∨∃ j,E.W j∧hasN σ j=false∧E.Own j b }
section
variable {E:Env} {H:List Ob} {n:Nat} {σ:List (Option Nat)}
theorem only_nb {b:Nat} (h:E.Nb b):(E.only σ).Nb b:=⟨h.1,fun id hW=>h.2.1 id hW.1,fun hh=>hh.elim h.2.2 fun ⟨j,hW,_,ho⟩=>h.2.1 j hW ho⟩
theorem only_q (k:Nat):Evq k E (E.only σ):=by
 refine ⟨fun _ _ h=>h,fun _ _ _ hl=>⟨hl.1,rfl⟩,fun _ _ _ _ _ _ h=>h,fun b o hf=>⟨?_,rfl⟩,fun b ms clock hB h hm=>⟨hB,only_nb h,hm⟩⟩
 rcases hf with h | ⟨h1,h2⟩
 ·exact .inl h
 ·exact .inr ⟨h1,only_nb h2⟩
theorem only_ok (hE:EnvOk E H n):EnvOk (E.only σ) (keepL σ 0 H) n:=by
 have hg:=keepL_get σ H 0
 have at0:∀ i,getOb (keepL σ 0 H) i=if hasN σ i=true then getOb H i else .dead:=fun i=>by have:=hg.2 i;rwa [Nat.zero_add] at this
 have at1:∀ i,getOb (keepL σ 0 H) i≠.dead→hasN σ i=true∧getOb (keepL σ 0 H) i=getOb H i:=fun i h=>by
  rw [at0] at h ⊢
  by_cases h1:hasN σ i=true
  ·rw [if_pos h1];exact ⟨h1,rfl⟩
  ·rw [if_neg h1] at h;exact absurd rfl h
 refine ⟨by rw [hg.1];exact hE.len,hE.ns,fun id hne=>?_,fun id hw=>?_,fun id hl hne=>?_,fun id hl=>hE.sub id hl.1,fun id hw=>⟨hE.wl id hw.1,hw.2⟩,fun id id' b hl hl'=>hE.injO id id' b hl.1 hl'.1,
  fun id b hl=>hE.ltO id b hl.1,hE.f0,hE.B,fun id b hl ho hh=>hh.elim (hE.hid id b hl.1 ho) fun ⟨j,hW,hn,ho'⟩=>?_,fun b hh=>hh.elim (hE.hlt b) fun ⟨j,hW,_,ho⟩=>(hE.ltO j b (hE.wl j hW) ho).2⟩
 ·obtain ⟨h1,h2⟩:=at1 id hne
  exact ⟨hE.live id (by rw [← h2];exact hne),h1⟩
 ·obtain ⟨h1,h2⟩:=at1 id (wr_ne hw)
  exact ⟨hE.wr id (by rw [← h2];exact hw),h1⟩
 ·obtain ⟨h1,h2⟩:=at1 id hne
  rw [h2]
  exact OkOb.monoq (only_q n) hE.ns (hE.sub id hl.1) hl rfl (fun _ _=>rfl) (hE.ok id hl.1 (by rw [← h2];exact hne))
 ·have e:=hE.injO id j b hl.1 (hE.wl j hW) ho ho'
  subst e
  rw [hl.2] at hn
  cases hn
end
theorem nonesDead_get:∀ (σ:List (Option Nat)) (l:List Ob),nonesDead σ l=true→σ.length≤l.length∧∀ i,i < σ.length→getN none σ i=none→getOb l i=.dead
 | [],l,_=>⟨Nat.zero_le _,fun i h=>by simp at h⟩
 | x :: σ,[],h=>by cases x <;> simp [nonesDead] at h
 | some j :: σ,ob :: l,h=>by
  obtain ⟨h1,h2⟩:=nonesDead_get σ l h
  refine ⟨by simpa using h1,fun i hi hn=>?_⟩
  cases i with
  | zero=>cases hn
  | succ i=>exact h2 i (by simpa using hi) hn
 | none :: σ,ob :: l,h=>by
  simp only [nonesDead,Bool.and_eq_true] at h
  obtain ⟨h1,h2⟩:=nonesDead_get σ l h.2
  refine ⟨by simpa using h1,fun i hi hn=>?_⟩
  cases i with
  | zero =>
   show ob=.dead
   cases ob <;> first | rfl | (simp [obDead] at h)
  | succ i=>exact h2 i (by simpa using hi) hn
theorem renOb_dead {τ:List (Option Nat)} {ob:Ob} (h:renOb τ ob≠.dead):ob≠.dead:=by
 rintro rfl;exact h rfl
theorem renOb_wr {τ:List (Option Nat)} {ob:Ob} (h:(renOb τ ob).wr):ob.wr:=by
 cases ob <;> exact h
open Classical in
theorem frame_ok {P:Program} {sem:CallSem} (hsem:CallOk P sem) {S:FuncId→List AV→List Ob→AV→List Ob→Prop}
 (hS:∀ g args0 T x1 T1,S g args0 T x1 T1→sem g args0 T T.length (fun x T' n'=>∃ σ,weak T.length σ [noW x] T' n' ⟨[x1],T1,T1.length⟩)):CallOk P (frameS S):=by
 refine ⟨fun g args H n K h E vs hE hsz hrd=>?_,fun id args H n K h=>h.1.elim⟩
 obtain ⟨_,args0,T,x1,T1,σ,hSS,hwk,hfr,hK⟩:=h
 obtain ⟨w1,w2,w3,w4⟩:=id hwk
 simp only [Bool.and_eq_true] at w1 w2 w3 w4
 obtain ⟨⟨⟨⟨w5,w6⟩,w7⟩,w8⟩,w9⟩:=w4
 obtain ⟨d1,d2,d3⟩:=distinct_get w5
 simp only [frameOk,Bool.and_eq_true] at hfr
 obtain ⟨⟨f1,f2⟩,f3⟩:=hfr
 obtain ⟨f4,f5⟩:=nonesDead_get _ _ f3
 have lt_of:∀ {i j:Nat},getN none σ i=some j→i < σ.length:=fun {i j} h=>by
  rcases Nat.lt_or_ge i σ.length with h1 | h1
  ·exact h1
  ·rw [getN_ge _ h1] at h;cases h
 have liveT:∀ i,i < T.length→getOb T i≠.dead:=fun i hi e=>by
  have:=List.all_eq_true.1 f1 _ (List.getElem_mem hi)
  have e':T[i]=.dead:=by rw [← e];unfold getOb;rw [getN_eq,List.getElem?_eq_getElem hi];rfl
  rw [e'] at this
  simp [obDead] at this
 have sinj:∀ i i' j,getN none σ i=some j→getN none σ i'=some j→i=i':=fun i i' j h h'=>d3 i i' j (liveT i (by rw [← d1];exact lt_of h)) (liveT i' (by rw [← d1];exact lt_of h')) h h'
 have hE1:=only_ok (σ:=σ) hE
 have hs1:SlOk (E.only σ) ⟨vs,[]⟩ (args.map noW):=by
  refine ⟨by rw [hsz];simp,fun t=>?_,fun t c s w v ht=>?_,Marks.nil _⟩
  ·rw [getN_map_noW]
   refine noW_ok ?_
   cases hv:vs[t]? with
   | none =>
    have hge:args.length≤t:=by rw [← hsz];exact Array.getElem?_eq_none_iff.1 hv
    rw [getN_ge _ hge];exact .any _
   | some v =>
    have hlt:t < args.length:=by rw [← hsz];exact (Array.getElem?_eq_some_iff.1 hv).1
    have e:(Act.mk vs []).eval (.tmp t)=v:=by simp [Act.eval,Array.getD_eq_getD_getElem?,hv]
    rw [e]
    exact (hrd t v _ hv (getN_of_lt hlt)).monoq (only_q n) hE.ns
  ·rw [List.getElem?_map,Option.map_eq_some_iff] at ht
   obtain ⟨z,_,hz⟩:=ht
   exact absurd hz (noW_ne _ _ _ _ _)
 obtain ⟨hE2,hs2,hevo2,_⟩:=weaken_at hE1 hs1 hwk
 simp only at hE2 hs2 hevo2
 have live1:∀ {i j:Nat},getN none σ i=some j→E.L j:=fun {i j} h=>(retell_live hE1 w3 (liveT i (by rw [← d1];exact lt_of h)) h).1.1
 have slt:∀ i j,getN none σ i=some j→j < n:=fun i j h=>hE.ns j (hE.sub j (live1 h))
 obtain ⟨hfn,hc⟩:=hsem.1 g args0 T T.length _ (hS g args0 T x1 T1 hSS) ((E.only σ).retell σ T) vs hE2 (by rw [hsz,w2];simp) (fun i v x hv hx=>by
  have:=hs2.rd i
  have e:(Act.mk vs []).eval (.tmp i)=v:=by simp [Act.eval,Array.getD_eq_getD_getElem?,hv]
  rw [e,getN_eq,hx] at this
  exact this)
 refine ⟨hfn,hc.mono fun en w' hpost=>?_⟩
 obtain ⟨v,E3,x,T',n',rfl,rfl,hmn,hE3,hv3,hevo3,σ2,hwk2⟩:=hpost
 have hs3:SlOk E3 ⟨#[v],[]⟩ [noW x]:=by
  refine ⟨rfl,fun t=>?_,fun t c s w v ht=>?_,Marks.nil _⟩
  ·cases t with
   | zero=>exact noW_ok hv3
   | succ t=>exact .any _
  ·cases t with
   | zero=>simp only [List.getElem?_cons_zero,Option.some.injEq] at ht;exact absurd ht (noW_ne _ _ _ _ _)
   | succ t=>simp at ht
 obtain ⟨hE4,hs4,hevo4,hm1⟩:=weaken_at hE3 hs3 hwk2
 simp only at hE4 hs4 hevo4 hm1
 have hv4:RdA (E3.retell σ2 T1) v x1:=hs4.rd 0
 have hevo:=hevo3.trans hevo4
 have hL4:∀ id,(E3.retell σ2 T1).L id↔getOb T1 id≠.dead:=fun _=>Iff.rfl
 have hW4:∀ id,(E3.retell σ2 T1).W id↔(getOb T1 id).wr:=fun _=>Iff.rfl
 have hA4:∀ id,(E3.retell σ2 T1).A id↔id < T1.length:=fun _=>Iff.rfl
 have hw4:(E3.retell σ2 T1).w=E3.w:=rfl
 generalize hE4e:E3.retell σ2 T1=E4 at *
 have lw:∀ id,E4.L id→E4.W id:=fun id h=>by
  have hne:=(hL4 id).1 h
  rw [hW4]
  have hlt:=getOb_lt hne
  have:=List.all_eq_true.1 f2 _ (List.getElem_mem hlt)
  have e:T1[id]=getOb T1 id:=by unfold getOb;rw [getN_eq,List.getElem?_eq_getElem hlt];rfl
  rw [e] at this
  cases hob:getOb T1 id <;> rw [hob] at this hne <;> first | trivial | exact absurd rfl hne | (simp [obWr] at this)
 obtain ⟨τ,hτ⟩ : ∃ τ,σ++newN n (T1.length - T.length)=τ:=⟨_,rfl⟩
 rw [hτ] at hK
 have tau:∀ i,getN none τ i=if i < T.length then getN none σ i else if i < T1.length then some (n+(i - T.length)) else none:=by
  intro i
  rw [← hτ,getN_app,d1,newN_get]
  by_cases h:i < T.length
  ·rw [if_pos h,if_pos h]
  ·rw [if_neg h,if_neg h]
   by_cases h':i < T1.length
   ·rw [if_pos h',if_pos (by omega)]
   ·rw [if_neg h',if_neg (by omega)]
 obtain ⟨back,hback⟩ : ∃ back:Nat→Option Nat,back=fun j=>if n≤j then some (T.length+(j - n)) else if h:∃ i,getN none σ i=some j then some h.choose else none:=⟨_,rfl⟩
 have b_new:∀ j,n≤j→back j=some (T.length+(j - n)):=fun j h=>by rw [hback];simp only;rw [if_pos h]
 have b_old:∀ i j,getN none σ i=some j→back j=some i:=fun i j h=>by
  have hex:∃ i,getN none σ i=some j:=⟨i,h⟩
  rw [hback];simp only
  rw [if_neg (by have:=slt i j h;omega),dif_pos hex]
  exact congrArg some (sinj _ _ j hex.choose_spec h)
 have b_inv:∀ j i,back j=some i→(n≤j∧i=T.length+(j - n))∨(j < n∧getN none σ i=some j):=fun j i h=>by
  rw [hback] at h
  simp only at h
  split at h
  ·cases h;exact .inl ⟨‹_›,rfl⟩
  ·split at h
   ·rename_i h1 h2
    cases h
    exact .inr ⟨by omega,h2.choose_spec⟩
   ·cases h
 have b_none:∀ j,back j=none→j < n∧hasN σ j=false:=fun j h=>by
  rw [hback] at h
  simp only at h
  split at h
  ·cases h
  ·split at h
   ·cases h
   ·rename_i h1 h2
    refine ⟨by omega, ?_⟩
    cases hh:hasN σ j with
    | false=>rfl
    | true=>exact absurd ((hasN_iff σ j).1 hh) h2
 have b_inj:∀ j j' i,back j=some i→back j'=some i→j=j':=fun j j' i h h'=>by
  rcases b_inv j i h with ⟨g1,g2⟩ | ⟨g1,g2⟩ <;> rcases b_inv j' i h' with ⟨g3,g4⟩ | ⟨g3,g4⟩
  ·omega
  ·have:=lt_of g4;omega
  ·have:=lt_of g2;omega
  ·rw [g2] at g4;exact Option.some.inj g4
 have b_tau:∀ i j,getN none τ i=some j→back j=some i:=fun i j h=>by
  rw [tau] at h
  split at h
  ·exact b_old i j h
  ·split at h
   ·cases h
    rw [b_new _ (by omega)]
    congr 1;omega
   ·cases h
 obtain ⟨E5,hE5⟩ : ∃ E5,E.carry E4 back=E5:=⟨_,rfl⟩
 have cs:∀ {j i:Nat},back j=some i→E5.ρ j=E4.ρ i∧E5.K j=E4.K i∧(E5.L j↔E4.L i)∧(E5.W j↔E4.W i)∧(E5.A j↔E4.A i):=fun h=>by rw [← hE5];exact carry_some h
 have cn:∀ {j:Nat},back j=none→E5.ρ j=E.ρ j∧E5.K j=E.K j∧(E5.L j↔E.L j)∧(E5.W j↔E.W j)∧(E5.A j↔E.A j):=fun h=>by rw [← hE5];exact carry_none h
 have os:∀ {j i b:Nat},back j=some i→(E5.Own j b↔E4.Own i b):=fun h=>by rw [← hE5];exact carry_own_some h
 have on:∀ {j b:Nat},back j=none→(E5.Own j b↔E.Own j b):=fun h=>by rw [← hE5];exact carry_own_none h
 have e5w:E5.w=E4.w:=by rw [← hE5];rfl
 have e5B:E5.B=E.B:=by rw [← hE5];rfl
 have e5F:E5.F0=E.F0:=by rw [← hE5];rfl
 have e5M:E5.M=E.M:=by rw [← hE5];rfl
 have e5H:E5.Hd=E.Hd:=by rw [← hE5];rfl
 have e4B:E4.B=E.B:=hevo.B
 have e4F:E4.F0=E.F0:=hevo.F0
 have e4H:E4.Hd=fun b=>E.Hd b∨∃ j,E.W j∧hasN σ j=false∧E.Own j b:=hevo.Hd
 have sz:E.w.heap.size≤E4.w.heap.size:=hevo.below.size
 have nb2:∀ b,E.Nb b→((E.only σ).retell σ T).Nb b:=fun b h=>retell_nb hE1 w3 (only_nb h)
 have nb4:∀ b,E.Nb b→E4.Nb b∧E4.w.heap[b]?=E.w.heap[b]?:=fun b h=>hevo.hp b (nb2 b h)
 have hidden:∀ b,E4.Hd b→E4.w.heap[b]?=E.w.heap[b]?:=fun b h=>hevo.hh b (by have:=hevo.Hd;rw [← this];exact h)
 have nbO:∀ b,E4.Nb b→E5.Nb b:=fun b h=>by
  refine ⟨by rw [e5w];exact h.1,fun j hW ho=>?_,fun hh=>h.2.2 (by rw [e4H];rw [e5H] at hh;exact .inl hh)⟩
  cases hb:back j with
  | some i=>exact h.2.1 i ((cs hb).2.2.2.1.1 hW) ((os hb).1 ho)
  | none=>exact h.2.2 (by rw [e4H];exact .inr ⟨j,(cn hb).2.2.2.1.1 hW,(b_none j hb).2,(on hb).1 ho⟩)
 have fz4:∀ b o,E4.Fz b o→E5.Fz b o∧E5.w.cell? ⟨b,o,none⟩=E4.w.cell? ⟨b,o,none⟩:=fun b o h=>by
  refine ⟨?_,by rw [e5w]⟩
  rcases h with ⟨h1,h2⟩ | ⟨h1,h2⟩
  ·exact .inl ⟨by rw [e5B,← e4B];exact h1,by rw [e5F,← e4F];exact h2⟩
  ·exact .inr ⟨by rw [e5B,← e4B];exact h1,nbO b h2⟩
 have carry:Carry E4 E5 τ:=by
  refine ⟨fun id j ha hj=>(cs (b_tau id j hj)).2.2.2.2.2 ha,fun id j hj hl=>?_,fz4⟩
  obtain ⟨g1,g2,g3,_⟩:=cs (b_tau id j hj)
  exact ⟨g3.1 hl,g1,g2⟩
 have old:∀ {j i:Nat},j < n→back j=some i→i < T.length∧getN none σ i=some j∧((E.only σ).retell σ T).A i∧((E.only σ).retell σ T).ρ i=E.ρ j∧((E.only σ).retell σ T).K i=E.K j:=fun {j i} hj hb=>by
  rcases b_inv j i hb with ⟨g1,_⟩ | ⟨_,g2⟩
  ·omega
  ·have hi:i < T.length:=by rw [← d1];exact lt_of g2
   refine ⟨hi,g2,hi, ?_, ?_⟩
   ·simp only [Env.retell,g2];rfl
   ·simp only [Env.retell,g2];rfl
 have hevo5:Evo n E E5:=by
  refine ⟨e5B,e5F,e5M,by rw [e5w];exact hevo.below,fun j hj ha=>?_,fun j hj ha hl=>?_,fun j hj ha hl c o ho=>?_,fun b hb=>?_,e5H,fun b hb=>?_⟩
  ·cases hb:back j with
   | some i=>exact (cs hb).2.2.2.2.2 (hevo.A i (old hj hb).1 (old hj hb).2.2.1)
   | none=>exact (cn hb).2.2.2.2.2 ha
  ·cases hb:back j with
   | some i =>
    obtain ⟨h1,h2,h3,h4,_⟩:=old hj hb
    obtain ⟨g1,g2⟩:=hevo.ids i h1 h3 ((cs hb).2.2.1.1 hl)
    exact ⟨live1 h2,(cs hb).1.trans (g2.trans h4)⟩
   | none=>exact ⟨(cn hb).2.2.1.1 hl,(cn hb).1⟩
  ·cases hb:back j with
   | some i =>
    obtain ⟨h1,h2,h3,_,h5⟩:=old hj hb
    rw [(cs hb).2.1]
    exact hevo.kds i h1 h3 ((cs hb).2.2.1.1 hl) c o (by rw [h5];exact ho)
   | none=>rw [(cn hb).2.1];exact ho
  ·exact ⟨nbO b (nb4 b hb).1,by rw [e5w];exact (nb4 b hb).2⟩
  ·rw [e5w];exact hidden b (by rw [e4H];exact .inl hb)
 obtain ⟨p1,p2,p3,p4⟩:=putL_get σ (renObs τ T1) H sinj (fun i j h=>by rw [hE.len];exact slt i j h) (by rw [(renObs_get τ T1).1];exact f4)
 rw [(renObs_get τ T1).1,hE.len,d1] at p1
 rw [hE.len] at p3 p4
 have get5:∀ j,(∃ i,back j=some i∧getOb (putL σ (renObs τ T1) H) j=renOb τ (getOb T1 i))∨(back j=none∧getOb (putL σ (renObs τ T1) H) j=getOb H j):=fun j=>by
  cases hb:back j with
  | some i =>
   refine .inl ⟨i,rfl, ?_⟩
   rcases b_inv j i hb with ⟨g1,g2⟩ | ⟨g1,g2⟩
   ·have:=p4 (j - n)
    rw [show n+(j - n)=j by omega,(renObs_get τ T1).2,d1,← g2] at this
    exact this
   ·rw [p2 i j g2,(renObs_get τ T1).2]
  | none =>
   refine .inr ⟨rfl,p3 j (b_none j hb).1 fun i h=>?_⟩
   rw [b_old i j h] at hb
   cases hb
 have kept:∀ j b,back j=none→E.L j→E.Own j b→E4.w.heap[b]?=E.w.heap[b]?∧(E4.Hd b∨E.Nb b):=fun j b hb hl ho=>by
  by_cases hW:E.W j
  ·have hh:E4.Hd b:=by rw [e4H];exact .inr ⟨j,hW,(b_none j hb).2,ho⟩
   exact ⟨hidden b hh,.inl hh⟩
  ·have hn:E.Nb b:=⟨(hE.ltO j b hl ho).2,fun j' hW' ho'=>hW ((hE.injO j' j b (hE.wl j' hW') hl ho' ho) ▸ hW'),hE.hid j b hl ho⟩
   exact ⟨(nb4 b hn).2,.inr hn⟩
 have hE5ok:EnvOk E5 (putL σ (renObs τ T1) H) (n+(T1.length - T.length)):=by
  refine ⟨p1,fun j ha=>?_,fun j hne=>?_,fun j hw=>?_,fun j hl hne=>?_,fun j hl=>?_,fun j hw=>?_,fun j j' b hl hl' ho ho'=>?_,fun j b hl ho=>?_,by rw [e5F,e5B];exact hE.f0,by rw [e5B,e5w];exact Nat.le_trans hE.B sz,
   fun j b hl ho=>?_,fun b hb=>?_⟩
  ·cases hb:back j with
   | some i =>
    rcases b_inv j i hb with ⟨g1,g2⟩ | ⟨g1,g2⟩
    ·have:=(hA4 i).1 ((cs hb).2.2.2.2.1 ha)
     omega
    ·omega
   | none=>have:=(b_none j hb).1;omega
  ·rcases get5 j with ⟨i,hb,hg⟩ | ⟨hb,hg⟩
   ·rw [hg] at hne
    exact (cs hb).2.2.1.2 ((hL4 i).2 (renOb_dead hne))
   ·rw [hg] at hne
    exact (cn hb).2.2.1.2 (hE.live j hne)
  ·rcases get5 j with ⟨i,hb,hg⟩ | ⟨hb,hg⟩
   ·rw [hg] at hw
    exact (cs hb).2.2.2.1.2 ((hW4 i).2 (renOb_wr hw))
   ·rw [hg] at hw
    exact (cn hb).2.2.2.1.2 (hE.wr j hw)
  ·rcases get5 j with ⟨i,hb,hg⟩ | ⟨hb,hg⟩
   ·rw [hg] at hne ⊢
    have hne':=renOb_dead hne
    exact renOb_ok carry e5w (cs hb).1 (cs hb).2.1 (hE4.ok i ((hL4 i).2 hne') hne')
   ·rw [hg] at hne ⊢
    have hl':E.L j:=(cn hb).2.2.1.1 hl
    exact OkOb.mono hevo5 hE.ns (hE.sub j hl') hl (cn hb).2.1 (fun b ho=>by rw [e5w];exact (kept j b hb hl' ho).1) (hE.ok j hl' hne)
  ·cases hb:back j with
   | some i=>exact (cs hb).2.2.2.2.2 (hE4.sub i ((cs hb).2.2.1.1 hl))
   | none=>exact (cn hb).2.2.2.2.2 (hE.sub j ((cn hb).2.2.1.1 hl))
  ·cases hb:back j with
   | some i=>exact (cs hb).2.2.1.2 (hE4.wl i ((cs hb).2.2.2.1.1 hw))
   | none=>exact (cn hb).2.2.1.2 (hE.wl j ((cn hb).2.2.2.1.1 hw))
  ·have cross:∀ {j j' i:Nat},back j=some i→back j'=none→E5.L j→E5.L j'→E5.Own j b→E5.Own j' b→False:=fun {j j' i} hb hb' hl hl' ho ho'=>by
    have hl4:=(cs hb).2.2.1.1 hl
    have ho4:=(os hb).1 ho
    rcases (kept j' b hb' ((cn hb').2.2.1.1 hl') ((on hb').1 ho')).2 with h | h
    ·exact hE4.hid i b hl4 ho4 h
    ·exact (nb4 b h).1.2.1 i (lw i hl4) ho4
   cases hb:back j with
   | some i =>
    cases hb':back j' with
    | some i' =>
     have e:=hE4.injO i i' b ((cs hb).2.2.1.1 hl) ((cs hb').2.2.1.1 hl') ((os hb).1 ho) ((os hb').1 ho')
     exact b_inj j j' i hb (by rw [hb',e])
    | none=>exact (cross hb hb' hl hl' ho ho').elim
   | none =>
    cases hb':back j' with
    | some i'=>exact (cross hb' hb hl' hl ho' ho).elim
    | none=>exact hE.injO j j' b ((cn hb).2.2.1.1 hl) ((cn hb').2.2.1.1 hl') ((on hb).1 ho) ((on hb').1 ho')
  ·rw [e5B,e5w]
   cases hb:back j with
   | some i =>
    have:=hE4.ltO i b ((cs hb).2.2.1.1 hl) ((os hb).1 ho)
    rw [e4B] at this
    exact this
   | none =>
    have:=hE.ltO j b ((cn hb).2.2.1.1 hl) ((on hb).1 ho)
    exact ⟨this.1,Nat.lt_of_lt_of_le this.2 sz⟩
  ·rw [e5H]
   cases hb:back j with
   | some i=>exact fun hh=>hE4.hid i b ((cs hb).2.2.1.1 hl) ((os hb).1 ho) (by rw [e4H];exact .inl hh)
   | none=>exact hE.hid j b ((cn hb).2.2.1.1 hl) ((on hb).1 ho)
  ·rw [e5H] at hb
   rw [e5w]
   exact Nat.lt_of_lt_of_le (hE.hlt b hb) sz
 exact ⟨v,E5,_,_,_,rfl,by rw [e5w];exact hw4,by omega,hE5ok,renA_ok carry hv4,hevo5,hK⟩
theorem goodC_oneS {P:Program} {call:CallSem} (hcall:CallOk P call) {g:FuncId} (hfn:∃ fn,P.funcs[g]?=some fn∧fn.body.isSome=true∧(fn.name == "runtime.NumGoroutine")=false) (a:List AV) (r:CR)
 (h:call g a [] 0 (finK r)):∃ C:Ctr,GoodC P g C∧C a=some ⟨r,fun k=>k r.res⟩:=by
 refine ⟨fun args=>@ite _ (args=a) (Classical.propDecidable _) (some ⟨r,fun k=>k r.res⟩) none,goodC_ofS hcall hfn (fun args r' hC k hk=>?_) fun args r' _ hC _=>?_,by simp⟩
 ·split at hC
  ·cases hC;exact hk
  ·cases hC
 split at hC
 ·rename_i he
  cases hC
  rw [he]
  exact h
 ·cases hC
theorem goodFS {P:Program} {call:CallSem} (hcall:CallOk P call) {g:FuncId} (a:List AK) (r:List (Bool × Ty)) (need:AK.dens a→Prop) (f:AK.dens a→Rens r)
 (hfn:∃ fn,P.funcs[g]?=some fn∧fn.body.isSome=true∧(fn.name == "runtime.NumGoroutine")=false)
 (h:∀ y,need y→call g (toAVs a y) [] 0 (finK ⟨none,none,[],resAV r (f y)⟩)):GoodC P g (fnC a r need f):=by
 refine ⟨hfn,fun args cg hC k hk=>?_,fun args cr gen hC hn w F0 vs hF hsz hrd=>?_⟩
 ·unfold fnC at hC
  split at hC
  ·rename_i y hy
   cases hC
   simp only at hk
   split at hk
   ·exact hk _ rfl
   ·exact hk
  ·cases hC
 unfold fnC at hC
 split at hC
 ·rename_i y hy
  cases hC
  obtain ⟨C,hgood,hCa⟩:=goodC_oneS hcall hfn _ _ (h y hn)
  obtain ⟨e,hall⟩:=ofAVs_ok (E:=Env.base w F0) a args y hy
  exact hgood.calls _ _ _ hCa trivial w F0 vs hF (hsz.trans e.symm) (fun i v x hv hx=>hall hrd i v x hv hx vs.toList (fun i u hu=>by simpa using hu) (by simpa using hsz))
 ·cases hC
theorem callS_good {P:Program} {cx:Ctx} (hcx:GoodCtx P cx) {sem:CallSem} (hsem:CallOk P sem):CallOk P (callS cx P sem):=callS_ok hcx (drawnOk hcx) hsem
theorem no_call {P:Program}:CallOk P (fun _ _ _ _ _=>False):=⟨fun _ _ _ _ _ h=>h.elim,fun _ _ _ _ _ h=>h.elim⟩
end Go.Sx
