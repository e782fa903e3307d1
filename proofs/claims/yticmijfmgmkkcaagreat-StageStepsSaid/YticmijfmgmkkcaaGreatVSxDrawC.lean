import Derived.Test.YticmijfmgmkkcaaGreatVSxDrawB
set_option linter.unusedSimpArgs false
set_option linter.unusedVariables false
set_option maxRecDepth 100000
namespace Go.Sx
open Go.RowKit
structure DrawFacts (P:Program) (cx:Ctx) (ops:List Oper) (ds:List DrawOp) (S:Nat→List AV) (B:Nat→List Ob) (M:Nat→Nat) (R:Nat→Res):Prop where
 good:GoodCtx P cx
 len:ds.length=ops.length
 len0:(B 0).length=M 0
 stat0:WhenStat (S 0)
 step:∀ (k:Nat) (d:DrawOp),ds[k]?=some d→DrawStep P cx ops d (S k) (B k) (M k) (R k) (S (k+1)) (B (k+1)) (M (k+1))
 op:∀ (k:Nat) (d:DrawOp),ds[k]?=some d→ops[k]?=some d.o
 need:∀ (k:Nat) (d:DrawOp),ds[k]?=some d→(∀ j,j < k→hasB d.bef j=true→OptP (R j).given)→OptP (R k).need
 late:∀ (k:Nat) (d:DrawOp),ds[k]?=some d→d.late=true→∀ j o,j < k→ops[j]?=some o→silent o.op=false→hasB d.bef j=true
 bar:∀ (k:Nat) (d:DrawOp),ds[k]?=some d→d.bar=true→∀ (m:Nat) (d':DrawOp),k≤m→ds[m]?=some d'→d'.late=true
 sto:∀ (k:Nat) (d:DrawOp),ds[k]?=some d→∀ p,(R k).st=some p→d.bar=true ∨
  ((∀ (j:Nat) o,j < k→ops[j]?=some o→silent o.op=false→hasB d.bef j=true∨M j≤p.1)∧∀ (j:Nat) d',k < j→ds[j]?=some d'→silent d'.o.op=false→hasB d'.bef k=true)
 ord:∀ (k:Nat) (d:DrawOp),ds[k]?=some d→(∀ i o,i < k→ops[i]?=some o→meets ops o d.o=true→hasB d.bef i=true)∧∀ e∈d.o.after.toList,edgeBinds e=true→e.on < k
 bef:∀ (D:Nat→Prop),(∀ (i:Nat) (d:DrawOp),ds[i]?=some d→D i→∀ e∈d.o.after.toList,edgeBinds e=true→D e.on)→∀ (k:Nat) (d:DrawOp),ds[k]?=some d→(∀ e∈d.o.after.toList,edgeBinds e=true→D e.on)→∀ j,hasB d.bef j=true→D j
def Aff (M:Nat→Nat) (R:Nat→Res) (k id:Nat):Prop:=(R k).kill=some id∨(∃ ob,(R k).st=some (id,ob))∨(M k≤id∧id < M (k+1))
section
variable {P:Program} {cx:Ctx} {ops:List Oper} {ds:List DrawOp} {S:Nat→List AV} {B:Nat→List Ob} {M:Nat→Nat} {R:Nat→Res}
theorem opRes_turned {dr:Bool} {o:Oper} {sl:List AV} {H:List Ob} {n:Nat} {r:Res} (h:opRes cx P dr ops o sl H n=some r):(∀ id,r.kill=some id→(getOb H id).wr)∧∀ p,r.st=some p→(getOb H p.1).wr:=by
 unfold opRes at h
 split at h
 ·split at h
  ·rename_i q g v news kill st frz hev
   cases h
   obtain ⟨h1,h2⟩:=evOp_turns hev
   refine ⟨fun id hid=>?_,fun p hp=>(h2 p hp).2⟩
   obtain ⟨_,t,xs,hob⟩:=h1 id hid
   rw [hob];trivial
  ·cases h
 ·repeat' split at h
  all_goals first
   | cases h;done
   | (cases h;exact ⟨fun id hid=>(by cases hid),fun p hp=>(by cases hp)⟩)
theorem at_some (k:Nat) (hk:k < ds.length):∃ d,ds[k]?=some d:=⟨_,List.getElem?_eq_getElem hk⟩
theorem DrawFacts.turn (h:DrawFacts P cx ops ds S B M R) {k:Nat} (hk:k < ds.length):TurnOk ⟨default,0,fun _ _=>False,fun _=>none,fun _=>False,fun _=>False,fun _=>True,fun _ _=>none,0,fun _=>False⟩ (B k) (R k):=by
 obtain ⟨d,hd⟩:=at_some k hk
 obtain ⟨h1,h2⟩:=opRes_turned (h.step k d hd).res
 exact ⟨fun id hid=>⟨trivial,h1 id hid⟩,fun p hp=>⟨trivial,h2 p hp⟩⟩
theorem DrawFacts.blen (h:DrawFacts P cx ops ds S B M R):∀ k,k≤ds.length→(B k).length=M k
 | 0,_=>h.len0
 | k+1,hk=>by
  obtain ⟨d,hd⟩:=at_some (ds:=ds) k (by omega)
  have hs:=h.step k d hd
  rw [hs.heap,hs.num]
  unfold Res.heap
  rw [List.length_append,(frzAll_get _ _ 0).2.2,killH_length,stH_length,h.blen k (by omega)]
theorem DrawFacts.mono (h:DrawFacts P cx ops ds S B M R):∀ {k m:Nat},k≤m→m≤ds.length→M k≤M m
 | k,0,hkm,_=>by have:k=0:=by omega
                 rw [this];exact Nat.le_refl _
 | k,m+1,hkm,hm=>by
  rcases Nat.lt_or_ge m k with h1 | h1
  ·have:k=m+1:=by omega
   rw [this];exact Nat.le_refl _
  ·obtain ⟨d,hd⟩:=at_some (ds:=ds) m (by omega)
   have:=h.mono (k:=k) (m:=m) h1 (by omega)
   rw [(h.step m d hd).num];omega
theorem DrawFacts.leave (h:DrawFacts P cx ops ds S B M R) {k id:Nat} (hk:k < ds.length) (hid:id < M k) (hn:¬ Aff M R k id):Frz (getOb (B k) id) (getOb (B (k+1)) id)∧(id∈(R k).frz→¬ (getOb (B (k+1)) id).wr):=by
 obtain ⟨d,hd⟩:=at_some k hk
 rw [(h.step k d hd).heap]
 rcases heap_get (h.blen k (by omega)) (h.turn hk) id with ⟨j,rfl,_⟩ | ⟨_,ob,hob,_,hf,hw⟩
 ·omega
 ·have hnk:(R k).kill≠some id:=fun h'=>hn (.inl h')
  rcases hob with ⟨ob',hst,rfl⟩ | ⟨_,rfl⟩
  ·exact absurd (.inr (.inl ⟨_,hst⟩)) hn
  ·exact ⟨hf hnk,hw⟩
theorem DrawFacts.keep (h:DrawFacts P cx ops ds S B M R) {k id:Nat} (hid:id < M k):∀ m,k≤m→m≤ds.length→(∀ j,k≤j→j < m→¬ Aff M R j id)→Frz (getOb (B k) id) (getOb (B m) id)
 | 0,hkm,_,_=>by have:k=0:=by omega
                 rw [this];exact .inl rfl
 | m+1,hkm,hm,hn=>by
  rcases Nat.lt_or_ge m k with h1 | h1
  ·have:k=m+1:=by omega
   rw [this];exact .inl rfl
  ·have ih:=h.keep hid m h1 (by omega) fun j h1 h2=>hn j h1 (by omega)
   exact ih.trans (h.leave (by omega) (Nat.lt_of_lt_of_le hid (h.mono h1 (by omega))) (hn m h1 (by omega))).1
theorem DrawFacts.died (h:DrawFacts P cx ops ds S B M R) {k id:Nat} (hid:id < M k) (hd0:getOb (B k) id=.dead):∀ m,k≤m→m≤ds.length→getOb (B m) id=.dead
 | 0,hkm,_=>by have:k=0:=by omega
               rw [← this];exact hd0
 | m+1,hkm,hm=>by
  rcases Nat.lt_or_ge m k with h1 | h1
  ·have:k=m+1:=by omega
   rw [← this];exact hd0
  ·have ih:=h.died hid hd0 m h1 (by omega)
   obtain ⟨d,hd⟩:=at_some (ds:=ds) m (by omega)
   have ht:=opRes_turned (h.step m d hd).res
   have hlt:id < M m:=Nat.lt_of_lt_of_le hid (h.mono h1 (by omega))
   have hn:¬ Aff M R m id:=by
    rintro (h2 | ⟨ob,h2⟩ | h2)
    ·have:=ht.1 id h2;rw [ih] at this;exact this
    ·have:=ht.2 _ h2;rw [ih] at this;exact this
    ·omega
   have:=(h.leave (by omega) hlt hn).1
   rw [ih] at this
   exact this.dead
theorem Put.stat {dst:Option Tmp} {v:AV} {sl sl':List AV} (hp:Put dst v sl sl') (hs:WhenStat sl) (hw:∀ c s w x,v=.when c s w x→condOf sl s w=some c∧∀ c' s' w' v',x≠.when c' s' w' v'):WhenStat sl':=by
 obtain ⟨he,hok⟩:=hp
 cases dst with
 | none=>rw [he];exact hs
 | some d =>
  simp only at he
  subst he
  obtain ⟨hd,h2,h3⟩:=hok d rfl
  have cond:∀ s w,s≠d→condOf (setN v sl d) s w=condOf sl s w:=by
   intro s w hs
   unfold condOf
   rw [getN_setN,if_neg (fun h=>hs h.1.symm)]
  intro t c s w x ht
  have hg:getN .any (setN v sl d) t=.when c s w x:=by rw [getN_eq,ht];rfl
  rw [getN_setN] at hg
  by_cases htd:d=t
  ·subst htd
   rw [if_pos ⟨rfl,hd⟩] at hg
   subst hg
   have hs:s≠d:=by
    simp only [notSelf,Bool.not_eq_true'] at h3
    intro e
    subst e
    rw [Nat.beq_refl] at h3
    cases h3
   rw [cond s w hs]
   exact hw c s w x rfl
  ·rw [if_neg (fun h=>htd h.1)] at hg
   have ht':sl[t]?=some (.when c s w x):=by
    rw [getN_eq] at hg
    cases hg2:sl[t]? with
    | none=>rw [hg2] at hg;cases hg
    | some y=>rw [hg2] at hg;simp only [Option.getD_some] at hg;rw [hg]
   rw [cond s w (noRef_get h2 t c s w x ht')]
   exact hs t c s w x ht'
theorem DrawFacts.stat (h:DrawFacts P cx ops ds S B M R):∀ k,k≤ds.length→WhenStat (S k)
 | 0,_=>h.stat0
 | k+1,hk=>by
  obtain ⟨d,hd⟩:=at_some (ds:=ds) k (by omega)
  exact (h.step k d hd).put.stat (h.stat k (by omega)) fun c s w x hw=>opRes_when (h.step k d hd).res hw
theorem DrawFacts.slen (h:DrawFacts P cx ops ds S B M R):∀ k,k≤ds.length→(S k).length=(S 0).length
 | 0,_=>rfl
 | k+1,hk=>by
  obtain ⟨d,hd⟩:=at_some (ds:=ds) k (by omega)
  rw [(h.step k d hd).put.eq]
  cases d.o.dst <;> simp [setN_length,h.slen k (by omega)]
theorem DrawFacts.slot (h:DrawFacts P cx ops ds S B M R) {k t:Nat}:∀ m,k≤m→m≤ds.length→(∀ j o,k≤j→j < m→ops[j]?=some o→o.dst≠some t)→getN .any (S m) t=getN .any (S k) t
 | 0,hkm,_,_=>by have:k=0:=by omega
                 rw [this]
 | m+1,hkm,hm,hn=>by
  rcases Nat.lt_or_ge m k with h1 | h1
  ·have:k=m+1:=by omega
   rw [this]
  ·obtain ⟨d,hd⟩:=at_some (ds:=ds) m (by omega)
   have ih:=h.slot m h1 (by omega) fun j o h1 h2=>hn j o h1 (by omega)
   have hne:=hn m d.o h1 (by omega) (h.op m d hd)
   rw [(h.step m d hd).put.eq,← ih]
   cases hdst:d.o.dst with
   | none=>rfl
   | some d' =>
    simp only [getN_setN]
    rw [if_neg]
    rintro ⟨rfl,_⟩
    exact hne hdst
theorem wr_loud {dr:Bool} {o:Oper} {sl:List AV} {H:List Ob} {n:Nat} {r:Res} (h:opRes cx P dr ops o sl H n=some r) (hor:(∃ id,r.kill=some id)∨(∃ p,r.st=some p)∨r.frz≠[]∨r.news≠[]):silent o.op=false:=by
 cases hs:silent o.op with
 | false=>rfl
 | true =>
  obtain ⟨_,h1,h2,h3,h4⟩:=opRes_silent hs h
  rcases hor with ⟨id,h⟩ | ⟨p,h⟩ | h | h
  ·rw [h3] at h;cases h
  ·rw [h4] at h;cases h
  ·exact absurd h2 h
  ·exact absurd h1 h
end
end Go.Sx
