import Derived.Test.YticmijfmgmkkcaaGreatVSxGood
import Derived.Orders
set_option linter.unusedSimpArgs false
set_option linter.unusedVariables false
set_option maxRecDepth 100000
namespace Go.Sx
open Go.RowKit
theorem hasB_iff {b j:Nat}:hasB b j=true↔b.testBit j=true:=by
 unfold hasB
 constructor
 ·intro h
  have h':=Nat.eq_of_beq_eq_true h
  rw [← h']
  change (Nat.pow 2 j ||| b).testBit j=true
  rw [Nat.testBit_or,show Nat.pow 2 j=2 ^ j from rfl,Nat.testBit_two_pow_self]
  rfl
 ·intro h
  have:Nat.lor (Nat.pow 2 j) b=b:=by
   change (2 ^ j ||| b)=b
   refine Nat.eq_of_testBit_eq fun i=>?_
   rw [Nat.testBit_or,Nat.testBit_two_pow]
   by_cases hi:j=i
   ·subst hi;simp [h]
   ·simp [hi]
  rw [this]
  exact Nat.beq_refl b
theorem isLate_get {L b i:Nat} (h:isLate L b i=true):∀ j,j < i→L.testBit j=true→hasB b j=true:=by
 intro j hj hL
 rw [hasB_iff]
 unfold isLate at h
 have h':=Nat.eq_of_beq_eq_true h
 rw [← h']
 change (L % 2 ^ i ||| b).testBit j=true
 rw [Nat.testBit_or,Nat.testBit_mod_two_pow]
 simp [hj,hL]
theorem louds_get:∀ (ops:List Oper) (k j:Nat) (o:Oper),ops[j]?=some o→silent o.op=false→(louds k ops).testBit (k+j)=true
 | [],_,_,_,h,_=>by simp at h
 | o0 :: l,k,0,o,h,hs=>by
  cases h
  simp only [louds,hs,Bool.false_eq_true,if_false]
  change (2 ^ k ||| louds (k+1) l).testBit (k+0)=true
  rw [Nat.testBit_or,Nat.add_zero,Nat.testBit_two_pow_self]
  rfl
 | o0 :: l,k,j+1,o,h,hs=>by
  have ih:=louds_get l (k+1) j o (by simpa using h) hs
  rw [show k+1+j=k+(j+1) by omega] at ih
  simp only [louds]
  split
  ·exact ih
  ·change (2 ^ k ||| louds (k+1) l).testBit (k+(j+1))=true
   rw [Nat.testBit_or,ih]
   simp
theorem flagsGo_get {L:Nat}:∀ (l:List (Oper × Nat)) (i:Nat),(flagsGo L i l).length=l.length ∧
 (∀ (k:Nat) (d:DrawOp),(flagsGo L i l)[k]?=some d→l[k]?=some (d.o,d.bef)∧d.late=isLate L d.bef (i+k)) ∧
 ∀ (k:Nat) (d:DrawOp),(flagsGo L i l)[k]?=some d→d.bar=true→∀ (m:Nat) (d':DrawOp),k≤m→(flagsGo L i l)[m]?=some d'→d'.late=true
 | [],i=>⟨rfl,fun k d h=>by simp [flagsGo] at h,fun k d h=>by simp [flagsGo] at h⟩
 | (o,b) :: l,i=>by
  obtain ⟨h1,h2,h3⟩:=flagsGo_get l (i+1)
  simp only [flagsGo]
  cases hg:flagsGo L (i+1) l with
  | nil =>
   rw [hg] at h1
   refine ⟨by simp [← h1],fun k d h=>?_,fun k d h hb m d' hm h'=>?_⟩
   ·cases k with
    | zero=>cases h;exact ⟨rfl,rfl⟩
    | succ k=>simp at h
   ·cases m with
    | zero =>
     have:k=0:=by omega
     subst this
     rw [h] at h';cases h'
     cases h;exact hb
    | succ m=>simp at h'
  | cons d0 r =>
   rw [hg] at h1 h2 h3
   refine ⟨by simp [← h1],fun k d h=>?_,fun k d h hb m d' hm h'=>?_⟩
   ·cases k with
    | zero=>cases h;exact ⟨rfl,rfl⟩
    | succ k =>
     have:=h2 k d (by simpa using h)
     rw [show i+1+k=i+(k+1) by omega] at this
     exact ⟨by simpa using this.1,this.2⟩
   ·cases k with
    | zero =>
     cases h
     simp only [Bool.and_eq_true] at hb
     cases m with
     | zero=>cases h';exact hb.1
     | succ m=>exact h3 0 d0 rfl hb.2 m d' (Nat.zero_le _) (by simpa using h')
    | succ k =>
     cases m with
     | zero=>omega
     | succ m=>exact h3 k d (by simpa using h) hb m d' (by omega) (by simpa using h')
theorem befE_get {acc:List Nat} {j:Nat}:∀ (l:List Go.Edge),(befE acc l).testBit j=true→∃ e∈l,edgeBinds e=true∧(j=e.on∨(getN 0 acc e.on).testBit j=true)
 | [],h=>by simp [befE] at h
 | e :: l,h=>by
  simp only [befE] at h
  split at h
  ·rename_i hb
   change ((2 ^ e.on ||| getN 0 acc e.on) ||| befE acc l).testBit j=true at h
   rw [Nat.testBit_or,Nat.testBit_or,Nat.testBit_two_pow] at h
   simp only [Bool.or_eq_true,decide_eq_true_eq] at h
   rcases h with (h | h) | h
   ·exact ⟨e,by simp,hb,.inl h.symm⟩
   ·exact ⟨e,by simp,hb,.inr h⟩
   ·obtain ⟨e',h1,h2⟩:=befE_get l h
    exact ⟨e',by simp [h1],h2⟩
  ·obtain ⟨e',h1,h2⟩:=befE_get l h
   exact ⟨e',by simp [h1],h2⟩
theorem befL_length:∀ (l:List Oper) (acc:List Nat),(befL acc l).length=acc.length+l.length
 | [],acc=>by simp [befL]
 | o :: l,acc=>by simp only [befL];rw [befL_length l];simp;omega
theorem befL_closed {D:Nat→Prop}:∀ (l:List Oper) (acc:List Nat) (full:List Oper),full.drop acc.length=l→full.length=acc.length+l.length →
 (∀ i o,full[i]?=some o→D i→∀ e∈o.after.toList,edgeBinds e=true→D e.on) →
 (∀ i j,i < acc.length→(∀ o,full[i]?=some o→∀ e∈o.after.toList,edgeBinds e=true→D e.on)→(getN 0 acc i).testBit j=true→D j) →
 ∀ i j,(∀ o,full[i]?=some o→∀ e∈o.after.toList,edgeBinds e=true→D e.on)→(getN 0 (befL acc l) i).testBit j=true→D j
 | [],acc,full,_,_,hD,hacc,i,j,hi,hj=>by
  simp only [befL] at hj
  rcases Nat.lt_or_ge i acc.length with h | h
  ·exact hacc i j h hi hj
  ·rw [getN_ge _ h] at hj;simp at hj
 | o :: l,acc,full,hdrop,hlen,hD,hacc,i,j,hi,hj=>by
  simp only [befL] at hj
  have ho:full[acc.length]?=some o:=by
   have:=congrArg (fun l=>l[0]?) hdrop
   simpa using this
  refine befL_closed l (acc++[befE acc o.after.toList]) full ?_ (by simp at hlen ⊢;omega) hD ?_ i j hi hj
  ·have:=congrArg (fun l=>l.drop 1) hdrop
   simpa [List.drop_drop] using this
  ·intro i' j' hi' hi2 hj'
   rw [getN_append] at hj'
   split at hj'
   ·rename_i hlt;exact hacc i' j' hlt hi2 hj'
   ·rename_i hge
    have:i'=acc.length:=by simp at hi';omega
    subst this
    rw [Nat.sub_self] at hj'
    obtain ⟨e,h1,h2,h3⟩:=befE_get _ hj'
    have hon:=hi2 o ho e h1 h2
    rcases h3 with rfl | h3
    ·exact hon
    ·rcases Nat.lt_or_ge e.on acc.length with h | h
     ·exact hacc e.on j' h (fun o' ho'=>hD e.on o' ho' hon) h3
     ·rw [getN_ge _ h] at h3;simp at h3
theorem ordOk_get {ops:List Oper}:∀ (l:List DrawOp) (j:Nat),ordOk ops j l=true→∀ k d,l[k]?=some d →
 (∀ i o,i < j+k→ops[i]?=some o→meets ops o d.o=true→hasB d.bef i=true)∧∀ e∈d.o.after.toList,edgeBinds e=true→e.on < j+k
 | [],_,_,k,d,h=>by simp at h
 | d0 :: l,j,h,0,d,hd=>by
  cases hd
  simp only [ordOk,Bool.and_eq_true] at h
  obtain ⟨⟨h1,h2⟩,_⟩:=h
  refine ⟨fun i o hi ho hm=>?_,fun e he hb=>?_⟩
  ·have hmem:(o,i)∈(ops.take j).zipIdx:=by
    rw [List.mem_zipIdx_iff_getElem?,List.getElem?_take]
    simp [show i < j by omega,ho]
   have:=List.all_eq_true.1 h1 _ hmem
   simpa [hm] using this
  ·have:=List.all_eq_true.1 h2 e he
   simp only [hb,Bool.not_true,Bool.false_or] at this
   exact Nat.le_of_ble_eq_true this
 | d0 :: l,j,h,k+1,d,hd=>by
  simp only [ordOk,Bool.and_eq_true] at h
  have:=ordOk_get l (j+1) h.2 k d (by simpa using hd)
  rw [show j+1+k=j+(k+1) by omega] at this
  exact this
structure Put (dst:Option Tmp) (v:AV) (sl sl':List AV):Prop where
 eq:sl'=match dst with | none=>sl | some d=>setN v sl d
 ok:∀ d,dst=some d→d < sl.length∧noRef d sl=true∧notSelf d v=true
theorem putK_put {dst:Option Tmp} {v:AV} {sl:List AV} {K:List AV→Prop} (h:putK dst v sl K):∃ sl',K sl'∧Put dst v sl sl':=by
 cases dst with
 | none=>exact ⟨sl,h,rfl,fun d hd=>(by cases hd)⟩
 | some d =>
  simp only [putK] at h
  split at h
  ·rename_i hc
   simp only [Bool.and_eq_true] at hc
   rw [setK_eq] at h
   exact ⟨_,h,rfl,fun d' hd=>(by cases hd;exact ⟨Nat.le_of_ble_eq_true hc.1,hc.2⟩)⟩
  ·exact h.elim
structure DrawStep (P:Program) (cx:Ctx) (ops:List Oper) (d:DrawOp) (sl:List AV) (H:List Ob) (n:Nat) (r:Res) (sl':List AV) (H':List Ob) (n':Nat):Prop where
 res:opRes cx P true ops d.o sl H n=some r
 late:∀ id,r.kill=some id→d.late=true
 put:Put d.o.dst r.val sl sl'
 heap:H'=r.heap H
 num:n'=n+r.news.length
theorem hyps_iff {b:Nat} {q:Prop}:∀ {G:List (Nat × Prop)},hyps b q G↔((∀ j p,(j,p)∈G→hasB b j=true→p)→q)
 | []=>by simp [hyps]
 | (j,g) :: G=>by
  have ih:=hyps_iff (b:=b) (q:=q) (G:=G)
  simp only [hyps]
  by_cases hb:hasB b j=true
  ·rw [if_pos hb,ih]
   constructor
   ·intro h h2
    exact h (h2 j g (by simp) hb) fun j' p hm hb'=>h2 j' p (by simp [hm]) hb'
   ·intro h hg h2
    refine h fun j' p hm hb'=>?_
    rcases List.mem_cons.1 hm with he | hm
    ·cases he;exact hg
    ·exact h2 j' p hm hb'
  ·rw [if_neg hb,ih]
   constructor
   ·intro h h2
    exact h fun j' p hm hb'=>h2 j' p (by simp [hm]) hb'
   ·intro h h2
    refine h fun j' p hm hb'=>?_
    rcases List.mem_cons.1 hm with he | hm
    ·cases he;exact absurd hb' hb
    ·exact h2 j' p hm hb'
theorem allG_iff {q:Prop}:∀ {G:List (Nat × Prop)},allG q G↔((∀ j p,(j,p)∈G→p)→q)
 | []=>by simp [allG]
 | (j,g) :: G=>by
  have ih:=allG_iff (q:=q) (G:=G)
  simp only [allG,ih]
  constructor
  ·intro h h2
   exact h (h2 j g (by simp)) fun j' p hm=>h2 j' p (by simp [hm])
  ·intro h hg h2
   refine h fun j' p hm=>?_
   rcases List.mem_cons.1 hm with he | hm
   ·cases he;exact hg
   ·exact h2 j' p hm
theorem hypsK_eq {b:Nat} {q:Prop}:∀ {G:List (Nat × Prop)} {k:Prop→Prop},hypsK b q G k=k (hyps b q G)
 | [],k=>rfl
 | (j,g) :: l,k=>by
  simp only [hypsK,hyps]
  split <;> rw [hypsK_eq]
theorem needD_iff {G:List (Nat × Prop)} {b:Nat} {o:Option Prop} {p:Prop}:needD G b o p↔((∀ j q,(j,q)∈G→hasB b j=true→q)→OptP o)∧p:=by
 cases o with
 | none=>simp [needD,OptP]
 | some q=>simp only [needD,OptP,hypsK_eq,hyps_iff]
theorem addG_mem {i:Nat} {o:Option Prop} {G:List (Nat × Prop)} {j:Nat} {q:Prop}:(j,q)∈addG i o G↔(j=i∧o=some q)∨(j,q)∈G:=by
 cases o with
 | none=>simp [addG]
 | some p=>simp only [addG,List.mem_cons,Prod.mk.injEq,Option.some.injEq,eq_comm]
section
variable {P:Program} {cx:Ctx} {ops:List Oper}
def StOrd (ops:List Oper) (ds:List DrawOp) (i:Nat) (ms:List Nat) (M:Nat→Nat) (R:Nat→Res) (k:Nat) (d:DrawOp):Prop:=∀ p,(R k).st=some p→d.bar=true ∨
 ((∀ (j m:Nat) o,ms[j]?=some m→ops[j]?=some o→silent o.op=false→hasB d.bef j=true∨m≤p.1) ∧
  (∀ (j:Nat) o,j < k→ops[i+j]?=some o→silent o.op=false→hasB d.bef (i+j)=true∨M j≤p.1) ∧
  ∀ (j:Nat) d',k < j→ds[j]?=some d'→silent d'.o.op=false→hasB d'.bef (i+k)=true)
theorem early_get {ops:List Oper} {i:Nat} {ms:List Nat} {d:DrawOp} {rest:List DrawOp} {id:Nat} {ob:Ob} (h:earlySt ops i ms d rest (some (id,ob))=true) :
 (∀ (j m:Nat) o,ms[j]?=some m→ops[j]?=some o→silent o.op=false→hasB d.bef j=true∨m≤id)∧∀ (j:Nat) d',rest[j]?=some d'→silent d'.o.op=false→hasB d'.bef i=true:=by
 simp only [earlySt,Bool.and_eq_true] at h
 refine ⟨fun j m o hm ho hs=>?_,fun j d' hd hs=>?_⟩
 ·have hmem:((m,o),j)∈(ms.zip ops).zipIdx:=by
   rw [List.mem_zipIdx_iff_getElem?,List.getElem?_zip_eq_some]
   exact ⟨hm,ho⟩
  have:=List.all_eq_true.1 h.1 _ hmem
  simp only [hs,Bool.false_or,Bool.or_eq_true] at this
  exact this.imp (fun h=>h) Nat.le_of_ble_eq_true
 ·have:=List.all_eq_true.1 h.2 d' (List.mem_of_getElem? hd)
  simpa [hs] using this
theorem draw_data:∀ (ds:List DrawOp) (i:Nat) (ms:List Nat) (G:List (Nat × Prop)) (sl:List AV) (H:List Ob) (n:Nat) (K:Kont),ms.length=i→runDraw cx P ops ds i ms G sl H n K →
 ∃ (S:Nat→List AV) (B:Nat→List Ob) (M:Nat→Nat) (R:Nat→Res),S 0=sl∧B 0=H∧M 0=n ∧
  (∀ k d,ds[k]?=some d→DrawStep P cx ops d (S k) (B k) (M k) (R k) (S (k+1)) (B (k+1)) (M (k+1))) ∧
  (∀ k d,ds[k]?=some d→(∀ j q,(j,q)∈G→hasB d.bef j=true→q)→(∀ j,j < k→hasB d.bef (i+j)=true→OptP (R j).given)→OptP (R k).need) ∧
  ((∀ j q,(j,q)∈G→q)→(∀ j,j < ds.length→OptP (R j).given)→K (S ds.length) (B ds.length) (M ds.length)) ∧
  ∀ k d,ds[k]?=some d→StOrd ops ds i ms M R k d
 | [],i,ms,G,sl,H,n,K,_,h=>by
  refine ⟨fun _=>sl,fun _=>H,fun _=>n,fun _=>.pure .any,rfl,rfl,rfl,fun k d hd=>by simp at hd,fun k d hd=>by simp at hd,fun hG _=>?_,fun k d hd=>by simp at hd⟩
  exact allG_iff.1 h hG
 | d0 :: ds,i,ms,G,sl,H,n,K,hms,h=>by
  simp only [runDraw] at h
  split at h
  ·rename_i r hr
   split at h
   ·rename_i hfl
    simp only [Bool.and_eq_true,Bool.or_eq_true,Option.isNone_iff_eq_none] at hfl
    rw [needD_iff,applyK_eq,forceA_eq] at h
    obtain ⟨hneed,h⟩:=h
    obtain ⟨sl',h,hput⟩:=putK_put h
    obtain ⟨S,B,M,R,h1,h2,h3,h4,h5,h6,h7⟩:=draw_data ds (i+1) _ _ _ _ _ _ (by simp [hms]) h
    refine ⟨fun k=>match k with | 0=>sl | k+1=>S k,fun k=>match k with | 0=>H | k+1=>B k,fun k=>match k with | 0=>n | k+1=>M k,fun k=>match k with | 0=>r | k+1=>R k,rfl,rfl,rfl,fun k d hd=>?_,fun k d hd hG hj=>?_,fun hG hj=>?_,fun k d hd=>?_⟩
    ·cases k with
     | zero =>
      cases hd
      exact ⟨hr,fun id hid=>hfl.1.resolve_left (by rw [hid];simp),by rw [← h1] at hput;exact hput,h2,h3⟩
     | succ k=>exact h4 k d (by simpa using hd)
    ·cases k with
     | zero=>cases hd;exact hneed hG
     | succ k =>
      refine h5 k d (by simpa using hd) (fun j q hm hb=>?_) (fun j hjk hb=>?_)
      ·rcases addG_mem.1 hm with ⟨rfl,hq⟩ | hm
       ·have:=hj 0 (by omega) hb
        simp only [OptP,hq] at this
        exact this
       ·exact hG j q hm hb
      ·exact hj (j+1) (by omega) (by rw [show i+(j+1)=i+1+j by omega];exact hb)
    ·refine h6 (fun j q hm=>?_) (fun j hjk=>hj (j+1) (by simpa using hjk))
     rcases addG_mem.1 hm with ⟨_,hq⟩ | hm
     ·have:=hj 0 (by simp)
      simp only [OptP,hq] at this
      exact this
     ·exact hG j q hm
    ·intro p hp
     cases k with
     | zero =>
      cases hd
      have hp:r.st=some p:=hp
      rcases hfl.2 with hb | hb
      ·exact .inl hb
      ·rw [hp] at hb
       obtain ⟨g1,g2⟩:=early_get hb
       refine .inr ⟨g1,fun j o hj=>by omega,fun j d' hj hd' hs=>?_⟩
       ·cases j with
        | zero=>omega
        | succ j=>exact g2 j d' (by simpa using hd') hs
     | succ k =>
      rcases h7 k d (by simpa using hd) p hp with hb | ⟨g1,g2,g3⟩
      ·exact .inl hb
      ·refine .inr ⟨fun j m o hm ho hs=>g1 j m o ?_ ho hs,fun j o hj ho hs=>?_,fun j d' hj hd' hs=>?_⟩
       ·rw [List.getElem?_append_left (List.getElem?_eq_some_iff.1 hm).1];exact hm
       ·cases j with
        | zero=>exact g1 i n o (by rw [List.getElem?_append_right (by omega),hms];simp) ho hs
        | succ j =>
         have:=g2 j o (by omega) (by rw [show i+1+j=i+(j+1) by omega];exact ho) hs
         rw [show i+1+j=i+(j+1) by omega] at this
         exact this
       ·cases j with
        | zero=>omega
        | succ j =>
         have:=g3 j d' (by omega) (by simpa using hd') hs
         rw [show i+1+k=i+(k+1) by omega] at this
         exact this
   ·exact h.elim
  ·exact h.elim
end
end Go.Sx
