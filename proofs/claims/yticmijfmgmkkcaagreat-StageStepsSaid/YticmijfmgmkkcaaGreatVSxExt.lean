import Derived.Test.YticmijfmgmkkcaaGreatVSxSem
set_option linter.unusedSimpArgs false
set_option linter.unusedVariables false
set_option maxRecDepth 100000
namespace Go.Sx
open Go.RowKit
def Env.ext (E:Env) (n m:Nat) (kill:Option Nat) (frz:List Nat) (wn:Nat→Prop) (w':World) (hd:Nat→Option Hdr):Env where
 w:=w'
 B:=E.B
 F0:=E.F0
 ρ:=fun id=>if n≤id∧id < n+m then hd (id - n) else E.ρ id
 L:=fun id=>(E.L id∧kill≠some id)∨(n≤id∧id < n+m)
 W:=fun id=>(E.W id∧kill≠some id∧id ∉ frz)∨(n≤id∧id < n+m∧wn id)
 A:=fun id=>E.A id∨(n≤id∧id < n+m)
 K:=fun id=>if n≤id∧id < n+m then fun _=>none else E.K id
 M:=E.M
 Hd:=E.Hd
structure Step (E:Env) (n:Nat) (r:Res) (w':World) (hd:Nat→Option Hdr):Prop where
 below:Below E.B E.w w'
 fr:∀ b,b < E.w.heap.size→(∀ id,E.W id→(r.kill=some id∨r.st.map (·.1)=some id)→¬ E.Own id b)→w'.heap[b]?=E.w.heap[b]?
 blk:∀ j h,j < r.news.length→hd j=some h→h.blk < w'.heap.size∧(E.w.heap.size≤h.blk∨∃ id,E.W id∧r.kill=some id∧E.Own id h.blk)
 two:∀ j j' h h',j < r.news.length→j' < r.news.length→hd j=some h→hd j'=some h'→j≠j'→h.blk≠h'.blk
 kw:∀ id,r.kill=some id→E.W id
 sw:∀ p,r.st=some p→E.W p.1
structure Ext (E:Env) (n:Nat) (r:Res) (wn:Nat→Prop) (E':Env):Prop where
 evo:∀ n0,Evo n0 E E'
 L:∀ id,E'.L id↔(E.L id∧r.kill≠some id)∨(n≤id∧id < n+r.news.length)
 W:∀ id,E'.W id↔(E.W id∧r.kill≠some id∧id ∉ r.frz)∨(n≤id∧id < n+r.news.length∧wn id)
 A:∀ id,E'.A id↔E.A id∨(n≤id∧id < n+r.news.length)
 injO:∀ id id' b,E'.L id→E'.L id'→E'.Own id b→E'.Own id' b→id=id'
 ltO:∀ id b,E'.L id→E'.Own id b→E'.B≤b∧b < E'.w.heap.size
 hid:∀ id b,E'.L id→E'.Own id b→¬ E'.Hd b
 new:∀ j ob,r.news[j]?=some ob→OkOb E' (n+j) ob
 st:∀ id ob,r.st=some (id,ob)→OkOb E' id ob
 keep:∀ id b,E.L id→E.Own id b→r.kill≠some id→(∀ p,r.st=some p→p.1≠id)→E'.w.heap[b]?=E.w.heap[b]?
 old:∀ id ob,E.L id→r.kill≠some id→(∀ p,r.st=some p→p.1≠id)→OkOb E id ob→OkOb E' id ob
structure Ready (E:Env) (n:Nat) (m:Nat):Prop where
 sub:∀ id,E.L id→E.A id
 wl:∀ id,E.W id→E.L id
 injO:∀ id id' b,E.L id→E.L id'→E.Own id b→E.Own id' b→id=id'
 ltO:∀ id b,E.L id→E.Own id b→E.B≤b∧b < E.w.heap.size
 f0:∀ b o,E.F0 b o→b < E.B
 B:E.B≤E.w.heap.size
 fresh:∀ id,n≤id→id < n+m→¬ E.A id
 hid:∀ id b,E.L id→E.Own id b→¬ E.Hd b
 hlt:∀ b,E.Hd b→b < E.w.heap.size
theorem Ready.inj {E:Env} {n m:Nat} (hr:Ready E n m) (id id':Nat) (h h':Hdr) (hl:E.L id) (hl':E.L id') (hρ:E.ρ id=some h) (hρ':E.ρ id'=some h') (hne:id≠id'):h.blk≠h'.blk:=fun e =>
 hne (hr.injO id id' h.blk hl hl' (.inl ⟨h,hρ,rfl⟩) (.inl ⟨h',hρ',e.symm⟩))
theorem Ready.lt {E:Env} {n m:Nat} (hr:Ready E n m) (id:Nat) (h:Hdr) (hl:E.L id) (hρ:E.ρ id=some h):E.B≤h.blk∧h.blk < E.w.heap.size:=hr.ltO id h.blk hl (.inl ⟨h,hρ,rfl⟩)
theorem Ext.inj {E E':Env} {n:Nat} {r:Res} {wn:Nat→Prop} (hr:Ext E n r wn E') (id id':Nat) (h h':Hdr) (hl:E'.L id) (hl':E'.L id') (hρ:E'.ρ id=some h) (hρ':E'.ρ id'=some h') (hne:id≠id'):h.blk≠h'.blk:=fun e =>
 hne (hr.injO id id' h.blk hl hl' (.inl ⟨h,hρ,rfl⟩) (.inl ⟨h',hρ',e.symm⟩))
theorem Ext.lt {E E':Env} {n:Nat} {r:Res} {wn:Nat→Prop} (hr:Ext E n r wn E') (id:Nat) (h:Hdr) (hl:E'.L id) (hρ:E'.ρ id=some h):E'.B≤h.blk∧h.blk < E'.w.heap.size:=hr.ltO id h.blk hl (.inl ⟨h,hρ,rfl⟩)
theorem Env.ext_own {E:Env} {n m:Nat} {kill:Option Nat} {frz:List Nat} {wn:Nat→Prop} {w':World} {hd:Nat→Option Hdr} {id b:Nat} (h:(E.ext n m kill frz wn w' hd).Own id b) :
 ((n≤id∧id < n+m)∧∃ h,hd (id - n)=some h∧h.blk=b)∨(¬ (n≤id∧id < n+m)∧E.Own id b):=by
 by_cases hid:n≤id∧id < n+m
 ·rcases h with ⟨h,hρ,hb⟩ | ⟨i,h,hK,hb⟩
  ·simp only [Env.ext] at hρ
   rw [if_pos hid] at hρ
   exact .inl ⟨hid,h,hρ,hb⟩
  ·simp only [Env.ext] at hK
   rw [if_pos hid] at hK
   cases hK
 ·refine .inr ⟨hid, ?_⟩
  rcases h with ⟨h,hρ,hb⟩ | ⟨i,h,hK,hb⟩
  ·simp only [Env.ext] at hρ
   rw [if_neg hid] at hρ
   exact .inl ⟨h,hρ,hb⟩
  ·simp only [Env.ext] at hK
   rw [if_neg hid] at hK
   exact .inr ⟨i,h,hK,hb⟩
theorem Env.ext_own_old {E:Env} {n m:Nat} {kill:Option Nat} {frz:List Nat} {wn:Nat→Prop} {w':World} {hd:Nat→Option Hdr} {id b:Nat} (hid:¬ (n≤id∧id < n+m)) :
 (E.ext n m kill frz wn w' hd).Own id b↔E.Own id b:=by
 refine ⟨fun h=>(Env.ext_own h).elim (fun h=>absurd h.1 hid) fun h=>h.2,fun h=>?_⟩
 rcases h with ⟨h,hρ,hb⟩ | ⟨i,h,hK,hb⟩
 ·exact .inl ⟨h,by simp only [Env.ext];rw [if_neg hid];exact hρ,hb⟩
 ·exact .inr ⟨i,h,by simp only [Env.ext];rw [if_neg hid];exact hK,hb⟩
theorem Step.evo {E:Env} {n:Nat} {r:Res} {w':World} {hd:Nat→Option Hdr} {wn:Nat→Prop} (hs:Step E n r w' hd) (hr:Ready E n r.news.length) (n0:Nat) :
 Evo n0 E (E.ext n r.news.length r.kill r.frz wn w' hd):=by
 have old:∀ b,E.Nb b→w'.heap[b]?=E.w.heap[b]?:=fun b hb=>hs.fr b hb.1 fun id hW _=>hb.2.1 id hW
 refine ⟨rfl,rfl,rfl,hs.below,fun id _ ha=>.inl ha, ?_, ?_, ?_,rfl,fun b hb=>hs.fr b (hr.hlt b hb) fun id hW _ ho=>hr.hid id b (hr.wl id hW) ho hb⟩
 ·intro id _ ha hl
  have hne:¬ (n≤id∧id < n+r.news.length):=fun ⟨h1,h2⟩=>hr.fresh id h1 h2 ha
  rcases hl with ⟨hl,_⟩ | hl
  ·exact ⟨hl,by simp only [Env.ext];rw [if_neg hne]⟩
  ·exact absurd hl hne
 ·intro id _ ha hl i o ho
  have hne:¬ (n≤id∧id < n+r.news.length):=fun ⟨h1,h2⟩=>hr.fresh id h1 h2 ha
  simp only [Env.ext];rw [if_neg hne];exact ho
 ·intro b hb
  refine ⟨⟨Nat.lt_of_lt_of_le hb.1 hs.below.size,fun id hW ho=>?_,hb.2.2⟩,old b hb⟩
  rcases Env.ext_own ho with ⟨hid,h,hρ,he⟩ | ⟨hid,ho⟩
  ·obtain ⟨_,h2⟩:=hs.blk (id - n) h (by omega) hρ
   rcases h2 with h2 | ⟨id',hW',_,ho'⟩
   ·have:=hb.1;omega
   ·rw [he] at ho';exact hb.2.1 id' hW' ho'
  ·rcases hW with ⟨hW,_⟩ | ⟨h1,h2,_⟩
   ·exact hb.2.1 id hW ho
   ·exact absurd ⟨h1,h2⟩ hid
theorem Step.blkB {E:Env} {n:Nat} {r:Res} {w':World} {hd:Nat→Option Hdr} (hs:Step E n r w' hd) (hr:Ready E n r.news.length) {j:Nat} {h:Hdr} (hj:j < r.news.length) (hh:hd j=some h) :
 E.B≤h.blk∧h.blk < w'.heap.size:=by
 obtain ⟨h1,h2⟩:=hs.blk j h hj hh
 refine ⟨?_,h1⟩
 rcases h2 with h2 | ⟨id,hW,_,ho⟩
 ·exact Nat.le_trans hr.B h2
 ·exact (hr.ltO id h.blk (hr.wl id hW) ho).1
theorem Step.apartO {E:Env} {n:Nat} {r:Res} {w':World} {hd:Nat→Option Hdr} (hs:Step E n r w' hd) (hr:Ready E n r.news.length) {j:Nat} {h:Hdr} (hj:j < r.news.length) (hh:hd j=some h)
 {id b:Nat} (hl:E.L id) (hk:r.kill≠some id) (ho:E.Own id b):h.blk≠b:=by
 obtain ⟨_,h2⟩:=hs.blk j h hj hh
 rcases h2 with h2 | ⟨id2,hW,hk2,ho2⟩
 ·have:=(hr.ltO id b hl ho).2;omega
 ·intro e
  rw [e] at ho2
  exact hk ((hr.injO id2 id b (hr.wl id2 hW) hl ho2 ho) ▸ hk2)
theorem Step.apart {E:Env} {n:Nat} {r:Res} {w':World} {hd:Nat→Option Hdr} (hs:Step E n r w' hd) (hr:Ready E n r.news.length) {j:Nat} {h:Hdr} (hj:j < r.news.length) (hh:hd j=some h)
 {id:Nat} {h':Hdr} (hl:E.L id) (hk:r.kill≠some id) (hρ:E.ρ id=some h'):h.blk≠h'.blk:=hs.apartO hr hj hh hl hk (.inl ⟨h',hρ,rfl⟩)
theorem Step.ext {E:Env} {n:Nat} {r:Res} {w':World} {hd:Nat→Option Hdr} {wn:Nat→Prop} (hs:Step E n r w' hd) (hr:Ready E n r.news.length)
 (hA:∃ N,∀ id,E.A id→id < N)
 (hnew:(∀ n0,Evo n0 E (E.ext n r.news.length r.kill r.frz wn w' hd))→∀ j ob,r.news[j]?=some ob→OkOb (E.ext n r.news.length r.kill r.frz wn w' hd) (n+j) ob)
 (hst:(∀ n0,Evo n0 E (E.ext n r.news.length r.kill r.frz wn w' hd))→∀ id ob,r.st=some (id,ob)→OkOb (E.ext n r.news.length r.kill r.frz wn w' hd) id ob) :
 Ext E n r wn (E.ext n r.news.length r.kill r.frz wn w' hd):=by
 obtain ⟨N,hN⟩:=hA
 have hkeep:∀ id b,E.L id→E.Own id b→r.kill≠some id→(∀ p,r.st=some p→p.1≠id)→w'.heap[b]?=E.w.heap[b]?:=by
  intro id b hl ho hk hst'
  refine hs.fr b (hr.ltO id b hl ho).2 fun id2 hW2 hor ho2=>?_
  have e:=hr.injO id2 id b (hr.wl id2 hW2) hl ho2 ho
  subst e
  rcases hor with h | h
  ·exact hk h
  ·cases hst2:r.st with
   | none=>rw [hst2] at h;cases h
   | some p=>rw [hst2] at h;simp at h;exact hst' p hst2 h
 refine ⟨hs.evo hr,fun _=>Iff.rfl,fun _=>Iff.rfl,fun _=>Iff.rfl, ?_, ?_, ?_,hnew (hs.evo hr),hst (hs.evo hr),hkeep, ?_⟩
 ·intro id id' b hl hl' ho ho'
  rcases Env.ext_own ho with ⟨h1,h,hρ,hb⟩ | ⟨h1,ho⟩ <;> rcases Env.ext_own ho' with ⟨h2,h',hρ',hb'⟩ | ⟨h2,ho'⟩
  ·refine Classical.byContradiction fun hne=>?_
   exact hs.two _ _ h h' (by omega) (by omega) hρ hρ' (by omega) (hb.trans hb'.symm)
  ·obtain ⟨hl',hk⟩:=Or.resolve_right hl' h2
   exact absurd hb (hs.apartO hr (by omega) hρ hl' hk ho')
  ·obtain ⟨hl,hk⟩:=Or.resolve_right hl h1
   exact absurd hb' (hs.apartO hr (by omega) hρ' hl hk ho)
  ·exact hr.injO id id' b (Or.resolve_right hl h1).1 (Or.resolve_right hl' h2).1 ho ho'
 ·intro id b hl ho
  rcases Env.ext_own ho with ⟨h1,h,hρ,hb⟩ | ⟨h1,ho⟩
  ·rw [← hb];exact hs.blkB hr (by omega) hρ
  ·obtain ⟨h2,h3⟩:=hr.ltO id b (Or.resolve_right hl h1).1 ho
   exact ⟨h2,Nat.lt_of_lt_of_le h3 hs.below.size⟩
 ·intro id b hl ho
  rcases Env.ext_own ho with ⟨h1,h,hρ,hb⟩ | ⟨h1,ho⟩
  ·obtain ⟨_,h2⟩:=hs.blk (id - n) h (by omega) hρ
   rcases h2 with h2 | ⟨id',hW',_,ho'⟩
   ·intro hh
    have:=hr.hlt b hh
    omega
   ·rw [hb] at ho';exact hr.hid id' b (hr.wl id' hW') ho'
  ·exact hr.hid id b (Or.resolve_right hl h1).1 ho
 ·intro id ob hl hk hst' hok
  have hne:¬ (n≤id∧id < n+r.news.length):=fun ⟨h1,h2⟩=>hr.fresh id h1 h2 (hr.sub id hl)
  exact OkOb.mono (hs.evo hr N) hN (hr.sub id hl) (.inl ⟨hl,hk⟩) (by simp only [Env.ext];rw [if_neg hne]) (fun b hb=>hkeep id b hl hb hk hst') hok
theorem Ext.idle {E:Env} {n:Nat} {r:Res} {wn:Nat→Prop} (hr:Ready E n r.news.length) (hk:r.kill=none) (hst:r.st=none) (hf:r.frz=[]) (hn:r.news=[]):Ext E n r wn E:=by
 refine ⟨fun n0=>Evo.refl n0 E, ?_, ?_, ?_,hr.injO,hr.ltO,hr.hid, ?_, ?_,fun _ _ _ _ _ _=>rfl,fun _ _ _ _ _ h=>h⟩
 ·intro id;rw [hk,hn];simp;omega
 ·intro id;rw [hk,hn,hf];simp;omega
 ·intro id;rw [hn];simp;omega
 ·intro j ob h;rw [hn] at h;simp at h
 ·intro id ob h;rw [hst] at h;cases h
end Go.Sx
