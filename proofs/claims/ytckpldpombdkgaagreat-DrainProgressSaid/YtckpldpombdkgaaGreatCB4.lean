/- Symbolic steps. -/
import Derived.Test.YtckpldpombdkgaaGreatCB3
import Derived.Tactics
import Derived.WalkSpells
import Derived.Sort.LoopGhostIn
import Derived.RangeFuncLeaves
set_option linter.unusedSimpArgs false
set_option linter.unusedVariables false
set_option maxRecDepth 100000
namespace Go.Sx
theorem Pi (n:Nat) (k:Nat→Prop):∀ l,M1 n k l=k n
 | []=>rfl
 | a :: l=>by
  simp only [M1]
  split
  ·rename_i h;rw [Nat.eq_of_beq_eq_true h]
  ·exact Pi n k l
theorem Co (n:Nat) (k:Nat→Prop):En n k=k n:=Pi n k Am6
theorem Fh:∀ (l:List PV) (k:List PV→Prop),Eo l k=k l
 | [],_=>rfl
 | .int _ _ :: l,k=>by simp only [Eo];exact Fh l _
 | .bool _ :: l,k=>by simp only [Eo];exact Fh l _
 | .str _ :: l,k=>by simp only [Eo];exact Fh l _
 | .sl _ _ :: l,k=>by simp only [Eo];exact Fh l _
 | .nils :: l,k=>by simp only [Eo];exact Fh l _
 | .val _ :: l,k=>by simp only [Eo];exact Fh l _
 | .fn _ :: l,k=>by simp only [Eo];exact Fh l _
mutual
theorem Ea:∀ (v:AV) (k:AV→Prop),B1 v k=k v
 | .any,_=>rfl
 | .int _ _,_=>rfl
 | .bool _,_=>rfl
 | .str _,_=>rfl
 | .val _,_=>rfl
 | .nils,_=>rfl
 | .cap0,_=>rfl
 | .sl _ _,_=>rfl
 | .ptr _ _,_=>by simp only [B1,Co]
 | .rptr _ _ _ _,_=>by simp only [B1,Co]
 | .eptr cs,_=>by simp only [B1,Fh]
 | .own _,_=>by simp only [B1,Co]
 | .ownp _ _ _ _,_=>by simp only [B1,Co]
 | .mp _,_=>by simp only [B1,Co]
 | .fn f a b,k=>by simp only [B1];rw [Eb a];exact Eb b _
 | .agg cs,k=>by simp only [B1];exact Eb cs _
 | .tup vs,k=>by simp only [B1];exact Eb vs _
 | .when _ _ _ v,k=>by simp only [B1];exact Ea v _
 | .yld _,_=>by simp only [B1,Co]
 | .rnd _,_=>by simp only [B1,Co]
 | .grow _ _,_=>by simp only [B1,Co]
 | .gptr _ _ _,_=>by simp only [B1,Co]
 | .ownc _ _ _ _,_=>by simp only [B1,Co]
 | .csl _ _ _,_=>by simp only [B1,Co]
 | .slf _ _,_=>rfl
 | .dmp _,_=>rfl
theorem Eb:∀ (l:List AV) (k:List AV→Prop),Gz l k=k l
 | [],_=>rfl
 | x :: l,k=>by simp only [Gz];rw [Ea x];exact Eb l _
end
theorem Td:∀ (l:List (Int × AV)) (k:List (Int × AV)→Prop),Uo l k=k l
 | [],_=>rfl
 | (q,x) :: l,k=>by simp only [Uo];rw [Ea x];exact Td l _
theorem B5:∀ (l:List Ob) (k:List Ob→Prop),Cm l k=k l
 | [],_=>rfl
 | .dead :: l,k=>by simp only [Cm];exact B5 l _
 | .cells cs :: l,k=>by simp only [Cm];rw [Eb];exact B5 l _
 | .rows _ _ :: l,k=>by simp only [Cm];exact B5 l _
 | .froz _ _ :: l,k=>by simp only [Cm];exact B5 l _
 | .fmap _ :: l,k=>by simp only [Cm];rw [Td];exact B5 l _
 | .grid _ _ _ :: l,k=>by simp only [Cm];exact B5 l _
 | .loop _ _ _ _ _ _ :: l,k=>by simp only [Cm];rw [Eb];exact B5 l _
theorem U1 {α:Type} (v:α):∀ (l:List α) (k:List α→Prop) (d:Nat),Ab2 v k l d=k (Bo v l d)
 | [],_,_=>by simp [Ab2,Bo]
 | _ :: _,_,0=>by simp [Ab2,Bo]
 | a :: l,k,d+1=>by simp only [Ab2,Bo];exact U1 v l _ d
theorem Ib:∀ (l:List AV) (k:List AV→Prop),Ix l k=k (l.map noW)
 | [],_=>rfl
 | x :: l,k=>by
  cases x <;> simp only [Ix,List.map_cons,noW] <;> exact Ib l _
theorem Te (r:Res) (H:List Ob) (n:Nat) (K:List Ob→Nat→Prop):Uq r H n K=K (r.heap H) (n+r.news.length):=by
 unfold Uq
 split
 ·rename_i h
  simp only [Res.quiet,Bool.and_eq_true,List.isEmpty_iff,Option.isNone_iff_eq_none] at h
  obtain ⟨⟨⟨h1,h2⟩,h3⟩,h4⟩:=h
  simp [Res.heap,h1,h2,h3,h4,stH,Ia,Fq]
 ·rw [B5,Co]
theorem Ol {o:Option Prop} {p:Prop}:Vz o p↔A4 o∧p:=by cases o <;> simp [Vz,A4]
theorem Rb {o:Option Prop} {p:Prop}:Up o p↔(A4 o→p):=by cases o <;> simp [Up,A4]
theorem Dc {α:Type} (d v:α):∀ (l:List α) (n m:Nat),Am d (Bo v l n) m=if n=m∧n < l.length then v else Am d l m
 | [],n,m=>by simp [Bo]
 | a :: l,0,0=>by simp [Bo,Am]
 | a :: l,0,m+1=>by simp [Bo,Am]
 | a :: l,n+1,0=>by simp [Bo,Am]
 | a :: l,n+1,m+1=>by
  simp only [Bo,Am]
  rw [Dc d v l n m]
  simp
theorem Bn {α:Type} (v:α):∀ (l:List α) (n:Nat),(Bo v l n).length=l.length
 | [],_=>rfl
 | _ :: _,0=>rfl
 | a :: l,n+1=>by simp only [Bo,List.length_cons,Bn v l n]
theorem Pj {α:Type} (d:α) (l m:List α) (i:Nat):Am d (l++m) i=if i < l.length then Am d l i else Am d m (i - l.length):=by
 rw [Bg,Bg,Bg,List.getElem?_append]
 split <;> rfl
theorem Bs {α:Type} (d:α) {l:List α} {i:Nat} (h:l.length≤i):Am d l i=d:=by
 rw [Bg,List.getElem?_eq_none h];rfl
end Go.Sx
namespace Go.Sx
open Go.RowKit
structure EnvOk (E:Env) (H:List Ob) (n:Nat):Prop where
 len:H.length=n
 ns:∀ id,E.A id→id < n
 live:∀ id,Ac H id≠.dead→E.L id
 wr:∀ id,(Ac H id).wr→E.W id
 ok:∀ id,E.L id→Ac H id≠.dead→OkOb E id (Ac H id)
 sub:∀ id,E.L id→E.A id
 wl:∀ id,E.W id→E.L id
 injO:∀ id id' b,E.L id→E.L id'→E.Own id b→E.Own id' b→id=id'
 ltO:∀ id b,E.L id→E.Own id b→E.B≤b∧b < E.w.heap.size
 f0:∀ b o,E.F0 b o→b < E.B
 B:E.B≤E.w.heap.size
 hid:∀ id b,E.L id→E.Own id b→¬ E.Hd b
 hlt:∀ b,E.Hd b→b < E.w.heap.size
theorem EnvOk.inj {E:Env} {H:List Ob} {n:Nat} (hr:EnvOk E H n) (id id':Nat) (h h':Hdr) (hl:E.L id) (hl':E.L id') (hρ:E.ρ id=some h) (hρ':E.ρ id'=some h') (hne:id≠id'):h.blk≠h'.blk:=fun e =>
 hne (hr.injO id id' h.blk hl hl' (.inl ⟨h,hρ,rfl⟩) (.inl ⟨h',hρ',e.symm⟩))
theorem EnvOk.lt {E:Env} {H:List Ob} {n:Nat} (hr:EnvOk E H n) (id:Nat) (h:Hdr) (hl:E.L id) (hρ:E.ρ id=some h):E.B≤h.blk∧h.blk < E.w.heap.size:=hr.ltO id h.blk hl (.inl ⟨h,hρ,rfl⟩)
theorem EnvOk.ready {E:Env} {H:List Ob} {n:Nat} (h:EnvOk E H n) (m:Nat):Ready E n m :=
 ⟨h.sub,h.wl,h.injO,h.ltO,h.f0,h.B,fun id h1 _ ha=>Nat.lt_irrefl _ (Nat.lt_of_lt_of_le (h.ns id ha) h1),h.hid,h.hlt⟩
theorem EnvOk.fin {E:Env} {H:List Ob} {n:Nat} (h:EnvOk E H n):∃ N,∀ id,E.A id→id < N:=⟨n,h.ns⟩
def Frz (o o':Ob):Prop:=o'=o∨(∃ t xs,o=.rows t xs∧o'=.froz t xs)∨o'=.dead
theorem Frz.trans {a b c:Ob} (h:Frz a b) (k:Frz b c):Frz a c:=by
 rcases k with rfl | ⟨t,xs,rfl,rfl⟩ | rfl
 ·exact h
 ·rcases h with h | ⟨_,_,_,h⟩ | h
  ·exact .inr (.inl ⟨t,xs,h.symm,rfl⟩)
  ·cases h
  ·cases h
 ·exact .inr (.inr rfl)
theorem Frz.ok {E:Env} {id:Nat} {o o':Ob} (h:Frz o o') (hne:o'≠.dead) (hok:OkOb E id o):OkOb E id o':=by
 rcases h with rfl | ⟨t,xs,rfl,rfl⟩ | rfl
 ·exact hok
 ·exact hok
 ·exact absurd rfl hne
theorem Frz.dead {o:Ob} (h:Frz .dead o):o=.dead:=by
 rcases h with rfl | ⟨t,xs,h,_⟩ | rfl
 ·rfl
 ·cases h
 ·rfl
theorem By (ob:Ob) (H:List Ob) (i id:Nat):Ac (Bo ob H i) id=if i=id∧i < H.length then ob else Ac H id:=Dc _ _ _ _ _
theorem Acf (H:List Ob) (i id:Nat):Frz (Ac H id) (Ac (S3 H i) id)∧(i=id→¬ (Ac (S3 H i) id).wr)∧(S3 H i).length=H.length:=by
 have lt:Ac H i≠.dead→i < H.length:=by
  intro h
  rcases Nat.lt_or_ge i H.length with h1 | h1
  ·exact h1
  ·exact absurd (Bs _ h1) h
 unfold S3
 split
 ·rename_i t xs hob
  have hi:=lt (by rw [hob];simp)
  refine ⟨?_, ?_,Bn _ _ _⟩
  ·rw [By]
   split
   ·rename_i h;rw [← h.1,hob];exact .inr (.inl ⟨t,xs,rfl,rfl⟩)
   ·exact .inl rfl
  ·rintro rfl
   rw [By,if_pos ⟨rfl,hi⟩]
   exact id
 ·rename_i cs hob
  have hi:=lt (by rw [hob];simp)
  refine ⟨?_, ?_,Bn _ _ _⟩
  ·rw [By]
   split
   ·exact .inr (.inr rfl)
   ·exact .inl rfl
  ·rintro rfl
   rw [By,if_pos ⟨rfl,hi⟩]
   exact id
 ·rename_i es hob
  have hi:=lt (by rw [hob];simp)
  refine ⟨?_, ?_,Bn _ _ _⟩
  ·rw [By]
   split
   ·exact .inr (.inr rfl)
   ·exact .inl rfl
  ·rintro rfl
   rw [By,if_pos ⟨rfl,hi⟩]
   exact id
 ·rename_i t m xss hob
  have hi:=lt (by rw [hob];simp)
  refine ⟨?_, ?_,Bn _ _ _⟩
  ·rw [By]
   split
   ·exact .inr (.inr rfl)
   ·exact .inl rfl
  ·rintro rfl
   rw [By,if_pos ⟨rfl,hi⟩]
   exact id
 ·rename_i a1 a2 a3 a4 a5 a6 hob
  have hi:=lt (by rw [hob];simp)
  refine ⟨?_, ?_,Bn _ _ _⟩
  ·rw [By]
   split
   ·exact .inr (.inr rfl)
   ·exact .inl rfl
  ·rintro rfl
   rw [By,if_pos ⟨rfl,hi⟩]
   exact id
 ·rename_i h1 h2 h3 h4 h5
  refine ⟨.inl rfl, ?_,rfl⟩
  rintro rfl
  cases hob:Ac H i with
  | grid t m xss=>exact absurd hob (h4 t m xss)
  | loop a1 a2 a3 a4 a5 a6=>exact absurd hob (h5 a1 a2 a3 a4 a5 a6)
  | fmap es=>exact absurd hob (h3 es)
  | cells cs=>exact absurd hob (h2 cs)
  | rows t xs=>exact absurd hob (h1 t xs)
  | _=>exact id
theorem Frz.wr {o o':Ob} (h:Frz o o') (hw:o'.wr):o.wr:=by
 rcases h with rfl | ⟨t,xs,rfl,rfl⟩ | rfl
 ·exact hw
 ·trivial
 ·exact absurd hw id
theorem C4:∀ (ids:List Nat) (H:List Ob) (id:Nat),Frz (Ac H id) (Ac (Fq ids H) id)∧(id∈ids→¬ (Ac (Fq ids H) id).wr)∧(Fq ids H).length=H.length
 | [],H,id=>⟨.inl rfl,by simp,rfl⟩
 | i :: ids,H,id=>by
  obtain ⟨h1,h2,h3⟩:=Acf H i id
  obtain ⟨k1,k2,k3⟩:=C4 ids (S3 H i) id
  refine ⟨h1.trans k1,fun hid hw=>?_,k3.trans h3⟩
  rcases List.mem_cons.1 hid with rfl | hid
  ·exact h2 rfl (k1.wr hw)
  ·exact k2 hid hw
theorem Acg (k:Option Nat) (H:List Ob) (id:Nat) (hlt:∀ i,k=some i→i < H.length):Ac (Ia k H) id=if k=some id then .dead else Ac H id:=by
 cases k with
 | none=>simp [Ia]
 | some i =>
  simp only [Ia,By,Option.some.injEq]
  have:=hlt i rfl
  simp [this]
theorem Jr (k:Option Nat) (H:List Ob):(Ia k H).length=H.length:=by
 cases k <;> simp [Ia,Bn]
theorem Js (st:Option (Nat × Ob)) (H:List Ob):(stH st H).length=H.length:=by
 cases st <;> simp [stH,Bn]
theorem Aij (st:Option (Nat × Ob)) (H:List Ob) (id:Nat) (hlt:∀ p,st=some p→p.1 < H.length):(∃ ob,st=some (id,ob)∧Ac (stH st H) id=ob)∨((∀ p,st=some p→p.1≠id)∧Ac (stH st H) id=Ac H id):=by
 cases st with
 | none=>exact .inr ⟨fun p h=>(by cases h),rfl⟩
 | some p =>
  obtain ⟨i,ob⟩:=p
  by_cases h:i=id
  ·subst h
   have:=hlt _ rfl
   exact .inl ⟨ob,rfl,by show Ac (Bo ob H i) i=ob;rw [By,if_pos ⟨rfl,this⟩]⟩
  ·refine .inr ⟨fun p hp=>(by cases hp;exact h), ?_⟩
   simp only [stH,By]
   rw [if_neg (fun h'=>h h'.1)]
structure TurnOk (E:Env) (H:List Ob) (r:Res):Prop where
 kill:∀ id,r.kill=some id→E.A id∧(Ac H id).wr
 st:∀ p,r.st=some p→E.A p.1∧(Ac H p.1).wr
theorem Dd {o:Ob} (h:o.wr):o≠.dead:=by rintro rfl;exact h
theorem Cd {H:List Ob} {id:Nat} (h:Ac H id≠.dead):id < H.length:=by
 rcases Nat.lt_or_ge id H.length with h1 | h1
 ·exact h1
 ·exact absurd (Bs _ h1) h
section
variable {E E':Env} {H:List Ob} {n:Nat} {r:Res}
def U2 (n:Nat) (r:Res):Nat→Prop:=fun id=>(Ac r.news (id - n)).wr
theorem Gs (hl:H.length=n) (ht:TurnOk E H r) (id:Nat) :
 (∃ j,id=n+j∧Ac (r.heap H) id=Ac r.news j) ∨
   (id < n∧∃ ob,((∃ ob',r.st=some (id,ob')∧ob=ob')∨((∀ p,r.st=some p→p.1≠id)∧ob=Ac H id)) ∧
     (r.kill=some id→Ac (r.heap H) id=.dead)∧(r.kill≠some id→Frz ob (Ac (r.heap H) id))∧(id∈r.frz→¬ (Ac (r.heap H) id).wr)):=by
 have hst:∀ p,r.st=some p→p.1 < H.length:=fun p hp=>Cd (Dd (ht.st p hp).2)
 have hk:∀ i,r.kill=some i→i < (stH r.st H).length:=fun i hi=>by rw [Js];exact Cd (Dd (ht.kill i hi).2)
 have hlen:(Fq r.frz (Ia r.kill (stH r.st H))).length=n:=by rw [(C4 _ _ 0).2.2,Jr,Js,hl]
 unfold Res.heap
 have hget:Ac (Fq r.frz (Ia r.kill (stH r.st H))++r.news) id=if id < n then Ac (Fq r.frz (Ia r.kill (stH r.st H))) id else Ac r.news (id - n):=by
  unfold Ac;rw [Pj,hlen]
 by_cases hid:id < n
 ·right
  rw [if_pos hid] at hget
  rw [hget]
  obtain ⟨g1,g2,_⟩:=C4 r.frz (Ia r.kill (stH r.st H)) id
  rw [Acg _ _ _ hk] at g1
  have:∃ ob,((∃ ob',r.st=some (id,ob')∧ob=ob')∨((∀ p,r.st=some p→p.1≠id)∧ob=Ac H id))∧Ac (stH r.st H) id=ob:=by
   rcases Aij r.st H id hst with ⟨ob,h1,h2⟩ | ⟨h1,h2⟩
   ·exact ⟨ob,.inl ⟨ob,h1,rfl⟩,h2⟩
   ·exact ⟨Ac H id,.inr ⟨h1,rfl⟩,h2⟩
  obtain ⟨ob,h1,h2⟩:=this
  refine ⟨hid,ob,h1,fun h=>?_,fun h=>?_,g2⟩
  ·rw [if_pos h] at g1;exact g1.dead
  ·rw [if_neg h,h2] at g1;exact g1
 ·left
  rw [if_neg hid] at hget
  exact ⟨id - n,by omega,hget⟩
theorem EnvOk.step (h:EnvOk E H n) (hx:Ext E n r (U2 n r) E') (ht:TurnOk E H r):EnvOk E' (r.heap H) (n+r.news.length):=by
 have hB:E'.B=E.B:=(hx.evo 0).B
 have hF:E'.F0=E.F0:=(hx.evo 0).F0
 have newlt:∀ j,Ac r.news j≠.dead→j < r.news.length:=fun j hj=>Cd hj
 have stL:∀ p,r.st=some p→E.L p.1:=fun p hp=>h.live p.1 (Dd (ht.st p hp).2)
 refine ⟨?_, ?_, ?_, ?_, ?_, ?_, ?_,hx.injO,hx.ltO, ?_, ?_,hx.hid,fun b hb=>Nat.lt_of_lt_of_le (h.hlt b (by rw [← (hx.evo 0).Hd];exact hb)) (hx.evo 0).below.size⟩
 ·unfold Res.heap
  rw [List.length_append,(C4 _ _ 0).2.2,Jr,Js,h.len]
 ·intro id ha
  rcases (hx.A id).1 ha with ha | ⟨_,h2⟩
  ·have:=h.ns id ha;omega
  ·exact h2
 ·intro id hne
  rcases Gs h.len ht id with ⟨j,rfl,hg⟩ | ⟨hid,ob,hob,hk,hf,_⟩
  ·rw [hg] at hne
   exact (hx.L _).2 (.inr ⟨by omega,by have:=newlt j hne;omega⟩)
  ·have hnk:r.kill≠some id:=fun hk'=>hne (hk hk')
   refine (hx.L _).2 (.inl ⟨?_,hnk⟩)
   rcases hob with ⟨ob',hst,rfl⟩ | ⟨_,rfl⟩
   ·exact stL _ hst
   ·refine h.live id fun hd=>hne ?_
    have:=hf hnk
    rw [hd] at this
    exact this.dead
 ·intro id hw
  rcases Gs h.len ht id with ⟨j,rfl,hg⟩ | ⟨hid,ob,hob,hk,hf,hfw⟩
  ·rw [hg] at hw
   refine (hx.W _).2 (.inr ⟨by omega,by have:=newlt j (Dd hw);omega, ?_⟩)
   show (Ac r.news (n+j - n)).wr
   rw [Nat.add_sub_cancel_left];exact hw
  ·have hnk:r.kill≠some id:=fun hk'=>Dd hw (hk hk')
   refine (hx.W _).2 (.inl ⟨?_,hnk,fun hm=>hfw hm hw⟩)
   rcases hob with ⟨ob',hst,rfl⟩ | ⟨_,rfl⟩
   ·exact h.wr id (ht.st _ hst).2
   ·exact h.wr id ((hf hnk).wr hw)
 ·intro id hl hne
  rcases Gs h.len ht id with ⟨j,rfl,hg⟩ | ⟨hid,ob,hob,hk,hf,hfw⟩
  ·rw [hg] at hne ⊢
   exact hx.new j _ (Ck (newlt j hne))
  ·have hnk:r.kill≠some id:=fun hk'=>hne (hk hk')
   refine (hf hnk).ok hne ?_
   rcases hob with ⟨ob',hst,rfl⟩ | ⟨hst,rfl⟩
   ·exact hx.st id _ hst
   ·have hl':E.L id:=(((hx.L id).1 hl).resolve_right fun h'=>by omega).1
    refine hx.old id _ hl' hnk hst (h.ok id hl' fun hd=>hne ?_)
    have:=hf hnk
    rw [hd] at this
    exact this.dead
 ·intro id hl
  rcases (hx.L id).1 hl with ⟨h1,_⟩ | h1
  ·exact (hx.A id).2 (.inl (h.sub id h1))
  ·exact (hx.A id).2 (.inr h1)
 ·intro id hw
  rcases (hx.W id).1 hw with ⟨h1,h2,_⟩ | ⟨h1,h2,_⟩
  ·exact (hx.L id).2 (.inl ⟨h.wl id h1,h2⟩)
  ·exact (hx.L id).2 (.inr ⟨h1,h2⟩)
 ·intro b o hb
  rw [hF] at hb;rw [hB]
  exact h.f0 b o hb
 ·rw [hB]
  exact Nat.le_trans h.B (hx.evo 0).below.size
end
structure Marks (E:Env) (ds:List Deferred):Prop where
 each:∀ d∈ds,∃ b,d={ target:=.collected b,args:=#[] }∧E.M≤b∧E.Nb b∧E.w.heap[b]?=some (.deferred (some []))
 two:ds.Pairwise (fun d d'=>d.target≠d'.target)
theorem Marks.nil (E:Env):Marks E []:=⟨fun d h=>by simp at h,.nil⟩
theorem Marks.mono {n:Nat} {E E':Env} {ds:List Deferred} (h:Marks E ds) (hE:Evo n E E'):Marks E' ds:=by
 refine ⟨fun d hd=>?_,h.two⟩
 obtain ⟨b,h1,h2,h3,h4⟩:=h.each d hd
 obtain ⟨h5,h6⟩:=hE.hp b h3
 exact ⟨b,h1,by rw [hE.M];exact h2,h5,h6.trans h4⟩
structure SlOk (E:Env) (a:Act) (sl:List AV):Prop where
 size:a.tmps.size=sl.length
 rd:∀ t,RdA E (a.eval (.tmp t)) (Am .any sl t)
 stat:Hs sl
 defers:Marks E a.defers
theorem SlOk.mono {E E':Env} {a:Act} {sl:List AV} {n:Nat} (h:SlOk E a sl) (hE:Evo n E E') (hA:∀ id,E.A id→id < n):SlOk E' a sl :=
 ⟨h.size,fun t=>(h.rd t).mono hE hA,h.stat,h.defers.mono hE⟩
theorem Om {d:Nat}:∀ {sl:List AV},Qw d sl=true→∀ (t:Nat) c s w v,sl[t]?=some (.when c s w v)→s≠d
 | [],_,t,c,s,w,v,h=>by simp at h
 | x :: l,h0,0,c,s,w,v,h=>by
  cases h
  simp only [Qw] at h0
  split at h0
  ·cases h0
  ·rename_i hne
   intro e
   subst e
   exact hne (Nat.beq_refl s)
 | x :: l,h0,t+1,c,s,w,v,h=>by
  refine Om (sl:=l) ?_ t c s w v (by simpa using h)
  cases x <;> simp only [Qw] at h0 <;> first | exact h0 | (split at h0 <;> first | cases h0 | exact h0)
theorem SlOk.put {E:Env} {a:Act} {sl:List AV} {dst:Option Tmp} {u:Value} {v:AV} {K:List AV→Prop} (h:SlOk E a sl) (hv:RdA E u v)
 (hw:∀ c s w x,v=.when c s w x→E9 sl s w=some c∧∀ c' s' w' v',x≠.when c' s' w' v') (hk:Mi dst v sl K):∃ sl',K sl'∧SlOk E (a.put dst u) sl'∧sl'.length=sl.length:=by
 cases dst with
 | none=>exact ⟨sl,hk,h,rfl⟩
 | some d =>
  simp only [Mi] at hk
  split at hk
  ·rename_i hc
   simp only [Bool.and_eq_true] at hc
   obtain ⟨h1,h2,h3⟩:=hc
   have hd:d < sl.length:=Nat.le_of_ble_eq_true h1
   rw [U1] at hk
   have cond:∀ s w,s≠d→E9 (Bo v sl d) s w=E9 sl s w:=by
    intro s w hs
    unfold E9
    rw [Dc,if_neg (fun h=>hs h.1.symm)]
   refine ⟨_,hk,⟨?_, ?_, ?_,h.defers⟩,Bn _ _ _⟩
   ·simp [Act.put,Bn,h.size]
   ·intro t
    rw [Dc]
    by_cases ht:d=t
    ·subst ht
     rw [if_pos ⟨rfl,hd⟩]
     have:(a.put (some d) u).eval (.tmp d)=u:=by
      have hd':d < a.tmps.size:=by rw [h.size];exact hd
      simp [Act.put,Act.eval,Array.getD_eq_getD_getElem?,hd']
     rw [this];exact hv
    ·rw [if_neg (fun h=>ht h.1)]
     have:(a.put (some d) u).eval (.tmp t)=a.eval (.tmp t):=by
      simp only [Act.put,Act.eval,Array.getD_eq_getD_getElem?,Array.getElem?_setIfInBounds]
      rw [if_neg ht]
     rw [this];exact h.rd t
   ·intro t c s w x ht
    have hg:Am .any (Bo v sl d) t=.when c s w x:=by rw [Bg,ht];rfl
    rw [Dc] at hg
    by_cases htd:d=t
    ·subst htd
     rw [if_pos ⟨rfl,hd⟩] at hg
     subst hg
     have hs:s≠d:=by
      simp only [P8,Bool.not_eq_true',] at h3
      intro e
      subst e
      rw [Nat.beq_refl] at h3
      cases h3
     rw [cond s w hs]
     exact hw c s w x rfl
    ·rw [if_neg (fun h=>htd h.1)] at hg
     have ht':sl[t]?=some (.when c s w x):=by
      rw [Bg] at hg
      cases hg2:sl[t]? with
      | none=>rw [hg2] at hg;cases hg
      | some y=>rw [hg2] at hg;simp only [Option.getD_some] at hg;rw [hg]
     rw [cond s w (Om h2 t c s w x ht')]
     exact h.stat t c s w x ht'
  ·exact hk.elim
end Go.Sx
namespace Go.Sx
open Go.RowKit
theorem Aik {n:Nat} {news:List Ob} {x y:AV} (h:L0 n news x=some y):∀ c s w v,y≠.when c s w v:=by
 intro c s w v hy
 subst hy
 cases x with
 | fn f xs ys =>
  simp only [L0] at h
  split at h <;> cases h
 | _ =>
  simp only [L0] at h
  repeat' split at h
  all_goals first
   | cases h;done
   | (simp only [Option.map_eq_some_iff] at h;obtain ⟨_,_,h⟩:=h;cases h)
def Ail (P:Program) (call:CallSem):Prop :=
 ∀ g args H n K,call g args H n K→∀ (E:Env) (vs:Array Value),EnvOk E H n→vs.size=args.length→(∀ (i:Nat) v x,vs[i]?=some v→args[i]?=some x→RdA E v x) →
  (∃ fn,P.funcs[g]?=some fn∧fn.body.isSome=true∧(fn.name == "runtime.NumGoroutine")=false) ∧
  Calls P g vs E.w (fun en w'=>∃ v E' x H' n',en=.returned v∧E'.w=w'∧n≤n'∧EnvOk E' H' n'∧RdA E' v x∧Evo n E E'∧K x H' n')
def Aim (P:Program) (call:CallSem):Prop :=
 ∀ id args H n K,call 0 (.rnd id :: args) H n K→∀ (E:Env) (vs:Array Value),EnvOk E H n→vs.size=args.length→(∀ (i:Nat) v x,vs[i]?=some v→args[i]?=some x→RdA E v x) →
  Ac H id≠.dead∧∀ hd,E.ρ id=some hd→∃ fn tmps x y,(Instr.yield hd.blk vs).run P E.w=.ok (.round hd.blk fn tmps x y) E.w ∧
   RoundIn (fen none) 0 P hd.blk fn tmps x y E.w (fun en w'=>∃ v E' z H' n',en=.returned v∧E'.w=w'∧n≤n'∧EnvOk E' H' n'∧RdA E' v z∧Evo n E E'∧K z H' n')
def A7 (P:Program) (call:CallSem):Prop:=Ail P call∧Aim P call
section
variable {P:Program} {cx:Ctx} {call:CallSem} {E:Env} {a:Act} {dr:Bool} {ops:List Oper} {opsA:Array Oper} {o:Oper} {sl:List AV} {H:List Ob} {n:Nat} {r:Res}
 {K:Ka} {K':Act→World→Prop} {Q:Exit→Act→World→Prop} {ro:Option Nat}
theorem Rc (h:D2 cx P dr ops o sl H n=some r) {c:Prop} {s:Nat} {w:Bool} {x:AV} (hv:r.val=.when c s w x):E9 sl s w=some c∧∀ c' s' w' v',x≠.when c' s' w' v':=by
 unfold D2 at h
 split at h
 ·split at h
  ·cases h
   exact absurd hv (G1 _ _ _ _ _)
  ·cases h
 ·repeat' split at h
  all_goals first
   | cases h;done
   | (cases h;cases hv;exact ⟨‹_›,Aik ‹_›⟩)
theorem Jt (hrd:∀ t∈C2 ops o,RdA E (a.eval (.tmp t)) (Am .any sl t)) (h:D2 cx P dr ops o sl H n=some r):TurnOk E H r:=by
 unfold D2 at h
 split at h
 ·split at h
  ·rename_i q g v news kill st frz hev
   cases h
   have hrd':∀ x∈o.op.operands.toList,RdA E (a.eval x) (ev sl x):=Aki fun t ht=>hrd t (I7 ht)
   obtain ⟨h1,h2⟩:=Jq hev
   refine ⟨fun id hid=>?_,fun p hp=>?_⟩
   ·obtain ⟨⟨x,hx,hn⟩,t,xs,hob⟩:=h1 id hid
    exact ⟨Qf (hrd' x hx) hn,by rw [hob];trivial⟩
   ·obtain ⟨⟨x,hx,hn⟩,hob⟩:=h2 p hp
    exact ⟨Qf (hrd' x hx) hn,hob⟩
  ·cases h
 ·repeat' split at h
  all_goals first
   | cases h;done
   | (cases h;exact ⟨fun id hid=>(by cases hid),fun p hp=>(by cases hp)⟩)
theorem StPre.of (hcx:Ah P cx) (hE:EnvOk E H n) (hs:SlOk E a sl) (hn:A4 r.need):StPre P cx E a dr ops o sl H n r :=
 ⟨hcx,fun m _=>hE.ready m,hE.fin,fun id _=>hE.live id,hE.ok,fun id _ _=>hE.wr id,fun t _=>hs.rd t,hs.stat,hn⟩
theorem Aat {x:AV} {q:Prop} {v:Value} (hE:EnvOk E H n) (hx:RdA E v x) (h:nilQ.nilF H x=some q):∃ a m c,v=.slice a m c∧(a=none→q):=by
 unfold nilQ.nilF at h
 split at h
 ·cases h
  rcases hx.sl_inv.sl_inv with ⟨rfl,b,c,rfl⟩ | ⟨b,o,c,g,rfl,_⟩
  ·exact ⟨_,_,_,rfl,fun _=>rfl⟩
  ·exact ⟨_,_,_,rfl,fun h=>by cases h⟩
 ·cases h
  obtain ⟨b,rfl⟩:=hx.cap0_inv
  exact ⟨_,_,_,rfl,fun _=>trivial⟩
 ·cases h
  obtain ⟨b,c,rfl⟩:=hx.nils_inv
  exact ⟨_,_,_,rfl,fun _=>trivial⟩
 ·rename_i id
  have key:∀ (t:Ty) (xs:List t.den),Ac H id≠.dead→RowsAt E t xs (E.ρ id)→∃ a m c,v=.slice a m c∧(a=none→xs=[]):=by
   intro t xs hne hrow
   have hv:=hx.own_inv.2.2 (hE.live id hne)
   cases hρ:E.ρ id with
   | none =>
    rw [hρ] at hv hrow
    obtain ⟨b,rfl⟩:=hv
    exact ⟨_,_,_,rfl,fun _=>hrow⟩
   | some hd =>
    rw [hρ] at hv
    exact ⟨_,_,_,hv,fun h=>by cases h⟩
  split at h
  ·rename_i t xs hob
   cases h
   have hne:Ac H id≠.dead:=by rw [hob];simp
   have hok:=hE.ok id (hE.live id hne) hne
   rw [hob] at hok
   exact key t xs hne hok
  ·rename_i t xs hob
   cases h
   have hne:Ac H id≠.dead:=by rw [hob];simp
   have hok:=hE.ok id (hE.live id hne) hne
   rw [hob] at hok
   exact key t xs hne hok
  ·cases h
 ·cases h
theorem Ain {op:BinOp} {t:TypeId} {x:AV} {eq:Bool} {q:Prop} {v:Value} (hE:EnvOk E H n) (hx:RdA E v x) (h:nilQ P H op t x=some (eq,q)) (w:World) :
 ∃ b,(binOp op t v (.slice none 0 0)).run P w=.ok (.bool b) w∧(b=eq→q):=by
 unfold nilQ at h
 cases ht:P.underlying t with
 | none=>rw [ht] at h;cases h
 | some u =>
  rw [ht] at h
  cases u with
  | slice e =>
   cases op with
   | eql =>
    simp only [Option.map_eq_some_iff,Prod.mk.injEq] at h
    obtain ⟨q',hq,rfl,rfl⟩:=h
    obtain ⟨a,m,c,rfl,hn⟩:=Aat hE hx hq
    exact ⟨_,Lib.run_eql_slice_nil w t e a m c 0 0 ht,fun h=>hn (by simpa using h)⟩
   | neq =>
    simp only [Option.map_eq_some_iff,Prod.mk.injEq] at h
    obtain ⟨q',hq,rfl,rfl⟩:=h
    obtain ⟨a,m,c,rfl,hn⟩:=Aat hE hx hq
    exact ⟨_,run_neq_slice_nil_any w t e a m c 0 0 ht,fun h=>hn (by simpa using h)⟩
   | _=>cases h
  | _=>cases h
theorem Aio (hcx:Ah P cx) (h:D2 cx P dr ops o sl H n=some r) {k:AV→Prop} (hk:Ak4 cx H n o sl r.val k):k r.val:=by
 unfold Ak4 at hk
 split at hk
 ·rename_i c hg hop
  split at hk
  ·rename_i f hcal
   split at hk
   ·rename_i g xs ys hf
    split at hk
    ·rename_i shs C hC
     split at hk
     ·rename_i args' ids hlow
      split at hk
      ·rename_i cr gen hcr
       have hgood:=(hcx g shs C hC).gen _ _ hcr _ hk
       have hval:r.val=noW (shift n cr.res):=by
        obtain ⟨dst,op',ty,pos,after,guard⟩:=o
        obtain ⟨callee,args,ts⟩:=c
        simp only at hop hcal hg
        subst hop;subst hcal;subst hg
        simp only [D2,evOp] at h
        rw [hf] at h
        simp only [Pc,hC,hlow,hcr] at h
        repeat' split at h
        all_goals first
         | cases h;done
         | (rename_i heq;repeat' split at heq
            all_goals first
             | cases heq;done
             | (cases heq;cases h;rfl))
       rw [hval]
       exact hgood
      ·exact hk
     ·exact hk
    ·exact hk
   ·exact hk
  ·exact hk
 ·exact hk
theorem Aau {kk:IntKind} {ok:Bool} {q:Int} {zr:AV} {k:AV→Prop}:∀ (l:List MapEntry) (es:List (Int × AV)) (i:Nat),l.length=es.length →
 (∀ (i:Nat) m p,l[i]?=some m→es[i]?=some p→m.key=.int .i64 p.1∧RdA E m.val p.2)→S4 ok q zr k es →
 (∃ j u x,Instr.findNow (.int kk) (.int .i64 q) l i=some (some (j,u))∧RdA E u x∧k (match ok with | true=>.tup [x,.bool true] | false=>x)) ∨
 (Instr.findNow (.int kk) (.int .i64 q) l i=some none∧k (match ok with | true=>.tup [zr,.bool false] | false=>zr))
 | [],[],_,_,_,h=>.inr ⟨rfl,h⟩
 | [],_ :: _,_,hl,_,_=>by simp at hl
 | _ :: _,[],_,hl,_,_=>by simp at hl
 | m :: l,p :: es,i,hl,hk,h=>by
  obtain ⟨h1,h2⟩:=hk 0 m p rfl rfl
  simp only [S4,decide_eq_true_eq,decide_eq_false_iff_not] at h
  by_cases hq:q=p.1
  ·refine .inl ⟨i,m.val,p.2, ?_,h2,h.1 hq⟩
   simp [Instr.findNow,h1,Instr.sameNow,hq]
  ·have h3:(q == p.1)=false:=by simpa using hq
   simp only [Instr.findNow,h1,Instr.sameNow,if_true,h3]
   exact Aau l es (i+1) (by simpa using hl) (fun i m p hm hp=>hk (i+1) m p (by simpa using hm) (by simpa using hp)) (h.2 hq)
theorem Ach {t:TypeId} {m x:AV} {ok:Bool} {vm vx:Value} {es:List (Int × AV)} {q:Int} {k:AV→Prop} (hE:EnvOk E H n) (hm:RdA E vm m) (hx:RdA E vx x) (h:Ak3 P H t m x=some (es,q))
 (hk:S4 ok q (M2 P t) k es∨∃ v,Mh q (M2 P t) es=some v∧k (Qv ok v (Mg q es))) :
 ∃ v y,(Instr.lookup t vm vx ok).run P E.w=.ok v E.w∧RdA E v y∧k y:=by
 unfold Ak3 at h
 split at h
 ·rename_i kt et hu
  split at h
  ·rename_i kk z id q' hkt hz
   split at h
   ·rename_i es' hob
    cases h
    have hA:=hm.mp_inv.1
    have hne:Ac H id≠.dead:=by rw [hob];simp
    have hl:=hE.live id hne
    have hok:=hE.ok id hl hne
    rw [hob] at hok
    obtain ⟨hd,hρ,ms,clock,hb,hsz,hes⟩:=hok
    obtain ⟨hd',hρ',hval⟩:=hm.mp_inv.2.2 hl
    rw [hρ] at hρ'
    cases hρ'
    have hxv:=hx.int_inv
    subst hval
    subst hxv
    have hck:=fun b=>Jo (P:=P) hkt b q E.w
    have hzr:=I2 hz E.w
    have hZ:RdA E z (M2 P t):=by
     unfold M2
     rw [hu]
     simp only [hz]
     exact Hq z
    rcases hk with hk | ⟨y,hy,hk⟩
    ·rcases Aau (kk:=kk) ms.toList es 0 (by simpa using hsz) (fun i m p hm hp=>hes i m p (by simpa using hm) hp) hk with ⟨j,u,y,h1,h2,h3⟩ | ⟨h1,h2⟩
     ·cases ok
      ·exact ⟨u,y,by simp [Instr.lookup,run_underlying hu,run_underlying hkt,Instr.findKey,h1,hck,getObj,Sem.run,hb],h2,h3⟩
      ·exact ⟨_,_,by simp [Instr.lookup,run_underlying hu,run_underlying hkt,Instr.findKey,h1,hck,getObj,Sem.run,hb],Le true h2,h3⟩
     ·cases ok
      ·exact ⟨z,_,by simp [Instr.lookup,run_underlying hu,run_underlying hkt,Instr.findKey,h1,hck,getObj,Sem.run,hb,hzr],hZ,h2⟩
      ·exact ⟨_,_,by simp [Instr.lookup,run_underlying hu,run_underlying hkt,Instr.findKey,h1,hck,getObj,Sem.run,hb,hzr],Le false hZ,h2⟩
    ·rcases Yq (kk:=kk) (q:=q) (zr:=M2 P t) ms.toList es 0 (by simpa using hsz) (fun i m p hm hp=>hes i m p (by simpa using hm) hp) with ⟨j,u,h1,h2,h3⟩ | ⟨h1,h2,h3⟩
     ·rw [h3] at hk
      cases ok
      ·exact ⟨u,y,by simp [Instr.lookup,run_underlying hu,run_underlying hkt,Instr.findKey,h1,hck,getObj,Sem.run,hb],Hf hy h2,hk⟩
      ·exact ⟨_,_,by simp [Instr.lookup,run_underlying hu,run_underlying hkt,Instr.findKey,h1,hck,getObj,Sem.run,hb],Le true (Hf hy h2),hk⟩
     ·rw [h3] at hk
      have hZ':=Hf hy (by rw [h2];exact hZ)
      cases ok
      ·exact ⟨z,_,by simp [Instr.lookup,run_underlying hu,run_underlying hkt,Instr.findKey,h1,hck,getObj,Sem.run,hb,hzr],hZ',hk⟩
      ·exact ⟨_,_,by simp [Instr.lookup,run_underlying hu,run_underlying hkt,Instr.findKey,h1,hck,getObj,Sem.run,hb,hzr],Le false hZ',hk⟩
   ·cases h
  ·cases h
 ·cases h
theorem Ic {as:Act} (hs:SlOk E as sl) (hag:∀ t∈C2 ops o,a.eval (.tmp t)=as.eval (.tmp t)):∀ x∈o.op.operands.toList,RdA E (a.eval x) (ev sl x):=fun x hx=>by
 cases x with
 | tmp t=>rw [hag t (I7 hx)];exact hs.rd t
 | const v=>exact Hq v
 | global g=>exact .any _
 | func f=>exact .fn _ _ _ _ _ rfl rfl (fun i v x hv _=>by simp at hv) (fun i v x hv _=>by simp at hv)
theorem Wo (hcall:A7 P call) (hE:EnvOk E H n) {dst:Option Tmp} {f:Operand} {args:Array Operand} {ts:Array TypeId} {ty:TypeId} {pos:String} {after:Array Go.Edge} {guard:Option (Nat × Bool)} {x:AV} {e:Operand→AV} {k:AV→List Ob→Nat→Prop}
 (hf:RdA E (a.eval f) x) (hx:∀ y∈args.toList,RdA E (a.eval y) (e y)) (h:Aaj call x (args.toList.map e) H n k)
 (hK:∀ E' v z H' n',RdA E' v z→k z H' n'→EnvOk E' H' n'→Evo n E E'→n≤n'→K' (a.put dst v) E'.w) :
 (⟨dst,.call ⟨.value f,args,ts⟩,ty,pos,after,guard⟩ : Oper).wpI ro P a E.w K' Q:=by
 unfold Aaj at h
 split at h
 ·rename_i g xs ys
  obtain ⟨vs,h1,h2,h3⟩:=Tc (P:=P) (args:=args) (e:=e) hf hx
  obtain ⟨⟨fn,g1,g2,g3⟩,hc⟩:=hcall.1 g _ H n _ h E vs hE h2 h3
  refine Aal (w':=E.w) (f:=g) (args:=vs) (by rw [h1,Fc g1 g2 g3]) (hc.mono fun en w' hpost=>?_)
  obtain ⟨v,E',z,H',n',rfl,rfl,hn',hE',hv,hevo,hk⟩:=hpost
  exact ⟨v,rfl,hK E' v z H' n' hv hk hE' hevo hn'⟩
 ·rename_i id
  have hm:=Od (a:=a) (E:=E) (e:=e) (l:=args) hx
  obtain ⟨hne,hr⟩:=hcall.2 id _ H n _ h E (args.map a.eval) hE (by simp) (fun i v y hv hy=>hm.2 i v y hv hy)
  have hl:=hE.live id hne
  obtain ⟨hd,hρ,hval⟩:=hf.yld_inv.2.2 hl
  obtain ⟨fn,tmps,x,y,h1,h2⟩:=hr hd hρ
  refine Ael (w':=E.w) (l:=hd.blk) (f:=fn) (tmps:=tmps) (x:=x) (y:=y) ?_ (h2.mono fun en w' hpost=>?_)
  ·have:(execOp a.eval ⟨dst,.call ⟨.value f,args,ts⟩,ty,pos,after,guard⟩).run P E.w=(Instr.yield hd.blk (args.map a.eval)).run P E.w:=by
    simp [execOp,Go.resolve,hval,Deferred.ofValue,invoke]
   rw [this];exact h1
  ·obtain ⟨v,E',z,H',n',rfl,rfl,hn',hE',hv,hevo,hk⟩:=hpost
   exact ⟨v,rfl,hK E' v z H' n' hv hk hE' hevo hn'⟩
 ·exact h.elim
theorem Wp {as:Act} (hcx:Ah P cx) (hcall:A7 P call) (hE:EnvOk E H n) (hs:SlOk E as sl) (hag:∀ t∈C2 opsA.toList o,a.eval (.tmp t)=as.eval (.tmp t)) (h:S5 cx P call opsA.toList o sl H n K)
 (hK:∀ E' v sl' H' n',K sl' H' n'→EnvOk E' H' n'→SlOk E' (as.put o.dst v) sl'→Evo n E E'→n≤n'→K' (a.put o.dst v) E'.w) :
 (Region.wanted o (yielded opsA a.tmps)=true∧o.wpI ro P a E.w K' Q)∨(Region.wanted o (yielded opsA a.tmps)=false∧K' (a.put o.dst undef) E.w):=by
 unfold S5 at h
 split at h
 ·rename_i r hr
  rw [Ol,Rb] at h
  obtain ⟨hn,h⟩:=h
  refine Ra (wn:=U2 n r) ⟨hcx,fun m _=>hE.ready m,hE.fin,fun id _=>hE.live id,hE.ok,fun id _ _=>hE.wr id,fun t ht=>(by rw [hag t ht];exact hs.rd t),hs.stat,hn⟩ hr fun E' v hx hgiv hv=>?_
  have h:=h hgiv
  rw [Te] at h
  have h:=Aio hcx hr h
  rw [Ea] at h
  obtain ⟨sl',h1,h2,_⟩:=(hs.mono (hx.evo n) hE.ns).put hv (fun c s w x hw=>Rc hr hw) h
  exact hK E' _ sl' _ _ h1 (hE.step hx (Jt (E:=E) (a:=as) (fun t _=>hs.rd t) hr)) h2 (hx.evo n) (Nat.le_add_right _ _)
 ·split at h
  ·rename_i c hg hop
   left
   refine ⟨by simp [Region.wanted,hg], ?_⟩
   split at h
   ·rename_i f hcal
    obtain ⟨dst,op,ty,pos,after,guard⟩:=o
    obtain ⟨callee,args,ts⟩:=c
    simp only at hop hcal hg
    subst hop;subst hcal;subst hg
    have rd:=Ic (a:=a) hs hag
    refine Wo hcall hE (rd f (by simp [Op.operands,Call.operands])) (fun x hm=>rd x (by simp only [Op.operands,Call.operands];simp;exact .inr (by simpa using hm))) h fun E' v z H' n' hv hk hE' hevo hn'=>?_
    obtain ⟨sl',k1,k2,_⟩:=(hs.mono hevo hE.ns).put (Fd hv) (fun c s w x hw=>absurd hw (G1 _ _ _ _ _)) hk
    exact hK E' _ sl' H' n' k1 hE' k2 hevo hn'
   ·exact h.elim
  ·rename_i j w c hg hop
   split at h
   ·rename_i f hcal
    split at h
    ·exact h.elim
    ·rename_i s hs0
     split at h
     ·rename_i e hev
      obtain ⟨dst,op,ty,pos,after,guard⟩:=o
      obtain ⟨callee,args,ts⟩:=c
      simp only at hop hcal hg
      subst hop;subst hcal;subst hg
      have rd:=Ic (a:=a) hs hag
      have hlook:s∈C2 opsA.toList ⟨dst,.call ⟨.value f,args,ts⟩,ty,pos,after,some (j,w)⟩:=by
       unfold C2
       refine List.mem_append_right _ ?_
       simp [hs0]
      have hsv:a.eval (.tmp s)=.bool e:=by
       have:=hs.rd s
       rw [hev] at this
       rw [hag s hlook]
       exact this.bool_inv
      have hc:E9 sl s w=some (e=w):=by unfold E9;rw [hev]
      have hwt:=Q8 (a:=a) (o:=⟨dst,.call ⟨.value f,args,ts⟩,ty,pos,after,some (j,w)⟩) (opsA:=opsA) rfl hs0
      by_cases hew:e=w
      ·left
       have hsw:a.eval (.tmp s)=.bool w:=by rw [hsv,hew]
       refine ⟨hwt.2 hsw, ?_⟩
       have un:∀ x∈(Op.call ⟨.value f,args,ts⟩).operands.toList,RdA E (a.eval x) (Ji s w (ev sl x)):=fun x hx=>by
        refine K9 (rd x hx) (fun c' w' v'' hx' hv'=>?_) hsw
        obtain ⟨t,rfl,ht⟩:=Qe hx'
        have hrs:RdA E (a.eval (.tmp s)) (Am .any sl s):=by rw [hsv,hev];exact .bool _
        exact (Lh (hs.stat t c' s w' v'' ht).1 hrs).1 hv'
       refine Wo hcall hE (un f (by simp [Op.operands,Call.operands])) (fun x hm=>un x (by simp only [Op.operands,Call.operands];simp;exact .inr (by simpa using hm))) (h.1 hew) fun E' v z H' n' hv hk hE' hevo hn'=>?_
       obtain ⟨sl',k1,k2,_⟩:=(hs.mono hevo hE.ns).put (RdA.when v (e=w) s w (noW z) (fun _=>Fd hv) (fun hn=>absurd hew hn)) (fun c s' w' x hw=>by
        cases hw
        exact ⟨hc,fun _ _ _ _=>G1 _ _ _ _ _⟩) hk
       exact hK E' _ sl' H' n' k1 hE' k2 hevo hn'
      ·right
       have hnw:Region.wanted ⟨dst,.call ⟨.value f,args,ts⟩,ty,pos,after,some (j,w)⟩ (yielded opsA a.tmps)=false:=by
        rw [Bool.eq_false_iff]
        intro h2
        have:=hwt.1 h2
        rw [hsv] at this
        cases this
        exact hew rfl
       refine ⟨hnw, ?_⟩
       have he2:e=!w:=by cases e <;> cases w <;> simp_all
       obtain ⟨sl',k1,k2,_⟩:=hs.put (RdA.when undef (e=w) s w (Yf P ty) (fun h=>absurd h hew) (fun _=>rfl)) (fun c s' w' x hw=>by
        cases hw
        refine ⟨hc,fun c' s'' w'' v' hv'=>?_⟩
        unfold Yf at hv'
        split at hv' <;> cases hv') (h.2 he2)
       exact hK E undef sl' H n k1 hE k2 (Evo.refl _ _) (Nat.le_refl _)
     ·exact h.elim
   ·exact h.elim
  ·rename_i op t x u hg hop
   left
   refine ⟨by simp [Region.wanted,hg], ?_⟩
   split at h
   ·rename_i eq q hq
    obtain ⟨dst,op',ty,pos,after,guard⟩:=o
    simp only at hop hg
    subst hop;subst hg
    have rd:=Ic (a:=a) hs hag x (by simp [Op.operands])
    obtain ⟨b,hb,hbq⟩:=Ain (P:=P) hE rd hq E.w
    have hgd:(eqGuard op t x (.const (.slice none 0 0)) (a.eval x) (.slice none 0 0)).run P E.w=.ok () E.w:=by
     unfold eqGuard
     split <;> simp
    generalize hval:a.eval x=val at hb hgd
    have hcn:a.eval (.const (.slice none 0 0))=.slice none 0 0:=rfl
    refine Cb (v:=.bool b) (w':=E.w) (by simp [execOp,hval,hcn,hgd,hb]) ?_
    obtain ⟨sl',k1,k2,_⟩:=hs.put (RdA.bool b) (fun c s w x hw=>by cases hw) (h b hbq)
    exact hK E _ sl' H n k1 hE k2 (Evo.refl _ _) (Nat.le_refl _)
   ·exact h.elim
  ·rename_i t m k ok hg hop
   left
   refine ⟨by simp [Region.wanted,hg], ?_⟩
   split at h
   ·rename_i es q hq
    obtain ⟨dst,op',ty,pos,after,guard⟩:=o
    simp only at hop hg
    subst hop;subst hg
    have rd:=Ic (a:=a) hs hag
    have h':=Or.imp_right (a:=S4 ok q (M2 P t) (fun v=>B1 (noW v) (fun v'=>Mi dst v' sl (fun sl'=>K sl' H n))) es) (c:=∃ v,Mh q (M2 P t) es=some v∧(fun v=>B1 (noW v) (fun v'=>Mi dst v' sl (fun sl'=>K sl' H n))) (Qv ok v (Mg q es))) (fun ⟨v,h1,h2⟩=>by
     refine ⟨v,h1, ?_⟩
     have:noW (Qv ok v (Mg q es))=Qv ok v (Mg q es):=by
      cases ok
      ·unfold Mh at h1
       repeat' split at h1
       all_goals first
        | cases h1;done
        | (cases h1;rfl)
      ·rfl
     show B1 (noW (Qv ok v (Mg q es))) _
     rw [this]
     exact h2) h
    clear h
    have h:=h'
    obtain ⟨v,y,h1,h2,h3⟩:=Ach hE (rd m (by simp [Op.operands])) (rd k (by simp [Op.operands])) hq h
    rw [Ea] at h3
    refine Cb (v:=v) (w':=E.w) (by simp [execOp,h1]) ?_
    obtain ⟨sl',k1,k2,_⟩:=hs.put (Fd h2) (fun c s w x hw=>absurd hw (G1 _ _ _ _ _)) h3
    exact hK E _ sl' H n k1 hE k2 (Evo.refl _ _) (Nat.le_refl _)
   ·exact h.elim
  ·exact h.elim
theorem Ae2 (hcx:Ah P cx) (hcall:A7 P call) (hE:EnvOk E H n) (hs:SlOk E a sl) (h:S5 cx P call opsA.toList o sl H n K)
 (hK:∀ E' a' sl' H' n',K sl' H' n'→EnvOk E' H' n'→SlOk E' a' sl'→Evo n E E'→n≤n'→K' a' E'.w) :
 (Region.wanted o (yielded opsA a.tmps)=true∧o.wpI ro P a E.w K' Q)∨(Region.wanted o (yielded opsA a.tmps)=false∧K' (a.put o.dst undef) E.w) :=
 Wp hcx hcall hE hs (fun _ _=>rfl) h fun E' v sl' H' n'=>hK E' _ sl' H' n'
theorem Tf (hcx:Ah P cx) (hcall:A7 P call):∀ (rest:List Oper) {E:Env} {a:Act} {sl:List AV} {H:List Ob} {n:Nat} {K:Ka},EnvOk E H n→SlOk E a sl→Yg cx P call opsA.toList rest sl H n K →
 (∀ E' a' sl' H' n',K sl' H' n'→EnvOk E' H' n'→SlOk E' a' sl'→Evo n E E'→n≤n'→Q .normal a' E'.w)→wpListIn (fen ro) 0 P opsA Q rest a E.w
 | [],E,a,sl,H,n,K,hE,hs,h,hK=>hK E a sl H n h hE hs (Evo.refl _ _) (Nat.le_refl _)
 | o :: rest,E,a,sl,H,n,K,hE,hs,h,hK=>by
  have:=Ae2 (ro:=ro) (K':=wpListIn (fen ro) 0 P opsA Q rest) (Q:=Q) hcx hcall hE hs h fun E' a' sl' H' n' hk hE' hs' hevo hn=>by
   exact Tf hcx hcall rest hE' hs' hk fun E'' a'' sl'' H'' n'' hk' hE'' hs'' hevo' hn' =>
    hK E'' a'' sl'' H'' n'' hk' hE'' hs'' (hevo.trans (hevo'.mono hn)) (Nat.le_trans hn hn')
  simp only [wpListIn]
  rcases this with ⟨h1,h2⟩ | ⟨h1,h2⟩
  ·rw [if_pos h1];exact h2
  ·rw [if_neg (by rw [h1];simp)];exact ⟨fun _ _=>trivial,h2⟩
end
end Go.Sx
namespace Go.Sx
open Go.RowKit
theorem Km (n:Nat) (E:Env):Evo n E { E with w:={ E.w with drawn:=E.w.drawn+1 } } :=
 ⟨rfl,rfl,rfl,(Below.refl _ _).drew,fun _ _ h=>h,fun _ _ _ h=>⟨h,rfl⟩,fun _ _ _ _ _ _ h=>h,fun _ h=>⟨h,rfl⟩,rfl,fun _ _=>rfl⟩
theorem EnvOk.drew {E:Env} {H:List Ob} {n:Nat} (h:EnvOk E H n):EnvOk { E with w:={ E.w with drawn:=E.w.drawn+1 } } H n :=
 ⟨h.len,h.ns,h.live,h.wr,fun id hl hne=>OkOb.mono (Km n E) h.ns (h.sub id hl) hl rfl (fun _ _=>rfl) (h.ok id hl hne),h.sub,h.wl,h.injO,h.ltO,h.f0,h.B,h.hid,h.hlt⟩
section
variable {P:Program} {cx:Ctx} {call:CallSem} {E:Env} {a:Act} {opsA:Array Oper} {sl:List AV} {H:List Ob} {n:Nat} {r:Res} {e:Operand→AV}
 {K:Ka} {Q:Exit→Act→World→Prop} {ro:Option Nat}
theorem Rd {o:Oper} (hL:∀ id,E.A id→Ac H id≠.dead→E.L id) (hH:∀ id,E.L id→Ac H id≠.dead→OkOb E id (Ac H id)) (hx:∀ x∈o.op.operands.toList,RdA E (a.eval x) (e x)) (hn:A4 r.need)
 (hst:Ur o.op=true) (h:evOp cx P e H n o=some r):PureRun P E a o r:=by
 obtain ⟨dst,op,ty,pos,after,guard⟩:=o
 cases op with
 | move x=>exact Aem (hx x (by simp [Op.operands])) h
 | assign x=>exact We (hx x (by simp [Op.operands])) h
 | extract x i=>exact S6 (hx x (by simp [Op.operands])) h
 | makeFunc f xs ys=>exact Q0 (fun x hm=>hx x (by simp only [Op.operands,Array.toList_append,List.mem_append];exact .inl hm)) (fun x hm=>hx x (by simp only [Op.operands,Array.toList_append,List.mem_append];exact .inr hm)) h
 | load t x=>exact Aeq hL hH (hx x (by simp [Op.operands])) hn h
 | nilCheck x=>exact Q1 (hx x (by simp [Op.operands])) h
 | binOp op t x y u=>exact Aan (hx x (by simp [Op.operands])) (hx y (by simp [Op.operands])) hn h
 | unOp op t x=>exact Aep (hx x (by simp [Op.operands])) hn h
 | convert s d x=>exact S7 (hx x (by simp [Op.operands])) hn h
 | fieldAddr t x f=>exact Pf (hx x (by simp [Op.operands])) h
 | field t x f=>exact Aam (hx x (by simp [Op.operands])) h
 | index t x ix=>exact Aao (hx x (by simp [Op.operands])) (hx ix (by simp [Op.operands])) hn h
 | indexAddr t x ix=>exact Pg hL hH (hx x (by simp [Op.operands])) (hx ix (by simp [Op.operands])) hn h
 | slice t x lo hi mx=>exact Aap hL hH (hx x (by simp [Op.operands])) (fun o ho=>hx o (by simp [Op.operands,ho])) (fun o ho=>hx o (by simp [Op.operands,ho])) (fun o ho=>hx o (by simp [Op.operands,ho])) hn h
 | call c =>
  obtain ⟨callee,args,ts⟩:=c
  cases callee with
  | builtin b =>
   cases b with
   | len=>exact Akg rfl hL hH (fun x hm=>hx x (by simp only [Op.operands,Call.operands];simpa using hm)) hn h
   | _=>cases hst
  | _=>cases hst
 | _=>cases hst
end
end Go.Sx
namespace Go.Sx
open Go.RowKit
theorem On {σ:List (Option Nat)} {H:List Ob}:∀ {τ:List (Option Nat)} {l:List Ob},Dr σ H τ l→∀ i,Ac l i≠.dead →
 (∃ j,Am none τ i=some j∧((∃ cs ds,Ac l i=.cells cs∧Ac H j=.cells ds∧M5 cs ds=Gb σ cs∧cs.length=ds.length)∨(∃ t xs,Ac l i=.rows t xs∧Ac H j=.rows t xs) ∨
   (∃ t xs,Ac l i=.froz t xs∧(Ac H j=.rows t xs∨Ac H j=.froz t xs))∨(∃ t m xss,Ac l i=.grid t m xss∧Ac H j=.grid t m xss) ∨
   ∃ st pe ps x y sl sl',Ac l i=.loop st pe ps x y sl∧Ac H j=.loop st pe ps x y sl'∧M5 sl sl'=Gb σ sl∧sl.length=sl'.length))∨(Am none τ i=none∧∃ t,Ac l i=.rows t [])
 | τ,[],_,i,hne=>absurd (Bs _ (by simp)) hne
 | [],ob :: l,h,i,_=>by cases ob <;> exact h.elim
 | x :: τ,ob :: l,h,i,hne=>by
  have tail:∀ {k},Dr σ H τ l→Ac (ob :: l) (k+1)≠.dead→_:=fun {k} h0 hne=>On (i:=k) h0 hne
  have t0:∀ k,Ac (ob :: l) (k+1)=Ac l k:=fun _=>rfl
  cases i with
  | succ k =>
   have h0:Dr σ H τ l:=by
    cases x <;> cases ob <;> simp only [Dr] at h <;> first | exact h.2 | exact h | exact h.elim
   exact tail h0 hne
  | zero =>
   cases x with
   | none =>
    right
    cases ob with
    | rows t xs=>simp only [Dr] at h;obtain ⟨rfl,_⟩:=h;exact ⟨rfl,t,rfl⟩
    | dead=>exact absurd rfl hne
    | _=>simp only [Dr] at h
   | some j =>
    left
    refine ⟨j,rfl, ?_⟩
    cases ob with
    | dead=>exact absurd rfl hne
    | cells cs =>
     simp only [Dr] at h
     obtain ⟨h1,_⟩:=h
     cases hob:Ac H j with
     | cells ds=>rw [hob] at h1;exact .inl ⟨cs,ds,rfl,rfl,h1⟩
     | _=>rw [hob] at h1;exact h1.elim
    | fmap es=>simp only [Dr] at h
    | rows t xs=>simp only [Dr] at h;exact .inr (.inl ⟨t,xs,rfl,h.1⟩)
    | froz t xs =>
     simp only [Dr] at h
     obtain ⟨h1,_⟩:=h
     refine .inr (.inr (.inl ⟨t,xs,rfl, ?_⟩))
     cases hob:Ac H j with
     | rows t' ys=>rw [hob] at h1;cases h1;exact .inl rfl
     | froz t' ys=>rw [hob] at h1;exact .inr h1
     | _=>rw [hob] at h1;exact h1.elim
    | grid t m xss=>simp only [Dr] at h;exact .inr (.inr (.inr (.inl ⟨t,m,xss,rfl,h.1⟩)))
    | loop st pe ps x y sl =>
     simp only [Dr] at h
     obtain ⟨h1,_⟩:=h
     cases hob:Ac H j with
     | loop st' pe' ps' x' y' sl' =>
      rw [hob] at h1
      obtain ⟨⟨rfl,rfl,rfl,rfl,rfl⟩,h2,h3⟩:=h1
      exact .inr (.inr (.inr (.inr ⟨_,_,_,_,_,_,_,rfl,rfl,h2,h3⟩)))
     | _=>rw [hob] at h1;exact h1.elim
theorem Fv:∀ {τ:List (Option Nat)} {l:List Ob} {seen:List Nat},distinct τ l seen=true→τ.length=l.length ∧
 (∀ i j,Ac l i≠.dead→Am none τ i=some j→j ∉ seen)∧∀ i i' j,Ac l i≠.dead→Ac l i'≠.dead→Am none τ i=some j→Am none τ i'=some j→i=i'
 | [],[],_,_=>⟨rfl,fun i j h=>absurd (Bs _ (by simp)) h,fun i i' j h=>absurd (Bs _ (by simp)) h⟩
 | [],ob :: l,_,h=>by simp [distinct] at h
 | x :: τ,[],_,h=>by cases x <;> simp [distinct] at h
 | none :: τ,ob :: l,seen,h=>by
  simp only [distinct] at h
  obtain ⟨h1,h2,h3⟩:=Fv h
  refine ⟨by simp [h1],fun i j hne hj=>?_,fun i i' j hne hne' hj hj'=>?_⟩
  ·cases i with
   | zero=>cases hj
   | succ i=>exact h2 i j hne hj
  ·cases i with
   | zero=>cases hj
   | succ i =>
    cases i' with
    | zero=>cases hj'
    | succ i'=>exact congrArg (· + 1) (h3 i i' j hne hne' hj hj')
 | some k :: τ,ob :: l,seen,h=>by
  by_cases hd:ob=.dead
  ·subst hd
   simp only [distinct] at h
   obtain ⟨h1,h2,h3⟩:=Fv h
   refine ⟨by simp [h1],fun i j hne hj=>?_,fun i i' j hne hne' hj hj'=>?_⟩
   ·cases i with
    | zero=>exact absurd rfl hne
    | succ i=>exact h2 i j hne hj
   ·cases i with
    | zero=>exact absurd rfl hne
    | succ i =>
     cases i' with
     | zero=>exact absurd rfl hne'
     | succ i'=>exact congrArg (· + 1) (h3 i i' j hne hne' hj hj')
  ·have h':k ∉ seen∧distinct τ l (k :: seen)=true:=by
    cases ob <;> first | exact absurd rfl hd | (simp only [distinct,Bool.and_eq_true,Bool.not_eq_true',List.contains_eq_mem,decide_eq_false_iff_not] at h;exact h)
   obtain ⟨hk,h⟩:=h'
   obtain ⟨h1,h2,h3⟩:=Fv h
   refine ⟨by simp [h1],fun i j hne hj=>?_,fun i i' j hne hne' hj hj'=>?_⟩
   ·cases i with
    | zero=>cases hj;exact hk
    | succ i=>exact fun hm=>h2 i j hne hj (List.mem_cons_of_mem _ hm)
   ·cases i with
    | zero =>
     cases i' with
     | zero=>rfl
     | succ i'=>cases hj;exact absurd (List.mem_cons_self) (h2 i' _ hne' hj')
    | succ i =>
     cases i' with
     | zero=>cases hj';exact absurd (List.mem_cons_self) (h2 i _ hne hj)
     | succ i'=>exact congrArg (· + 1) (h3 i i' j hne hne' hj hj')
theorem Li:∀ {n0 k:Nat} {τ:List (Option Nat)} {l:List Ob},keeps n0 k τ l=true→∀ i,i < n0→Ac l i≠.dead→Am none τ i=some (k+i)
 | 0,_,_,_,_,i,hi,_=>absurd hi (Nat.not_lt_zero i)
 | n0+1,k,τ,[],_,i,_,hne=>absurd (Bs _ (by simp)) hne
 | n0+1,k,[],ob :: l,h,i,_,_=>by simp [keeps] at h
 | n0+1,k,none :: τ,ob :: l,h,i,hi,hne=>by
  simp only [keeps,Bool.and_eq_true] at h
  cases i with
  | zero=>cases ob <;> first | exact absurd rfl hne | (simp at h)
  | succ i =>
   have:=Li h.2 i (by omega) hne
   show Am none τ i=_
   rw [this];congr 1;omega
 | n0+1,k,some j :: τ,ob :: l,h,i,hi,hne=>by
  simp only [keeps,Bool.and_eq_true] at h
  cases i with
  | zero =>
   have:Nat.beq k j=true:=by
    cases ob <;> first | exact absurd rfl hne | exact h.1
   show some j=_
   rw [Nat.eq_of_beq_eq_true this];rfl
  | succ i =>
   have:=Li h.2 i (by omega) hne
   show Am none τ i=_
   rw [this];congr 1;omega
theorem Kn (σ:List (Option Nat)):∀ (l:List AV),(Gb σ l).length=l.length∧∀ i:Nat,(Gb σ l)[i]?=(l[i]?).map (ren σ)
 | []=>⟨rfl,fun i=>by simp [Gb]⟩
 | x :: l=>by
  have ih:=Kn σ l
  refine ⟨by simp [Gb,ih.1],fun i=>?_⟩
  cases i with
  | zero=>simp [Gb]
  | succ i=>simpa [Gb] using ih.2 i
theorem Nc {σ:List (Option Nat)}:∀ {l m c:List AV},l.length=m.length→M5 l m=Gb σ c→l=c→∀ (i:Nat) x y,l[i]?=some x→m[i]?=some y→x=.any∨y=ren σ x∨y=.cap0∧∃ t,x=.sl t []
 | [],m,_,_,_,_,i,x,y,hx,_=>by simp at hx
 | x0 :: l,[],_,h,_,_,i,x,y,_,_=>by simp at h
 | x0 :: l,y0 :: m,_,h,h',rfl,i,x,y,hx,hy=>by
  have hl:l.length=m.length:=by simpa using h
  have hc:(x0=.any∨y0=ren σ x0∨y0=.cap0∧∃ t,x0=.sl t [])∧M5 l m=Gb σ l:=by
   cases x0 with
   | sl t xs =>
    cases y0 with
    | cap0 =>
     simp only [M5,Gb,List.cons.injEq] at h'
     exact ⟨.inr (.inr ⟨rfl,t,h'.1.symm⟩),h'.2⟩
    | _ =>
     simp only [M5,Gb,List.cons.injEq] at h'
     exact ⟨.inr (.inl h'.1),h'.2⟩
   | _=>simp only [M5,Gb,List.cons.injEq] at h' <;> first | exact ⟨.inl rfl,h'.2⟩ | exact ⟨.inr (.inl h'.1),h'.2⟩
  cases i with
  | zero=>cases hx;cases hy;exact hc.1
  | succ i=>exact Nc hl hc.2 rfl i x y (by simpa using hx) (by simpa using hy)
theorem RdA.tup_inv {E:Env} {v:Value} {xs:List AV} (h:RdA E v (.tup xs)):∃ vs:Array Value,v=.tuple vs∧vs.size=xs.length∧∀ (i:Nat) u x,vs[i]?=some u→xs[i]?=some x→RdA E u x :=
 match h with | .tup vs _ h1 h2=>⟨vs,rfl,h1,h2⟩
theorem RdA.bad {E:Env} {v:Value} (h:RdA E v bad):False:=by
 unfold Sx.bad at h
 cases h
 rename_i h
 exact absurd h (by simp [Value.oneCell'])
def Env.retell (E:Env) (σ:List (Option Nat)) (T:List Ob):Env where
 w:=E.w
 B:=E.B
 F0:=E.F0
 ρ:=fun id=>match Am none σ id with | some j=>E.ρ j | none=>none
 L:=fun id=>Ac T id≠.dead
 W:=fun id=>(Ac T id).wr
 A:=fun id=>id < T.length
 K:=fun id=>match Am none σ id with | some j=>E.K j | none=>fun _=>none
 M:=E.M
 Hd:=E.Hd
section
variable {E:Env} {H T:List Ob} {n n0:Nat} {σ:List (Option Nat)}
theorem Bh (hE:EnvOk E H n) (ho:Dr σ H σ T) {id j:Nat} (hne:Ac T id≠.dead) (hj:Am none σ id=some j):E.L j∧((Ac T id).wr→E.W j):=by
 rcases On ho id hne with ⟨j',hj',h⟩ | ⟨hj',_⟩
 ·rw [hj] at hj'
  cases hj'
  rcases h with ⟨cs,ds,h1,h2,_⟩ | ⟨t,xs,h1,h2⟩ | ⟨t,xs,h1,h2⟩ | ⟨t,m,xss,h1,h2⟩ | ⟨_,_,_,_,_,_,_,h1,h2,_⟩
  ·exact ⟨hE.live j (by rw [h2];simp),fun _=>hE.wr j (by rw [h2];trivial)⟩
  ·exact ⟨hE.live j (by rw [h2];simp),fun _=>hE.wr j (by rw [h2];trivial)⟩
  ·refine ⟨hE.live j ?_,fun hw=>?_⟩
   ·rcases h2 with h2 | h2 <;> rw [h2] <;> simp
   ·rw [h1] at hw;exact hw.elim
  ·exact ⟨hE.live j (by rw [h2];simp),fun _=>hE.wr j (by rw [h2];trivial)⟩
  ·exact ⟨hE.live j (by rw [h2];simp),fun _=>hE.wr j (by rw [h2];trivial)⟩
 ·rw [hj] at hj';cases hj'
theorem Ht {id b:Nat} (h:(E.retell σ T).Own id b):∃ j,Am none σ id=some j∧E.Own j b:=by
 rcases h with ⟨hd,hρ,hb⟩ | ⟨i,hd,hK,hb⟩
 ·simp only [Env.retell] at hρ
  split at hρ
  ·rename_i j hj
   exact ⟨j,hj,.inl ⟨hd,hρ,hb⟩⟩
  ·cases hρ
 ·simp only [Env.retell] at hK
  cases hj:Am none σ id with
  | some j=>rw [hj] at hK;exact ⟨j,rfl,.inr ⟨i,hd,hK,hb⟩⟩
  | none=>rw [hj] at hK;cases hK
theorem Lj (hE:EnvOk E H n) (ho:Dr σ H σ T) {b:Nat} (h:E.Nb b):(E.retell σ T).Nb b:=by
 refine ⟨h.1,fun id hW hown=>?_,h.2.2⟩
 have hW':(Ac T id).wr:=hW
 obtain ⟨j,hj,h2⟩:=Ht hown
 exact h.2.1 j ((Bh hE ho (Dd hW') hj).2 hW') h2
theorem Ge (hE:EnvOk E H n) (ho:Dr σ H σ T) {b o:Nat} (h:E.Fz b o):(E.retell σ T).Fz b o:=by
 rcases h with ⟨h1,h2⟩ | ⟨h1,h2⟩
 ·exact .inl ⟨h1,h2⟩
 ·exact .inr ⟨h1,Lj hE ho h2⟩
mutual
theorem U3 (hE:EnvOk E H n) (ho:Dr σ H σ T) (hl:σ.length=T.length):∀ (y:AV) {v:Value},RdA E v (ren σ y)→RdA (E.retell σ T) v y
 | .any,v,_=>.any v
 | .int _ _,v,h=>by rw [show v=_ from RdA.int_inv h];exact .int _ _
 | .bool _,v,h=>by rw [show v=_ from RdA.bool_inv h];exact .bool _
 | .str _,v,h=>by simp only [ren] at h;cases h;exact .str _
 | .val _,v,h=>by simp only [ren] at h;cases h;exact .val _ ‹_›
 | .nils,v,h=>by obtain ⟨_,_,rfl⟩:=RdA.nils_inv h;exact .nils _ _
 | .cap0,v,h=>by obtain ⟨_,rfl⟩:=RdA.cap0_inv h;exact .cap0 _
 | .sl t xs,v,h=>.sl _ _ _ ((RdA.sl_inv h).monoF fun b o hb=>Ge hE ho hb)
 | .eptr cs,v,h=>by
  simp only [ren] at h
  cases h
  rename_i b o g hcell hrd
  exact .eptr b o cs g (fun j hj=>⟨Ge hE ho (hcell j hj).1,(hcell j hj).2⟩) (fun j p hp=>(hrd j p hp).monoF fun b o hb=>Ge hE ho hb)
 | .ptr id off,v,h=>by
  simp only [ren] at h
  split at h
  ·rename_i j hj
   obtain ⟨h1,h2,h3⟩:=h.ptr_inv
   have hlt:id < T.length:=by
    rcases Nat.lt_or_ge id σ.length with h | h
    ·omega
    ·rw [Bs _ h] at hj;cases hj
   refine .ptr _ id off hlt h2 fun hl=>?_
   obtain ⟨hd,h4,h5⟩:=h3 (Bh hE ho hl hj).1
   exact ⟨hd,by simp only [Env.retell,hj];exact h4,h5⟩
  ·exact h.bad.elim
 | .rptr id k row off,v,h=>by
  simp only [ren] at h
  split at h
  ·rename_i j hj
   obtain ⟨h1,h2,h3⟩:=h.rptr_inv
   have hlt:id < T.length:=by
    rcases Nat.lt_or_ge id σ.length with h | h
    ·omega
    ·rw [Bs _ h] at hj;cases hj
   refine .rptr _ id k row off hlt h2 fun hl=>?_
   obtain ⟨hd,h4,h5⟩:=h3 (Bh hE ho hl hj).1
   exact ⟨hd,by simp only [Env.retell,hj];exact h4,h5⟩
  ·exact h.bad.elim
 | .own id,v,h=>by
  simp only [ren] at h
  split at h
  ·rename_i hlt
   have hlt':id < T.length:=by rw [← hl];exact Nat.le_of_ble_eq_true hlt
   split at h
   ·rename_i j hj
    obtain ⟨h1,h2,h3⟩:=h.own_inv
    refine .own _ id hlt' h2 fun hl=>?_
    have:=h3 (Bh hE ho hl hj).1
    simp only [Env.retell,hj];exact this
   ·rename_i hj
    obtain ⟨ba,rfl⟩:=RdA.cap0_inv h
    refine .own _ id hlt' rfl fun _=>?_
    simp only [Env.retell,hj]
    exact ⟨ba,rfl⟩
  ·exact h.bad.elim
 | .ownp id k lo m,v,h=>by
  simp only [ren] at h
  split at h
  ·rename_i j hj
   obtain ⟨h1,h2,h3⟩:=h.ownp_inv
   have hlt:id < T.length:=by
    rcases Nat.lt_or_ge id σ.length with h | h
    ·omega
    ·rw [Bs _ h] at hj;cases hj
   refine .ownp _ id k lo m hlt h2 fun hl=>?_
   have:=h3 (Bh hE ho hl hj).1
   simp only [Env.retell,hj];exact this
  ·exact h.bad.elim
 | .mp id,v,h=>by
  simp only [ren] at h
  split at h
  ·rename_i j hj
   obtain ⟨h1,h2,h3⟩:=h.mp_inv
   have hlt:id < T.length:=by
    rcases Nat.lt_or_ge id σ.length with h | h
    ·omega
    ·rw [Bs _ h] at hj;cases hj
   refine .mp _ id hlt h2 fun hl=>?_
   have:=h3 (Bh hE ho hl hj).1
   simp only [Env.retell,hj];exact this
  ·exact h.bad.elim
 | .fn f a b,v,h=>by
  simp only [ren] at h
  obtain ⟨vs,ws,rfl,h1,h2,h3,h4⟩:=Yu h
  have ga:=Kn σ a
  have gb:=Kn σ b
  exact .fn f vs ws a b (by rw [h1,ga.1]) (by rw [h2,gb.1]) (fun i u x hu hx=>Nd hE ho hl a i u x hx (h3 i u _ hu (by rw [ga.2,hx];rfl)))
   (fun i u x hu hx=>Nd hE ho hl b i u x hx (h4 i u _ hu (by rw [gb.2,hx];rfl)))
 | .agg cs,v,h=>by
  simp only [ren] at h
  obtain ⟨vs,rfl,h1,h2,h3⟩:=h.agg_inv
  have g:=Kn σ cs
  exact .agg vs cs (by rw [h1,g.1]) h2 (fun i u x hu hx=>Nd hE ho hl cs i u x hx (h3 i u _ hu (by rw [g.2,hx];rfl)))
 | .tup cs,v,h=>by
  simp only [ren] at h
  obtain ⟨vs,rfl,h1,h3⟩:=h.tup_inv
  have g:=Kn σ cs
  exact .tup vs cs (by rw [h1,g.1]) (fun i u x hu hx=>Nd hE ho hl cs i u x hx (h3 i u _ hu (by rw [g.2,hx];rfl)))
 | .when _ _ _ _,v,h=>by simp only [ren] at h;exact h.bad.elim
 | .rnd _,v,h=>by simp only [ren] at h;exact h.bad.elim
 | .dmp es,v,h=>by
  show RdA _ v (.dmp es)
  cases h with
  | dmp b _ ms clock hB hb hh hsz hes=>exact .dmp b es ms clock hB (Lj hE ho hb) hh hsz hes
 | .slf t xs,v,h=>by
  simp only [ren] at h
  obtain ⟨⟨ba,rfl⟩,h2⟩:=h.slf_inv
  exact .slf t xs ba (h2.monoF fun b o hb=>Ge hE ho hb)
 | .yld id,v,h=>by
  simp only [ren] at h
  split at h
  ·rename_i j hj
   obtain ⟨h1,h2,h3⟩:=h.yld_inv
   have hlt:id < T.length:=by
    rcases Nat.lt_or_ge id σ.length with h | h
    ·omega
    ·rw [Bs _ h] at hj;cases hj
   refine .yld _ id hlt h2 fun hl=>?_
   have:=h3 (Bh hE ho hl hj).1
   simp only [Env.retell,hj];exact this
  ·exact h.bad.elim
 | .grow id i,v,h=>by
  simp only [ren] at h
  split at h
  ·rename_i j hj
   obtain ⟨h1,h2,h3⟩:=h.grow_inv
   have hlt:id < T.length:=by
    rcases Nat.lt_or_ge id σ.length with h | h
    ·omega
    ·rw [Bs _ h] at hj;cases hj
   refine .grow _ id i hlt h2 fun hl=>?_
   have:=h3 (Bh hE ho hl hj).1
   simp only [Env.retell,hj];exact this
  ·exact h.bad.elim
 | .gptr id i k,v,h=>by
  simp only [ren] at h
  split at h
  ·rename_i j hj
   obtain ⟨h1,h2,h3⟩:=h.gptr_inv
   have hlt:id < T.length:=by
    rcases Nat.lt_or_ge id σ.length with h | h
    ·omega
    ·rw [Bs _ h] at hj;cases hj
   refine .gptr _ id i k hlt h2 fun hl=>?_
   have:=h3 (Bh hE ho hl hj).1
   simp only [Env.retell,hj];exact this
  ·exact h.bad.elim
 | .csl t id m,v,h=>by
  simp only [ren] at h
  split at h
  ·rename_i j hj
   obtain ⟨h1,h2,h3⟩:=h.csl_inv
   have hlt:id < T.length:=by
    rcases Nat.lt_or_ge id σ.length with h | h
    ·omega
    ·rw [Bs _ h] at hj;cases hj
   refine .csl _ t id m hlt h2 fun hl=>?_
   have:=h3 (Bh hE ho hl hj).1
   simp only [Env.retell,hj];exact this
  ·exact h.bad.elim
 | .ownc id k lo m,v,h=>by
  simp only [ren] at h
  split at h
  ·rename_i j hj
   obtain ⟨h1,h2,h3⟩:=h.ownc_inv
   have hlt:id < T.length:=by
    rcases Nat.lt_or_ge id σ.length with h | h
    ·omega
    ·rw [Bs _ h] at hj;cases hj
   refine .ownc _ id k lo m hlt h2 fun hl=>?_
   have:=h3 (Bh hE ho hl hj).1
   simp only [Env.retell,hj];exact this
  ·exact h.bad.elim
theorem Nd (hE:EnvOk E H n) (ho:Dr σ H σ T) (hl:σ.length=T.length):∀ (l:List AV) (i:Nat) (u:Value) (x:AV),l[i]?=some x→RdA E u (ren σ x)→RdA (E.retell σ T) u x
 | [],i,u,x,hx,_=>by simp at hx
 | y :: l,0,u,x,hx,h=>by
  have:y=x:=by simpa using hx
  subst this
  exact U3 hE ho hl y h
 | y :: l,i+1,u,x,hx,h=>Nd hE ho hl l i u x (by simpa using hx) h
end
theorem Oo {a:Act} {sl:List AV} {S:St} (hE:EnvOk E H n) (hs:SlOk E a sl) (h:Iy n0 σ sl H n S) :
 EnvOk (E.retell σ S.H) S.H S.n∧SlOk (E.retell σ S.H) a S.sl∧Evo n0 E (E.retell σ S.H)∧n0≤S.n:=by
 obtain ⟨T,TH,m⟩:=S
 obtain ⟨h1,h2,ho,h4⟩:=h
 simp only at h1 h2 ho h4 ⊢
 simp only [Bool.and_eq_true] at h4
 obtain ⟨⟨⟨⟨h5,h6⟩,h7⟩,h8⟩,h9⟩:=h4
 have h7':=Nat.eq_of_beq_eq_true h7
 subst h7'
 have h8':=Nat.le_of_ble_eq_true h8
 obtain ⟨d1,d2,d3⟩:=Fv h5
 have evo:Evo n0 E (E.retell σ TH):=by
  refine ⟨rfl,rfl,rfl,Below.refl _ _,fun id hi _=>Nat.lt_of_lt_of_le hi h8',fun id hi ha hl=>?_,fun id hi ha hl i o hio=>?_,fun b hb=>⟨Lj hE ho hb,rfl⟩,rfl,fun _ _=>rfl⟩
  ·have hj:=Li h6 id hi hl
   rw [Nat.zero_add] at hj
   exact ⟨(Bh hE ho hl hj).1,by simp only [Env.retell,hj]⟩
  ·have hj:=Li h6 id hi hl
   rw [Nat.zero_add] at hj
   simp only [Env.retell,hj];exact hio
 refine ⟨?_, ?_, ?_,h8'⟩
 ·refine ⟨rfl,fun id h=>h,fun id h=>h,fun id h=>h, ?_,fun id h=>Cd h,fun id h=>Dd h, ?_, ?_,hE.f0,hE.B,fun id b hl ho1=>(Ht ho1).elim fun j hj=>hE.hid j b (Bh hE ho hl hj.1).1 hj.2,hE.hlt⟩
  ·intro id hl hne
   rcases On ho id hne with ⟨j,hj,h⟩ | ⟨hj,t,h⟩
   ·have hρ:(E.retell σ TH).ρ id=E.ρ j:=by simp only [Env.retell,hj]
    have hK:(E.retell σ TH).K id=E.K j:=by simp only [Env.retell,hj]
    rcases h with ⟨cs,ds,g1,g2,g3,g4⟩ | ⟨t,xs,g1,g2⟩ | ⟨t,xs,g1,g2⟩ | ⟨t,mo,xss,g1,g2⟩ | ⟨st,pe,ps,x,y,sl1,sl2,g1,g2,g3,g4⟩
    rotate_left 3
    ·rw [g1]
     have hok:=hE.ok j (hE.live j (by rw [g2];simp)) (by rw [g2];simp)
     rw [g2] at hok
     obtain ⟨hd,k1,k2⟩:=hok
     refine ⟨hd,hρ.trans k1, ?_⟩
     rw [hK]
     exact k2.mono (fun b o hb=>⟨Ge hE ho hb,rfl⟩) rfl (fun _ _ _=>rfl)
    ·rw [g1]
     have hok:=hE.ok j (hE.live j (by rw [g2];simp)) (by rw [g2];simp)
     rw [g2] at hok
     obtain ⟨hd,k1,r,k2,k3,k4,k5,k6,k7,k8,k9⟩:=hok
     refine ⟨hd,hρ.trans k1,r,k2,k3,k4,k5,k6,k7,by rw [k8,g4],fun i v s hv hs=>?_⟩
     have hlt:i < sl2.length:=by rw [← g4];exact (List.getElem?_eq_some_iff.1 hs).1
     have k10:=k9 i v _ hv (List.getElem?_eq_getElem hlt)
     rcases Nc g4 g3 rfl i s _ hs (List.getElem?_eq_getElem hlt) with rfl | hr | ⟨hr,t,rfl⟩
     ·exact .any _
     ·rw [hr] at k10
      exact U3 hE ho d1 s k10
     ·rw [hr] at k10
      obtain ⟨a',rfl⟩:=k10.cap0_inv
      exact .sl _ _ _ (.sl0 _ _ _)
    ·rw [g1]
     have hok:=hE.ok j (hE.live j (by rw [g2];simp)) (by rw [g2];simp)
     rw [g2] at hok
     obtain ⟨hd,k1,arr,el,k2,k3,k4⟩:=hok
     refine ⟨hd,hρ.trans k1,arr,el,k2,by rw [k3,g4],fun i v x hv hx=>?_⟩
     have hlt:i < ds.length:=by rw [← g4];exact (List.getElem?_eq_some_iff.1 hx).1
     obtain ⟨k5,k6⟩:=k4 i v _ hv (List.getElem?_eq_getElem hlt)
     refine ⟨k5, ?_⟩
     rcases Nc g4 g3 rfl i x _ hx (List.getElem?_eq_getElem hlt) with rfl | hr | ⟨hr,t,rfl⟩
     rotate_left 2
     ·rw [hr] at k6
      obtain ⟨a',rfl⟩:=k6.cap0_inv
      exact .sl _ _ _ (.sl0 _ _ _)
     ·exact .any _
     ·rw [hr] at k6
      exact U3 hE ho d1 x k6
    ·rw [g1]
     have hok:=hE.ok j (hE.live j (by rw [g2];simp)) (by rw [g2];simp)
     rw [g2] at hok
     have hrow:RowsAt E t xs (E.ρ j):=hok
     show RowsAt _ t xs _
     rw [hρ]
     exact RowsAt.mono (fun b o hb=>⟨Ge hE ho hb,rfl⟩) (fun _ _=>rfl) hrow
    ·rw [g1]
     have hrow:RowsAt E t xs (E.ρ j):=by
      rcases g2 with g2 | g2
      ·have hok:=hE.ok j (hE.live j (by rw [g2];simp)) (by rw [g2];simp)
       rw [g2] at hok
       exact hok
      ·have hok:=hE.ok j (hE.live j (by rw [g2];simp)) (by rw [g2];simp)
       rw [g2] at hok
       exact hok
     show RowsAt _ t xs _
     rw [hρ]
     exact RowsAt.mono (fun b o hb=>⟨Ge hE ho hb,rfl⟩) (fun _ _=>rfl) hrow
   ·rw [h]
    show RowsAt _ t [] _
    have hρ:(E.retell σ TH).ρ id=none:=by simp only [Env.retell,hj]
    rw [hρ]
    rfl
  ·intro id id' b hl hl' ho1 ho2
   obtain ⟨j,hj,k1⟩:=Ht ho1
   obtain ⟨j',hj',k2⟩:=Ht ho2
   have e:=hE.injO j j' b (Bh hE ho hl hj).1 (Bh hE ho hl' hj').1 k1 k2
   subst e
   exact d3 id id' j hl hl' hj hj'
  ·intro id b hl ho1
   obtain ⟨j,hj,k1⟩:=Ht ho1
   exact hE.ltO j b (Bh hE ho hl hj).1 k1
 ·have key:∀ t x,T[t]?=some x→x=.any∨RdA E (a.eval (.tmp t)) (ren σ x):=by
   intro t x hx
   have hlt:t < sl.length:=by rw [← h2];exact (List.getElem?_eq_some_iff.1 hx).1
   have hy:=List.getElem?_eq_getElem hlt
   rcases Nc h2 h1 rfl t x _ hx hy with h | h | ⟨h,t',rfl⟩
   rotate_left 2
   ·right
    have:=hs.rd t
    rw [Bg,hy] at this
    simp only [Option.getD_some] at this
    rw [h] at this
    obtain ⟨a',ha'⟩:=this.cap0_inv
    rw [ha']
    exact .sl _ _ _ (.sl0 _ _ _)
   ·exact .inl h
   ·right
    have:=hs.rd t
    rw [Bg,hy] at this
    rw [← h];exact this
  refine ⟨by rw [hs.size,h2],fun t=>?_,fun t c s w v ht=>?_,hs.defers.mono evo⟩
  ·cases hx:T[t]? with
   | none=>rw [Bg,hx];exact .any _
   | some x =>
    rw [Bg,hx]
    rcases key t x hx with rfl | h
    ·exact .any _
    ·exact U3 hE ho d1 x h
  ·rcases key t _ ht with h | h
   ·cases h
   ·simp only [ren] at h
    exact h.bad.elim
 ·exact evo
theorem Yx {a:Act} {sl:List AV} {S:St} (hE:EnvOk E H n) (hs:SlOk E a sl) (h:Iy n0 σ sl H n S) :
 ∃ E',E'.w=E.w∧EnvOk E' S.H S.n∧SlOk E' a S.sl∧Evo n0 E E'∧n0≤S.n∧(∀ id,E'.L id↔Ac S.H id≠.dead)∧(∀ id,E'.W id↔(Ac S.H id).wr)∧∀ id,E'.A id↔id < S.H.length:=by
 obtain ⟨h1,h2,h3,h4⟩:=Oo hE hs h
 exact ⟨E.retell σ S.H,rfl,h1,h2,h3,h4,fun _=>Iff.rfl,fun _=>Iff.rfl,fun _=>Iff.rfl⟩
end
end Go.Sx
namespace Go.Sx
open Go.RowKit
def Wq (P:Program) (cx:Ctx):Prop :=
 ∀ (ro:Option Nat) (opsA:Array Oper) (id:Nat) (E:Env) (a:Act) (sl:List AV) (H:List Ob) (n:Nat) (K:Ka) (Q:Exit→Act→World→Prop),EnvOk E H n→SlOk E a sl →
  (P.follows .mixedOrders && Qx opsA.toList 0 (Gq opsA.toList))=true→K0 cx P opsA.toList (Gq opsA.toList) 0 [] [] sl H n K →
  (∀ E' a' sl' H' n',K sl' H' n'→EnvOk E' H' n'→SlOk E' a' sl'→Evo n E E'→n≤n'→Q .normal a' E'.w)→(Code.region id opsA true).wpI ro P Q a E.w
def Wr (P:Program) (cx:Ctx):Prop :=
 ∀ (call:CallSem),A7 P call→∀ (ro:Option Nat) (opsA:Array Oper) (id:Nat) (E:Env) (a:Act) (sl:List AV) (H:List Ob) (n:Nat) (K:Ka) (Q:Exit→Act→World→Prop),EnvOk E H n→SlOk E a sl →
  (P.follows .mixedOrders && Aib opsA.toList)=true→N9 cx P call opsA.toList (Yk opsA.toList) sl H n K →
  (∀ E' a' sl' H' n',K sl' H' n'→EnvOk E' H' n'→SlOk E' a' sl'→Evo n E E'→n≤n'→Q .normal a' E'.w)→(Code.region id opsA true).wpI ro P Q a E.w
def Lk (P:Program) (cx:Ctx):Prop:=Wq P cx∧Wr P cx
def Aot:Ex→Exit
 | .normal=>.normal
 | .ret=>.ret
 | .exit n=>.exit n
theorem Fw (sl:List AV) (t:Nat):Am .any (sl.map noW) t=noW (Am .any sl t):=by
 rw [Bg,Bg,List.getElem?_map]
 cases sl[t]? <;> rfl
theorem SlOk.noW {E:Env} {a:Act} {sl:List AV} (h:SlOk E a sl):SlOk E a (sl.map Sx.noW):=by
 refine ⟨by rw [List.length_map];exact h.size,fun t=>?_,fun t c s w v ht=>?_,h.defers⟩
 ·rw [Fw];exact Fd (h.rd t)
 ·rw [List.getElem?_map,Option.map_eq_some_iff] at ht
  obtain ⟨x,_,hx⟩:=ht
  exact absurd hx (G1 _ _ _ _ _)
theorem U4 {E:Env} {a:Act} {sl:List AV} (hs:SlOk E a sl) (x:Operand):RdA E (a.eval x) (ev sl x):=by
 cases x with
 | tmp t=>exact hs.rd t
 | const v=>exact Hq v
 | global g=>exact .any _
 | func f=>exact .fn _ _ _ _ _ rfl rfl (fun i v x hv _=>by simp at hv) (fun i v x hv _=>by simp at hv)
section
variable {P:Program} {E:Env} {H:List Ob} {n:Nat}
theorem Ju {B l:Nat} {w:World} {o:Obj} (h:B≤l):Below B w (w.putObj l o) :=
 ⟨rfl,rfl,rfl,by simp,fun k hk=>World.putObj_heap_other (by omega)⟩
theorem Re {id:Nat} {st st':LoopState} {pe pe':Jump} {ps:List Nat} {x y:Code} {sl:List AV} {hd:Hdr} {r r':Loop} (hE:EnvOk E H n) (hob:Ac H id=.loop st pe ps x y sl) (hρ:E.ρ id=some hd) (hr:E.w.heap[hd.blk]?=some (.loop r))
 (h1:r'.state=st') (h2:r'.pending=Fs pe') (h3:r'.params=r.params) (h4:r'.assign=r.assign) (h5:r'.body=r.body) (h6:r'.tmps=r.tmps) :
 ∃ E',E'.w=E.w.putObj hd.blk (.loop r')∧EnvOk E' (Bo (.loop st' pe' ps x y sl) H id) n∧∀ k,Evo k E E':=by
 have hne:Ac H id≠.dead:=by rw [hob];simp
 have hW:E.W id:=hE.wr id (by rw [hob];trivial)
 have hl:=hE.live id hne
 have hlt:=hE.lt id hd hl hρ
 let res:Res:=⟨none,none,.any,[],none,some (id,.loop st' pe' ps x y sl),[]⟩
 have hs:Step E n res (E.w.putObj hd.blk (.loop r')) (fun _=>none):=by
  refine ⟨Ju hlt.1,fun b hb hno=>World.putObj_heap_other fun e=>hno id hW (.inr rfl) (.inl ⟨hd,hρ,e.symm⟩), ?_, ?_,fun i hi=>(by cases hi),fun p hp=>(by cases hp;exact hW)⟩
  ·intro j h hj;simp [res] at hj
  ·intro j j' h h' hj;simp [res] at hj
 have hready:Ready E n res.news.length:=hE.ready _
 obtain ⟨N,hN⟩:=hE.fin
 have hx:=hs.ext (wn:=U2 n res) hready ⟨N,hN⟩ (fun _ j ob hj=>by simp [res] at hj) (fun hevo i ob hi=>by
  cases hi
  have hok:=hE.ok id hl hne
  rw [hob] at hok
  obtain ⟨hd',k1,r0,k2,k3,k4,k5,k6,k7,k8,k9⟩:=hok
  rw [hρ] at k1;cases k1
  rw [hr] at k2;cases k2
  refine ⟨hd, ?_,r',World.putObj_heap_same hlt.2,h1,h2,by rw [h3];exact k5,h4.trans k6,h5.trans k7,by rw [h6];exact k8,fun i v s hv hs=>?_⟩
  ·simp only [Env.ext];rw [if_neg (by simp [res])];exact hρ
  ·rw [h6] at hv
   exact (k9 i v s hv hs).mono (hevo N) hN)
 have ht:TurnOk E H res:=⟨fun i hi=>(by cases hi),fun p hp=>(by cases hp;exact ⟨hE.sub id hl,by rw [hob];trivial⟩)⟩
 have:=hE.step hx ht
 refine ⟨_,rfl, ?_,hx.evo⟩
 simpa [Res.heap,res,stH,Ia,Fq] using this
theorem Ae3 {id:Nat} {st:LoopState} {pe:Jump} {ps:List Nat} {x y:Code} {sl:List AV} {hd:Hdr} (hE:EnvOk E H n) (hob:Ac H id=.loop st pe ps x y sl) (hst:st≠.busy) (hρ:E.ρ id=some hd) :
 ∃ E',(Instr.endLoop hd.blk).run P E.w=.ok (Fs pe) E'.w∧EnvOk E' (Bo .dead H id) n∧∀ k,Evo k E E':=by
 have hne:Ac H id≠.dead:=by rw [hob];simp
 have hW:E.W id:=hE.wr id (by rw [hob];trivial)
 have hl:=hE.live id hne
 have hlt:=hE.lt id hd hl hρ
 have hok:=hE.ok id hl hne
 rw [hob] at hok
 obtain ⟨hd',k1,r,k2,k3,k4,_⟩:=hok
 rw [hρ] at k1;cases k1
 let res:Res:=⟨none,none,.any,[],some id,none,[]⟩
 have hs:Step E n res (E.w.putObj hd.blk (.loop { r with state:=.exhausted })) (fun _=>none):=by
  refine ⟨Ju hlt.1,fun b hb hno=>World.putObj_heap_other fun e=>hno id hW (.inl rfl) (.inl ⟨hd,hρ,e.symm⟩), ?_, ?_,fun i hi=>(by cases hi;exact hW),fun p hp=>(by cases hp)⟩
  ·intro j h hj;simp [res] at hj
  ·intro j j' h h' hj;simp [res] at hj
 have hready:Ready E n res.news.length:=hE.ready _
 have hx:=hs.ext (wn:=U2 n res) hready hE.fin (fun _ j ob hj=>by simp [res] at hj) (fun hevo i ob hi=>by cases hi)
 have ht:TurnOk E H res:=⟨fun i hi=>(by cases hi;exact ⟨hE.sub id hl,by rw [hob];trivial⟩),fun p hp=>(by cases hp)⟩
 have:=hE.step hx ht
 refine ⟨_, ?_, ?_,hx.evo⟩
 ·rw [← k4]
  exact run_endLoop (P:=P) k2 (by rw [k3];exact hst)
 ·simpa [Res.heap,res,stH,Ia,Fq] using this
theorem Ae4 {a:Act} {sl:List AV} {ps:Array Tmp} {x y:Code} (hE:EnvOk E H n) (hs:SlOk E a sl) (fn:FuncId) :
 ∃ E',E'.w=(E.w.alloc (.deferred (some []))).alloc (.loop { state:=.ready,pending:=none,fn,tmps:=a.tmps,params:=ps,assign:=x,body:=y,defers:=E.w.heap.size }) ∧
  EnvOk E' (H++[.loop .ready .no ps.toList x y sl]) (n+1)∧(∀ k,Evo k E E')∧E'.L n∧E'.A n∧E'.ρ n=some ⟨E.w.heap.size+1,0,0,0⟩∧(E.M≤E.w.heap.size→Marks E' ({ target:=.collected E.w.heap.size,args:=#[] } :: a.defers)):=by
 obtain ⟨rec,hrec⟩ : ∃ rec:Loop,rec={ state:=.ready,pending:=none,fn,tmps:=a.tmps,params:=ps,assign:=x,body:=y,defers:=E.w.heap.size }:=⟨_,rfl⟩
 rw [← hrec]
 obtain ⟨w1,hw1⟩ : ∃ w1,(E.w.alloc (.deferred (some []))).alloc (.loop rec)=w1:=⟨_,rfl⟩
 rw [hw1]
 have hB0:Below E.w.heap.size E.w w1:=by
  rw [← hw1]
  exact ((Below.refl _ E.w).alloc (Nat.le_refl _) _).alloc (by simp) _
 have hsz:w1.heap.size=E.w.heap.size+2:=by rw [← hw1];simp
 have hat:w1.heap[E.w.heap.size+1]?=some (.loop rec):=by
  rw [← hw1];have:=World.alloc_heap_new (E.w.alloc (.deferred (some []))) (.loop rec);rwa [World.size_alloc] at this
 have hdf:w1.heap[E.w.heap.size]?=some (.deferred (some [])):=by
  rw [← hw1];exact (Below.heap_alloc _ _ _ (by simp)).trans (World.alloc_heap_new E.w _)
 let res:Res:=⟨none,none,.any,[.loop .ready .no ps.toList x y sl],none,none,[]⟩
 have hst:Step E n res w1 (fun _=>some ⟨E.w.heap.size+1,0,0,0⟩):=by
  refine ⟨hB0.mono hE.B,fun b hb _=>hB0.block b hb, ?_, ?_,fun i hi=>(by cases hi),fun p hp=>(by cases hp)⟩
  ·intro j h _ hj;cases hj;exact ⟨by show E.w.heap.size+1 < _;omega,.inl (by show E.w.heap.size≤E.w.heap.size+1;omega)⟩
  ·intro j j' h h' hj hj' _ _ hne
   simp [res] at hj hj'
   omega
 have hready:Ready E n res.news.length:=hE.ready _
 obtain ⟨N,hN⟩:=hE.fin
 have hx:=hst.ext (wn:=U2 n res) hready ⟨N,hN⟩ (fun hevo j ob hj=>by
  match j,hj with
  | 0,hj =>
   cases hj
   refine ⟨⟨E.w.heap.size+1,0,0,0⟩,by simp [Env.ext,res],rec,hat,by rw [hrec],by rw [hrec];rfl,by rw [hrec],by rw [hrec],by rw [hrec],by rw [hrec];exact hs.size,fun i v s hv hsl=>?_⟩
   refine RdA.mono (hevo N) hN ?_
   have:=hs.rd i
   rw [hrec] at hv
   have e1:a.eval (.tmp i)=v:=by
    have hv':a.tmps[i]?=some v:=hv
    simp [Act.eval,Array.getD_eq_getD_getElem?,hv']
   rw [e1,Bg,hsl] at this
   exact this) (fun hevo i ob hi=>by cases hi)
 have ht:TurnOk E H res:=⟨fun i hi=>(by cases hi),fun p hp=>(by cases hp)⟩
 have hE1:=hE.step hx ht
 refine ⟨_,rfl, ?_,hx.evo,(hx.L n).2 (.inr ⟨Nat.le_refl _,by simp [res]⟩),(hx.A n).2 (.inr ⟨Nat.le_refl _,by simp [res]⟩),by simp [Env.ext,res],fun hM=>?_⟩
 ·simpa [Res.heap,res,stH,Ia,Fq] using hE1
 ·have hm:=hs.defers.mono (hx.evo 0)
  refine ⟨fun d hd=>?_, ?_⟩
  ·rcases List.mem_cons.1 hd with rfl | hd
   ·refine ⟨E.w.heap.size,rfl,hM,⟨by show E.w.heap.size < w1.heap.size;omega,fun id hW ho=>?_,fun hh=>Nat.lt_irrefl _ (hE.hlt _ hh)⟩,hdf⟩
    rcases Env.ext_own ho with ⟨_,h,hh,hb⟩ | ⟨hid,ho⟩
    ·cases hh
     have:E.w.heap.size+1=E.w.heap.size:=hb
     omega
    ·rcases hW with ⟨hW,_⟩ | ⟨g1,g2,_⟩
     ·have:=(hE.ltO id _ (hE.wl id hW) ho).2
      omega
     ·exact hid ⟨g1,g2⟩
   ·exact hm.each d hd
  ·refine List.pairwise_cons.2 ⟨fun d hd=>?_,hs.defers.two⟩
   obtain ⟨b,h1,h2,h3,h4⟩:=hs.defers.each d hd
   rw [h1]
   intro e
   cases e
   have:=h3.1
   omega
end
section
variable {P:Program} {cx:Ctx} {call:CallSem} {n0:Nat}
theorem G6 (hcx:Ah P cx) (hdraw:Lk P cx) (hcall:A7 P call) (ro:Option Nat):∀ (c:Code) {sl:List AV} {H:List Ob} {n:Nat} {K:Ex→Ka} {E:Env} {a:Act} {Q:Exit→Act→World→Prop},EnvOk E H n→SlOk E a sl→n0≤n→(ro=none→E.M≤E.w.heap.size) →
 (ro=none∨B6 cx c=true)→H6 cx P call n0 c sl H n K→(∀ e E' a' sl' H' n',K e sl' H' n'→EnvOk E' H' n'→SlOk E' a' sl'→Evo n0 E E'→n0≤n'→Q (Aot e) a' E'.w)→c.wpI ro P Q a E.w
 | .skip,sl,H,n,K,E,a,Q,hE,hs,hn,hM,hro,h,hK=>wpIn_skip (hK .normal E a sl H n h hE hs (Evo.refl _ _) hn)
 | .ret,sl,H,n,K,E,a,Q,hE,hs,hn,hM,hro,h,hK=>wpIn_ret (hK .ret E a sl H n h hE hs (Evo.refl _ _) hn)
 | .exit m,sl,H,n,K,E,a,Q,hE,hs,hn,hM,hro,h,hK=>wpIn_exit (hK (.exit m) E a sl H n h hE hs (Evo.refl _ _) hn)
 | .region id ops false,sl,H,n,K,E,a,Q,hE,hs,hn,hM,hro,h,hK=>by
  simp only [H6] at h
  refine wpIn_region_list (Tf hcx hcall ops.toList hE hs h fun E' a' sl' H' n' hk hE' hs' hevo hn'=>?_)
  rw [Ib] at hk
  exact hK .normal E' a' _ H' n' hk hE' hs'.noW (hevo.mono hn) (Nat.le_trans hn hn')
 | .region id ops true,sl,H,n,K,E,a,Q,hE,hs,hn,hM,hro,h,hK=>by
  simp only [H6,V9] at h
  split at h
  ·refine hdraw.2 call hcall ro ops id E a sl H n _ Q hE hs h.1 h.2 fun E' a' sl' H' n' hk hE' hs' hevo hn'=>?_
   rw [Ib] at hk
   exact hK .normal E' a' _ H' n' hk hE' hs'.noW (hevo.mono hn) (Nat.le_trans hn hn')
  ·refine hdraw.1 ro ops id E a sl H n _ Q hE hs h.1 h.2 fun E' a' sl' H' n' hk hE' hs' hevo hn'=>?_
   rw [Ib] at hk
   exact hK .normal E' a' _ H' n' hk hE' hs'.noW (hevo.mono hn) (Nat.le_trans hn hn')
 | .seq x y,sl,H,n,K,E,a,Q,hE,hs,hn,hM,hro,h,hK=>by
  simp only [H6] at h
  have hro1:ro=none∨B6 cx x=true:=hro.imp id fun h=>by simp only [B6,Bool.and_eq_true] at h;exact h.1
  have hro2:ro=none∨B6 cx y=true:=hro.imp id fun h=>by simp only [B6,Bool.and_eq_true] at h;exact h.2
  refine wpIn_seq (G6 hcx hdraw hcall ro x hE hs hn hM hro1 h fun e E' a' sl' H' n' hk hE' hs' hevo hn'=>?_)
  cases e with
  | normal =>
   exact G6 hcx hdraw hcall ro y hE' hs' hn' (fun hr=>by rw [hevo.M];exact Nat.le_trans (hM hr) hevo.below.size) hro2 hk fun e E'' a'' sl'' H'' n'' hk' hE'' hs'' hevo' hn''=>hK e E'' a'' sl'' H'' n'' hk' hE'' hs'' (hevo.trans hevo') hn''
  | ret=>exact hK .ret E' a' sl' H' n' hk hE' hs' hevo hn'
  | exit m=>exact hK (.exit m) E' a' sl' H' n' hk hE' hs' hevo hn'
 | .cond c x y,sl,H,n,K,E,a,Q,hE,hs,hn,hM,hro,h,hK=>by
  simp only [H6] at h
  have hro1:ro=none∨B6 cx x=true:=hro.imp id fun h=>by simp only [B6,Bool.and_eq_true] at h;exact h.1
  have hro2:ro=none∨B6 cx y=true:=hro.imp id fun h=>by simp only [B6,Bool.and_eq_true] at h;exact h.2
  have hv:=U4 hs c
  split at h
  ·rename_i q hq
   rw [hq] at hv
   refine wpIn_cond_split hv.bool_inv (fun ht=>G6 hcx hdraw hcall ro x hE hs hn hM hro1 (h.1 ht) hK) (fun hf=>G6 hcx hdraw hcall ro y hE hs hn hM hro2 (h.2 hf) hK)
  ·exact h.elim
 | .block id x,sl,H,n,K,E,a,Q,hE,hs,hn,hM,hro,h,hK=>by
  simp only [H6] at h
  refine wpIn_block (G6 hcx hdraw hcall ro x hE hs hn hM (hro.imp (fun h=>h) fun h=>by simpa only [B6] using h) h fun e E' a' sl' H' n' hk hE' hs' hevo hn'=>?_)
  cases e with
  | normal=>exact hK .normal E' a' sl' H' n' hk hE' hs' hevo hn'
  | ret=>exact hK .ret E' a' sl' H' n' hk hE' hs' hevo hn'
  | exit m =>
   simp only at hk
   show (if m=id then Q .normal a' E'.w else Q (.exit m) a' E'.w)
   split at hk
   ·rename_i hm
    rw [if_pos (Nat.eq_of_beq_eq_true hm)]
    exact hK .normal E' a' sl' H' n' hk hE' hs' hevo hn'
   ·rename_i hm
    rw [if_neg (fun e=>hm (by rw [e];exact Nat.beq_refl id))]
    exact hK (.exit m) E' a' sl' H' n' hk hE' hs' hevo hn'
 | .loop x,sl,H,n,K,E,a,Q,hE,hs,hn,hM,hro,h,hK=>by
  simp only [H6] at h
  obtain ⟨ι,S,I,μ,⟨i0,σ0,hi0,hw0⟩,hround⟩:=h
  obtain ⟨E0,hw,hE0,hs0,hevo0,hn0,_⟩:=Yx hE hs hw0
  refine wpIn_loop_ghost (fun m a w=>∃ i E',μ i=m∧I i∧E'.w=w∧EnvOk E' (S i).H (S i).n∧SlOk E' a (S i).sl∧Evo n0 E E'∧n0≤(S i).n) (μ i0) ⟨i0,E0,rfl,hi0,hw,hE0,hs0,hevo0,hn0⟩ ?_
  rintro m a1 w1 ⟨i,E1,rfl,hi,rfl,hE1,hs1,hevo1,hn1⟩
  refine G6 hcx hdraw hcall ro x hE1 hs1 hn1 (fun hr=>by rw [hevo1.M];exact Nat.le_trans (hM hr) hevo1.below.size) (hro.imp (fun h=>h) fun h=>by simpa only [B6] using h) (hround i hi) fun e E' a' sl' H' n' hk hE' hs' hevo hn'=>?_
  cases e with
  | normal =>
   obtain ⟨j,σ,hj,hμ,hwk⟩:=hk
   obtain ⟨E2,hw2,hE2,hs2,hevo2,hn2,_⟩:=Yx hE' hs' hwk
   exact ⟨μ j,hμ,j,E2,rfl,hj,hw2,hE2,hs2,(hevo1.trans hevo).trans hevo2,hn2⟩
  | ret=>exact hK .ret E' a' sl' H' n' hk hE' hs' (hevo1.trans hevo) hn'
  | exit m=>exact hK (.exit m) E' a' sl' H' n' hk hE' hs' (hevo1.trans hevo) hn'
 | .label _,_,_,_,_,_,_,_,_,_,_,_,_,h,_=>(by simp [H6] at h)
 | .goto _,_,_,_,_,_,_,_,_,_,_,_,_,h,_=>(by simp [H6] at h)
 | .scope _,_,_,_,_,_,_,_,_,_,_,_,_,h,_=>(by simp [H6] at h)
 | .refuse _,_,_,_,_,_,_,_,_,_,_,_,_,h,_=>(by simp [H6] at h)
 | .rangeFunc f ps x y,sl,H,n,K,E,a,Q,hE,hs,hn,hM,hro,h,hK=>by
  have hro:ro=none:=hro.elim (fun h=>h) fun h=>by simp [B6] at h
  subst hro
  simp only [H6] at h
  have hv:=U4 hs f
  split at h
  ·rename_i g us ys hf
   rw [hf] at hv
   obtain ⟨hok,h⟩:=h
   rw [B5,Co] at h
   obtain ⟨vs,ws,h1,h2,h3,h4,h5⟩:=Yu hv
   refine wpIn_rangeFunc fun fn _=>?_
   obtain ⟨E1,hw1,hE1,hevo1,hL1,hA1,hρ1,hmk⟩:=Ae4 (ps:=ps) (x:=x) (y:=y) hE hs fn
   have hmk:=hmk (hM rfl)
   obtain ⟨⟨fn',g1,g2,g3⟩,hc⟩:=hcall.1 g _ _ _ _ h E1 (vs++#[.func (.yield (E.w.heap.size+1)) #[] #[]]++ws) hE1 (by simp [h2,h3];omega) (fun i v z hv hz=>by
    simp only [Array.getElem?_append,Array.size_append,List.size_toArray,List.length_cons,List.length_nil] at hv
    simp only [List.getElem?_append,List.length_append,List.length_cons,List.length_nil] at hz
    rw [h2] at hv
    by_cases c1:i < us.length
    ·rw [if_pos (by omega),if_pos c1] at hv
     rw [if_pos (by omega),if_pos c1] at hz
     exact (h4 i v z hv hz).mono (hevo1 n) hE.ns
    ·by_cases c2:i < us.length+(0+1)
     ·rw [if_pos c2,if_neg c1] at hv
      rw [if_pos c2,if_neg c1] at hz
      have hi:i - us.length=0:=by omega
      rw [hi] at hv hz
      cases hv;cases hz
      exact .yld _ n hA1 ⟨_,rfl⟩ fun _=>⟨_,hρ1,rfl⟩
     ·rw [if_neg c2] at hv hz
      exact (h5 _ v z hv hz).mono (hevo1 n) hE.ns)
   obtain ⟨yv,hyv⟩ : ∃ yv:Value,yv=.func (.yield (E.w.heap.size+1)) #[] #[]:=⟨_,rfl⟩
   rw [← hyv] at hc
   have hen:(Instr.enterLoop fn a.tmps ps x y (fen none).round).run P E.w=.ok (E.w.heap.size+1,[{ target:=.collected E.w.heap.size,args:=#[] }]) E1.w:=by
    rw [hw1];exact run_enterLoop_outer _ _ _ _ _
   have hres:(Go.resolve a.eval (rangeCall f (E.w.heap.size+1)) 0).run P E1.w=.ok { target:=.fn (.func g) ws,args:=vs++#[yv] } E1.w:=by
    rw [hyv]
    simp only [Go.resolve,rangeCall,h1]
    simp [Deferred.ofValue,Act.eval]
   have hinv:(invoke (.fn (.func g) ws) (vs++#[yv])).run P E1.w=.ok (.enter g (vs++#[yv]++ws)) E1.w:=Fc g1 g2 g3 _ _
   refine ⟨E.w.heap.size+1,_,E1.w,_,E1.w,g,_,E1.w,hen,hres,fun f' _=>Ak8 none f',hinv,Oc none _,Kj.2 (hc.mono fun en w' hpost=>?_)⟩
   ·obtain ⟨v,E2,z,H',n',rfl,rfl,hn',hE2,hvz,hevo2,hk⟩:=hpost
    have fin:∀ (pe:Jump) (st:LoopState) (ps':List Nat) (x' y':Code) (sl':List AV),st≠.busy→Ac H' n=.loop st pe ps' x' y' sl' →
     ∃ E3,(Instr.endLoop (E.w.heap.size+1)).run P E2.w=.ok (Fs pe) E3.w∧EnvOk E3 (Bo .dead H' n) n'∧SlOk E3 { a with defers:=[{ target:=.collected E.w.heap.size,args:=#[] }]++a.defers } sl∧Evo n0 E E3:=by
     intro pe st ps' x' y' sl' hst hob
     have hl2:=hE2.live n (by rw [hob];simp)
     have hρ2:=(hevo2.ids n (Nat.lt_succ_self n) hA1 hl2).2.trans hρ1
     obtain ⟨E3,k1,k2,k3⟩:=Ae3 (P:=P) hE2 hob hst hρ2
     have hevo:Evo n E E3:=(hevo1 n).trans ((hevo2.mono (Nat.le_succ n)).trans (k3 n))
     exact ⟨E3,k1,k2,⟨hs.size,fun t=>(hs.rd t).mono hevo hE.ns,hs.stat,hmk.mono ((hevo2.mono (Nat.le_succ n)).trans (k3 n))⟩,hevo.mono hn⟩
    split at hk
    ·rename_i hob
     rw [B5] at hk
     obtain ⟨E3,k1,k2,k3,k4⟩:=fin .no .ready _ _ _ _ (by simp) hob
     exact ⟨none,E3.w,k1,hK .normal E3 _ sl _ n' hk k2 k3 k4 (by omega)⟩
    ·rename_i hob
     rw [B5] at hk
     obtain ⟨E3,k1,k2,k3,k4⟩:=fin .ret .done _ _ _ _ (by simp) hob
     exact ⟨some .ret,E3.w,k1,wpIn_ret (hK .ret E3 _ sl _ n' hk k2 k3 k4 (by omega))⟩
    ·rename_i m _ _ _ _ hob
     rw [B5] at hk
     obtain ⟨E3,k1,k2,k3,k4⟩:=fin (.exit m) .done _ _ _ _ (by simp) hob
     exact ⟨some (.exit m),E3.w,k1,wpIn_exit (hK (.exit m) E3 _ sl _ n' hk k2 k3 k4 (by omega))⟩
    ·exact hk.elim
  ·exact h.elim
theorem Oq:∀ (m:Nat) (l:List AV),l.length≤m→(Kh m l).length=m∧∀ t,Am .any (Kh m l) t=Am .any l t
 | 0,l,h=>by
  have:l=[]:=List.length_eq_zero_iff.1 (by omega)
  subst this
  exact ⟨rfl,fun _=>rfl⟩
 | m+1,[],_=>by
  obtain ⟨h1,h2⟩:=Oq m [] (by simp)
  refine ⟨by simp [Kh,h1],fun t=>?_⟩
  cases t with
  | zero=>rfl
  | succ t=>simp only [Kh,Am];rw [h2 t];rfl
 | m+1,x :: l,h=>by
  obtain ⟨h1,h2⟩:=Oq m l (by simpa using h)
  refine ⟨by simp [Kh,h1],fun t=>?_⟩
  cases t with
  | zero=>rfl
  | succ t=>simp only [Kh,Am];exact h2 t
def Rf (tmps:Array Value):ResultVar→Sem Value
 | .tmp t=>pure (tmps.getD t undef)
 | .cell b t=>do loadVar t (← asAddr (tmps.getD b undef))
theorem Ma {α β:Type} {f:α→Sem β} {x:α} {l:List α} {y:β} {ys:List β} {w:World} (h:(f x).run P w=.ok y w) (h':(l.mapM f).run P w=.ok ys w):((x :: l).mapM f).run P w=.ok (y :: ys) w:=by
 rw [List.mapM_cons]
 simp only [Sem.run_bind,h,h',Result.andThen_ok,Sem.run_pure]
theorem Ko {E:Env} {a:Act} {sl:List AV} {H:List Ob} {n:Nat} (hE:EnvOk E H n) (hs:∀ t,RdA E (a.eval (.tmp t)) (Am .any sl t)):∀ (l:List ResultVar) (k:List AV→Prop),Gr P sl H l k →
 ∃ (us:List Value) (vs:List AV),k vs∧us.length=vs.length∧us.length=l.length∧(∀ (i:Nat) u x,us[i]?=some u→vs[i]?=some x→RdA E u x) ∧
  (l.mapM (Rf a.tmps)).run P E.w=.ok us E.w
 | [],k,h=>⟨[],[],h,rfl,rfl,fun i u x hu=>by simp at hu,rfl⟩
 | .tmp t :: l,k,h=>by
  simp only [Gr,Ea] at h
  obtain ⟨us,vs,h1,h2,h3,h4,h5⟩:=Ko hE hs l _ h
  refine ⟨a.tmps.getD t undef :: us,_,h1,by simp [h2],by simp [h3],fun i u x hu hx=>?_, ?_⟩
  ·cases i with
   | zero=>cases hu;cases hx;exact Fd (hs t)
   | succ i=>exact h4 i u x (by simpa using hu) (by simpa using hx)
  ·exact Ma rfl h5
 | .cell b t :: l,k,h=>by
  simp only [Gr] at h
  split at h
  ·rename_i id off hv
   split at h
   ·rename_i cs hob
    split at h
    ·rename_i v hr
     rw [Ea] at h
     obtain ⟨us,vs,h1,h2,h3,h4,h5⟩:=Ko hE hs l _ h
     have hne:Ac H id≠.dead:=by rw [hob];simp
     have hl:=hE.live id hne
     have hok:=hE.ok id hl hne
     rw [hob] at hok
     obtain ⟨hd,hρ,hcells⟩:=CellsAt.of_box hok
     have hrd:=hs b
     rw [hv] at hrd
     obtain ⟨hd',hρ',hval⟩:=hrd.ptr_inv.2.2 hl
     rw [hρ] at hρ'
     cases hρ'
     obtain ⟨u,hu1,hu2⟩:=Ml (P:=P) (t:=t) hcells hr
     refine ⟨u :: us,_,h1,by simp [h2],by simp [h3],fun i u' x hu hx=>?_, ?_⟩
     ·cases i with
      | zero=>cases hu;cases hx;exact hu2
      | succ i=>exact h4 i u' x (by simpa using hu) (by simpa using hx)
     ·have hval':a.tmps.getD b undef=.pointer (some ⟨hd.blk,off,none⟩):=hval
      refine Ma ?_ h5
      simp only [Rf,hval',asAddr,Sem.run_bind]
      rw [Nat.zero_add] at hu1
      simpa using hu1
    ·exact h.elim
   ·exact h.elim
  ·exact h.elim
theorem Ws {fn:Func} {a:Act} {us:List Value} {w:World} (h:(fn.results.toList.mapM (Rf a.tmps)).run P w=.ok us w) :
 (results fn a.tmps).run P w=.ok (match us with | [v]=>v | us=>.tuple us.toArray) w:=by
 have hm:(fn.results.mapM (Rf a.tmps)).run P w=.ok us.toArray w:=by
  rw [Array.mapM_eq_mapM_toList]
  simp only [Sem.run_map,h]
  rfl
 have he:results fn a.tmps=(do let vs ← fn.results.mapM (Rf a.tmps);pure (if h:vs.size=1 then vs[0] else .tuple vs)):=by
  unfold results
  congr 1
 rw [he]
 simp only [Sem.run_bind,hm,Result.andThen_ok,Sem.run_pure]
 match us with
 | []=>rfl
 | [v]=>rfl
 | _ :: _ :: _=>simp
theorem Rg {E:Env}:∀ (ps:List Nat) (vs:List Value) (args:List AV) (tmps:Array Value) (sl:List AV),vs.length=args.length→tmps.size=sl.length→(∀ p∈ps,p < sl.length) →
 (∀ (i:Nat) v x,vs[i]?=some v→args[i]?=some x→RdA E v x)→(∀ t,RdA E (tmps.getD t undef) (Am .any sl t))→(∀ (t:Nat) c s w v,sl[t]?≠some (.when c s w v)) →
 ∃ tmps',(ps.zip vs).foldl (fun tmps (p:Nat × Value)=>tmps.setIfInBounds p.1 p.2) tmps=tmps'∧tmps'.size=(E7 ps args sl).length∧(∀ t,RdA E (tmps'.getD t undef) (Am .any (E7 ps args sl) t)) ∧
  ∀ (t:Nat) c s w v,(E7 ps args sl)[t]?≠some (.when c s w v)
 | [],vs,args,tmps,sl,_,hsz,_,_,hrd,hnw=>⟨_,rfl,by simpa [E7] using hsz,by simpa [E7] using hrd,by simpa [E7] using hnw⟩
 | p :: ps,[],[],tmps,sl,_,hsz,_,_,hrd,hnw=>⟨_,rfl,by simpa [E7] using hsz,by simpa [E7] using hrd,by simpa [E7] using hnw⟩
 | p :: ps,[],_ :: _,_,_,h,_,_,_,_,_=>by simp at h
 | p :: ps,_ :: _,[],_,_,h,_,_,_,_,_=>by simp at h
 | p :: ps,v :: vs,x :: args,tmps,sl,hl,hsz,hps,ha,hrd,hnw=>by
  have hp:p < sl.length:=hps p (by simp)
  obtain ⟨tmps',h1,h2,h3,h4⟩:=Rg ps vs args (tmps.setIfInBounds p v) (Bo (noW x) sl p) (by simpa using hl) (by simp [Bn,hsz]) (fun q hq=>by rw [Bn];exact hps q (by simp [hq]))
   (fun i v x hv hx=>ha (i+1) v x (by simpa using hv) (by simpa using hx)) (fun t=>by
     rw [Dc]
     by_cases ht:p=t
     ·subst ht
      rw [if_pos ⟨rfl,hp⟩]
      have:(tmps.setIfInBounds p v).getD p undef=v:=by
       have:p < tmps.size:=by omega
       simp [Array.getD_eq_getD_getElem?,this]
      rw [this]
      exact Fd (ha 0 v x rfl rfl)
     ·rw [if_neg (fun h=>ht h.1)]
      have:(tmps.setIfInBounds p v).getD t undef=tmps.getD t undef:=by
       simp only [Array.getD_eq_getD_getElem?,Array.getElem?_setIfInBounds]
       rw [if_neg ht]
      rw [this]
      exact hrd t) (fun t c s w u ht=>by
     have hg:Am .any (Bo (noW x) sl p) t=.when c s w u:=by rw [Bg,ht];rfl
     rw [Dc] at hg
     by_cases htp:p=t∧p < sl.length
     ·rw [if_pos htp] at hg
      exact absurd hg (G1 _ _ _ _ _)
     ·rw [if_neg htp] at hg
      refine hnw t c s w u ?_
      rw [Bg] at hg
      cases hs:sl[t]? with
      | none=>rw [hs] at hg;cases hg
      | some y=>rw [hs] at hg;simp only [Option.getD_some] at hg;rw [hg])
  exact ⟨tmps',h1,h2,h3,h4⟩
theorem Aav {E0:Env} {n:Nat} {fn:Func} {R:Ending→World→Prop} {a:Act} {sl:List AV} {H:List Ob} {n':Nat} (hM0:E0.M=E0.w.heap.size) (hB0:E0.B≤E0.M)
 (fin:∀ E',EnvOk E' H n'→(∀ t,RdA E' (a.eval (.tmp t)) (Am .any sl t))→Evo n E0 E'→∃ v,(results fn a.tmps).run P E'.w=.ok v E'.w∧R (.returned v) E'.w) :
 ∀ (ds:List Deferred) (E:Env),EnvOk E H n'→(∀ t,RdA E (a.eval (.tmp t)) (Am .any sl t))→Evo n E0 E→Marks E ds→LeavesInM (fen none) 0 P fn a.tmps R ds .returning E.w
 | [],E,hE,hs,hevo,_=>fin E hE hs hevo
 | d :: ds,E,hE,hs,hevo,hm=>by
  obtain ⟨b,rfl,hb1,hb2,hb3⟩:=hm.each d (by simp)
  refine ⟨by simp,.inl ⟨b,E.w.putObj b (.deferred none),rfl,run_takeDeferred hb3, ?_⟩⟩
  let E':Env:={ E with w:=E.w.putObj b (.deferred none) }
  have heap:∀ k,k≠b→E'.w.heap[k]?=E.w.heap[k]?:=fun k hk=>World.putObj_heap_other hk
  have hsz:E'.w.heap.size=E.w.heap.size:=World.putObj_size
  have hBb:E.B≤b:=by
   have h1:=hevo.B
   have h2:=hevo.M
   omega
  have nb:∀ k,E.Nb k→E'.Nb k:=fun k hk=>⟨by rw [hsz];exact hk.1,hk.2⟩
  have hq:∀ k,Evq k E E':=by
   intro k
   refine ⟨fun _ _ h=>h,fun _ _ _ h=>⟨h,rfl⟩,fun _ _ _ _ _ _ h=>h,fun b' o hf=>?_,fun b' ms clock hB hn hm=>⟨hB,nb b' hn,(heap b' fun e=>by rw [e,hb3] at hm;cases hm).trans hm⟩⟩
   have hcell:E'.w.cell? ⟨b',o,none⟩=E.w.cell? ⟨b',o,none⟩:=by
    by_cases hbb:b'=b
    ·subst hbb
     have h2:E'.w.heap[b']?=some (.deferred none):=World.putObj_heap_same hb2.1
     simp [World.cell?,h2,hb3]
    ·exact G5 (heap b' hbb)
   rcases hf with ⟨h1,h2⟩ | ⟨h1,h2⟩
   ·exact ⟨.inl ⟨h1,h2⟩,hcell⟩
   ·exact ⟨.inr ⟨h1,nb b' h2⟩,hcell⟩
  have okk:∀ id,E.L id→Ac H id≠.dead→OkOb E' id (Ac H id):=by
   intro id hl hne
   have hok:=hE.ok id hl hne
   by_cases hw:(Ac H id).wr
   ·exact OkOb.monoq (hq n') hE.ns (hE.sub id hl) hl rfl (fun k ho=>heap k fun e=>hb2.2.1 id (hE.wr id hw) (e ▸ ho)) hok
   ·cases hob:Ac H id with
    | dead=>exact absurd hob hne
    | cells cs=>rw [hob] at hw;exact absurd trivial hw
    | rows t xs=>rw [hob] at hw;exact absurd trivial hw
    | fmap es=>rw [hob] at hw;exact absurd trivial hw
    | grid t m xss=>rw [hob] at hw;exact absurd trivial hw
    | loop a1 a2 a3 a4 a5 a6=>rw [hob] at hw;exact absurd trivial hw
    | froz t xs =>
     rw [hob] at hok
     refine RowsAt.mono (E:=E) (hq 0).fz (fun h hρ=>heap _ fun e=>?_) hok
     have hok':RowsAt E t xs (E.ρ id):=hok
     have hρ':E.ρ id=some h:=hρ
     rw [hρ'] at hok'
     obtain ⟨_,_,_,_,arr,el,h4,_⟩:=hok'
     rw [e,hb3] at h4
     cases h4
  have hE':EnvOk E' H n':=by
   refine ⟨hE.len,hE.ns,hE.live,hE.wr,okk,hE.sub,hE.wl,hE.injO,fun id k hl ho=>?_,hE.f0,by rw [hsz];exact hE.B,hE.hid,fun b hb=>by rw [hsz];exact hE.hlt b hb⟩
   rw [hsz];exact hE.ltO id k hl ho
  refine Aav hM0 hB0 fin ds E' hE' (fun t=>(hs t).monoq (hq n') hE.ns) ?_ ⟨fun d hd=>?_,(List.pairwise_cons.1 hm.two).2⟩
  ·refine ⟨hevo.B,hevo.F0,hevo.M,hevo.below.trans (by rw [← hevo.B];exact Ju hBb),hevo.A,hevo.ids,hevo.kds,fun k hk=>?_,hevo.Hd,fun k hk=>(heap k fun e=>hb2.2.2 (by rw [hevo.Hd,← e];exact hk)).trans (hevo.hh k hk)⟩
   obtain ⟨h1,h2⟩:=hevo.hp k hk
   refine ⟨nb k h1,(heap k fun e=>?_).trans h2⟩
   have:=hk.1
   have:=hevo.M
   omega
  ·obtain ⟨b',h1,h2,h3,h4⟩:=hm.each d (by simp [hd])
   have hne:b'≠b:=by
    have:=(List.pairwise_cons.1 hm.two).1 d hd
    rw [h1] at this
    intro e
    exact this (by rw [e])
   exact ⟨b',h1,h2,nb b' h3,(heap b' hne).trans h4⟩
theorem Ae5 (hcx:Ah P cx) (hdraw:Lk P cx) {sem:CallSem} (hsem:A7 P sem) {id:Nat} {args:List AV} {H:List Ob} {n:Nat} {K:AV→List Ob→Nat→Prop} (h:A6 cx P sem 0 (.rnd id :: args) H n K) (E:Env) (vs:Array Value)
 (hE:EnvOk E H n) (hsz:vs.size=args.length) (hrd:∀ (i:Nat) v x,vs[i]?=some v→args[i]?=some x→RdA E v x) :
 Ac H id≠.dead∧∀ hd,E.ρ id=some hd→∃ fn tmps x y,(Instr.yield hd.blk vs).run P E.w=.ok (.round hd.blk fn tmps x y) E.w ∧
  RoundIn (fen none) 0 P hd.blk fn tmps x y E.w (fun en w'=>∃ v E' z H' n',en=.returned v∧E'.w=w'∧n≤n'∧EnvOk E' H' n'∧RdA E' v z∧Evo n E E'∧K z H' n'):=by
 have h:Yl cx P sem id args H n K:=h
 unfold Yl at h
 split at h
 ·rename_i ps x y sl hob
  split at h
  ·rename_i hc
   simp only [Bool.and_eq_true] at hc
   obtain ⟨⟨hlen,hps⟩,hx,hy⟩:=hc
   rw [Eb] at h
   have hne:Ac H id≠.dead:=by rw [hob];simp
   have hl:=hE.live id hne
   have ha:=hE.sub id hl
   have hidn:=hE.ns id ha
   refine ⟨hne,fun hd hρ=>?_⟩
   have hok:=hE.ok id hl hne
   rw [hob] at hok
   obtain ⟨hd',k1,r,k2,k3,k4,k5,k6,k7,k8,k9⟩:=hok
   rw [hρ] at k1;cases k1
   have hpsz:r.params.size=ps.length:=by rw [← k5];simp
   have hvsz:vs.size=r.params.size:=by rw [hsz,hpsz];exact (Nat.eq_of_beq_eq_true hlen).symm
   obtain ⟨tmps',m1,m2,m3,m4⟩:=Rg (E:=E) ps vs.toList args r.tmps (sl.map noW) (by simpa using hsz) (by simpa using k8)
    (fun p hp=>by rw [List.length_map];exact Nat.le_of_ble_eq_true (List.all_eq_true.1 hps p hp)) (fun i v x hv hx=>hrd i v x (by simpa using hv) hx) (fun t=>by
      rw [Fw]
      refine Fd ?_
      cases hv:r.tmps[t]? with
      | none =>
       have:sl.length≤t:=by rw [← k8];exact Array.getElem?_eq_none_iff.1 hv
       rw [Bs _ this];exact .any _
      | some v =>
       have hlt:t < sl.length:=by rw [← k8];exact (Array.getElem?_eq_some_iff.1 hv).1
       have:r.tmps.getD t undef=v:=by simp [Array.getD_eq_getD_getElem?,hv]
       rw [this]
       exact k9 t v _ hv (Ck hlt)) (fun t c s w v ht=>by
      rw [List.getElem?_map,Option.map_eq_some_iff] at ht
      obtain ⟨z,_,hz⟩:=ht
      exact G1 _ _ _ _ _ hz)
   refine ⟨r.fn,tmps',r.assign,r.body, ?_,roundIn_of_wpIn trivial ?_⟩
   ·rw [run_yield k2 hvsz,← m1,← k5,← Array.toList_zip,Array.foldl_toList]
   ·rw [k6,k7]
    have hs0:SlOk E ⟨tmps',[]⟩ (E7 ps args (sl.map noW)):=⟨m2,m3,fun t c s w v ht=>absurd ht (m4 t c s w v),Marks.nil E⟩
    refine G6 (n0:=n) hcx hdraw hsem (some hd.blk) x hE hs0 (Nat.le_refl _) (fun h=>by cases h) (.inr hx) h fun e E1 a1 sl1 H1 n1 hk hE1 hs1 hevo1 hn1=>?_
    cases e with
    | ret=>exact hk.elim
    | exit m=>exact hk.elim
    | normal =>
     simp only at hk
     split at hk
     ·rename_i ps1 x1 y1 sl1' hob1
      rw [B5] at hk
      have hl1:=hE1.live id (by rw [hob1];simp)
      have hρ1:=(hevo1.ids id hidn ha hl1).2.trans hρ
      have hok1:=hE1.ok id hl1 (by rw [hob1];simp)
      rw [hob1] at hok1
      obtain ⟨hd1,q1,r1,q2,q3,_⟩:=hok1
      rw [hρ1] at q1;cases q1
      obtain ⟨E2,e1,hE2,hevo2⟩:=Re (st':=.busy) (pe':=.no) (r':={ r1 with state:=.busy }) hE1 hob1 hρ1 q2 rfl (by
       have hok1:=hE1.ok id hl1 (by rw [hob1];simp)
       rw [hob1] at hok1
       obtain ⟨hd1,z1,r1',z2,z3,z4,_⟩:=hok1
       rw [hρ1] at z1;cases z1
       rw [q2] at z2;cases z2
       exact z4) rfl rfl rfl rfl
      refine ⟨E2.w,by rw [e1];exact run_beginRound q2 q3, ?_⟩
      have hs2:=hs1.mono (hevo2 n1) hE1.ns
      refine G6 (n0:=n) hcx hdraw hsem (some hd.blk) y hE2 hs2 hn1 (fun h=>by cases h) (.inr hy) hk fun e E3 a3 sl3 H3 n3 hk3 hE3 hs3 hevo3 hn3=>?_
      split at hk3
      ·rename_i ps3 x3 y3 sl3' hob3
       have hl3:=hE3.live id (by rw [hob3];simp)
       have hevo13:Evo n E E3:=hevo1.trans ((hevo2 n).trans hevo3)
       have hρ3:=(hevo13.ids id hidn ha hl3).2.trans hρ
       have hok3:=hE3.ok id hl3 (by rw [hob3];simp)
       rw [hob3] at hok3
       obtain ⟨hd3,q4,r3,q5,_⟩:=hok3
       rw [hρ3] at q4;cases q4
       have fin:∀ (pe:Jump) (b:Bool),(Fs pe).isNone=b→∃ v w4,(Instr.endRound hd.blk (Fs pe)).run P E3.w=.ok v w4∧∃ E4,v=.bool b∧E4.w=w4∧EnvOk E4 (Bo (.loop (if b then .ready else .done) pe ps3 x3 y3 sl3') H3 id) n3∧Evo n E E4:=by
        intro pe b hb
        obtain ⟨E4,e4,hE4,hevo4⟩:=Re (st':=if b then .ready else .done) (pe':=pe) (r':={ r3 with state:=if (Fs pe).isNone then .ready else .done,pending:=Fs pe }) hE3 hob3 hρ3 q5 (by rw [hb]) rfl rfl rfl rfl rfl
        exact ⟨_,_,run_endRound (P:=P) (Fs pe) q5,E4,by rw [hb],e4,hE4,hevo13.trans (hevo4 n)⟩
       cases e with
       | normal =>
        simp only [B5] at hk3
        obtain ⟨v,w4,f1,E4,rfl,f3,f4,f5⟩:=fin .no true rfl
        exact ⟨_,w4,f1,_,E4,.bool true,_,n3,rfl,f3,hn3,f4,.bool _,f5,hk3⟩
       | ret =>
        simp only [B5] at hk3
        obtain ⟨v,w4,f1,E4,rfl,f3,f4,f5⟩:=fin .ret false rfl
        exact ⟨_,w4,f1,_,E4,.bool false,_,n3,rfl,f3,hn3,f4,.bool _,f5,hk3⟩
       | exit m =>
        simp only [B5] at hk3
        obtain ⟨v,w4,f1,E4,rfl,f3,f4,f5⟩:=fin (.exit m) false rfl
        exact ⟨_,w4,f1,_,E4,.bool false,_,n3,rfl,f3,hn3,f4,.bool _,f5,hk3⟩
      ·exact hk3.elim
     ·exact hk.elim
  ·exact h.elim
 ·exact h.elim
theorem Wt (hcx:Ah P cx) (hdraw:Lk P cx) {sem:CallSem} (hsem:A7 P sem):A7 P (A6 cx P sem):=by
 refine ⟨fun g args H n K h E vs hE hsz hrd=>?_,fun id args H n K h=>Ae5 hcx hdraw hsem h⟩
 have h:(match P.funcs[g]? with
  | some fn=>(match fn.body with
   | some c=>if Nat.ble args.length fn.ntmps then (fn.name == "runtime.NumGoroutine")=false∧Gz (Kh fn.ntmps (args.map noW)) (fun sl=>H6 cx P sem n c sl H n (Am8 P fn K)) else False
   | none=>False)
  | none=>False):=by
  unfold A6 at h
  split at h
  ·rename_i id args'
   have hv:∃ v,vs[0]?=some v:=by
    have:0 < vs.size:=by rw [hsz];simp
    exact ⟨_,Array.getElem?_eq_getElem this⟩
   obtain ⟨v,hv⟩:=hv
   exact absurd (hrd 0 v _ hv rfl) (fun h=>by cases h)
  ·exact h
 split at h
 ·rename_i fn hfn
  split at h
  ·rename_i c hc
   split at h
   ·rename_i hle
    obtain ⟨hname,h⟩:=h
    rw [Eb] at h
    let E1:Env:={ E with M:=E.w.heap.size }
    have hq:Evq n E E1:=⟨fun _ _ h=>h,fun _ _ _ h=>⟨h,rfl⟩,fun _ _ _ _ _ _ h=>h,fun _ _ h=>⟨h,rfl⟩,fun _ _ _ hB h hm=>⟨hB,h,hm⟩⟩
    have hE1:EnvOk E1 H n:=⟨hE.len,hE.ns,hE.live,hE.wr,fun id hl hne=>OkOb.monoq hq hE.ns (hE.sub id hl) hl rfl (fun _ _=>rfl) (hE.ok id hl hne),hE.sub,hE.wl,hE.injO,hE.ltO,hE.f0,hE.B,hE.hid,hE.hlt⟩
    refine ⟨⟨fn,hfn,by rw [hc];rfl,hname⟩,Kj.1 (callsIn_of_wp_marks (F:=fen none) (n:=0) hfn hc trivial ?_ rfl)⟩
    have hle':(args.map noW).length≤fn.ntmps:=by rw [List.length_map];exact Nat.le_of_ble_eq_true hle
    obtain ⟨p1,p2⟩:=Oq fn.ntmps (args.map noW) hle'
    rw [List.length_map] at hle'
    refine G6 (n0:=n) (E:=E1) hcx hdraw hsem none c hE1 ?_ (Nat.le_refl _) (fun _=>Nat.le_refl _) (.inl rfl) h fun e E' a' sl' H' n' hk hE' hs' hevo hn'=>?_
    ·refine ⟨?_,fun t=>?_,fun t c s w v ht=>?_,Marks.nil _⟩
     ·rw [p1];simp;omega
     ·rw [p2,Fw]
      rcases Nat.lt_or_ge t args.length with hlt | hge
      ·have hx:=Ck (d:=AV.any) hlt
       have hv:vs[t]?=some (vs[t]'(by omega)):=Array.getElem?_eq_getElem (by omega)
       have:(Act.mk (vs++Array.replicate (fn.ntmps - vs.size) undef) []).eval (.tmp t)=vs[t]'(by omega):=by
        simp only [Act.eval,Array.getD_eq_getD_getElem?,Array.getElem?_append]
        rw [if_pos (by omega),hv]
        rfl
       rw [this]
       exact (Fd (hrd t _ _ hv hx)).monoq hq hE.ns
      ·rw [Bs _ hge];exact .any _
     ·have hg:Am .any (Kh fn.ntmps (args.map noW)) t=.when c s w v:=by rw [Bg,ht];rfl
      rw [p2,Fw] at hg
      exact absurd hg (G1 _ _ _ _ _)
    ·have fin:Gr P sl' H' fn.results.toList (fun vs=>Ak7 vs (fun v=>K v H' n'))→LeavesInM (fen none) 0 P fn a'.tmps (fun en w'=>∃ v E' x H' n',en=.returned v∧E'.w=w'∧n≤n'∧EnvOk E' H' n'∧RdA E' v x∧Evo n E E'∧K x H' n') a'.defers .returning E'.w:=by
      intro hk
      refine Aav (E0:=E1) (sl:=sl') rfl hE.B (fun E2 hE2 hs2 hevo2=>?_) a'.defers E' hE' hs'.rd hevo hs'.defers
      obtain ⟨us,ws,k1,k2,k3,k4,k5⟩:=Ko (P:=P) hE2 hs2 _ _ hk
      refine ⟨_,Ws k5, ?_⟩
      let E3:Env:={ E2 with M:=E.M }
      have hq3:Evq n' E2 E3:=⟨fun _ _ h=>h,fun _ _ _ h=>⟨h,rfl⟩,fun _ _ _ _ _ _ h=>h,fun _ _ h=>⟨h,rfl⟩,fun _ _ _ hB h hm=>⟨hB,h,hm⟩⟩
      have hE3:EnvOk E3 H' n':=⟨hE2.len,hE2.ns,hE2.live,hE2.wr,fun id hl hne=>OkOb.monoq hq3 hE2.ns (hE2.sub id hl) hl rfl (fun _ _=>rfl) (hE2.ok id hl hne),hE2.sub,hE2.wl,hE2.injO,hE2.ltO,hE2.f0,hE2.B,hE2.hid,hE2.hlt⟩
      have hevo3:Evo n E E3:=⟨hevo2.B,hevo2.F0,rfl,hevo2.below,hevo2.A,hevo2.ids,hevo2.kds,hevo2.hp,hevo2.Hd,hevo2.hh⟩
      have k4:∀ (i:Nat) u x,us[i]?=some u→ws[i]?=some x→RdA E3 u x:=fun i u x hu hx=>(k4 i u x hu hx).monoq hq3 hE2.ns
      match us,ws,k1,k2,k4 with
      | [],[],k1,_,_=>exact ⟨_,E3,.tup [],H',n',rfl,rfl,hn',hE3,.tup _ _ rfl (fun i u x hu=>by simp at hu),hevo3,k1⟩
      | [u],[x],k1,_,k4=>exact ⟨_,E3,x,H',n',rfl,rfl,hn',hE3,k4 0 u x rfl rfl,hevo3,k1⟩
      | u :: u' :: us,x :: x' :: xs,k1,k2,k4 =>
       exact ⟨_,E3,.tup (x :: x' :: xs),H',n',rfl,rfl,hn',hE3,.tup _ _ (by simpa using k2) (fun i v y hv hy=>k4 i v y (by simpa using hv) hy),hevo3,k1⟩
      | [],_ :: _,_,k2,_=>exact absurd k2 (by simp)
      | _ :: _,[],_,k2,_=>exact absurd k2 (by simp)
      | [_],_ :: _ :: _,_,k2,_=>exact absurd k2 (by simp)
      | _ :: _ :: _,[_],_,k2,_=>exact absurd k2 (by simp)
     cases e with
     | normal=>exact fin hk
     | ret=>exact fin hk
     | exit m=>exact hk.elim
   ·exact h.elim
  ·exact h.elim
 ·exact h.elim
theorem Wu (hcx:Ah P cx) (hdraw:Lk P cx):∀ d,A7 P (L7 cx P d)
 | 0=>⟨fun g args H n K h=>h.elim,fun id args H n K h=>h.elim⟩
 | d+1=>Wt hcx hdraw (Wu hcx hdraw d)
end
end Go.Sx
namespace Go.Sx
open Go.RowKit
def Env.give (E:Env) (ids:List Nat):Env:={ E with W:=fun id=>E.W id∧id ∉ ids }
section
variable {P:Program} {cx:Ctx} {E:Env} {H:List Ob} {n:Nat} {ids:List Nat}
theorem U5 {b:Nat} (h:E.Nb b):(E.give ids).Nb b:=⟨h.1,fun id hW=>h.2.1 id hW.1,h.2.2⟩
theorem Ll {b o:Nat} (h:E.Fz b o):(E.give ids).Fz b o:=by
 rcases h with h | ⟨h1,h2⟩
 ·exact .inl h
 ·exact .inr ⟨h1,U5 h2⟩
theorem Et (n0:Nat):Evo n0 E (E.give ids):=⟨rfl,rfl,rfl,Below.refl _ _,fun _ _ h=>h,fun _ _ _ h=>⟨h,rfl⟩,fun _ _ _ _ _ _ h=>h,fun _ h=>⟨U5 h,rfl⟩,rfl,fun _ _=>rfl⟩
theorem EnvOk.give (hE:EnvOk E H n):EnvOk (E.give ids) (Fq ids H) n:=by
 refine ⟨by rw [(C4 ids H 0).2.2];exact hE.len,hE.ns,fun id hne=>?_,fun id hw=>?_,fun id hl hne=>?_,hE.sub,fun id hw=>hE.wl id hw.1,hE.injO,hE.ltO,hE.f0,hE.B,hE.hid,hE.hlt⟩
 ·refine hE.live id fun hd=>hne ?_
  have:=(C4 ids H id).1
  rw [hd] at this
  exact this.dead
 ·exact ⟨hE.wr id ((C4 ids H id).1.wr hw),fun hm=>(C4 ids H id).2.1 hm hw⟩
 ·have hf:=(C4 ids H id).1
  have hne':Ac H id≠.dead:=fun hd=>hne (by rw [hd] at hf;exact hf.dead)
  exact hf.ok hne (OkOb.mono (Et n) hE.ns (hE.sub id hl) hl rfl (fun _ _=>rfl) (hE.ok id hl hne'))
theorem Rh:∀ (l:List AV),(Mk ids H l).length=l.length∧∀ (i:Nat) y,(Mk ids H l)[i]?=some y→∃ x,l[i]?=some x∧y=frV ids H x
 | []=>⟨rfl,fun i y h=>by simp [Mk] at h⟩
 | x :: l=>by
  have ih:=Rh l
  refine ⟨by simp [Mk,ih.1],fun i y h=>?_⟩
  cases i with
  | zero=>simp only [Mk,List.getElem?_cons_zero,Option.some.injEq] at h;exact ⟨x,rfl,h.symm⟩
  | succ i =>
   simp only [Mk,List.getElem?_cons_succ] at h
   obtain ⟨z,h1,h2⟩:=ih.2 i y h
   exact ⟨z,by simpa using h1,h2⟩
theorem Nf (hE:EnvOk E H n) {v:Value} {x:AV} (h:RdA E v x):RdA (E.give ids) v (Ki ids H x):=by
 unfold Ki
 split
 ·rename_i p l hd
  split
  ·rename_i hall
   refine .up ((M8 (fun id _ hne=>hE.live id hne) (fun id hl hne=>hE.ok id hl hne) h hd (fun id hid=>hid)).monoF fun b o hb=>?_)
   rcases hb with hb | ⟨id2,hid2,hl2,ho2⟩
   ·exact Ll hb
   ·have hid3:id2∈ids:=by simpa using List.all_eq_true.1 hall id2 hid2
    obtain ⟨g1,g2⟩:=hE.ltO id2 b hl2 ho2
    refine .inr ⟨g1,g2,fun id3 hW3 ho3=>?_,hE.hid id2 b hl2 ho2⟩
    have e:=hE.injO id3 id2 b (hE.wl id3 hW3.1) hl2 ho3 ho2
    subst e
    exact hW3.2 hid3
  ·exact h.mono (Et n) hE.ns
 ·exact h.mono (Et n) hE.ns
theorem Ri:∀ {es:List (Int × AV)} {es':List (Int × List (Option PV))},Qz es=some es'→es.length=es'.length ∧
 ∀ (i:Nat) p',es'[i]?=some p'→∃ cs,es[i]?=some (p'.1,.agg cs)∧p'.2=cs.map Uv
 | [],es',h=>by cases h;exact ⟨rfl,fun i p' h=>by simp at h⟩
 | (p,x) :: es,es',h=>by
  unfold Qz at h
  split at h
  ·rename_i heq;cases heq
  ·rename_i p0 cs l heq
   cases heq
   split at h
   ·rename_i r hr
    cases h
    obtain ⟨g1,g2⟩:=Ri hr
    refine ⟨by simp [g1],fun i p' hp=>?_⟩
    cases i with
    | zero=>cases hp;exact ⟨cs,rfl,rfl⟩
    | succ i=>simpa using g2 i p' (by simpa using hp)
   ·cases h
  ·cases h
theorem FlatRd.of {v:Value} {cs:List AV} (h:RdA E v (.agg cs)):FlatRd v (cs.map Uv):=by
 obtain ⟨vs,rfl,h1,h2,h3⟩:=h.agg_inv
 refine ⟨vs,rfl,by rw [h1];simp,h2,fun i u p hu hp=>?_⟩
 rw [List.getElem?_map,Option.map_eq_some_iff] at hp
 obtain ⟨x,hx,hp⟩:=hp
 have hr:=h3 i u x hu hx
 cases x <;> simp only [Uv,Option.some.injEq] at hp <;> first
  | cases hp;done
  | (subst hp;cases hr;rfl)
theorem Aip (hE:EnvOk E H n) {v:Value} {id:Nat} (h:RdA E v (.mp id)):RdA (E.give ids) v (Ab3 ids H id):=by
 unfold Ab3
 split
 ·rename_i es hob
  split
  ·rename_i hid
   split
   ·rename_i es' hes
    have hne:Ac H id≠.dead:=by rw [hob];simp
    have hl:=hE.live id hne
    have hok:=hE.ok id hl hne
    rw [hob] at hok
    obtain ⟨hd,hρ,ms,clock,hb,hsz,hall⟩:=hok
    obtain ⟨hd',hρ',rfl⟩:=h.mp_inv.2.2 hl
    rw [hρ] at hρ'
    cases hρ'
    obtain ⟨g1,g2⟩:=hE.lt id hd hl hρ
    obtain ⟨e1,e2⟩:=Ri hes
    have ho:E.Own id hd.blk:=.inl ⟨hd,hρ,rfl⟩
    refine .dmp hd.blk es' ms clock g1 ⟨g2,fun id3 hW3 ho3=>?_,hE.hid id _ hl ho⟩ hb (hsz.trans e1) fun i m p' hm hp'=>?_
    ·have e:=hE.injO id3 id hd.blk (hE.wl id3 hW3.1) hl ho3 ho
     subst e
     exact hW3.2 (by simpa using hid)
    ·obtain ⟨cs,k1,k2⟩:=e2 i p' hp'
     obtain ⟨k3,k4⟩:=hall i m _ hm k1
     exact ⟨k3,by rw [k2];exact FlatRd.of k4⟩
   ·exact h.mono (Et n) hE.ns
  ·exact h.mono (Et n) hE.ns
 ·exact h.mono (Et n) hE.ns
theorem Alb (hE:EnvOk E H n) {v:Value} {x:AV} (h:RdA E v x):RdA (E.give ids) v (frV ids H x):=by
 induction h with
 | any v=>exact .any v
 | int k m=>exact .int _ _
 | bool b=>exact .bool _
 | str s=>exact .str _
 | val v h1=>exact .val _ h1
 | nils b c=>exact .nils _ _
 | cap0 b=>exact .cap0 _
 | sl v t xs h1=>exact .sl _ _ _ (h1.monoF fun b o hb=>Ll hb)
 | ptr v id off hA h1 hp=>exact .ptr _ id off hA h1 hp
 | mp v id hA h1 hp=>exact Aip hE (.mp v id hA h1 hp)
 | dmp b es ms clock hB hb hh hsz hes=>exact .dmp b es ms clock hB (U5 hb) hh hsz hes
 | rptr v id k row off hA h1 hp=>exact .rptr _ id k row off hA h1 hp
 | eptr b o cs g hcell hrd=>exact .eptr b o cs g (fun j hj=>⟨Ll (hcell j hj).1,(hcell j hj).2⟩) (fun j p hp=>(hrd j p hp).monoF fun b o hb=>Ll hb)
 | ownp v id k lo m hA h1 hp=>exact Nf hE (.ownp v id k lo m hA h1 hp)
 | fn f vs ws xs ys hv hw h1 h2 _ _=>exact Nf hE (.fn f vs ws xs ys hv hw h1 h2)
 | when v c s w x h1 h2 _=>exact .when v c s w x (fun hc=>(h1 hc).mono (Et n) hE.ns) h2
 | own v id hA h1 hp=>exact Nf hE (.own v id hA h1 hp)
 | ownc v id k lo m hA h1 hp=>exact Nf hE (.ownc v id k lo m hA h1 hp)
 | csl v t id m hA h1 hp =>
  show RdA (E.give ids) v (Qy ids H (.csl t id m))
  unfold Qy
  split
  ·rename_i y l hlow
   split
   ·rename_i hall
    obtain ⟨xss,rfl,hy⟩:=Tb (fun id _ hne=>hE.live id hne) (fun id hl hne=>hE.ok id hl hne) (.csl v t id m hA h1 hp) hlow (fun id hid=>hid)
    refine .up (p:=.sl _ _) (hy.monoF fun b o hb=>?_)
    rcases hb with hb | ⟨id2,hid2,hl2,ho2⟩
    ·exact Ll hb
    ·have hid3:id2∈ids:=by simpa using List.all_eq_true.1 hall id2 hid2
     obtain ⟨g1,g2⟩:=hE.ltO id2 b hl2 ho2
     refine .inr ⟨g1,g2,fun id3 hW3 ho3=>?_,hE.hid id2 b hl2 ho2⟩
     have e:=hE.injO id3 id2 b (hE.wl id3 hW3.1) hl2 ho3 ho2
     subst e
     exact hW3.2 hid3
   ·exact (RdA.csl v t id m hA h1 hp).mono (Et n) hE.ns
  ·exact (RdA.csl v t id m hA h1 hp).mono (Et n) hE.ns
 | slf t xs ba h1=>exact .sl _ _ _ (h1.monoF fun b o hb=>Ll hb)
 | yld v id hA h1 hp=>exact .yld _ id hA h1 hp
 | grow v id i hA h1 hp=>exact .grow _ id i hA h1 hp
 | gptr v id i j hA h1 hp=>exact .gptr _ id i j hA h1 hp
 | agg vs xs hv h1 _ ih =>
  have g:=Rh (ids:=ids) (H:=H) xs
  refine .agg vs (Mk ids H xs) (by rw [hv,g.1]) h1 fun i u y hu hy=>?_
  obtain ⟨x,hx,rfl⟩:=g.2 i y hy
  exact ih i u x hu hx
 | tup vs xs hv _ ih =>
  have g:=Rh (ids:=ids) (H:=H) xs
  refine .tup vs (Mk ids H xs) (by rw [hv,g.1]) fun i u y hu hy=>?_
  obtain ⟨x,hx,rfl⟩:=g.2 i y hy
  exact ih i u x hu hx
theorem Aiq {w:World} {F0:Nat→Nat→Prop} (hF:∀ b o,F0 b o→b < w.heap.size):EnvOk (Env.base w F0) [] 0 :=
 ⟨rfl,fun _ h=>h.elim,fun id h=>absurd (Bs _ (by simp)) h,fun id h=>absurd (Bs _ (by simp)) (Dd h),fun _ h=>h.elim,fun _ h=>h.elim,fun _ h=>h.elim,fun _ _ _ h=>h.elim,fun _ _ h=>h.elim,hF,Nat.le_refl _,fun _ _ h=>h.elim,fun _ h=>h.elim⟩
theorem Alc (s:Sh) (x:AV) (h:∀ c q w v,x≠.when c q w v):∀ c q w v,fit s x≠.when c q w v:=by
 intro c q w v he
 cases x with
 | when a b c d=>exact h a b c d rfl
 | _=>cases s <;> simp [fit] at he
theorem Ald {w w':World} {F0:Nat→Nat→Prop} {r:CR} {v:Value} {x:AV} (hE:EnvOk E H n) (hv:RdA E v x) (hevo:Evo 0 (Env.base w F0) E) (hw:E.w=w') (hk:G0 r x H n) :
 Wm w F0 r (.returned v) w':=by
 subst hw
 obtain ⟨hgiv,hfine,ids,σ,hwk⟩:=hk
 have hE1:=hE.give (ids:=ids)
 have hv1:=Alb (ids:=ids) hE hv
 have hs1:SlOk (E.give ids) ⟨#[v],[]⟩ [fit (P2 r.res) (noW (frV ids H x))]:=by
  refine ⟨rfl,fun t=>?_,fun t c s w v ht=>?_,Marks.nil _⟩
  ·cases t with
   | zero=>exact Aez _ _ (Fd hv1)
   | succ t=>exact .any _
  ·cases t with
   | zero=>simp only [List.getElem?_cons_zero,Option.some.injEq] at ht;exact absurd ht (Alc _ _ (G1 _) _ _ _ _)
   | succ t=>simp at ht
 obtain ⟨E2,hw2,hE2,hs2,hevo2,_,hL,hW,hA⟩:=Yx hE1 hs1 hwk
 have hevo':Evo 0 (Env.base w F0) E2:=(hevo.trans (Et 0)).trans hevo2
 have hnd:∀ id,id < r.news.length→(Ac r.news id).wr:=by
  intro id hid
  have hm:=List.all_eq_true.1 hfine _ (List.getElem_mem hid)
  have:Ac r.news id=r.news[id]:=by
   unfold Ac;rw [Bg,List.getElem?_eq_getElem hid];rfl
  rw [this]
  cases hob:r.news[id] <;> rw [hob] at hm <;> first | trivial | cases hm
 have heq:E2=Env.aft w E.w F0 r.news.length E2.ρ E2.K:=by
  have e1:E2.B=w.heap.size:=hevo'.B
  have e2:E2.F0=F0:=hevo'.F0
  have e6:E2.M=w.heap.size:=hevo'.M
  have e7:E2.Hd=fun _=>False:=hevo'.Hd
  have e3:E2.L=fun id=>id < r.news.length:=funext fun id=>propext ⟨fun h=>Cd ((hL id).1 h),fun h=>(hL id).2 (Dd (hnd id h))⟩
  have e4:E2.W=fun id=>id < r.news.length:=funext fun id=>propext ⟨fun h=>Cd (Dd ((hW id).1 h)),fun h=>(hW id).2 (hnd id h)⟩
  have e5:E2.A=fun id=>id < r.news.length:=funext fun id=>propext (hA id)
  cases E2
  simp only at hw2 e1 e2 e3 e4 e5 e6 e7 ⊢
  subst hw2;subst e1;subst e2;subst e3;subst e4;subst e5;subst e6;subst e7
  rfl
 have hg:A4 r.given:=by
  cases hq:r.given with
  | none=>trivial
  | some q=>rw [hq] at hgiv;exact hgiv
 refine ⟨hg,v,E2.ρ,E2.K,rfl, ?_, ?_, ?_, ?_, ?_⟩
 ·exact hevo'.below.trans (by rw [hw2];exact Below.refl _ _)
 ·have:=hs2.rd 0
  rw [← heq]
  exact this
 ·intro j ob hj
  rw [← heq]
  have hlt:j < r.news.length:=(List.getElem?_eq_some_iff.1 hj).1
  have hob:Ac r.news j=ob:=by unfold Ac;rw [Bg,hj];rfl
  have:=hE2.ok j ((hL j).2 (Dd (hnd j hlt))) (Dd (hnd j hlt))
  rw [hob] at this
  exact this
 ·intro j h hj hρ
  have:=hE2.lt j h ((hL j).2 (Dd (hnd j hj))) hρ
  rw [hevo'.B,hw2] at this
  exact this
 ·intro j j' h h' hj hj' hρ hρ' hne
  exact hE2.inj j j' h h' ((hL j).2 (Dd (hnd j hj))) ((hL j').2 (Dd (hnd j' hj'))) hρ hρ' hne
theorem Tg {call:CallSem} (hcall:A7 P call) {g:FuncId} {C:Ctr} (hfn:∃ fn,P.funcs[g]?=some fn∧fn.body.isSome=true∧(fn.name == "runtime.NumGoroutine")=false)
 (hgen:∀ args r,C args=some r→∀ k,r.gen k→k r.cr.res) (h:∀ args r gen,C args=some ⟨r,gen⟩→A4 r.need→call g args [] 0 (G0 r)):GoodC P g C:=by
 refine ⟨hfn,hgen,fun args r gen hC hn w F0 vs hF hsz hrd=>?_⟩
 obtain ⟨_,hc⟩:=hcall.1 g args [] 0 _ (h args r gen hC hn) (Env.base w F0) vs (Aiq hF) hsz hrd
 refine hc.mono fun en w' hpost=>?_
 obtain ⟨v,E',x,H',n',rfl,hw,_,hE',hv,hevo,hk⟩:=hpost
 exact Ald hE' hv hevo hw hk
theorem Ae6 (hcx:Ah P cx) (hdraw:Lk P cx) {g:FuncId} {C:Ctr} (d:Nat) (hfn:∃ fn,P.funcs[g]?=some fn∧fn.body.isSome=true∧(fn.name == "runtime.NumGoroutine")=false)
 (hgen:∀ args r,C args=some r→∀ k,r.gen k→k r.cr.res) (h:∀ args r gen,C args=some ⟨r,gen⟩→A4 r.need→L7 cx P d g args [] 0 (G0 r)):GoodC P g C :=
 Tg (Wu hcx hdraw d) hfn hgen h
end
end Go.Sx
