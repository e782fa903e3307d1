import Derived.Test.YticmijfmgmkkcaaGreatVSxOps9
set_option linter.unusedSimpArgs false
set_option linter.unusedVariables false
set_option maxRecDepth 100000
namespace Go.Sx
open Go.RowKit
section
variable {P:Program} {cx:Ctx} {E:Env} {a:Act} {e:Operand→AV} {H:List Ob} {n:Nat} {r:Res}
 {dst:Option Tmp} {ty:TypeId} {pos:String} {after:Array Go.Edge} {guard:Option (Nat × Bool)} {wn:Nat→Prop} {K:Act→World→Prop} {Q:Exit→Act→World→Prop} {ro:Option Nat}
theorem step_set {id:Nat} {hd:Hdr} {ob:Ob} {arr':Array Value} (hr:Ready E n 0) (hn:r.news=[]) (hk:r.kill=none) (hst:r.st=some (id,ob)) (hW:E.W id) (hρ:E.ρ id=some hd) (hd':Nat→Option Hdr):Step E n r (E.w.setRow hd.blk arr') hd':=by
 have hlt:=hr.lt id hd (hr.wl id hW) hρ
 refine ⟨⟨rfl,rfl,rfl,by simp,fun b hb=>setRow_other _ _ _ _ (by omega)⟩,fun b hb hne=>setRow_other _ _ _ _ (fun e=>hne id hW (.inr (by rw [hst];rfl)) (.inl ⟨hd,hρ,e.symm⟩)), ?_, ?_, ?_, ?_⟩
 ·intro j h hj;rw [hn] at hj;simp at hj
 ·intro j j' h h' hj;rw [hn] at hj;simp at hj
 ·intro i hi;rw [hk] at hi;cases hi
 ·intro p hp;rw [hst] at hp;cases hp;exact hW
theorem getElem?_spliced {arr:Array Value} {us:List Value} {o i:Nat} (h:o+us.length≤arr.size):((arr.toList.take o++us++arr.toList.drop (o+us.length)).toArray)[i]?=if o≤i∧i < o+us.length then us[i - o]? else arr[i]?:=by
 have:=splice_get (l:=arr.toList) (m:=us) (n:=o) (i:=i) (by simpa using h)
 rw [splice_eq _ _ _ (by simpa using h)] at this
 simpa using this
theorem flat_set (t:Ty) (xs:List t.den) (row:Nat) (y:t.den) (hrow:row < xs.length) (j:Nat):(flat t (xs.set row y))[j]?=if row * t.size≤j∧j < row * t.size+t.size then (enc t y)[j - row * t.size]? else (flat t xs)[j]?:=by
 have h1:xs.set row y=xs.take row++y :: xs.drop (row+1):=by rw [List.set_eq_take_append_cons_drop,if_pos hrow]
 have h2:xs=xs.take row++xs[row] :: xs.drop (row+1):=by simp
 have h3:flat t (xs.set row y)=flat t (xs.take row)++(enc t y++flat t (xs.drop (row+1))):=by rw [h1,flat_append];simp only [flat,List.flatMap_cons]
 have h4:flat t xs=flat t (xs.take row)++(enc t xs[row]++flat t (xs.drop (row+1))):=by
  conv=>lhs;rw [h2]
  rw [flat_append];simp only [flat,List.flatMap_cons]
 have hl:(flat t (xs.take row)).length=row * t.size:=by rw [flat_length,List.length_take,Nat.min_eq_left (by omega)]
 rw [h3,h4]
 have l1:=enc_length t y
 have l2:=enc_length t xs[row]
 generalize flat t (xs.take row)=A at hl ⊢
 generalize flat t (xs.drop (row+1))=B
 generalize enc t y=Y at l1 ⊢
 generalize enc t xs[row]=Z at l2 ⊢
 rw [← hl,← l1]
 by_cases hj:j < A.length
 ·rw [if_neg (by omega),List.getElem?_append_left hj,List.getElem?_append_left hj]
 ·rw [List.getElem?_append_right (l₁:=A) (l₂:=Y++B) (by omega),List.getElem?_append_right (l₁:=A) (l₂:=Z++B) (by omega)]
  by_cases hj2:j < A.length+Y.length
  ·rw [if_pos (by omega),List.getElem?_append_left (by omega)]
  ·rw [if_neg (by omega),List.getElem?_append_right (l₁:=Y) (by omega),List.getElem?_append_right (l₁:=Z) (by omega),l1,l2]
theorem store_part {id id2 off:Nat} {hd:Hdr} {cs vs:List AV} {ob:Ob} {v:Value} {x:AV} {arr:Array Value} {el:TypeId} {q g:Option Prop} (hr:Ready E n 1) (hA:∃ N,∀ id,E.A id→id < N) (hL:∀ id,E.A id→getOb H id≠.dead→E.L id) (hH:∀ id,E.L id→getOb H id≠.dead→OkOb E id (getOb H id))
 (hW2:E.W id2) (hW:E.W id) (hρ:E.ρ id=some hd) (hob:getOb H id=.cells cs) (hb:E.w.heap[hd.blk]?=some (.cells arr el (0,0))) (hcl:CellL E arr.toList cs)
 (hx:RdA E v x) (hpr:partRow H x=some (id2,ob)) (hvs:cellsOf x=some vs) (hle:off+vs.length≤cs.length)
 {K:World→Prop} (hK:∀ E',Ext E n ⟨q,g,.any,[ob],some id2,some (id,.cells (splice cs off [.own n])),[]⟩ wn E'→K E'.w) :
 K (E.w.setRow hd.blk ((arr.toList.take off++v.cells.toList++arr.toList.drop (off+v.cells.toList.length)).toArray)):=by
 unfold partRow at hpr
 split at hpr
 ·rename_i id3 k lo len
  split at hpr
  ·rename_i t xs hob2
   split at hpr
   ·rename_i hk
    simp only [Option.some.injEq,Prod.mk.injEq] at hpr
    obtain ⟨rfl,rfl⟩:=hpr
    have hk':k=t.size:=Nat.eq_of_beq_eq_true hk
    subst hk'
    simp only [cellsOf,Option.some.injEq] at hvs
    subst hvs
    have hle':off+1≤cs.length:=hle
    obtain ⟨hA2,h1,hv⟩:=hx.ownp_inv
    have hne2:getOb H id3≠.dead:=by rw [hob2];simp
    have hl2:=hL id3 hA2 hne2
    have hv:=hv hl2
    have hrow:RowsAt E t xs (E.ρ id3):=by
     have:=hH id3 hl2 hne2
     rw [hob2] at this
     exact this
    have hidne:id≠id3:=by
     rintro rfl
     rw [hob] at hob2
     cases hob2
    have hl:=hr.wl id hW
    have hlt:=hr.lt id hd hl hρ
    have hvc:v.cells.toList=[v]:=by
     rcases hρ3:E.ρ id3 with _ | h3
     ·rw [hρ3] at hv
      obtain ⟨_,a,rfl⟩:=hv
      rfl
     ·rw [hρ3] at hv
      obtain ⟨_,o,c,rfl,_⟩:=hv
      rfl
    obtain ⟨hd3,hown,hrow3,hblk⟩ : ∃ hd3:Option Hdr,ownV hd3 v∧RowsAt E t ((xs.drop lo).take len) hd3∧∀ h,hd3=some h→∃ h',E.ρ id3=some h'∧h'.blk=h.blk:=by
     rcases hρ3:E.ρ id3 with _ | h3
     ·rw [hρ3] at hv hrow
      obtain ⟨rfl,a,rfl⟩:=hv
      exact ⟨none,⟨a,rfl⟩,by show List.take 0 _=[];simp,fun h hh=>by cases hh⟩
     ·rw [hρ3] at hv hrow
      obtain ⟨g0,o,c,rfl,g1,g2,g3⟩:=hv
      obtain ⟨k1,k2,k3,k4,arr3,el3,k5,k6,k7⟩:=hrow
      refine ⟨some ⟨h3.blk,o,len,c⟩,rfl,⟨?_,g1,by show len≤lim;omega,by show c≤maxLen;omega,arr3,el3,k5, ?_,fun j p hp=>?_⟩,fun h hh=>⟨h3,rfl,by cases hh;rfl⟩⟩
      ·rw [List.length_take,List.length_drop]
       show len=_
       omega
      ·show o+c * t.size≤arr3.size
       rcases g3 with rfl | ⟨rfl,g3⟩
       ·have:lo * t.size+c * t.size≤h3.cap * t.size:=by
         rw [← Nat.add_mul]
         exact Nat.mul_le_mul_right _ (by omega)
        omega
       ·omega
      ·have hj:=(List.getElem?_eq_some_iff.1 hp).1
       rw [flat_length,List.length_take,List.length_drop] at hj
       have hj2:j < len * t.size:=Nat.lt_of_lt_of_le hj (Nat.mul_le_mul_right _ (Nat.min_le_left _ _))
       have hc0:c≠0:=by
        rintro rfl
        have:len=0:=by omega
        subst this
        simp at hj2
       rw [flat_take,flat_drop,List.getElem?_take_of_lt hj2,List.getElem?_drop] at hp
       obtain ⟨u,u1,u2⟩:=k7 _ p hp
       refine ⟨u, ?_,u2⟩
       show arr3[o+j]?=some u
       rcases g3 with rfl | ⟨rfl,_⟩
       ·rw [← u1];congr 1;omega
       ·exact absurd rfl hc0
    have hs:Step E n ⟨q,g,.any,[.rows t ((xs.drop lo).take len)],some id3,some (id,.cells (splice cs off [.own n])),[]⟩ (E.w.setRow hd.blk ((arr.toList.take off++v.cells.toList++arr.toList.drop (off+v.cells.toList.length)).toArray)) (fun _=>hd3):=by
     refine ⟨⟨rfl,rfl,rfl,by simp,fun b hb=>setRow_other _ _ _ _ (by omega)⟩,fun b hb hne=>setRow_other _ _ _ _ (fun e=>hne id hW (.inr rfl) (.inl ⟨hd,hρ,e.symm⟩)), ?_, ?_, ?_, ?_⟩
     ·intro j h hj hh
      obtain ⟨h',g1,g2⟩:=hblk h hh
      have:=hr.lt id3 h' hl2 g1
      refine ⟨?_,.inr ⟨id3,hW2,rfl,.inl ⟨h',g1,g2⟩⟩⟩
      rw [← g2]
      simpa using this.2
     ·intro j j' h h' hj hj' _ _ hne
      simp at hj hj'
      omega
     ·intro i hi;cases hi;exact hW2
     ·intro p hp;cases hp;exact hW
    have hn':∀ w',(E.ext n (List.length [Ob.rows t ((xs.drop lo).take len)]) (some id3) [] wn w' (fun _=>hd3)).ρ n=hd3:=fun w'=>by simp [Env.ext]
    obtain ⟨N,hN⟩:=hA
    refine hK _ (hs.ext (wn:=wn) (by simpa using hr) ⟨N,hN⟩ (fun hevo j ob hj=>?_) (fun hevo i ob hi=>?_))
    ·match j,hj with
     | 0,hj =>
      cases hj
      show RowsAt _ t _ _
      rw [Nat.add_zero,hn']
      refine hrow3.mono (hevo 0).fz fun h hh=>?_
      obtain ⟨h',g1,g2⟩:=hblk h hh
      rw [← g2]
      refine setRow_other _ _ _ _ fun e=>?_
      exact hr.inj id id3 hd h' hl hl2 hρ g1 hidne e.symm
    ·cases hi
     have hidn:¬ (n≤id∧id < n+1):=fun ⟨h1,h2⟩=>hr.fresh id h1 h2 (hr.sub id hl)
     have hcu:CellL (E.ext n (List.length [Ob.rows t ((xs.drop lo).take len)]) (some id3) [] wn (E.w.setRow hd.blk ((arr.toList.take off++v.cells.toList++arr.toList.drop (off+v.cells.toList.length)).toArray)) (fun _=>hd3)) v.cells.toList [.own n]:=by
      rw [hvc]
      refine ⟨rfl,fun i u y hu hy=>?_⟩
      match i,hu,hy with
      | 0,hu,hy =>
       cases hu;cases hy
       refine ⟨h1,.own _ n (.inr ⟨Nat.le_refl _,by simp⟩) h1 fun _=>?_⟩
       rw [← hvc,hn']
       exact hown
     have hco:CellL (E.ext n (List.length [Ob.rows t ((xs.drop lo).take len)]) (some id3) [] wn (E.w.setRow hd.blk ((arr.toList.take off++v.cells.toList++arr.toList.drop (off+v.cells.toList.length)).toArray)) (fun _=>hd3)) arr.toList cs :=
      ⟨hcl.1,fun i u y hu hy=>⟨(hcl.2 i u y hu hy).1,(hcl.2 i u y hu hy).2.mono (hevo N) hN⟩⟩
     have hcl':=hco.splice hcu (off:=off) hle'
     have hll:=hcl.1
     refine ⟨hd,by simp only [Env.ext,List.length_cons,List.length_nil];rw [if_neg hidn];exact hρ,_,el,setRow_heap _ _ arr _ el _ hb, ?_,fun i u y hu hy=>?_⟩
     ·rw [splice_length (by simpa using hle'),hvc]
      simp only [List.size_toArray,List.length_append,List.length_take,List.length_drop,Array.length_toList,List.length_cons,List.length_nil] at hll ⊢
      omega
     ·refine hcl'.2 i u y ?_ hy
      rw [splice_eq _ _ _ (by rw [hvc,hll];exact hle')]
      simpa using hu
   ·cases hpr
  ·cases hpr
 ·cases hpr
theorem flat_cell {t:Ty}:∀ {x:t.den},t.flat=true→∀ {i:Nat} {p:PV},(enc t x)[i]?=some p→(∃ k n,p=.int k n)∨(∃ b,p=.bool b)∨∃ s,p=.str s:=by
 induction t with
 | int k =>
  intro x _ i p hp
  have hm:=List.mem_of_getElem? hp
  simp [enc] at hm
  exact .inl ⟨_,_,hm⟩
 | bool =>
  intro x _ i p hp
  have hm:=List.mem_of_getElem? hp
  simp [enc] at hm
  exact .inr (.inl ⟨_,hm⟩)
 | str =>
  intro x _ i p hp
  have hm:=List.mem_of_getElem? hp
  simp [enc] at hm
  exact .inr (.inr ⟨_,hm⟩)
 | pair a b iha ihb =>
  intro x h i p hp
  simp only [Ty.flat,Bool.and_eq_true] at h
  simp only [enc,List.getElem?_append] at hp
  split at hp
  ·exact iha h.1 hp
  ·exact ihb h.2 hp
 | sl t ih=>intro x h;simp [Ty.flat] at h
 | expr=>intro x h;simp [Ty.flat] at h
 | fn=>intro x h;simp [Ty.flat] at h
theorem flat_rd {t:Ty} {xs:List t.den} (h:t.flat=true) {w w':World} {F F':Nat→Nat→Prop} {j:Nat} {p:PV} {v:Value} (hp:(flat t xs)[j]?=some p) (hv:RdP w F v p):RdP w' F' v p:=by
 have hm:=List.mem_of_getElem? hp
 obtain ⟨x,_,hx⟩:=List.mem_flatMap.1 hm
 obtain ⟨i,hi⟩:=List.mem_iff_getElem?.1 hx
 rcases flat_cell h hi with ⟨k,m,rfl⟩ | ⟨b,rfl⟩ | ⟨b,rfl⟩
 ·cases hv;exact .int _ _
 ·cases hv;exact .bool _
 ·cases hv;exact .str _
theorem store_grid {id j m:Nat} {gt:Ty} {xss:List (List gt.den)} {zs:List gt.den} {hd:Hdr} {v:Value} {arr:Array Value} {el:TypeId} {q g:Option Prop} (hr:Ready E n 0) (hA:∃ N,∀ id,E.A id→id < N)
 (hWj:E.W j) (hW:E.W id) (hid:id≠j) (hρ:E.ρ id=some hd) (hg:GridAt E gt m xss hd (E.K id)) (hb:E.w.heap[hd.blk]?=some (.cells arr el (0,0))) (hm:1≤m)
 (hrow:RowsAt E gt zs (E.ρ j)) (hv:ownV (E.ρ j) v) (hone:v.oneCell'=true)
 {K:World→Prop} (hK:∀ E',Ext E n ⟨q,g,.any,[],some j,some (id,.grid gt (m - 1) (xss++[zs])),[]⟩ wn E'→K E'.w) :
 K (E.w.setRow hd.blk ((arr.toList.take (hd.off+xss.length)++v.cells.toList++arr.toList.drop (hd.off+xss.length+v.cells.toList.length)).toArray)):=by
 obtain ⟨N,hN⟩:=hA
 have hl:=hr.wl id hW
 have hlj:=hr.wl j hWj
 have ha:=hr.sub id hl
 have hvc:v.cells.toList=[v]:=by cases v <;> simp_all [Value.cells,Value.oneCell']
 rw [hvc]
 have hlt:=hr.lt id hd hl hρ
 obtain ⟨arr2,el2,b1,b2,b3,b4⟩:=hg.head
 rw [hb] at b1;cases b1
 have hfit:hd.off+xss.length + [v].length≤arr.size:=by
  have:=hg.cap
  have:=hg.len
  simp only [List.length_cons,List.length_nil];omega
 obtain ⟨arr',harr,hasz,hget⟩ : ∃ arr':Array Value,(arr.toList.take (hd.off+xss.length)++[v]++arr.toList.drop (hd.off+xss.length + [v].length)).toArray=arr'∧arr'.size=arr.size ∧
  ∀ k,arr'[k]?=if k=hd.off+xss.length then some v else arr[k]?:=by
  refine ⟨_,rfl, ?_,fun k=>?_⟩
  ·simp only [List.size_toArray,List.length_append,List.length_take,List.length_drop,Array.length_toList,List.length_cons,List.length_nil] at hfit ⊢
   omega
  ·rw [getElem?_spliced hfit]
   by_cases hk:k=hd.off+xss.length
   ·subst hk;simp
   ·rw [if_neg hk,if_neg (by simp only [List.length_cons,List.length_nil];omega)]
 rw [harr]
 let kid:Nat→Option (Option Hdr):=fun i=>if i=xss.length then some (E.ρ j) else E.K id i
 let E':Env:={ E with
  w:=E.w.setRow hd.blk arr'
  L:=fun i=>E.L i∧i≠j
  W:=fun i=>E.W i∧i≠j
  K:=fun i=>if i=id then kid else E.K i }
 have hKid:E'.K id=kid:=by show (if id=id then kid else E.K id)=kid;rw [if_pos rfl]
 have hKo:∀ i,i≠id→E'.K i=E.K i:=fun i hi=>by show (if i=id then kid else E.K i)=E.K i;rw [if_neg hi]
 have own:∀ i b,E'.Own i b→E.Own i b∨(i=id∧E.Own j b):=by
  intro i b ho
  rcases ho with ⟨h,hh,hb⟩ | ⟨c,h,hh,hb⟩
  ·exact .inl (.inl ⟨h,hh,hb⟩)
  ·by_cases hi:i=id
   ·subst hi
    rw [hKid] at hh
    simp only [kid] at hh
    split at hh
    ·exact .inr ⟨rfl,.inl ⟨h,by simpa using hh,hb⟩⟩
    ·exact .inl (.inr ⟨c,h,hh,hb⟩)
   ·rw [hKo i hi] at hh
    exact .inl (.inr ⟨c,h,hh,hb⟩)
 have heap:∀ b,b≠hd.blk→E'.w.heap[b]?=E.w.heap[b]?:=fun b hb=>setRow_other _ _ _ _ hb
 have hsz:E'.w.heap.size=E.w.heap.size:=by simp [E']
 have hevo:∀ n0,Evo n0 E E':=by
  intro n0
  refine ⟨rfl,rfl,rfl,⟨rfl,rfl,rfl,by rw [hsz];exact Nat.le_refl _,fun b hb=>heap b (by omega)⟩,fun _ _ h=>h,fun i _ _ hl=>⟨hl.1,rfl⟩,fun i _ _ hl c o ho=>?_,fun b hb=>⟨⟨by rw [hsz];exact hb.1,fun i hW ho=>?_,hb.2.2⟩,heap b fun e=>?_⟩,rfl,fun b hb=>heap b fun e=>hr.hid id b hl (.inl ⟨hd,hρ,e.symm⟩) hb⟩
  ·by_cases hi:i=id
   ·subst hi
    rw [hKid]
    simp only [kid]
    rw [if_neg]
    ·exact ho
    ·rintro rfl
     rw [hg.past _ (Nat.le_refl _)] at ho
     cases ho
   ·rw [hKo i hi];exact ho
  ·rcases own i b ho with h | ⟨rfl,h⟩
   ·exact hb.2.1 i hW.1 h
   ·exact hb.2.1 j hWj h
  ·exact hb.2.1 id hW (.inl ⟨hd,hρ,e.symm⟩)
 have hx:Ext E n ⟨q,g,.any,[],some j,some (id,.grid gt (m - 1) (xss++[zs])),[]⟩ wn E':=by
  refine ⟨hevo,fun i=>?_,fun i=>?_,fun i=>?_, ?_, ?_, ?_,fun k ob hk=>(by simp at hk), ?_, ?_, ?_⟩
  ·show (E.L i∧i≠j)↔_
   simp only [List.length_nil,Nat.add_zero,ne_eq,Option.some.injEq]
   constructor
   ·rintro ⟨h1,h2⟩;exact .inl ⟨h1,fun e=>h2 e.symm⟩
   ·rintro (⟨h1,h2⟩ | h);exact ⟨h1,fun e=>h2 e.symm⟩;omega
  ·show (E.W i∧i≠j)↔_
   simp only [List.length_nil,Nat.add_zero,ne_eq,Option.some.injEq,List.not_mem_nil,not_false_eq_true,and_true]
   constructor
   ·rintro ⟨h1,h2⟩;exact .inl ⟨h1,fun e=>h2 e.symm⟩
   ·rintro (⟨h1,h2⟩ | h);exact ⟨h1,fun e=>h2 e.symm⟩;omega
  ·show E.A i↔_
   simp only [List.length_nil,Nat.add_zero]
   constructor
   ·exact .inl
   ·rintro (h | h);exact h;omega
  ·intro i i' b hl1 hl2 ho1 ho2
   have hl1:E.L i∧i≠j:=hl1
   have hl2:E.L i'∧i'≠j:=hl2
   rcases own i b ho1 with h1 | ⟨rfl,h1⟩ <;> rcases own i' b ho2 with h2 | ⟨rfl,h2⟩
   ·exact hr.injO i i' b hl1.1 hl2.1 h1 h2
   ·exact absurd (hr.injO i j b hl1.1 hlj h1 h2) hl1.2
   ·exact absurd (hr.injO i' j b hl2.1 hlj h2 h1) hl2.2
   ·rfl
  ·intro i b hl1 ho1
   have hl1:E.L i∧i≠j:=hl1
   rw [show E'.B=E.B from rfl,hsz]
   rcases own i b ho1 with h1 | ⟨rfl,h1⟩
   ·exact hr.ltO i b hl1.1 h1
   ·exact hr.ltO j b hlj h1
  ·intro i b hl1 ho1
   have hl1:E.L i∧i≠j:=hl1
   rcases own i b ho1 with h1 | ⟨rfl,h1⟩
   ·exact hr.hid i b hl1.1 h1
   ·exact hr.hid j b hlj h1
  ·intro i ob hi
   cases hi
   refine ⟨hd,hρ, ?_⟩
   rw [hKid]
   have kin:∀ i,i < xss.length→kid i=E.K id i:=fun i hi=>by simp only [kid];rw [if_neg (by omega)]
   have kat:kid xss.length=some (E.ρ j):=by simp only [kid];rw [if_pos trivial]
   have hblkj:∀ h',E.ρ j=some h'→h'.blk≠hd.blk:=fun h' hh=>hr.inj j id h' hd hlj hl hh hρ (Ne.symm hid)
   refine ⟨by simp;have:=hg.len;omega,hg.cap,hg.lim,hg.max,⟨arr',el,setRow_heap _ _ arr _ el _ hb,by rw [hasz];exact b2,fun i hi=>?_,fun i hi1 hi2=>?_⟩,fun i xs hi=>?_,fun i hi=>?_,fun i h' hi=>?_,fun i1 i2 h1 h2 hh1 hh2 hne=>?_⟩
   ·rw [hget]
    by_cases he:i=xss.length
    ·subst he
     exact ⟨E.ρ j,v,kat,by rw [if_pos rfl],hv⟩
    ·have hi':i < xss.length:=by simp at hi;omega
     obtain ⟨o,u,c1,c2,c3⟩:=b3 i hi'
     exact ⟨o,u,(kin i hi').trans c1,by rw [if_neg (by omega)];exact c2,c3⟩
   ·simp only [List.length_append,List.length_cons,List.length_nil] at hi1 hi2
    obtain ⟨ba,c⟩:=b4 i (by omega) (by omega)
    exact ⟨ba,by rw [hget,if_neg (by omega)];exact c⟩
   ·by_cases he:i=xss.length
    ·subst he
     have:xs=zs:=by simpa using hi.symm
     subst this
     refine ⟨E.ρ j,kat,hrow.mono (hevo 0).fz fun h' hh=>heap _ (hblkj h' hh)⟩
    ·have hi':i < xss.length:=by
      have:=(List.getElem?_eq_some_iff.1 hi).1
      simp at this;omega
     rw [List.getElem?_append_left hi'] at hi
     obtain ⟨o,c1,c2⟩:=hg.rows i xs hi
     refine ⟨o,(kin i hi').trans c1,c2.mono (hevo 0).fz fun h' hh=>heap _ ?_⟩
     subst hh
     exact hg.apart i h' c1
   ·simp only [List.length_append,List.length_cons,List.length_nil] at hi
    simp only [kid]
    rw [if_neg (by omega)]
    exact hg.past i (by omega)
   ·simp only [kid] at hi
    split at hi
    ·exact hblkj h' (by simpa using hi)
    ·exact hg.apart i h' hi
   ·simp only [kid] at hh1 hh2
    split at hh1 <;> split at hh2
    ·omega
    ·intro e
     have:=hr.injO j id h2.blk hlj hl (.inl ⟨h1,by simpa using hh1,e⟩) (.inr ⟨i2,h2,hh2,rfl⟩)
     exact hid this.symm
    ·intro e
     have:=hr.injO j id h1.blk hlj hl (.inl ⟨h2,by simpa using hh2,e.symm⟩) (.inr ⟨i1,h1,hh1,rfl⟩)
     exact hid this.symm
    ·exact hg.two i1 i2 h1 h2 hh1 hh2 hne
  ·intro i b hl1 ho1 hk hs
   have hne:i≠id:=fun e=>hs _ rfl e.symm
   refine heap b fun e=>?_
   subst e
   exact hne (hr.injO i id _ hl1 hl ho1 (.inl ⟨hd,hρ,rfl⟩))
  ·intro i ob hl1 hk hs hok
   have hne:i≠id:=fun e=>hs _ rfl e.symm
   refine OkOb.mono (hevo N) hN (hr.sub i hl1) ⟨hl1,fun e=>hk (by rw [e])⟩ (hKo i hne) (fun b ho1=>heap b fun e=>?_) hok
   subst e
   exact hne (hr.injO i id _ hl1 hl ho1 (.inl ⟨hd,hρ,rfl⟩))
 exact hK E' hx
theorem store_cell {id i j m:Nat} {gt:Ty} {xss:List (List gt.den)} {y:gt.den} {hd h':Hdr} {v:Value} {arr:Array Value} {el:TypeId} {q g:Option Prop} (hr:Ready E n 0) (hA:∃ N,∀ id,E.A id→id < N)
 (hW:E.W id) (hρ:E.ρ id=some hd) (hg:GridAt E gt m xss hd (E.K id)) (hK':E.K id i=some (some h')) (hj:j < h'.len) (hb:E.w.heap[h'.blk]?=some (.cells arr el (0,0))) (hsz1:gt.size=1)
 (hv:∃ p,enc gt y=[p]∧∀ (w:World) (F:Nat→Nat→Prop),RdP w F v p) (hone:v.oneCell'=true)
 {K:World→Prop} (hK:∀ E',Ext E n ⟨q,g,.any,[],none,some (id,.grid gt m (xss.set i ((xss.getD i []).set j y))),[]⟩ wn E'→K E'.w) :
 K (E.w.setRow h'.blk ((arr.toList.take (h'.off+j)++v.cells.toList++arr.toList.drop (h'.off+j+v.cells.toList.length)).toArray)):=by
 have hl:=hr.wl id hW
 have hvc:v.cells.toList=[v]:=by cases v <;> simp_all [Value.cells,Value.oneCell']
 rw [hvc]
 have hown:E.Own id h'.blk:=.inr ⟨i,h',hK',rfl⟩
 have hlt:=hr.ltO id _ hl hown
 have hi:i < xss.length:=by
  rcases Nat.lt_or_ge i xss.length with h | h
  ·exact h
  ·rw [hg.past i h] at hK';cases hK'
 obtain ⟨o,k1,k2⟩:=hg.rows i _ (List.getElem?_eq_getElem hi)
 rw [hK'] at k1;cases k1
 obtain ⟨g1,g2,g3,g3',arr2,el2,g4,g5,g6⟩:=k2
 rw [hb] at g4;cases g4
 rw [hsz1] at g5
 have hfit:h'.off+j + [v].length≤arr.size:=by simp only [List.length_cons,List.length_nil];omega
 obtain ⟨arr',harr,hasz,hget⟩ : ∃ arr':Array Value,(arr.toList.take (h'.off+j)++[v]++arr.toList.drop (h'.off+j + [v].length)).toArray=arr'∧arr'.size=arr.size ∧
  ∀ k,arr'[k]?=if k=h'.off+j then some v else arr[k]?:=by
  refine ⟨_,rfl, ?_,fun k=>?_⟩
  ·simp only [List.size_toArray,List.length_append,List.length_take,List.length_drop,Array.length_toList,List.length_cons,List.length_nil] at hfit ⊢
   omega
  ·rw [getElem?_spliced hfit]
   by_cases hk:k=h'.off+j
   ·subst hk;simp
   ·rw [if_neg hk,if_neg (by simp only [List.length_cons,List.length_nil];omega)]
 rw [harr]
 have hs:Step E n ⟨q,g,.any,[],none,some (id,.grid gt m (xss.set i ((xss.getD i []).set j y))),[]⟩ (E.w.setRow h'.blk arr') (fun _=>none):=by
  refine ⟨⟨rfl,rfl,rfl,by simp,fun b hb=>setRow_other _ _ _ _ (by omega)⟩,fun b hb hne=>setRow_other _ _ _ _ (fun e=>hne id hW (.inr rfl) (e ▸ hown)), ?_, ?_,fun i hi=>(by cases hi),fun p hp=>(by cases hp;exact hW)⟩
  ·intro j h hj;simp at hj
  ·intro j j' h h' hj;simp at hj
 have hx:=hs.ext (wn:=wn) (by simpa using hr) hA (fun _ j ob hj=>by simp at hj) (fun hevo i' ob hi'=>by
  cases hi'
  have heap:∀ b,b≠h'.blk→(E.w.setRow h'.blk arr').heap[b]?=E.w.heap[b]?:=fun b hb=>setRow_other _ _ _ _ hb
  have hρ2:(E.ext n (List.length ([]:List Ob)) none [] wn (E.w.setRow h'.blk arr') (fun _=>none)).ρ id=some hd:=by
   simp only [Env.ext];rw [if_neg (by simp)];exact hρ
  have hK2:(E.ext n (List.length ([]:List Ob)) none [] wn (E.w.setRow h'.blk arr') (fun _=>none)).K id=E.K id:=by
   simp only [Env.ext];rw [if_neg (by simp)]
  refine ⟨hd,hρ2, ?_⟩
  rw [hK2]
  obtain ⟨arr3,el3,b1,b2,b3,b4⟩:=hg.head
  have hlen:(xss.set i ((xss.getD i []).set j y)).length=xss.length:=List.length_set
  refine ⟨by rw [hlen];exact hg.len,hg.cap,hg.lim,hg.max,⟨arr3,el3,(heap _ (Ne.symm (hg.apart i h' hK'))).trans b1,b2,by rw [hlen];exact b3,by rw [hlen];exact b4⟩,fun i2 xs hx2=>?_,by rw [hlen];exact hg.past,hg.apart,hg.two⟩
  by_cases he:i2=i
  ·subst he
   rw [List.getElem?_set_self hi] at hx2
   cases hx2
   refine ⟨some h',hK', ?_⟩
   have hgd:xss.getD i2 []=xss[i2]:=by simp [List.getD,hi]
   rw [hgd]
   refine ⟨by simp [g1],g2,g3,g3',arr',el,setRow_heap _ _ arr _ el _ hb,by rw [hasz,hsz1];exact g5,fun c p hp=>?_⟩
   rw [hget]
   rw [flat_set gt _ j y (by rw [← g1];exact hj),hsz1,Nat.mul_one] at hp
   by_cases hc:c=j
   ·subst hc
    rw [if_pos ⟨Nat.le_refl _,by omega⟩,Nat.sub_self] at hp
    obtain ⟨p',e1,e2⟩:=hv
    rw [e1] at hp
    cases hp
    exact ⟨v,by rw [if_pos rfl],e2 _ _⟩
   ·rw [if_neg (by omega)] at hp
    obtain ⟨u,u1,u2⟩:=g6 c p hp
    exact ⟨u,by rw [if_neg (by omega)];exact u1,u2.mono (hevo 0).fz⟩
  ·rw [List.getElem?_set_ne (Ne.symm he)] at hx2
   obtain ⟨o,c1,c2⟩:=hg.rows i2 xs hx2
   refine ⟨o,c1,c2.mono (hevo 0).fz fun h2 hh=>heap _ ?_⟩
   subst hh
   exact hg.two i2 i h2 h' c1 hK' he)
 exact hK _ hx
theorem s_store {t:TypeId} {p x:Operand} (hr:Ready E n r.news.length) (hA:∃ N,∀ id,E.A id→id < N) (hL:∀ id,E.A id→getOb H id≠.dead→E.L id) (hH:∀ id,E.L id→getOb H id≠.dead→OkOb E id (getOb H id))
 (hWk:∀ id,r.kill=some id→E.W id) (hW:∀ q,r.st=some q→E.W q.1) (hp:RdA E (a.eval p) (e p)) (hx:RdA E (a.eval x) (e x)) (hn:OptP r.need)
 (h:evOp cx P e H n ⟨dst,.store t p x,ty,pos,after,guard⟩=some r)
 (hK:∀ E' v,Ext E n r wn E'→OptP r.given→RdA E' v r.val→K (a.put dst v) E'.w):(⟨dst,.store t p x,ty,pos,after,guard⟩ : Oper).wpI ro P a E.w K Q:=by
 simp only [evOp] at h
 split at h
 ·cases h
 ·rename_i vs hvs
  have hc:=cellsOf_ok hx hvs
  split at h
  ·rename_i hsz
   have hsz':vs.length=sizeT P t:=Nat.eq_of_beq_eq_true hsz
   have hne0:0 < vs.length∨vs.length=0:=by omega
   have run:∀ (b o:Nat) (arr:Array Value) (el:TypeId),a.eval p=.pointer (some ⟨b,o,none⟩)→E.w.heap[b]?=some (.cells arr el (0,0))→o+vs.length≤arr.size→(P.info? t).isSome=true →
    (execOp a.eval ⟨dst,.store t p x,ty,pos,after,guard⟩).run P E.w=.ok .skip (E.w.setRow b ((arr.toList.take o++(a.eval x).cells.toList++arr.toList.drop (o+(a.eval x).cells.toList.length)).toArray)):=by
    intro b o arr el hv hb ho hi
    obtain ⟨info,hi⟩:=Option.isSome_iff_exists.1 hi
    have h1:(a.eval x).cells.size=info.size:=by
     have:=hc.1
     simp only [Array.length_toList] at this
     rw [this,hsz',sizeT,hi]
    have hst:=run_storeCells_at P b o el (a.eval x).cells.toList 0 arr E.w hb (by rw [hc.1];simpa using ho) (fun u hu=>by
     obtain ⟨i,hi⟩:=List.mem_iff_getElem?.1 hu
     have hlt:i < vs.length:=by rw [← hc.1];exact (List.getElem?_eq_some_iff.1 hi).1
     exact (hc.2 i u _ hi (List.getElem?_eq_getElem hlt)).1)
    simp only [Nat.add_zero] at hst
    simp only [execOp,hv,Instr.storeAt,Instr.sureAddr,Sem.run_bind,Sem.run_pure,Result.andThen_ok,storeVar,sizeOf,typeInfo,run_program,hi,h1,ne_eq,not_true_eq_false,if_false]
    simp [hst]
   split at h
   ·cases h
   rename_i info hinfo
   have hii:(P.info? t).isSome=true:=by rw [hinfo];rfl
   split at h
   ·rename_i id off hv
    rw [hv] at hp
    split at h
    ·rename_i cs hob
     split at h
     ·rename_i hle
      have hle':off+vs.length≤cs.length:=Nat.le_of_ble_eq_true hle
      have hA':E.A id:=hp.ptr_inv.1
      have hne:getOb H id≠.dead:=by rw [hob];simp
      have hl:=hL id hA' hne
      have hok:=hH id hl hne
      rw [hob] at hok
      obtain ⟨hd,hρ,arr,el,hb,hasz,hcells⟩:=hok
      obtain ⟨hd',hρ',hval⟩:=hp.ptr_inv.2.2 hl
      rw [hρ] at hρ'
      cases hρ'
      have hcl:CellL E arr.toList cs:=⟨by simpa using hasz,fun i v y hv hy=>hcells i v y (by simpa using hv) hy⟩
      have hrun:=run hd.blk off arr el hval hb (by omega) hii
      split at h
      ·rename_i id2 ob hpr
       have hr0:=(Option.some.inj h).symm
       subst hr0
       refine wp_skip' hrun ?_
       exact store_part (by simpa using hr) hA hL hH (hWk _ rfl) (hW _ rfl) hρ hob hb hcl hx hpr hvs hle' (fun E' h=>hK E' undef h trivial (.any _))
      ·have hr0:=(Option.some.inj h).symm
       subst hr0
       have hWid:E.W id:=hW _ rfl
       refine wp_skip' hrun ?_
       have hs:Step E n ⟨none,none,.any,[],none,some (id,.cells (splice cs off vs)),[]⟩ (E.w.setRow hd.blk ((arr.toList.take off++(a.eval x).cells.toList++arr.toList.drop (off+(a.eval x).cells.toList.length)).toArray)) (fun _=>none) :=
        step_set hr rfl rfl rfl hWid hρ _
       obtain ⟨N,hN⟩:=hA
       refine hK _ undef (hs.ext (wn:=wn) hr ⟨N,hN⟩ (fun _ j ob hj=>by simp at hj) (fun hevo i ob hi=>?_)) trivial (.any _)
       cases hi
       have hcl':=hcl.splice hc hle'
       refine ⟨hd,by simp only [Env.ext];rw [if_neg (by simp)];exact hρ,_,el,setRow_heap _ _ arr _ el _ hb, ?_,fun i v y hv hy=>?_⟩
       ·have h1:=hc.1
        rw [splice_length hle']
        simp only [List.size_toArray,List.length_append,List.length_take,List.length_drop,Array.length_toList] at h1 ⊢
        omega
       ·have hv':(splice arr.toList off (a.eval x).cells.toList)[i]?=some v:=by
         rw [splice_eq _ _ _ (by rw [hc.1];simp;omega)]
         simpa using hv
        obtain ⟨h2,h3⟩:=hcl'.2 i v y hv' hy
        exact ⟨h2,h3.mono (hevo N) hN⟩
     ·cases h
    ·cases h
   ·rename_i id k row off hv
    rw [hv] at hp
    split at h
    ·rename_i t' xs hob
     split at h
     ·rename_i hcond
      simp only [Bool.and_eq_true] at hcond
      have hk:k=t'.size:=Nat.eq_of_beq_eq_true hcond.1
      have hle:off+vs.length≤k:=Nat.le_of_ble_eq_true hcond.2
      subst hk
      split at h
      ·rename_i ps ids hd
       split at h
       ·rename_i y hy
        split at h
        ·cases h
        ·rename_i hnc
         have hr0:=(Option.some.inj h).symm
         subst hr0
         have hnotin:id ∉ ids:=by simpa using hnc
         have hA':E.A id:=hp.rptr_inv.1
         have hne:getOb H id≠.dead:=by rw [hob];simp
         have hl:=hL id hA' hne
         have hok:RowsAt E t' xs (E.ρ id):=by
          have:=hH id hl hne
          rw [hob] at this
          exact this
         obtain ⟨hd',hρ,hrow,hval⟩:=hp.rptr_inv.2.2 hl
         rw [hρ] at hok
         obtain ⟨g1,g2,g3,g3',arr,el,g4,g5,g6⟩:=hok
         have hWid:E.W id:=hW _ rfl
         have hrow':row < xs.length:=by omega
         have hcap:row * t'.size+t'.size≤hd'.cap * t'.size:=by
          have:row * t'.size+t'.size=(row+1) * t'.size:=by rw [Nat.add_mul,Nat.one_mul]
          rw [this];exact Nat.mul_le_mul_right _ (by omega)
         have hfit:hd'.off+row * t'.size+off+vs.length≤arr.size:=by omega
         have hcl:=hc.1
         obtain ⟨arr',harr,hasz,hget⟩ : ∃ arr':Array Value,(arr.toList.take (hd'.off+row * t'.size+off)++(a.eval x).cells.toList++arr.toList.drop (hd'.off+row * t'.size+off+(a.eval x).cells.toList.length)).toArray=arr'∧arr'.size=arr.size ∧
          ∀ j,arr'[j]?=if hd'.off+row * t'.size+off≤j∧j < hd'.off+row * t'.size+off+vs.length then (a.eval x).cells.toList[j - (hd'.off+row * t'.size+off)]? else arr[j]?:=by
          refine ⟨_,rfl, ?_,fun j=>by rw [getElem?_spliced (by rw [hcl];exact hfit),hcl]⟩
          simp only [List.size_toArray,List.length_append,List.length_take,List.length_drop,Array.length_toList] at hcl ⊢
          omega
         have hrun:=run hd'.blk (hd'.off+row * t'.size+off) arr el hval g4 hfit hii
         rw [harr] at hrun
         refine wp_skip' hrun ?_
         have hs:Step E n ⟨none,none,.any,[],none,some (id,.rows t' (xs.set row y)),ids⟩ (E.w.setRow hd'.blk arr') (fun _=>none):=step_set hr rfl rfl rfl hWid hρ _
         have hff:∀ b o,FF E ids b o→(E.ext n 0 none ids wn (E.w.setRow hd'.blk arr') (fun _=>none)).Fz b o∧(E.w.setRow hd'.blk arr').cell? ⟨b,o,none⟩=E.w.cell? ⟨b,o,none⟩:=fun b o hb=>hs.ff (wn:=wn) hr rfl (fun q hq=>by cases hq;exact hnotin) hb
         have hx:=hs.ext (wn:=wn) hr hA (fun _ j ob hj=>by simp at hj) (fun hevo i ob hi=>by
          cases hi
          show RowsAt _ t' (xs.set row y) _
          have hρ2:(E.ext n 0 none ids wn (E.w.setRow hd'.blk arr') (fun _=>none)).ρ id=some hd':=by
           simp only [Env.ext];rw [if_neg (by omega)];exact hρ
          rw [show (E.ext n (List.length ([]:List Ob)) none ids wn (E.w.setRow hd'.blk arr') (fun _=>none)).ρ id=some hd' from hρ2]
          have hevo0:=(hevo 0).fz
          obtain ⟨d1,d2⟩:=downL_ok (ids':=ids) hL hH hc hd (fun _ h=>h)
          have hle2:=dec_le t' _ y hy
          refine ⟨by simp [g1],g2,g3,g3',arr',el,setRow_heap _ _ arr _ el _ g4,by rw [hasz];exact g5,fun j q hq=>?_⟩
          rw [hget]
          rw [flat_set t' xs row y hrow'] at hq
          by_cases hin:row * t'.size+off≤j∧j < row * t'.size+off+vs.length
          ·rw [if_pos (by omega)]
           rw [if_pos (by omega)] at hq
           have hidx:hd'.off+j - (hd'.off+row * t'.size+off)=j - row * t'.size - off:=by omega
           rw [hidx]
           have hlt:j - row * t'.size - off < (a.eval x).cells.toList.length:=by rw [hcl];omega
           have hu:(a.eval x).cells.toList[j - row * t'.size - off]?=some ((a.eval x).cells.toList[j - row * t'.size - off]'hlt):=List.getElem?_eq_getElem hlt
           have hps:ps[j - row * t'.size - off]?=some (ps[j - row * t'.size - off]'(by omega)):=List.getElem?_eq_getElem (by omega)
           have hle3:PV.le (ps[j - row * t'.size - off]'(by omega)) q:=by
            refine hle2.get.2 (j - row * t'.size) _ _ ?_ hq
            rw [splice_get (by rw [enc_length];omega),if_pos (by omega)]
            exact hps
           exact ⟨_,hu,((d2 _ _ _ hu hps).2.le hle3).mono hff⟩
          ·rw [if_neg (by omega)]
           by_cases hin2:row * t'.size≤j∧j < row * t'.size+t'.size
           ·rw [if_pos hin2] at hq
            have henc:(enc t' (xs.getD row (dflt t')))[j - row * t'.size]?=some ((enc t' (xs.getD row (dflt t')))[j - row * t'.size]'(by rw [enc_length];omega)):=List.getElem?_eq_getElem (by rw [enc_length];omega)
            have hold:=flat_get t' xs row hrow' (dflt t') _ _ henc
            rw [show row * t'.size+(j - row * t'.size)=j by omega] at hold
            obtain ⟨v,h3,h4⟩:=g6 j _ hold
            have hle3:PV.le ((enc t' (xs.getD row (dflt t')))[j - row * t'.size]'(by rw [enc_length];omega)) q:=by
             refine hle2.get.2 (j - row * t'.size) _ _ ?_ hq
             rw [splice_get (by rw [enc_length];omega),if_neg (by omega)]
             exact henc
            exact ⟨v,h3,(h4.le hle3).mono hevo0⟩
           ·rw [if_neg hin2] at hq
            obtain ⟨v,h3,h4⟩:=g6 j q hq
            exact ⟨v,h3,h4.mono hevo0⟩)
         exact hK _ undef hx trivial (.any _)
       ·cases h
      ·cases h
     ·cases h
    ·rename_i gt m xss hob
     split at h
     ·rename_i hcond
      simp only [Bool.and_eq_true] at hcond
      have hk:=Nat.eq_of_beq_eq_true hcond.1
      have hoff:=Nat.eq_of_beq_eq_true hcond.2
      subst hk;subst hoff
      split at h
      ·rename_i j hvx
       split at h
       ·rename_i t' xs hobj
        split at h
        ·rename_i zs hz
         have hr0:=(Option.some.inj h).symm
         have hneed:row=xss.length∧1≤m:=by rw [hr0] at hn;exact hn
         obtain ⟨rfl,hm⟩:=hneed
         have hWj:E.W j:=hWk j (by rw [hr0])
         have hWid:E.W id:=hW (id,.grid gt (m - 1) (xss++[zs])) (by rw [hr0])
         rw [hr0] at hr
         subst hr0
         have hne:getOb H id≠.dead:=by rw [hob];simp
         have hl:=hL id hp.rptr_inv.1 hne
         have hok:=hH id hl hne
         rw [hob] at hok
         obtain ⟨hd,hρ,hg⟩:=hok
         obtain ⟨hd',hρ',hlt,hval⟩:=hp.rptr_inv.2.2 hl
         rw [hρ] at hρ';cases hρ'
         have hx':=hx
         rw [hvx] at hx'
         have hnej:getOb H j≠.dead:=by rw [hobj];simp
         have hlj:=hL j hx'.own_inv.1 hnej
         have hokj:=hH j hlj hnej
         rw [hobj] at hokj
         have hrow:RowsAt E gt zs (E.ρ j):=by
          have h1:RowsAt E t' xs (E.ρ j):=hokj
          obtain ⟨e1,e2⟩:=castL_some hz
          subst e1
          cases e2
          exact h1
         have hidj:id≠j:=by rintro rfl;rw [hob] at hobj;cases hobj
         obtain ⟨arr,el,b1,b2,_⟩:=hg.head
         rw [Nat.mul_one,Nat.add_zero] at hval
         have hvs1:vs.length=1:=by
          rw [hvx] at hvs
          simp only [cellsOf,Option.some.injEq] at hvs
          rw [← hvs];rfl
         have hrun:=run hd.blk (hd.off+xss.length) arr el hval b1 (by have:=hg.cap;omega) hii
         refine wp_skip' hrun ?_
         exact store_grid (by simpa using hr) hA hWj hWid hidj hρ hg b1 hm hrow (hx'.own_inv.2.2 hlj) hx'.own_inv.2.1 (fun E' h=>hK E' undef h trivial (.any _))
        ·cases h
       ·cases h
      ·cases h
     ·cases h
    ·cases h
   ·rename_i id gi gj hv
    rw [hv] at hp
    split at h
    ·rename_i gt m xss hob
     split at h
     ·rename_i hcond
      simp only [Bool.and_eq_true] at hcond
      have hsz1:=Nat.eq_of_beq_eq_true hcond.1
      split at h
      ·rename_i ps ids hd
       split at h
       ·rename_i y hy
        have hr0:=(Option.some.inj h).symm
        have hWid:E.W id:=hW (id,.grid gt m (xss.set gi ((xss.getD gi []).set gj y))) (by rw [hr0])
        rw [hr0] at hr
        subst hr0
        have hne:getOb H id≠.dead:=by rw [hob];simp
        have hl:=hL id hp.gptr_inv.1 hne
        have hok:=hH id hl hne
        rw [hob] at hok
        obtain ⟨hd0,hρ,hg⟩:=hok
        obtain ⟨h',hK',hlt,hval⟩:=hp.gptr_inv.2.2 hl
        obtain ⟨d1,d2⟩:=downL_ok (ids':=ids) hL hH hc hd (fun _ h=>h)
        have hle2:=dec_le gt _ y hy
        have hgi:gi < xss.length:=by
         rcases Nat.lt_or_ge gi xss.length with h | h
         ·exact h
         ·rw [hg.past gi h] at hK';cases hK'
        obtain ⟨o,k1,k2⟩:=hg.rows gi _ (List.getElem?_eq_getElem hgi)
        rw [hK'] at k1;cases k1
        obtain ⟨g1,g2,g3,g3',arr,el,g4,g5,g6⟩:=k2
        rw [hsz1] at g5
        have hps1:ps.length=1:=by rw [hle2.get.1,enc_length,hsz1]
        have hvs1:vs.length=1:=by have:=hc.1;omega
        have hrun:=run h'.blk (h'.off+gj) arr el hval g4 (by omega) hii
        refine wp_skip' hrun ?_
        obtain ⟨u,hu⟩ : ∃ u,(a.eval x).cells.toList=[u]:=by
         have h1:(a.eval x).cells.toList.length=1:=by rw [d1,hps1]
         match hh:(a.eval x).cells.toList,h1 with
         | [u],_=>exact ⟨u,rfl⟩
        obtain ⟨p0,hp0⟩ : ∃ p,ps=[p]:=by
         match ps,hps1 with
         | [p],_=>exact ⟨p,rfl⟩
        obtain ⟨p1,hp1⟩ : ∃ p,enc gt y=[p]:=by
         have h1:(enc gt y).length=1:=by rw [enc_length,hsz1]
         match hh:enc gt y,h1 with
         | [p],_=>exact ⟨p,rfl⟩
        have hd2:=d2 0 u p0 (by rw [hu];rfl) (by rw [hp0];rfl)
        have hple:=hle2.get.2 0 p0 p1 (by rw [hp0];rfl) (by rw [hp1];rfl)
        have hrd:=hd2.2.le hple
        have hu1:u.cells.toList=[u]:=by
         have:=hd2.1
         cases u <;> simp_all [Value.cells,Value.oneCell']
        have hfree:∀ (w:World) (F:Nat→Nat→Prop),RdP w F u p1:=by
         intro w F
         have hm1:(flat gt [y])[0]?=some p1:=by simp [flat,hp1]
         exact flat_rd hcond.2 hm1 hrd
        rw [hu,← hu1]
        exact store_cell (by simpa using hr) hA hWid hρ hg hK' hlt g4 hsz1 ⟨p1,hp1,hfree⟩ hd2.1 (fun E' h=>hK E' undef h trivial (.any _))
       ·cases h
      ·cases h
     ·cases h
    ·cases h
   ·cases h
  ·cases h
theorem findNow_none {k:IntKind} {q:Int}:∀ (l:List MapEntry) (es:List (Int × AV)) (i:Nat),l.length=es.length→(∀ (i:Nat) m p,l[i]?=some m→es[i]?=some p→m.key=.int .i64 p.1)→(∀ p∈es,q≠p.1) →
 Instr.findNow (.int k) (.int .i64 q) l i=some none
 | [],_,_,_,_,_=>rfl
 | m :: l,[],_,h,_,_=>by simp at h
 | m :: l,p :: es,i,h,hk,hq=>by
  have h1:=hk 0 m p rfl rfl
  have h2:(q == p.1)=false:=by simpa using hq p (by simp)
  simp only [Instr.findNow,h1,Instr.sameNow,if_true,h2]
  exact findNow_none l es (i+1) (by simpa using h) (fun i m p hm hp=>hk (i+1) m p (by simpa using hm) (by simpa using hp)) (fun p hp=>hq p (by simp [hp]))
theorem run_checkKey' {kt:TypeId} {k:IntKind} (hk:P.underlying kt=some (.int k)) (b:Bool) (q:Int) (w:World) (m:Nat):(Instr.checkKey b (m+1) kt (.int .i64 q)).run P w=.ok () w:=by
 simp [Instr.checkKey,run_underlying hk]
theorem run_checkKey {kt:TypeId} {k:IntKind} (hk:P.underlying kt=some (.int k)) (b:Bool) (q:Int) (w:World):(Instr.checkKey b 10000 kt (.int .i64 q)).run P w=.ok () w:=run_checkKey' hk b q w 9999
theorem s_insert {t:TypeId} {m k x:Operand} (hr:Ready E n r.news.length) (hA:∃ N,∀ id,E.A id→id < N) (hL:∀ id,E.A id→getOb H id≠.dead→E.L id) (hH:∀ id,E.L id→getOb H id≠.dead→OkOb E id (getOb H id))
 (hW:∀ q,r.st=some q→E.W q.1) (hm:RdA E (a.eval m) (e m)) (hk:RdA E (a.eval k) (e k)) (hx:RdA E (a.eval x) (e x))
 (h:evOp cx P e H n ⟨dst,.insert t m k x,ty,pos,after,guard⟩=some r)
 (hK:∀ E' v,Ext E n r wn E'→OptP r.given→RdA E' v r.val→K (a.put dst v) E'.w):(⟨dst,.insert t m k x,ty,pos,after,guard⟩ : Oper).wpI ro P a E.w K Q:=by
 simp only [evOp] at h
 split at h
 ·rename_i kt et hu
  split at h
  ·rename_i kk id q hkt hme hke
   rw [hme] at hm;rw [hke] at hk
   split at h
   ·rename_i es hob
    split at h
    ·rename_i hall
     have hr0:=(Option.some.inj h).symm
     subst hr0
     have hA':E.A id:=hm.mp_inv.1
     have hne:getOb H id≠.dead:=by rw [hob];simp
     have hl:=hL id hA' hne
     have hok:=hH id hl hne
     rw [hob] at hok
     obtain ⟨hd,hρ,ms,clock,hb,hsz,hes⟩:=hok
     obtain ⟨hd',hρ',hval⟩:=hm.mp_inv.2.2 hl
     rw [hρ] at hρ'
     cases hρ'
     have hWid:E.W id:=hW _ rfl
     have hfind:=findNow_none (k:=kk) (q:=q) ms.toList es 0 (by simpa using hsz) (fun i m p hm hp=>(hes i m p (by simpa using hm) hp).1) (fun p hp=>by simpa using List.all_eq_true.1 hall p hp)
     have hkv:=hk.int_inv
     have hrun:(execOp a.eval ⟨dst,.insert t m k x,ty,pos,after,guard⟩).run P E.w=.ok .skip { E.w with heap:=E.w.heap.setIfInBounds hd.blk (.map (ms.push { key:=.int .i64 q,val:=a.eval x,born:=clock }) (clock+1)) }:=by
      have hck:=run_checkKey (P:=P) hkt false q E.w
      simp [execOp,hval,hkv,Instr.mapUpdate,run_underlying hu,run_underlying hkt,Instr.findKey,hfind,hck,getObj,setObj,Sem.run,hb]
     refine wp_skip' hrun ?_
     have hlt:=hr.lt id hd (hr.wl id hWid) hρ
     have hs:Step E n ⟨none,none,.any,[],none,some (id,.fmap (es++[(q,e x)])),[]⟩ { E.w with heap:=E.w.heap.setIfInBounds hd.blk (.map (ms.push { key:=.int .i64 q,val:=a.eval x,born:=clock }) (clock+1)) } (fun _=>none):=by
      refine ⟨⟨rfl,rfl,rfl,by simp,fun b hb=>?_⟩,fun b hb hne=>?_, ?_, ?_, ?_, ?_⟩
      ·simp only [Array.getElem?_setIfInBounds]
       rw [if_neg (by omega)]
      ·simp only [Array.getElem?_setIfInBounds]
       rw [if_neg (fun e=>hne id hWid (.inr rfl) (.inl ⟨hd,hρ,e⟩))]
      ·intro j h hj;simp at hj
      ·intro j j' h h' hj;simp at hj
      ·intro i hi;cases hi
      ·intro p hp;cases hp;exact hWid
     obtain ⟨N,hN⟩:=hA
     refine hK _ undef (hs.ext (wn:=wn) hr ⟨N,hN⟩ (fun _ j ob hj=>by simp at hj) (fun hevo i ob hi=>?_)) trivial (.any _)
     cases hi
     refine ⟨hd,by simp only [Env.ext];rw [if_neg (by simp)];exact hρ,ms.push { key:=.int .i64 q,val:=a.eval x,born:=clock },clock+1, ?_,by simp [hsz],fun i m' p hm' hp=>?_⟩
     ·show (E.w.heap.setIfInBounds hd.blk _)[hd.blk]?=_
      simp only [Array.getElem?_setIfInBounds]
      rw [if_pos trivial,if_pos hlt.2]
     ·rw [Array.getElem?_push] at hm'
      rw [List.getElem?_append] at hp
      by_cases hi:i < es.length
      ·rw [if_neg (by omega)] at hm'
       rw [if_pos hi] at hp
       obtain ⟨h1,h2⟩:=hes i m' p hm' hp
       exact ⟨h1,h2.mono (hevo N) hN⟩
      ·rw [if_neg hi] at hp
       have hlt:=(List.getElem?_eq_some_iff.1 hp).1
       have hi':i=es.length:=by simp at hlt;omega
       subst hi'
       rw [if_pos hsz.symm] at hm'
       cases hm'
       simp at hp
       subst hp
       exact ⟨rfl,hx.mono (hevo N) hN⟩
    ·cases h
   ·cases h
  ·cases h
 ·cases h
theorem rd_pair {v:Value} {x:AV} (b:Bool) (h:RdA E v x):RdA E (.tuple #[v,.bool b]) (.tup [x,.bool b]):=by
 refine .tup _ _ rfl fun i u y hu hy=>?_
 match i,hu,hy with
 | 0,hu,hy=>cases hu;cases hy;exact h
 | 1,hu,hy=>cases hu;cases hy;exact .bool _
 | i+2,hu,hy=>simp at hy
theorem merge1_ok {q:Int} {z:AV} {v:Value}:∀ {es:List (Int × AV)},RdA E v (lookD q z es)→RdA E v (merge1 q z es):=by
 intro es h
 unfold merge1
 split
 ·rename_i k n
  split
  ·rename_i l hl
   have:∀ (es:List (Int × AV)) l,colI k es=some l→lookD q (AV.int k n) es=.int k (lookD q n l):=by
    intro es
    induction es with
    | nil=>intro l hl;cases hl;rfl
    | cons p es ih =>
     obtain ⟨p,x⟩:=p
     intro l hl
     unfold colI at hl
     split at hl
     ·rename_i heq;cases heq
     ·rename_i p' k' n' l' heq
      cases heq
      split at hl
      ·rename_i hk
       have:=IntKind.eq_of_beq' hk
       subst this
       split at hl
       ·rename_i r hr
        cases hl
        simp only [lookD]
        split
        ·rfl
        ·exact ih _ hr
       ·cases hl
      ·cases hl
     ·cases hl
   rw [this es l hl] at h
   exact h
  ·exact .any _
 ·rename_i s
  split
  ·rename_i l hl
   have:∀ (es:List (Int × AV)) l,colS es=some l→lookD q (AV.str s) es=.str (lookD q s l):=by
    intro es
    induction es with
    | nil=>intro l hl;cases hl;rfl
    | cons p es ih =>
     obtain ⟨p,x⟩:=p
     intro l hl
     unfold colS at hl
     split at hl
     ·rename_i heq;cases heq
     ·rename_i p' s' l' heq
      cases heq
      split at hl
      ·rename_i r hr
       cases hl
       simp only [lookD]
       split
       ·rfl
       ·exact ih _ hr
      ·cases hl
     ·cases hl
   rw [this es l hl] at h
   exact h
  ·exact .any _
 ·exact .any _
theorem lookD_map {α β:Type} (q:Int) (z:α) (f:α→β):∀ (l:List (Int × α)),lookD q (f z) (l.map fun p=>(p.1,f p.2))=f (lookD q z l)
 | []=>rfl
 | (p,a) :: l=>by
  simp only [lookD,List.map_cons]
  split
  ·rfl
  ·exact lookD_map q z f l
theorem mergeL_length (q:Int):∀ (zs:List AV) (l:List (Int × List AV)),(mergeL q zs l).length=zs.length
 | [],_=>rfl
 | _ :: zs,l=>by simp only [mergeL,List.length_cons];rw [mergeL_length q zs]
theorem mergeL_ok {q:Int}:∀ (zs:List AV) (l:List (Int × List AV)) (i:Nat) (v:Value) (x:AV),(mergeL q zs l)[i]?=some x→(∀ y,(lookD q zs l)[i]?=some y→RdA E v y)→(∀ p∈l,p.2.length=zs.length)→RdA E v x
 | [],_,i,v,x,hx,_,_=>by simp [mergeL] at hx
 | z :: zs,l,0,v,x,hx,h,hl=>by
  simp only [mergeL,List.getElem?_cons_zero,Option.some.injEq] at hx
  subst hx
  refine merge1_ok (h _ ?_)
  have h1:=lookD_map q (z :: zs) (fun l=>l.headD .any) l
  simp only [List.headD_cons] at h1
  rw [h1]
  have:(lookD q (z :: zs) l).length=zs.length+1:=by
   clear h h1
   induction l with
   | nil=>rfl
   | cons p l ih =>
    simp only [lookD]
    split
    ·simpa using hl p (by simp)
    ·exact ih fun p hp=>hl p (by simp [hp])
  match hd:lookD q (z :: zs) l,this with
  | y :: ys,_=>rfl
 | z :: zs,l,i+1,v,x,hx,h,hl=>by
  simp only [mergeL,List.getElem?_cons_succ] at hx
  refine mergeL_ok zs (l.map fun p=>(p.1,p.2.tail)) i v x hx (fun y hy=>h y ?_) (fun p hp=>?_)
  ·have h1:=lookD_map q (z :: zs) (fun l=>l.tail) l
   simp only [List.tail_cons] at h1
   rw [h1] at hy
   simpa using hy
  ·obtain ⟨p',hp',rfl⟩:=List.mem_map.1 hp
   have:=hl p' hp'
   simp [this]
theorem aggs_ok {m:Nat}:∀ {es:List (Int × AV)} {l:List (Int × List AV)},aggs m es=some l→es=l.map (fun p=>(p.1,.agg p.2))∧∀ p∈l,p.2.length=m
 | [],l,h=>by cases h;exact ⟨rfl,by simp⟩
 | (p,x) :: es,l,h=>by
  unfold aggs at h
  split at h
  ·rename_i heq;cases heq
  ·rename_i p' cs l' heq
   cases heq
   split at h
   ·rename_i hm
    split at h
    ·rename_i r hr
     cases h
     obtain ⟨h1,h2⟩:=aggs_ok hr
     refine ⟨by rw [h1];rfl,fun p hp=>?_⟩
     rcases List.mem_cons.1 hp with rfl | hp
     ·exact Nat.eq_of_beq_eq_true hm
     ·exact h2 p hp
    ·cases h
   ·cases h
  ·cases h
theorem mergeV_ok {q:Int} {z x:AV} {es:List (Int × AV)} {v:Value} (h:mergeV q z es=some x) (hv:RdA E v (lookD q z es)):RdA E v x:=by
 unfold mergeV at h
 split at h
 ·rename_i zs
  split at h
  ·rename_i l hl
   cases h
   obtain ⟨h1,h2⟩:=aggs_ok hl
   rw [h1,lookD_map q zs AV.agg l] at hv
   obtain ⟨vs,rfl,h3,h4,h5⟩:=hv.agg_inv
   have hlen:(lookD q zs l).length=zs.length:=by
    clear h1 hl h3 h4 h5 hv
    induction l with
    | nil=>rfl
    | cons p l ih =>
     simp only [lookD]
     split
     ·exact h2 p (by simp)
     ·exact ih fun p hp=>h2 p (by simp [hp])
   refine .agg vs _ (by rw [h3,hlen,mergeL_length]) h4 fun i v x hv hx=>mergeL_ok zs l i v x hx (fun y hy=>h5 i v y hv hy) h2
  ·cases h
 ·cases h
theorem find_D {kk:IntKind} {q:Int} {zr:AV}:∀ (l:List MapEntry) (es:List (Int × AV)) (i:Nat),l.length=es.length →
 (∀ (i:Nat) m p,l[i]?=some m→es[i]?=some p→m.key=.int .i64 p.1∧RdA E m.val p.2) →
 (∃ j u,Instr.findNow (.int kk) (.int .i64 q) l i=some (some (j,u))∧RdA E u (lookD q zr es)∧memD q es=true) ∨
 (Instr.findNow (.int kk) (.int .i64 q) l i=some none∧lookD q zr es=zr∧memD q es=false)
 | [],[],_,_,_=>.inr ⟨rfl,rfl,rfl⟩
 | [],_ :: _,_,hl,_=>by simp at hl
 | _ :: _,[],_,hl,_=>by simp at hl
 | m :: l,p :: es,i,hl,hk=>by
  obtain ⟨h1,h2⟩:=hk 0 m p rfl rfl
  by_cases hq:q=p.1
  ·refine .inl ⟨i,m.val, ?_,by simp only [lookD,if_pos hq];exact h2,by simp only [memD,if_pos hq]⟩
   simp [Instr.findNow,h1,Instr.sameNow,hq]
  ·have h3:(q == p.1)=false:=by simpa using hq
   simp only [Instr.findNow,h1,Instr.sameNow,if_true,h3,lookD,memD,if_neg hq]
   exact find_D l es (i+1) (by simpa using hl) (fun i m p hm hp=>hk (i+1) m p (by simpa using hm) (by simpa using hp))
theorem ofConst_ok (v:Value):RdA E v (ofConst v):=by
 have one:∀ u:Value,oneCellB u=true→RdA E u (ofCell u):=fun u hu=>ofCell_ok (by cases u <;> first | rfl | cases hu)
 cases v with
 | agg cs =>
  simp only [ofConst]
  split
  ·rename_i h
   exact (zero_cells h).agg
  ·exact .any _
 | tuple vs=>exact .any _
 | _=>exact one _ rfl
theorem FlatRd.rd {v:Value} {cs:List (Option PV)} (h:FlatRd v cs):RdA E v (.agg (cs.map cellAV)):=by
 obtain ⟨vs,rfl,h1,h2,h3⟩:=h
 refine .agg vs _ (by rw [h1];simp) h2 fun i u x hu hx=>?_
 rw [List.getElem?_map,Option.map_eq_some_iff] at hx
 obtain ⟨c,hc,rfl⟩:=hx
 cases c with
 | none=>exact .any _
 | some p =>
  have:=h3 i u p hu hc
  cases p <;> first
   | exact this.elim
   | (have e:u=_:=this;subst e;first | exact .int _ _ | exact .bool _ | exact .str _)
theorem s_lookup {t:TypeId} {m k:Operand} {ok:Bool} (hm:RdA E (a.eval m) (e m)) (hk:RdA E (a.eval k) (e k))
 (h:evOp cx P e H n ⟨dst,.lookup t m k ok,ty,pos,after,guard⟩=some r):PureRun P E a ⟨dst,.lookup t m k ok,ty,pos,after,guard⟩ r:=by
 simp only [evOp] at h
 split at h
 ·rename_i kt et hu
  split at h
  ·rename_i kk z es q hkt hz hme hke
   split at h
   ·rename_i y hy
    cases h
    rw [hme] at hm;rw [hke] at hk
    generalize hval:a.eval m=val at hm
    cases hm with
    | dmp b _ ms clock hB hb hh hsz hes =>
    have hxv:=hk.int_inv
    have hck:=fun b=>run_checkKey (P:=P) hkt b q E.w
    have hzr:=zeroT_run hz E.w
    have hall:∀ (i:Nat) m p,ms.toList[i]?=some m→(dmpE es)[i]?=some p→m.key=.int .i64 p.1∧RdA E m.val p.2:=by
     intro i m p hm hp
     unfold dmpE at hp
     rw [List.getElem?_map,Option.map_eq_some_iff] at hp
     obtain ⟨p',hp',rfl⟩:=hp
     obtain ⟨h1,h2⟩:=hes i m p' (by simpa using hm) hp'
     exact ⟨h1,h2.rd⟩
    have hlen:ms.toList.length=(dmpE es).length:=by unfold dmpE;simpa using hsz
    rcases find_D (kk:=kk) (q:=q) (zr:=ofConst z) ms.toList (dmpE es) 0 hlen hall with ⟨j,u,h1,h2,h3⟩ | ⟨h1,h2,h3⟩
    ·rw [h3]
     cases ok
     ·exact ⟨rfl,rfl,rfl,rfl,u,by simp [execOp,hval,hxv,Instr.lookup,run_underlying hu,run_underlying hkt,Instr.findKey,h1,hck,getObj,Sem.run,hh],mergeV_ok hy h2,trivial⟩
     ·exact ⟨rfl,rfl,rfl,rfl,_,by simp [execOp,hval,hxv,Instr.lookup,run_underlying hu,run_underlying hkt,Instr.findKey,h1,hck,getObj,Sem.run,hh],rd_pair true (mergeV_ok hy h2),trivial⟩
    ·rw [h3]
     have hZ:RdA E z y:=mergeV_ok hy (by rw [h2];exact ofConst_ok z)
     cases ok
     ·exact ⟨rfl,rfl,rfl,rfl,z,by simp [execOp,hval,hxv,Instr.lookup,run_underlying hu,run_underlying hkt,Instr.findKey,h1,hck,getObj,Sem.run,hh,hzr],hZ,trivial⟩
     ·exact ⟨rfl,rfl,rfl,rfl,_,by simp [execOp,hval,hxv,Instr.lookup,run_underlying hu,run_underlying hkt,Instr.findKey,h1,hck,getObj,Sem.run,hh,hzr],rd_pair false hZ,trivial⟩
   ·cases h
  ·cases h
 ·cases h
end
end Go.Sx
