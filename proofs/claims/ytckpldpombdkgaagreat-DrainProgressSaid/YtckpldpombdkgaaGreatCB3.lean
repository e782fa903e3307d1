/- Symbolic steps. -/
import Derived.Test.YtckpldpombdkgaaGreatCB2
set_option linter.unusedSimpArgs false
set_option linter.unusedVariables false
set_option maxRecDepth 100000
namespace Go.Sx
open Go.RowKit
section
variable {P:Program} {cx:Ctx} {E:Env} {a:Act} {e:Operand→AV} {H:List Ob} {n:Nat} {r:Res}
 {dst:Option Tmp} {ty:TypeId} {pos:String} {after:Array Go.Edge} {guard:Option (Nat × Bool)} {wn:Nat→Prop} {K:Act→World→Prop} {Q:Exit→Act→World→Prop} {ro:Option Nat}
theorem I3 {id:Nat} {hd:Hdr} {ob:Ob} {arr':Array Value} (hr:Ready E n 0) (hn:r.news=[]) (hk:r.kill=none) (hst:r.st=some (id,ob)) (hW:E.W id) (hρ:E.ρ id=some hd) (hd':Nat→Option Hdr):Step E n r (E.w.setRow hd.blk arr') hd':=by
 have hlt:=hr.lt id hd (hr.wl id hW) hρ
 refine ⟨⟨rfl,rfl,rfl,by simp,fun b hb=>setRow_other _ _ _ _ (by omega)⟩,fun b hb hne=>setRow_other _ _ _ _ (fun e=>hne id hW (.inr (by rw [hst];rfl)) (.inl ⟨hd,hρ,e.symm⟩)), ?_, ?_, ?_, ?_⟩
 ·intro j h hj;rw [hn] at hj;simp at hj
 ·intro j j' h h' hj;rw [hn] at hj;simp at hj
 ·intro i hi;rw [hk] at hi;cases hi
 ·intro p hp;rw [hst] at hp;cases hp;exact hW
theorem getElem?_spliced {arr:Array Value} {us:List Value} {o i:Nat} (h:o+us.length≤arr.size):((arr.toList.take o++us++arr.toList.drop (o+us.length)).toArray)[i]?=if o≤i∧i < o+us.length then us[i - o]? else arr[i]?:=by
 have:=D3 (l:=arr.toList) (m:=us) (n:=o) (i:=i) (by simpa using h)
 rw [Gc _ _ _ (by simpa using h)] at this
 simpa using this
theorem Wl (t:Ty) (xs:List t.den) (row:Nat) (y:t.den) (hrow:row < xs.length) (j:Nat):(flat t (xs.set row y))[j]?=if row * t.size≤j∧j < row * t.size+t.size then (enc t y)[j - row * t.size]? else (flat t xs)[j]?:=by
 have h1:xs.set row y=xs.take row++y :: xs.drop (row+1):=by rw [List.set_eq_take_append_cons_drop,if_pos hrow]
 have h2:xs=xs.take row++xs[row] :: xs.drop (row+1):=by simp
 have h3:flat t (xs.set row y)=flat t (xs.take row)++(enc t y++flat t (xs.drop (row+1))):=by rw [h1,Cc];simp only [flat,List.flatMap_cons]
 have h4:flat t xs=flat t (xs.take row)++(enc t xs[row]++flat t (xs.drop (row+1))):=by
  conv=>lhs;rw [h2]
  rw [Cc];simp only [flat,List.flatMap_cons]
 have hl:(flat t (xs.take row)).length=row * t.size:=by rw [As,List.length_take,Nat.min_eq_left (by omega)]
 rw [h3,h4]
 have l1:=Aq t y
 have l2:=Aq t xs[row]
 generalize flat t (xs.take row)=A at hl ⊢
 generalize flat t (xs.drop (row+1))=B
 generalize enc t y=Y at l1 ⊢
 generalize enc t xs[row]=Z at l2 ⊢
 rw [← hl,← l1]
 by_cases hj:j < A.length
 ·rw [if_neg (by omega),List.getElem?_append_left hj,List.getElem?_append_left hj]
 ·rw [List.getElem?_append_right (l₁:=A) (l₂:=Y++B) (by omega),List.getElem?_append_right (l₁:=A) (l₂:=Z++B) (by omega)]
  by_cases hj2:j < A.length+Y.length
  ·rw [if_pos (by omega),List.getElem?_append_left (by omega)]
  ·rw [if_neg (by omega),List.getElem?_append_right (l₁:=Y) (by omega),List.getElem?_append_right (l₁:=Z) (by omega),l1,l2]
theorem Yn {id id2 off:Nat} {hd:Hdr} {cs vs:List AV} {ob:Ob} {v:Value} {x:AV} {arr:Array Value} {el:TypeId} {q g:Option Prop} (hr:Ready E n 1) (hA:∃ N,∀ id,E.A id→id < N) (hL:∀ id,E.A id→Ac H id≠.dead→E.L id) (hH:∀ id,E.L id→Ac H id≠.dead→OkOb E id (Ac H id))
 (hW2:E.W id2) (hW:E.W id) (hρ:E.ρ id=some hd) (hob:Ac H id=.cells cs) (hb:E.w.heap[hd.blk]?=some (.cells arr el (0,0))) (hcl:CellL E arr.toList cs)
 (hx:RdA E v x) (hpr:M0 H x=some (id2,ob)) (hvs:cellsOf x=some vs) (hle:off+vs.length≤cs.length)
 {K:World→Prop} (hK:∀ E',Ext E n ⟨q,g,.any,[ob],some id2,some (id,.cells (splice cs off [.own n])),[]⟩ wn E'→K E'.w) :
 K (E.w.setRow hd.blk ((arr.toList.take off++v.cells.toList++arr.toList.drop (off+v.cells.toList.length)).toArray)):=by
 unfold M0 at hpr
 split at hpr
 ·rename_i id3 k lo len
  split at hpr
  ·rename_i t xs hob2
   split at hpr
   ·rename_i hk
    simp only [Option.some.injEq,Prod.mk.injEq] at hpr
    obtain ⟨rfl,rfl⟩:=hpr
    have hk':k=t.size:=Nat.eq_of_beq_eq_true hk
    subst hk'
    simp only [cellsOf,Option.some.injEq] at hvs
    subst hvs
    have hle':off+1≤cs.length:=hle
    obtain ⟨hA2,h1,hv⟩:=hx.ownp_inv
    have hne2:Ac H id3≠.dead:=by rw [hob2];simp
    have hl2:=hL id3 hA2 hne2
    have hv:=hv hl2
    have hrow:RowsAt E t xs (E.ρ id3):=by
     have:=hH id3 hl2 hne2
     rw [hob2] at this
     exact this
    have hidne:id≠id3:=by
     rintro rfl
     rw [hob] at hob2
     cases hob2
    have hl:=hr.wl id hW
    have hlt:=hr.lt id hd hl hρ
    have hvc:v.cells.toList=[v]:=by
     rcases hρ3:E.ρ id3 with _ | h3
     ·rw [hρ3] at hv
      obtain ⟨_,a,rfl⟩:=hv
      rfl
     ·rw [hρ3] at hv
      obtain ⟨_,o,c,rfl,_⟩:=hv
      rfl
    obtain ⟨hd3,hown,hrow3,hblk⟩ : ∃ hd3:Option Hdr,Oa hd3 v∧RowsAt E t ((xs.drop lo).take len) hd3∧∀ h,hd3=some h→∃ h',E.ρ id3=some h'∧h'.blk=h.blk:=by
     rcases hρ3:E.ρ id3 with _ | h3
     ·rw [hρ3] at hv hrow
      obtain ⟨rfl,a,rfl⟩:=hv
      exact ⟨none,⟨a,rfl⟩,by show List.take 0 _=[];simp,fun h hh=>by cases hh⟩
     ·rw [hρ3] at hv hrow
      obtain ⟨g0,o,c,rfl,g1,g2,g3⟩:=hv
      obtain ⟨k1,k2,k3,k4,arr3,el3,k5,k6,k7⟩:=hrow
      refine ⟨some ⟨h3.blk,o,len,c⟩,rfl,⟨?_,g1,by show len≤lim;omega,by show c≤maxLen;omega,arr3,el3,k5, ?_,fun j p hp=>?_⟩,fun h hh=>⟨h3,rfl,by cases hh;rfl⟩⟩
      ·rw [List.length_take,List.length_drop]
       show len=_
       omega
      ·show o+c * t.size≤arr3.size
       rcases g3 with rfl | ⟨rfl,g3⟩
       ·have:lo * t.size+c * t.size≤h3.cap * t.size:=by
         rw [← Nat.add_mul]
         exact Nat.mul_le_mul_right _ (by omega)
        omega
       ·omega
      ·have hj:=(List.getElem?_eq_some_iff.1 hp).1
       rw [As,List.length_take,List.length_drop] at hj
       have hj2:j < len * t.size:=Nat.lt_of_lt_of_le hj (Nat.mul_le_mul_right _ (Nat.min_le_left _ _))
       have hc0:c≠0:=by
        rintro rfl
        have:len=0:=by omega
        subst this
        simp at hj2
       rw [Db,Da,List.getElem?_take_of_lt hj2,List.getElem?_drop] at hp
       obtain ⟨u,u1,u2⟩:=k7 _ p hp
       refine ⟨u, ?_,u2⟩
       show arr3[o+j]?=some u
       rcases g3 with rfl | ⟨rfl,_⟩
       ·rw [← u1];congr 1;omega
       ·exact absurd rfl hc0
    have hs:Step E n ⟨q,g,.any,[.rows t ((xs.drop lo).take len)],some id3,some (id,.cells (splice cs off [.own n])),[]⟩ (E.w.setRow hd.blk ((arr.toList.take off++v.cells.toList++arr.toList.drop (off+v.cells.toList.length)).toArray)) (fun _=>hd3):=by
     refine ⟨⟨rfl,rfl,rfl,by simp,fun b hb=>setRow_other _ _ _ _ (by omega)⟩,fun b hb hne=>setRow_other _ _ _ _ (fun e=>hne id hW (.inr rfl) (.inl ⟨hd,hρ,e.symm⟩)), ?_, ?_, ?_, ?_⟩
     ·intro j h hj hh
      obtain ⟨h',g1,g2⟩:=hblk h hh
      have:=hr.lt id3 h' hl2 g1
      refine ⟨?_,.inr ⟨id3,hW2,rfl,.inl ⟨h',g1,g2⟩⟩⟩
      rw [← g2]
      simpa using this.2
     ·intro j j' h h' hj hj' _ _ hne
      simp at hj hj'
      omega
     ·intro i hi;cases hi;exact hW2
     ·intro p hp;cases hp;exact hW
    have hn':∀ w',(E.ext n (List.length [Ob.rows t ((xs.drop lo).take len)]) (some id3) [] wn w' (fun _=>hd3)).ρ n=hd3:=fun w'=>by simp [Env.ext]
    obtain ⟨N,hN⟩:=hA
    refine hK _ (hs.ext (wn:=wn) (by simpa using hr) ⟨N,hN⟩ (fun hevo j ob hj=>?_) (fun hevo i ob hi=>?_))
    ·match j,hj with
     | 0,hj =>
      cases hj
      show RowsAt _ t _ _
      rw [Nat.add_zero,hn']
      refine hrow3.mono (hevo 0).fz fun h hh=>?_
      obtain ⟨h',g1,g2⟩:=hblk h hh
      rw [← g2]
      refine setRow_other _ _ _ _ fun e=>?_
      exact hr.inj id id3 hd h' hl hl2 hρ g1 hidne e.symm
    ·cases hi
     have hidn:¬ (n≤id∧id < n+1):=fun ⟨h1,h2⟩=>hr.fresh id h1 h2 (hr.sub id hl)
     have hcu:CellL (E.ext n (List.length [Ob.rows t ((xs.drop lo).take len)]) (some id3) [] wn (E.w.setRow hd.blk ((arr.toList.take off++v.cells.toList++arr.toList.drop (off+v.cells.toList.length)).toArray)) (fun _=>hd3)) v.cells.toList [.own n]:=by
      rw [hvc]
      refine ⟨rfl,fun i u y hu hy=>?_⟩
      match i,hu,hy with
      | 0,hu,hy =>
       cases hu;cases hy
       refine ⟨h1,.own _ n (.inr ⟨Nat.le_refl _,by simp⟩) h1 fun _=>?_⟩
       rw [← hvc,hn']
       exact hown
     have hco:CellL (E.ext n (List.length [Ob.rows t ((xs.drop lo).take len)]) (some id3) [] wn (E.w.setRow hd.blk ((arr.toList.take off++v.cells.toList++arr.toList.drop (off+v.cells.toList.length)).toArray)) (fun _=>hd3)) arr.toList cs :=
      ⟨hcl.1,fun i u y hu hy=>⟨(hcl.2 i u y hu hy).1,(hcl.2 i u y hu hy).2.mono (hevo N) hN⟩⟩
     have hcl':=hco.splice hcu (off:=off) hle'
     have hll:=hcl.1
     refine ⟨hd,by simp only [Env.ext,List.length_cons,List.length_nil];rw [if_neg hidn];exact hρ,_,el,setRow_heap _ _ arr _ el _ hb, ?_,fun i u y hu hy=>?_⟩
     ·rw [Es (by simpa using hle'),hvc]
      simp only [List.size_toArray,List.length_append,List.length_take,List.length_drop,Array.length_toList,List.length_cons,List.length_nil] at hll ⊢
      omega
     ·refine hcl'.2 i u y ?_ hy
      rw [Gc _ _ _ (by rw [hvc,hll];exact hle')]
      simpa using hu
   ·cases hpr
  ·cases hpr
 ·cases hpr
theorem Ab9 {t:Ty}:∀ {x:t.den},t.flat=true→∀ {i:Nat} {p:PV},(enc t x)[i]?=some p→(∃ k n,p=.int k n)∨(∃ b,p=.bool b)∨∃ s,p=.str s:=by
 induction t with
 | int k =>
  intro x _ i p hp
  have hm:=List.mem_of_getElem? hp
  simp [enc] at hm
  exact .inl ⟨_,_,hm⟩
 | bool =>
  intro x _ i p hp
  have hm:=List.mem_of_getElem? hp
  simp [enc] at hm
  exact .inr (.inl ⟨_,hm⟩)
 | str =>
  intro x _ i p hp
  have hm:=List.mem_of_getElem? hp
  simp [enc] at hm
  exact .inr (.inr ⟨_,hm⟩)
 | pair a b iha ihb =>
  intro x h i p hp
  simp only [Ty.flat,Bool.and_eq_true] at h
  simp only [enc,List.getElem?_append] at hp
  split at hp
  ·exact iha h.1 hp
  ·exact ihb h.2 hp
 | sl t ih=>intro x h;simp [Ty.flat] at h
 | expr=>intro x h;simp [Ty.flat] at h
 | fn=>intro x h;simp [Ty.flat] at h
theorem Aaq {t:Ty} {xs:List t.den} (h:t.flat=true) {w w':World} {F F':Nat→Nat→Prop} {j:Nat} {p:PV} {v:Value} (hp:(flat t xs)[j]?=some p) (hv:RdP w F v p):RdP w' F' v p:=by
 have hm:=List.mem_of_getElem? hp
 obtain ⟨x,_,hx⟩:=List.mem_flatMap.1 hm
 obtain ⟨i,hi⟩:=List.mem_iff_getElem?.1 hx
 rcases Ab9 h hi with ⟨k,m,rfl⟩ | ⟨b,rfl⟩ | ⟨b,rfl⟩
 ·cases hv;exact .int _ _
 ·cases hv;exact .bool _
 ·cases hv;exact .str _
theorem Yo {id j m:Nat} {gt:Ty} {xss:List (List gt.den)} {zs:List gt.den} {hd:Hdr} {v:Value} {arr:Array Value} {el:TypeId} {q g:Option Prop} (hr:Ready E n 0) (hA:∃ N,∀ id,E.A id→id < N)
 (hWj:E.W j) (hW:E.W id) (hid:id≠j) (hρ:E.ρ id=some hd) (hg:GridAt E gt m xss hd (E.K id)) (hb:E.w.heap[hd.blk]?=some (.cells arr el (0,0))) (hm:1≤m)
 (hrow:RowsAt E gt zs (E.ρ j)) (hv:Oa (E.ρ j) v) (hone:v.oneCell'=true)
 {K:World→Prop} (hK:∀ E',Ext E n ⟨q,g,.any,[],some j,some (id,.grid gt (m - 1) (xss++[zs])),[]⟩ wn E'→K E'.w) :
 K (E.w.setRow hd.blk ((arr.toList.take (hd.off+xss.length)++v.cells.toList++arr.toList.drop (hd.off+xss.length+v.cells.toList.length)).toArray)):=by
 obtain ⟨N,hN⟩:=hA
 have hl:=hr.wl id hW
 have hlj:=hr.wl j hWj
 have ha:=hr.sub id hl
 have hvc:v.cells.toList=[v]:=by cases v <;> simp_all [Value.cells,Value.oneCell']
 rw [hvc]
 have hlt:=hr.lt id hd hl hρ
 obtain ⟨arr2,el2,b1,b2,b3,b4⟩:=hg.head
 rw [hb] at b1;cases b1
 have hfit:hd.off+xss.length + [v].length≤arr.size:=by
  have:=hg.cap
  have:=hg.len
  simp only [List.length_cons,List.length_nil];omega
 obtain ⟨arr',harr,hasz,hget⟩ : ∃ arr':Array Value,(arr.toList.take (hd.off+xss.length)++[v]++arr.toList.drop (hd.off+xss.length + [v].length)).toArray=arr'∧arr'.size=arr.size ∧
  ∀ k,arr'[k]?=if k=hd.off+xss.length then some v else arr[k]?:=by
  refine ⟨_,rfl, ?_,fun k=>?_⟩
  ·simp only [List.size_toArray,List.length_append,List.length_take,List.length_drop,Array.length_toList,List.length_cons,List.length_nil] at hfit ⊢
   omega
  ·rw [getElem?_spliced hfit]
   by_cases hk:k=hd.off+xss.length
   ·subst hk;simp
   ·rw [if_neg hk,if_neg (by simp only [List.length_cons,List.length_nil];omega)]
 rw [harr]
 let kid:Nat→Option (Option Hdr):=fun i=>if i=xss.length then some (E.ρ j) else E.K id i
 let E':Env:={ E with
  w:=E.w.setRow hd.blk arr'
  L:=fun i=>E.L i∧i≠j
  W:=fun i=>E.W i∧i≠j
  K:=fun i=>if i=id then kid else E.K i }
 have hKid:E'.K id=kid:=by show (if id=id then kid else E.K id)=kid;rw [if_pos rfl]
 have hKo:∀ i,i≠id→E'.K i=E.K i:=fun i hi=>by show (if i=id then kid else E.K i)=E.K i;rw [if_neg hi]
 have own:∀ i b,E'.Own i b→E.Own i b∨(i=id∧E.Own j b):=by
  intro i b ho
  rcases ho with ⟨h,hh,hb⟩ | ⟨c,h,hh,hb⟩
  ·exact .inl (.inl ⟨h,hh,hb⟩)
  ·by_cases hi:i=id
   ·subst hi
    rw [hKid] at hh
    simp only [kid] at hh
    split at hh
    ·exact .inr ⟨rfl,.inl ⟨h,by simpa using hh,hb⟩⟩
    ·exact .inl (.inr ⟨c,h,hh,hb⟩)
   ·rw [hKo i hi] at hh
    exact .inl (.inr ⟨c,h,hh,hb⟩)
 have heap:∀ b,b≠hd.blk→E'.w.heap[b]?=E.w.heap[b]?:=fun b hb=>setRow_other _ _ _ _ hb
 have hsz:E'.w.heap.size=E.w.heap.size:=by simp [E']
 have hevo:∀ n0,Evo n0 E E':=by
  intro n0
  refine ⟨rfl,rfl,rfl,⟨rfl,rfl,rfl,by rw [hsz];exact Nat.le_refl _,fun b hb=>heap b (by omega)⟩,fun _ _ h=>h,fun i _ _ hl=>⟨hl.1,rfl⟩,fun i _ _ hl c o ho=>?_,fun b hb=>⟨⟨by rw [hsz];exact hb.1,fun i hW ho=>?_,hb.2.2⟩,heap b fun e=>?_⟩,rfl,fun b hb=>heap b fun e=>hr.hid id b hl (.inl ⟨hd,hρ,e.symm⟩) hb⟩
  ·by_cases hi:i=id
   ·subst hi
    rw [hKid]
    simp only [kid]
    rw [if_neg]
    ·exact ho
    ·rintro rfl
     rw [hg.past _ (Nat.le_refl _)] at ho
     cases ho
   ·rw [hKo i hi];exact ho
  ·rcases own i b ho with h | ⟨rfl,h⟩
   ·exact hb.2.1 i hW.1 h
   ·exact hb.2.1 j hWj h
  ·exact hb.2.1 id hW (.inl ⟨hd,hρ,e.symm⟩)
 have hx:Ext E n ⟨q,g,.any,[],some j,some (id,.grid gt (m - 1) (xss++[zs])),[]⟩ wn E':=by
  refine ⟨hevo,fun i=>?_,fun i=>?_,fun i=>?_, ?_, ?_, ?_,fun k ob hk=>(by simp at hk), ?_, ?_, ?_⟩
  ·show (E.L i∧i≠j)↔_
   simp only [List.length_nil,Nat.add_zero,ne_eq,Option.some.injEq]
   constructor
   ·rintro ⟨h1,h2⟩;exact .inl ⟨h1,fun e=>h2 e.symm⟩
   ·rintro (⟨h1,h2⟩ | h);exact ⟨h1,fun e=>h2 e.symm⟩;omega
  ·show (E.W i∧i≠j)↔_
   simp only [List.length_nil,Nat.add_zero,ne_eq,Option.some.injEq,List.not_mem_nil,not_false_eq_true,and_true]
   constructor
   ·rintro ⟨h1,h2⟩;exact .inl ⟨h1,fun e=>h2 e.symm⟩
   ·rintro (⟨h1,h2⟩ | h);exact ⟨h1,fun e=>h2 e.symm⟩;omega
  ·show E.A i↔_
   simp only [List.length_nil,Nat.add_zero]
   constructor
   ·exact .inl
   ·rintro (h | h);exact h;omega
  ·intro i i' b hl1 hl2 ho1 ho2
   have hl1:E.L i∧i≠j:=hl1
   have hl2:E.L i'∧i'≠j:=hl2
   rcases own i b ho1 with h1 | ⟨rfl,h1⟩ <;> rcases own i' b ho2 with h2 | ⟨rfl,h2⟩
   ·exact hr.injO i i' b hl1.1 hl2.1 h1 h2
   ·exact absurd (hr.injO i j b hl1.1 hlj h1 h2) hl1.2
   ·exact absurd (hr.injO i' j b hl2.1 hlj h2 h1) hl2.2
   ·rfl
  ·intro i b hl1 ho1
   have hl1:E.L i∧i≠j:=hl1
   rw [show E'.B=E.B from rfl,hsz]
   rcases own i b ho1 with h1 | ⟨rfl,h1⟩
   ·exact hr.ltO i b hl1.1 h1
   ·exact hr.ltO j b hlj h1
  ·intro i b hl1 ho1
   have hl1:E.L i∧i≠j:=hl1
   rcases own i b ho1 with h1 | ⟨rfl,h1⟩
   ·exact hr.hid i b hl1.1 h1
   ·exact hr.hid j b hlj h1
  ·intro i ob hi
   cases hi
   refine ⟨hd,hρ, ?_⟩
   rw [hKid]
   have kin:∀ i,i < xss.length→kid i=E.K id i:=fun i hi=>by simp only [kid];rw [if_neg (by omega)]
   have kat:kid xss.length=some (E.ρ j):=by simp only [kid];rw [if_pos trivial]
   have hblkj:∀ h',E.ρ j=some h'→h'.blk≠hd.blk:=fun h' hh=>hr.inj j id h' hd hlj hl hh hρ (Ne.symm hid)
   refine ⟨by simp;have:=hg.len;omega,hg.cap,hg.lim,hg.max,⟨arr',el,setRow_heap _ _ arr _ el _ hb,by rw [hasz];exact b2,fun i hi=>?_,fun i hi1 hi2=>?_⟩,fun i xs hi=>?_,fun i hi=>?_,fun i h' hi=>?_,fun i1 i2 h1 h2 hh1 hh2 hne=>?_⟩
   ·rw [hget]
    by_cases he:i=xss.length
    ·subst he
     exact ⟨E.ρ j,v,kat,by rw [if_pos rfl],hv⟩
    ·have hi':i < xss.length:=by simp at hi;omega
     obtain ⟨o,u,c1,c2,c3⟩:=b3 i hi'
     exact ⟨o,u,(kin i hi').trans c1,by rw [if_neg (by omega)];exact c2,c3⟩
   ·simp only [List.length_append,List.length_cons,List.length_nil] at hi1 hi2
    obtain ⟨ba,c⟩:=b4 i (by omega) (by omega)
    exact ⟨ba,by rw [hget,if_neg (by omega)];exact c⟩
   ·by_cases he:i=xss.length
    ·subst he
     have:xs=zs:=by simpa using hi.symm
     subst this
     refine ⟨E.ρ j,kat,hrow.mono (hevo 0).fz fun h' hh=>heap _ (hblkj h' hh)⟩
    ·have hi':i < xss.length:=by
      have:=(List.getElem?_eq_some_iff.1 hi).1
      simp at this;omega
     rw [List.getElem?_append_left hi'] at hi
     obtain ⟨o,c1,c2⟩:=hg.rows i xs hi
     refine ⟨o,(kin i hi').trans c1,c2.mono (hevo 0).fz fun h' hh=>heap _ ?_⟩
     subst hh
     exact hg.apart i h' c1
   ·simp only [List.length_append,List.length_cons,List.length_nil] at hi
    simp only [kid]
    rw [if_neg (by omega)]
    exact hg.past i (by omega)
   ·simp only [kid] at hi
    split at hi
    ·exact hblkj h' (by simpa using hi)
    ·exact hg.apart i h' hi
   ·simp only [kid] at hh1 hh2
    split at hh1 <;> split at hh2
    ·omega
    ·intro e
     have:=hr.injO j id h2.blk hlj hl (.inl ⟨h1,by simpa using hh1,e⟩) (.inr ⟨i2,h2,hh2,rfl⟩)
     exact hid this.symm
    ·intro e
     have:=hr.injO j id h1.blk hlj hl (.inl ⟨h2,by simpa using hh2,e.symm⟩) (.inr ⟨i1,h1,hh1,rfl⟩)
     exact hid this.symm
    ·exact hg.two i1 i2 h1 h2 hh1 hh2 hne
  ·intro i b hl1 ho1 hk hs
   have hne:i≠id:=fun e=>hs _ rfl e.symm
   refine heap b fun e=>?_
   subst e
   exact hne (hr.injO i id _ hl1 hl ho1 (.inl ⟨hd,hρ,rfl⟩))
  ·intro i ob hl1 hk hs hok
   have hne:i≠id:=fun e=>hs _ rfl e.symm
   refine OkOb.mono (hevo N) hN (hr.sub i hl1) ⟨hl1,fun e=>hk (by rw [e])⟩ (hKo i hne) (fun b ho1=>heap b fun e=>?_) hok
   subst e
   exact hne (hr.injO i id _ hl1 hl ho1 (.inl ⟨hd,hρ,rfl⟩))
 exact hK E' hx
theorem Yp {id i j m:Nat} {gt:Ty} {xss:List (List gt.den)} {y:gt.den} {hd h':Hdr} {v:Value} {arr:Array Value} {el:TypeId} {q g:Option Prop} (hr:Ready E n 0) (hA:∃ N,∀ id,E.A id→id < N)
 (hW:E.W id) (hρ:E.ρ id=some hd) (hg:GridAt E gt m xss hd (E.K id)) (hK':E.K id i=some (some h')) (hj:j < h'.len) (hb:E.w.heap[h'.blk]?=some (.cells arr el (0,0))) (hsz1:gt.size=1)
 (hv:∃ p,enc gt y=[p]∧∀ (w:World) (F:Nat→Nat→Prop),RdP w F v p) (hone:v.oneCell'=true)
 {K:World→Prop} (hK:∀ E',Ext E n ⟨q,g,.any,[],none,some (id,.grid gt m (xss.set i ((xss.getD i []).set j y))),[]⟩ wn E'→K E'.w) :
 K (E.w.setRow h'.blk ((arr.toList.take (h'.off+j)++v.cells.toList++arr.toList.drop (h'.off+j+v.cells.toList.length)).toArray)):=by
 have hl:=hr.wl id hW
 have hvc:v.cells.toList=[v]:=by cases v <;> simp_all [Value.cells,Value.oneCell']
 rw [hvc]
 have hown:E.Own id h'.blk:=.inr ⟨i,h',hK',rfl⟩
 have hlt:=hr.ltO id _ hl hown
 have hi:i < xss.length:=by
  rcases Nat.lt_or_ge i xss.length with h | h
  ·exact h
  ·rw [hg.past i h] at hK';cases hK'
 obtain ⟨o,k1,k2⟩:=hg.rows i _ (List.getElem?_eq_getElem hi)
 rw [hK'] at k1;cases k1
 obtain ⟨g1,g2,g3,g3',arr2,el2,g4,g5,g6⟩:=k2
 rw [hb] at g4;cases g4
 rw [hsz1] at g5
 have hfit:h'.off+j + [v].length≤arr.size:=by simp only [List.length_cons,List.length_nil];omega
 obtain ⟨arr',harr,hasz,hget⟩ : ∃ arr':Array Value,(arr.toList.take (h'.off+j)++[v]++arr.toList.drop (h'.off+j + [v].length)).toArray=arr'∧arr'.size=arr.size ∧
  ∀ k,arr'[k]?=if k=h'.off+j then some v else arr[k]?:=by
  refine ⟨_,rfl, ?_,fun k=>?_⟩
  ·simp only [List.size_toArray,List.length_append,List.length_take,List.length_drop,Array.length_toList,List.length_cons,List.length_nil] at hfit ⊢
   omega
  ·rw [getElem?_spliced hfit]
   by_cases hk:k=h'.off+j
   ·subst hk;simp
   ·rw [if_neg hk,if_neg (by simp only [List.length_cons,List.length_nil];omega)]
 rw [harr]
 have hs:Step E n ⟨q,g,.any,[],none,some (id,.grid gt m (xss.set i ((xss.getD i []).set j y))),[]⟩ (E.w.setRow h'.blk arr') (fun _=>none):=by
  refine ⟨⟨rfl,rfl,rfl,by simp,fun b hb=>setRow_other _ _ _ _ (by omega)⟩,fun b hb hne=>setRow_other _ _ _ _ (fun e=>hne id hW (.inr rfl) (e ▸ hown)), ?_, ?_,fun i hi=>(by cases hi),fun p hp=>(by cases hp;exact hW)⟩
  ·intro j h hj;simp at hj
  ·intro j j' h h' hj;simp at hj
 have hx:=hs.ext (wn:=wn) (by simpa using hr) hA (fun _ j ob hj=>by simp at hj) (fun hevo i' ob hi'=>by
  cases hi'
  have heap:∀ b,b≠h'.blk→(E.w.setRow h'.blk arr').heap[b]?=E.w.heap[b]?:=fun b hb=>setRow_other _ _ _ _ hb
  have hρ2:(E.ext n (List.length ([]:List Ob)) none [] wn (E.w.setRow h'.blk arr') (fun _=>none)).ρ id=some hd:=by
   simp only [Env.ext];rw [if_neg (by simp)];exact hρ
  have hK2:(E.ext n (List.length ([]:List Ob)) none [] wn (E.w.setRow h'.blk arr') (fun _=>none)).K id=E.K id:=by
   simp only [Env.ext];rw [if_neg (by simp)]
  refine ⟨hd,hρ2, ?_⟩
  rw [hK2]
  obtain ⟨arr3,el3,b1,b2,b3,b4⟩:=hg.head
  have hlen:(xss.set i ((xss.getD i []).set j y)).length=xss.length:=List.length_set
  refine ⟨by rw [hlen];exact hg.len,hg.cap,hg.lim,hg.max,⟨arr3,el3,(heap _ (Ne.symm (hg.apart i h' hK'))).trans b1,b2,by rw [hlen];exact b3,by rw [hlen];exact b4⟩,fun i2 xs hx2=>?_,by rw [hlen];exact hg.past,hg.apart,hg.two⟩
  by_cases he:i2=i
  ·subst he
   rw [List.getElem?_set_self hi] at hx2
   cases hx2
   refine ⟨some h',hK', ?_⟩
   have hgd:xss.getD i2 []=xss[i2]:=by simp [List.getD,hi]
   rw [hgd]
   refine ⟨by simp [g1],g2,g3,g3',arr',el,setRow_heap _ _ arr _ el _ hb,by rw [hasz,hsz1];exact g5,fun c p hp=>?_⟩
   rw [hget]
   rw [Wl gt _ j y (by rw [← g1];exact hj),hsz1,Nat.mul_one] at hp
   by_cases hc:c=j
   ·subst hc
    rw [if_pos ⟨Nat.le_refl _,by omega⟩,Nat.sub_self] at hp
    obtain ⟨p',e1,e2⟩:=hv
    rw [e1] at hp
    cases hp
    exact ⟨v,by rw [if_pos rfl],e2 _ _⟩
   ·rw [if_neg (by omega)] at hp
    obtain ⟨u,u1,u2⟩:=g6 c p hp
    exact ⟨u,by rw [if_neg (by omega)];exact u1,u2.mono (hevo 0).fz⟩
  ·rw [List.getElem?_set_ne (Ne.symm he)] at hx2
   obtain ⟨o,c1,c2⟩:=hg.rows i2 xs hx2
   refine ⟨o,c1,c2.mono (hevo 0).fz fun h2 hh=>heap _ ?_⟩
   subst hh
   exact hg.two i2 i h2 h' c1 hK' he)
 exact hK _ hx
theorem Aig {t:TypeId} {p x:Operand} (hr:Ready E n r.news.length) (hA:∃ N,∀ id,E.A id→id < N) (hL:∀ id,E.A id→Ac H id≠.dead→E.L id) (hH:∀ id,E.L id→Ac H id≠.dead→OkOb E id (Ac H id))
 (hWk:∀ id,r.kill=some id→E.W id) (hW:∀ q,r.st=some q→E.W q.1) (hp:RdA E (a.eval p) (e p)) (hx:RdA E (a.eval x) (e x)) (hn:A4 r.need)
 (h:evOp cx P e H n ⟨dst,.store t p x,ty,pos,after,guard⟩=some r)
 (hK:∀ E' v,Ext E n r wn E'→A4 r.given→RdA E' v r.val→K (a.put dst v) E'.w):(⟨dst,.store t p x,ty,pos,after,guard⟩ : Oper).wpI ro P a E.w K Q:=by
 simp only [evOp] at h
 split at h
 ·cases h
 ·rename_i vs hvs
  have hc:=Ho hx hvs
  split at h
  ·rename_i hsz
   have hsz':vs.length=Be P t:=Nat.eq_of_beq_eq_true hsz
   have hne0:0 < vs.length∨vs.length=0:=by omega
   have run:∀ (b o:Nat) (arr:Array Value) (el:TypeId),a.eval p=.pointer (some ⟨b,o,none⟩)→E.w.heap[b]?=some (.cells arr el (0,0))→o+vs.length≤arr.size→(P.info? t).isSome=true →
    (execOp a.eval ⟨dst,.store t p x,ty,pos,after,guard⟩).run P E.w=.ok .skip (E.w.setRow b ((arr.toList.take o++(a.eval x).cells.toList++arr.toList.drop (o+(a.eval x).cells.toList.length)).toArray)):=by
    intro b o arr el hv hb ho hi
    obtain ⟨info,hi⟩:=Option.isSome_iff_exists.1 hi
    have h1:(a.eval x).cells.size=info.size:=by
     have:=hc.1
     simp only [Array.length_toList] at this
     rw [this,hsz',Be,hi]
    have hst:=run_storeCells_at P b o el (a.eval x).cells.toList 0 arr E.w hb (by rw [hc.1];simpa using ho) (fun u hu=>by
     obtain ⟨i,hi⟩:=List.mem_iff_getElem?.1 hu
     have hlt:i < vs.length:=by rw [← hc.1];exact (List.getElem?_eq_some_iff.1 hi).1
     exact (hc.2 i u _ hi (List.getElem?_eq_getElem hlt)).1)
    simp only [Nat.add_zero] at hst
    simp only [execOp,hv,Instr.storeAt,Instr.sureAddr,Sem.run_bind,Sem.run_pure,Result.andThen_ok,storeVar,sizeOf,typeInfo,run_program,hi,h1,ne_eq,not_true_eq_false,if_false]
    simp [hst]
   split at h
   ·cases h
   rename_i info hinfo
   have hii:(P.info? t).isSome=true:=by rw [hinfo];rfl
   split at h
   ·rename_i id off hv
    rw [hv] at hp
    split at h
    ·rename_i cs hob
     split at h
     ·rename_i hle
      have hle':off+vs.length≤cs.length:=Nat.le_of_ble_eq_true hle
      have hA':E.A id:=hp.ptr_inv.1
      have hne:Ac H id≠.dead:=by rw [hob];simp
      have hl:=hL id hA' hne
      have hok:=hH id hl hne
      rw [hob] at hok
      obtain ⟨hd,hρ,arr,el,hb,hasz,hcells⟩:=hok
      obtain ⟨hd',hρ',hval⟩:=hp.ptr_inv.2.2 hl
      rw [hρ] at hρ'
      cases hρ'
      have hcl:CellL E arr.toList cs:=⟨by simpa using hasz,fun i v y hv hy=>hcells i v y (by simpa using hv) hy⟩
      have hrun:=run hd.blk off arr el hval hb (by omega) hii
      split at h
      ·rename_i id2 ob hpr
       have hr0:=(Option.some.inj h).symm
       subst hr0
       refine Iz hrun ?_
       exact Yn (by simpa using hr) hA hL hH (hWk _ rfl) (hW _ rfl) hρ hob hb hcl hx hpr hvs hle' (fun E' h=>hK E' undef h trivial (.any _))
      ·have hr0:=(Option.some.inj h).symm
       subst hr0
       have hWid:E.W id:=hW _ rfl
       refine Iz hrun ?_
       have hs:Step E n ⟨none,none,.any,[],none,some (id,.cells (splice cs off vs)),[]⟩ (E.w.setRow hd.blk ((arr.toList.take off++(a.eval x).cells.toList++arr.toList.drop (off+(a.eval x).cells.toList.length)).toArray)) (fun _=>none) :=
        I3 hr rfl rfl rfl hWid hρ _
       obtain ⟨N,hN⟩:=hA
       refine hK _ undef (hs.ext (wn:=wn) hr ⟨N,hN⟩ (fun _ j ob hj=>by simp at hj) (fun hevo i ob hi=>?_)) trivial (.any _)
       cases hi
       have hcl':=hcl.splice hc hle'
       refine ⟨hd,by simp only [Env.ext];rw [if_neg (by simp)];exact hρ,_,el,setRow_heap _ _ arr _ el _ hb, ?_,fun i v y hv hy=>?_⟩
       ·have h1:=hc.1
        rw [Es hle']
        simp only [List.size_toArray,List.length_append,List.length_take,List.length_drop,Array.length_toList] at h1 ⊢
        omega
       ·have hv':(splice arr.toList off (a.eval x).cells.toList)[i]?=some v:=by
         rw [Gc _ _ _ (by rw [hc.1];simp;omega)]
         simpa using hv
        obtain ⟨h2,h3⟩:=hcl'.2 i v y hv' hy
        exact ⟨h2,h3.mono (hevo N) hN⟩
     ·cases h
    ·cases h
   ·rename_i id k row off hv
    rw [hv] at hp
    split at h
    ·rename_i t' xs hob
     split at h
     ·rename_i hcond
      simp only [Bool.and_eq_true] at hcond
      have hk:k=t'.size:=Nat.eq_of_beq_eq_true hcond.1
      have hle:off+vs.length≤k:=Nat.le_of_ble_eq_true hcond.2
      subst hk
      split at h
      ·rename_i ps ids hd
       split at h
       ·rename_i y hy
        split at h
        ·cases h
        ·rename_i hnc
         have hr0:=(Option.some.inj h).symm
         subst hr0
         have hnotin:id ∉ ids:=by simpa using hnc
         have hA':E.A id:=hp.rptr_inv.1
         have hne:Ac H id≠.dead:=by rw [hob];simp
         have hl:=hL id hA' hne
         have hok:RowsAt E t' xs (E.ρ id):=by
          have:=hH id hl hne
          rw [hob] at this
          exact this
         obtain ⟨hd',hρ,hrow,hval⟩:=hp.rptr_inv.2.2 hl
         rw [hρ] at hok
         obtain ⟨g1,g2,g3,g3',arr,el,g4,g5,g6⟩:=hok
         have hWid:E.W id:=hW _ rfl
         have hrow':row < xs.length:=by omega
         have hcap:row * t'.size+t'.size≤hd'.cap * t'.size:=by
          have:row * t'.size+t'.size=(row+1) * t'.size:=by rw [Nat.add_mul,Nat.one_mul]
          rw [this];exact Nat.mul_le_mul_right _ (by omega)
         have hfit:hd'.off+row * t'.size+off+vs.length≤arr.size:=by omega
         have hcl:=hc.1
         obtain ⟨arr',harr,hasz,hget⟩ : ∃ arr':Array Value,(arr.toList.take (hd'.off+row * t'.size+off)++(a.eval x).cells.toList++arr.toList.drop (hd'.off+row * t'.size+off+(a.eval x).cells.toList.length)).toArray=arr'∧arr'.size=arr.size ∧
          ∀ j,arr'[j]?=if hd'.off+row * t'.size+off≤j∧j < hd'.off+row * t'.size+off+vs.length then (a.eval x).cells.toList[j - (hd'.off+row * t'.size+off)]? else arr[j]?:=by
          refine ⟨_,rfl, ?_,fun j=>by rw [getElem?_spliced (by rw [hcl];exact hfit),hcl]⟩
          simp only [List.size_toArray,List.length_append,List.length_take,List.length_drop,Array.length_toList] at hcl ⊢
          omega
         have hrun:=run hd'.blk (hd'.off+row * t'.size+off) arr el hval g4 hfit hii
         rw [harr] at hrun
         refine Iz hrun ?_
         have hs:Step E n ⟨none,none,.any,[],none,some (id,.rows t' (xs.set row y)),ids⟩ (E.w.setRow hd'.blk arr') (fun _=>none):=I3 hr rfl rfl rfl hWid hρ _
         have hff:∀ b o,FF E ids b o→(E.ext n 0 none ids wn (E.w.setRow hd'.blk arr') (fun _=>none)).Fz b o∧(E.w.setRow hd'.blk arr').cell? ⟨b,o,none⟩=E.w.cell? ⟨b,o,none⟩:=fun b o hb=>hs.ff (wn:=wn) hr rfl (fun q hq=>by cases hq;exact hnotin) hb
         have hx:=hs.ext (wn:=wn) hr hA (fun _ j ob hj=>by simp at hj) (fun hevo i ob hi=>by
          cases hi
          show RowsAt _ t' (xs.set row y) _
          have hρ2:(E.ext n 0 none ids wn (E.w.setRow hd'.blk arr') (fun _=>none)).ρ id=some hd':=by
           simp only [Env.ext];rw [if_neg (by omega)];exact hρ
          rw [show (E.ext n (List.length ([]:List Ob)) none ids wn (E.w.setRow hd'.blk arr') (fun _=>none)).ρ id=some hd' from hρ2]
          have hevo0:=(hevo 0).fz
          obtain ⟨d1,d2⟩:=Ft (ids':=ids) hL hH hc hd (fun _ h=>h)
          have hle2:=Hl t' _ y hy
          refine ⟨by simp [g1],g2,g3,g3',arr',el,setRow_heap _ _ arr _ el _ g4,by rw [hasz];exact g5,fun j q hq=>?_⟩
          rw [hget]
          rw [Wl t' xs row y hrow'] at hq
          by_cases hin:row * t'.size+off≤j∧j < row * t'.size+off+vs.length
          ·rw [if_pos (by omega)]
           rw [if_pos (by omega)] at hq
           have hidx:hd'.off+j - (hd'.off+row * t'.size+off)=j - row * t'.size - off:=by omega
           rw [hidx]
           have hlt:j - row * t'.size - off < (a.eval x).cells.toList.length:=by rw [hcl];omega
           have hu:(a.eval x).cells.toList[j - row * t'.size - off]?=some ((a.eval x).cells.toList[j - row * t'.size - off]'hlt):=List.getElem?_eq_getElem hlt
           have hps:ps[j - row * t'.size - off]?=some (ps[j - row * t'.size - off]'(by omega)):=List.getElem?_eq_getElem (by omega)
           have hle3:PV.le (ps[j - row * t'.size - off]'(by omega)) q:=by
            refine hle2.get.2 (j - row * t'.size) _ _ ?_ hq
            rw [D3 (by rw [Aq];omega),if_pos (by omega)]
            exact hps
           exact ⟨_,hu,((d2 _ _ _ hu hps).2.le hle3).mono hff⟩
          ·rw [if_neg (by omega)]
           by_cases hin2:row * t'.size≤j∧j < row * t'.size+t'.size
           ·rw [if_pos hin2] at hq
            have henc:(enc t' (xs.getD row (Ab t')))[j - row * t'.size]?=some ((enc t' (xs.getD row (Ab t')))[j - row * t'.size]'(by rw [Aq];omega)):=List.getElem?_eq_getElem (by rw [Aq];omega)
            have hold:=M7 t' xs row hrow' (Ab t') _ _ henc
            rw [show row * t'.size+(j - row * t'.size)=j by omega] at hold
            obtain ⟨v,h3,h4⟩:=g6 j _ hold
            have hle3:PV.le ((enc t' (xs.getD row (Ab t')))[j - row * t'.size]'(by rw [Aq];omega)) q:=by
             refine hle2.get.2 (j - row * t'.size) _ _ ?_ hq
             rw [D3 (by rw [Aq];omega),if_neg (by omega)]
             exact henc
            exact ⟨v,h3,(h4.le hle3).mono hevo0⟩
           ·rw [if_neg hin2] at hq
            obtain ⟨v,h3,h4⟩:=g6 j q hq
            exact ⟨v,h3,h4.mono hevo0⟩)
         exact hK _ undef hx trivial (.any _)
       ·cases h
      ·cases h
     ·cases h
    ·rename_i gt m xss hob
     split at h
     ·rename_i hcond
      simp only [Bool.and_eq_true] at hcond
      have hk:=Nat.eq_of_beq_eq_true hcond.1
      have hoff:=Nat.eq_of_beq_eq_true hcond.2
      subst hk;subst hoff
      split at h
      ·rename_i j hvx
       split at h
       ·rename_i t' xs hobj
        split at h
        ·rename_i zs hz
         have hr0:=(Option.some.inj h).symm
         have hneed:row=xss.length∧1≤m:=by rw [hr0] at hn;exact hn
         obtain ⟨rfl,hm⟩:=hneed
         have hWj:E.W j:=hWk j (by rw [hr0])
         have hWid:E.W id:=hW (id,.grid gt (m - 1) (xss++[zs])) (by rw [hr0])
         rw [hr0] at hr
         subst hr0
         have hne:Ac H id≠.dead:=by rw [hob];simp
         have hl:=hL id hp.rptr_inv.1 hne
         have hok:=hH id hl hne
         rw [hob] at hok
         obtain ⟨hd,hρ,hg⟩:=hok
         obtain ⟨hd',hρ',hlt,hval⟩:=hp.rptr_inv.2.2 hl
         rw [hρ] at hρ';cases hρ'
         have hx':=hx
         rw [hvx] at hx'
         have hnej:Ac H j≠.dead:=by rw [hobj];simp
         have hlj:=hL j hx'.own_inv.1 hnej
         have hokj:=hH j hlj hnej
         rw [hobj] at hokj
         have hrow:RowsAt E gt zs (E.ρ j):=by
          have h1:RowsAt E t' xs (E.ρ j):=hokj
          obtain ⟨e1,e2⟩:=Ga hz
          subst e1
          cases e2
          exact h1
         have hidj:id≠j:=by rintro rfl;rw [hob] at hobj;cases hobj
         obtain ⟨arr,el,b1,b2,_⟩:=hg.head
         rw [Nat.mul_one,Nat.add_zero] at hval
         have hvs1:vs.length=1:=by
          rw [hvx] at hvs
          simp only [cellsOf,Option.some.injEq] at hvs
          rw [← hvs];rfl
         have hrun:=run hd.blk (hd.off+xss.length) arr el hval b1 (by have:=hg.cap;omega) hii
         refine Iz hrun ?_
         exact Yo (by simpa using hr) hA hWj hWid hidj hρ hg b1 hm hrow (hx'.own_inv.2.2 hlj) hx'.own_inv.2.1 (fun E' h=>hK E' undef h trivial (.any _))
        ·cases h
       ·cases h
      ·cases h
     ·cases h
    ·cases h
   ·rename_i id gi gj hv
    rw [hv] at hp
    split at h
    ·rename_i gt m xss hob
     split at h
     ·rename_i hcond
      simp only [Bool.and_eq_true] at hcond
      have hsz1:=Nat.eq_of_beq_eq_true hcond.1
      split at h
      ·rename_i ps ids hd
       split at h
       ·rename_i y hy
        have hr0:=(Option.some.inj h).symm
        have hWid:E.W id:=hW (id,.grid gt m (xss.set gi ((xss.getD gi []).set gj y))) (by rw [hr0])
        rw [hr0] at hr
        subst hr0
        have hne:Ac H id≠.dead:=by rw [hob];simp
        have hl:=hL id hp.gptr_inv.1 hne
        have hok:=hH id hl hne
        rw [hob] at hok
        obtain ⟨hd0,hρ,hg⟩:=hok
        obtain ⟨h',hK',hlt,hval⟩:=hp.gptr_inv.2.2 hl
        obtain ⟨d1,d2⟩:=Ft (ids':=ids) hL hH hc hd (fun _ h=>h)
        have hle2:=Hl gt _ y hy
        have hgi:gi < xss.length:=by
         rcases Nat.lt_or_ge gi xss.length with h | h
         ·exact h
         ·rw [hg.past gi h] at hK';cases hK'
        obtain ⟨o,k1,k2⟩:=hg.rows gi _ (List.getElem?_eq_getElem hgi)
        rw [hK'] at k1;cases k1
        obtain ⟨g1,g2,g3,g3',arr,el,g4,g5,g6⟩:=k2
        rw [hsz1] at g5
        have hps1:ps.length=1:=by rw [hle2.get.1,Aq,hsz1]
        have hvs1:vs.length=1:=by have:=hc.1;omega
        have hrun:=run h'.blk (h'.off+gj) arr el hval g4 (by omega) hii
        refine Iz hrun ?_
        obtain ⟨u,hu⟩ : ∃ u,(a.eval x).cells.toList=[u]:=by
         have h1:(a.eval x).cells.toList.length=1:=by rw [d1,hps1]
         match hh:(a.eval x).cells.toList,h1 with
         | [u],_=>exact ⟨u,rfl⟩
        obtain ⟨p0,hp0⟩ : ∃ p,ps=[p]:=by
         match ps,hps1 with
         | [p],_=>exact ⟨p,rfl⟩
        obtain ⟨p1,hp1⟩ : ∃ p,enc gt y=[p]:=by
         have h1:(enc gt y).length=1:=by rw [Aq,hsz1]
         match hh:enc gt y,h1 with
         | [p],_=>exact ⟨p,rfl⟩
        have hd2:=d2 0 u p0 (by rw [hu];rfl) (by rw [hp0];rfl)
        have hple:=hle2.get.2 0 p0 p1 (by rw [hp0];rfl) (by rw [hp1];rfl)
        have hrd:=hd2.2.le hple
        have hu1:u.cells.toList=[u]:=by
         have:=hd2.1
         cases u <;> simp_all [Value.cells,Value.oneCell']
        have hfree:∀ (w:World) (F:Nat→Nat→Prop),RdP w F u p1:=by
         intro w F
         have hm1:(flat gt [y])[0]?=some p1:=by simp [flat,hp1]
         exact Aaq hcond.2 hm1 hrd
        rw [hu,← hu1]
        exact Yp (by simpa using hr) hA hWid hρ hg hK' hlt g4 hsz1 ⟨p1,hp1,hfree⟩ hd2.1 (fun E' h=>hK E' undef h trivial (.any _))
       ·cases h
      ·cases h
     ·cases h
    ·cases h
   ·cases h
  ·cases h
theorem M9 {k:IntKind} {q:Int}:∀ (l:List MapEntry) (es:List (Int × AV)) (i:Nat),l.length=es.length→(∀ (i:Nat) m p,l[i]?=some m→es[i]?=some p→m.key=.int .i64 p.1)→(∀ p∈es,q≠p.1) →
 Instr.findNow (.int k) (.int .i64 q) l i=some none
 | [],_,_,_,_,_=>rfl
 | m :: l,[],_,h,_,_=>by simp at h
 | m :: l,p :: es,i,h,hk,hq=>by
  have h1:=hk 0 m p rfl rfl
  have h2:(q == p.1)=false:=by simpa using hq p (by simp)
  simp only [Instr.findNow,h1,Instr.sameNow,if_true,h2]
  exact M9 l es (i+1) (by simpa using h) (fun i m p hm hp=>hk (i+1) m p (by simpa using hm) (by simpa using hp)) (fun p hp=>hq p (by simp [hp]))
theorem Sq {kt:TypeId} {k:IntKind} (hk:P.underlying kt=some (.int k)) (b:Bool) (q:Int) (w:World) (m:Nat):(Instr.checkKey b (m+1) kt (.int .i64 q)).run P w=.ok () w:=by
 simp [Instr.checkKey,run_underlying hk]
theorem Jo {kt:TypeId} {k:IntKind} (hk:P.underlying kt=some (.int k)) (b:Bool) (q:Int) (w:World):(Instr.checkKey b 10000 kt (.int .i64 q)).run P w=.ok () w:=Sq hk b q w 9999
theorem Aew {t:TypeId} {m k x:Operand} (hr:Ready E n r.news.length) (hA:∃ N,∀ id,E.A id→id < N) (hL:∀ id,E.A id→Ac H id≠.dead→E.L id) (hH:∀ id,E.L id→Ac H id≠.dead→OkOb E id (Ac H id))
 (hW:∀ q,r.st=some q→E.W q.1) (hm:RdA E (a.eval m) (e m)) (hk:RdA E (a.eval k) (e k)) (hx:RdA E (a.eval x) (e x))
 (h:evOp cx P e H n ⟨dst,.insert t m k x,ty,pos,after,guard⟩=some r)
 (hK:∀ E' v,Ext E n r wn E'→A4 r.given→RdA E' v r.val→K (a.put dst v) E'.w):(⟨dst,.insert t m k x,ty,pos,after,guard⟩ : Oper).wpI ro P a E.w K Q:=by
 simp only [evOp] at h
 split at h
 ·rename_i kt et hu
  split at h
  ·rename_i kk id q hkt hme hke
   rw [hme] at hm;rw [hke] at hk
   split at h
   ·rename_i es hob
    split at h
    ·rename_i hall
     have hr0:=(Option.some.inj h).symm
     subst hr0
     have hA':E.A id:=hm.mp_inv.1
     have hne:Ac H id≠.dead:=by rw [hob];simp
     have hl:=hL id hA' hne
     have hok:=hH id hl hne
     rw [hob] at hok
     obtain ⟨hd,hρ,ms,clock,hb,hsz,hes⟩:=hok
     obtain ⟨hd',hρ',hval⟩:=hm.mp_inv.2.2 hl
     rw [hρ] at hρ'
     cases hρ'
     have hWid:E.W id:=hW _ rfl
     have hfind:=M9 (k:=kk) (q:=q) ms.toList es 0 (by simpa using hsz) (fun i m p hm hp=>(hes i m p (by simpa using hm) hp).1) (fun p hp=>by simpa using List.all_eq_true.1 hall p hp)
     have hkv:=hk.int_inv
     have hrun:(execOp a.eval ⟨dst,.insert t m k x,ty,pos,after,guard⟩).run P E.w=.ok .skip { E.w with heap:=E.w.heap.setIfInBounds hd.blk (.map (ms.push { key:=.int .i64 q,val:=a.eval x,born:=clock }) (clock+1)) }:=by
      have hck:=Jo (P:=P) hkt false q E.w
      simp [execOp,hval,hkv,Instr.mapUpdate,run_underlying hu,run_underlying hkt,Instr.findKey,hfind,hck,getObj,setObj,Sem.run,hb]
     refine Iz hrun ?_
     have hlt:=hr.lt id hd (hr.wl id hWid) hρ
     have hs:Step E n ⟨none,none,.any,[],none,some (id,.fmap (es++[(q,e x)])),[]⟩ { E.w with heap:=E.w.heap.setIfInBounds hd.blk (.map (ms.push { key:=.int .i64 q,val:=a.eval x,born:=clock }) (clock+1)) } (fun _=>none):=by
      refine ⟨⟨rfl,rfl,rfl,by simp,fun b hb=>?_⟩,fun b hb hne=>?_, ?_, ?_, ?_, ?_⟩
      ·simp only [Array.getElem?_setIfInBounds]
       rw [if_neg (by omega)]
      ·simp only [Array.getElem?_setIfInBounds]
       rw [if_neg (fun e=>hne id hWid (.inr rfl) (.inl ⟨hd,hρ,e⟩))]
      ·intro j h hj;simp at hj
      ·intro j j' h h' hj;simp at hj
      ·intro i hi;cases hi
      ·intro p hp;cases hp;exact hWid
     obtain ⟨N,hN⟩:=hA
     refine hK _ undef (hs.ext (wn:=wn) hr ⟨N,hN⟩ (fun _ j ob hj=>by simp at hj) (fun hevo i ob hi=>?_)) trivial (.any _)
     cases hi
     refine ⟨hd,by simp only [Env.ext];rw [if_neg (by simp)];exact hρ,ms.push { key:=.int .i64 q,val:=a.eval x,born:=clock },clock+1, ?_,by simp [hsz],fun i m' p hm' hp=>?_⟩
     ·show (E.w.heap.setIfInBounds hd.blk _)[hd.blk]?=_
      simp only [Array.getElem?_setIfInBounds]
      rw [if_pos trivial,if_pos hlt.2]
     ·rw [Array.getElem?_push] at hm'
      rw [List.getElem?_append] at hp
      by_cases hi:i < es.length
      ·rw [if_neg (by omega)] at hm'
       rw [if_pos hi] at hp
       obtain ⟨h1,h2⟩:=hes i m' p hm' hp
       exact ⟨h1,h2.mono (hevo N) hN⟩
      ·rw [if_neg hi] at hp
       have hlt:=(List.getElem?_eq_some_iff.1 hp).1
       have hi':i=es.length:=by simp at hlt;omega
       subst hi'
       rw [if_pos hsz.symm] at hm'
       cases hm'
       simp at hp
       subst hp
       exact ⟨rfl,hx.mono (hevo N) hN⟩
    ·cases h
   ·cases h
  ·cases h
 ·cases h
theorem Le {v:Value} {x:AV} (b:Bool) (h:RdA E v x):RdA E (.tuple #[v,.bool b]) (.tup [x,.bool b]):=by
 refine .tup _ _ rfl fun i u y hu hy=>?_
 match i,hu,hy with
 | 0,hu,hy=>cases hu;cases hy;exact h
 | 1,hu,hy=>cases hu;cases hy;exact .bool _
 | i+2,hu,hy=>simp at hy
theorem Aca {q:Int} {z:AV} {v:Value}:∀ {es:List (Int × AV)},RdA E v (C6 q z es)→RdA E v (Ye q z es):=by
 intro es h
 unfold Ye
 split
 ·rename_i k n
  split
  ·rename_i l hl
   have:∀ (es:List (Int × AV)) l,Ah5 k es=some l→C6 q (AV.int k n) es=.int k (C6 q n l):=by
    intro es
    induction es with
    | nil=>intro l hl;cases hl;rfl
    | cons p es ih =>
     obtain ⟨p,x⟩:=p
     intro l hl
     unfold Ah5 at hl
     split at hl
     ·rename_i heq;cases heq
     ·rename_i p' k' n' l' heq
      cases heq
      split at hl
      ·rename_i hk
       have:=IntKind.eq_of_beq' hk
       subst this
       split at hl
       ·rename_i r hr
        cases hl
        simp only [C6]
        split
        ·rfl
        ·exact ih _ hr
       ·cases hl
      ·cases hl
     ·cases hl
   rw [this es l hl] at h
   exact h
  ·exact .any _
 ·rename_i s
  split
  ·rename_i l hl
   have:∀ (es:List (Int × AV)) l,Ah6 es=some l→C6 q (AV.str s) es=.str (C6 q s l):=by
    intro es
    induction es with
    | nil=>intro l hl;cases hl;rfl
    | cons p es ih =>
     obtain ⟨p,x⟩:=p
     intro l hl
     unfold Ah6 at hl
     split at hl
     ·rename_i heq;cases heq
     ·rename_i p' s' l' heq
      cases heq
      split at hl
      ·rename_i r hr
       cases hl
       simp only [C6]
       split
       ·rfl
       ·exact ih _ hr
      ·cases hl
     ·cases hl
   rw [this es l hl] at h
   exact h
  ·exact .any _
 ·exact .any _
theorem Lf {α β:Type} (q:Int) (z:α) (f:α→β):∀ (l:List (Int × α)),C6 q (f z) (l.map fun p=>(p.1,f p.2))=f (C6 q z l)
 | []=>rfl
 | (p,a) :: l=>by
  simp only [C6,List.map_cons]
  split
  ·rfl
  ·exact Lf q z f l
theorem L9 (q:Int):∀ (zs:List AV) (l:List (Int × List AV)),(Kg q zs l).length=zs.length
 | [],_=>rfl
 | _ :: zs,l=>by simp only [Kg,List.length_cons];rw [L9 q zs]
theorem Ta {q:Int}:∀ (zs:List AV) (l:List (Int × List AV)) (i:Nat) (v:Value) (x:AV),(Kg q zs l)[i]?=some x→(∀ y,(C6 q zs l)[i]?=some y→RdA E v y)→(∀ p∈l,p.2.length=zs.length)→RdA E v x
 | [],_,i,v,x,hx,_,_=>by simp [Kg] at hx
 | z :: zs,l,0,v,x,hx,h,hl=>by
  simp only [Kg,List.getElem?_cons_zero,Option.some.injEq] at hx
  subst hx
  refine Aca (h _ ?_)
  have h1:=Lf q (z :: zs) (fun l=>l.headD .any) l
  simp only [List.headD_cons] at h1
  rw [h1]
  have:(C6 q (z :: zs) l).length=zs.length+1:=by
   clear h h1
   induction l with
   | nil=>rfl
   | cons p l ih =>
    simp only [C6]
    split
    ·simpa using hl p (by simp)
    ·exact ih fun p hp=>hl p (by simp [hp])
  match hd:C6 q (z :: zs) l,this with
  | y :: ys,_=>rfl
 | z :: zs,l,i+1,v,x,hx,h,hl=>by
  simp only [Kg,List.getElem?_cons_succ] at hx
  refine Ta zs (l.map fun p=>(p.1,p.2.tail)) i v x hx (fun y hy=>h y ?_) (fun p hp=>?_)
  ·have h1:=Lf q (z :: zs) (fun l=>l.tail) l
   simp only [List.tail_cons] at h1
   rw [h1] at hy
   simpa using hy
  ·obtain ⟨p',hp',rfl⟩:=List.mem_map.1 hp
   have:=hl p' hp'
   simp [this]
theorem Aar {m:Nat}:∀ {es:List (Int × AV)} {l:List (Int × List AV)},Ah7 m es=some l→es=l.map (fun p=>(p.1,.agg p.2))∧∀ p∈l,p.2.length=m
 | [],l,h=>by cases h;exact ⟨rfl,by simp⟩
 | (p,x) :: es,l,h=>by
  unfold Ah7 at h
  split at h
  ·rename_i heq;cases heq
  ·rename_i p' cs l' heq
   cases heq
   split at h
   ·rename_i hm
    split at h
    ·rename_i r hr
     cases h
     obtain ⟨h1,h2⟩:=Aar hr
     refine ⟨by rw [h1];rfl,fun p hp=>?_⟩
     rcases List.mem_cons.1 hp with rfl | hp
     ·exact Nat.eq_of_beq_eq_true hm
     ·exact h2 p hp
    ·cases h
   ·cases h
  ·cases h
theorem Hf {q:Int} {z x:AV} {es:List (Int × AV)} {v:Value} (h:Mh q z es=some x) (hv:RdA E v (C6 q z es)):RdA E v x:=by
 unfold Mh at h
 split at h
 ·rename_i zs
  split at h
  ·rename_i l hl
   cases h
   obtain ⟨h1,h2⟩:=Aar hl
   rw [h1,Lf q zs AV.agg l] at hv
   obtain ⟨vs,rfl,h3,h4,h5⟩:=hv.agg_inv
   have hlen:(C6 q zs l).length=zs.length:=by
    clear h1 hl h3 h4 h5 hv
    induction l with
    | nil=>rfl
    | cons p l ih =>
     simp only [C6]
     split
     ·exact h2 p (by simp)
     ·exact ih fun p hp=>h2 p (by simp [hp])
   refine .agg vs _ (by rw [h3,hlen,L9]) h4 fun i v x hv hx=>Ta zs l i v x hx (fun y hy=>h5 i v y hv hy) h2
  ·cases h
 ·cases h
theorem Yq {kk:IntKind} {q:Int} {zr:AV}:∀ (l:List MapEntry) (es:List (Int × AV)) (i:Nat),l.length=es.length →
 (∀ (i:Nat) m p,l[i]?=some m→es[i]?=some p→m.key=.int .i64 p.1∧RdA E m.val p.2) →
 (∃ j u,Instr.findNow (.int kk) (.int .i64 q) l i=some (some (j,u))∧RdA E u (C6 q zr es)∧Mg q es=true) ∨
 (Instr.findNow (.int kk) (.int .i64 q) l i=some none∧C6 q zr es=zr∧Mg q es=false)
 | [],[],_,_,_=>.inr ⟨rfl,rfl,rfl⟩
 | [],_ :: _,_,hl,_=>by simp at hl
 | _ :: _,[],_,hl,_=>by simp at hl
 | m :: l,p :: es,i,hl,hk=>by
  obtain ⟨h1,h2⟩:=hk 0 m p rfl rfl
  by_cases hq:q=p.1
  ·refine .inl ⟨i,m.val, ?_,by simp only [C6,if_pos hq];exact h2,by simp only [Mg,if_pos hq]⟩
   simp [Instr.findNow,h1,Instr.sameNow,hq]
  ·have h3:(q == p.1)=false:=by simpa using hq
   simp only [Instr.findNow,h1,Instr.sameNow,if_true,h3,C6,Mg,if_neg hq]
   exact Yq l es (i+1) (by simpa using hl) (fun i m p hm hp=>hk (i+1) m p (by simpa using hm) (by simpa using hp))
theorem Hq (v:Value):RdA E v (H8 v):=by
 have one:∀ u:Value,Dp u=true→RdA E u (Dx u):=fun u hu=>Lc (by cases u <;> first | rfl | cases hu)
 cases v with
 | agg cs =>
  simp only [H8]
  split
  ·rename_i h
   exact (Hp h).agg
  ·exact .any _
 | tuple vs=>exact .any _
 | _=>exact one _ rfl
theorem FlatRd.rd {v:Value} {cs:List (Option PV)} (h:FlatRd v cs):RdA E v (.agg (cs.map Aei)):=by
 obtain ⟨vs,rfl,h1,h2,h3⟩:=h
 refine .agg vs _ (by rw [h1];simp) h2 fun i u x hu hx=>?_
 rw [List.getElem?_map,Option.map_eq_some_iff] at hx
 obtain ⟨c,hc,rfl⟩:=hx
 cases c with
 | none=>exact .any _
 | some p =>
  have:=h3 i u p hu hc
  cases p <;> first
   | exact this.elim
   | (have e:u=_:=this;subst e;first | exact .int _ _ | exact .bool _ | exact .str _)
theorem Aex {t:TypeId} {m k:Operand} {ok:Bool} (hm:RdA E (a.eval m) (e m)) (hk:RdA E (a.eval k) (e k))
 (h:evOp cx P e H n ⟨dst,.lookup t m k ok,ty,pos,after,guard⟩=some r):PureRun P E a ⟨dst,.lookup t m k ok,ty,pos,after,guard⟩ r:=by
 simp only [evOp] at h
 split at h
 ·rename_i kt et hu
  split at h
  ·rename_i kk z es q hkt hz hme hke
   split at h
   ·rename_i y hy
    cases h
    rw [hme] at hm;rw [hke] at hk
    generalize hval:a.eval m=val at hm
    cases hm with
    | dmp b _ ms clock hB hb hh hsz hes =>
    have hxv:=hk.int_inv
    have hck:=fun b=>Jo (P:=P) hkt b q E.w
    have hzr:=I2 hz E.w
    have hall:∀ (i:Nat) m p,ms.toList[i]?=some m→(Sp es)[i]?=some p→m.key=.int .i64 p.1∧RdA E m.val p.2:=by
     intro i m p hm hp
     unfold Sp at hp
     rw [List.getElem?_map,Option.map_eq_some_iff] at hp
     obtain ⟨p',hp',rfl⟩:=hp
     obtain ⟨h1,h2⟩:=hes i m p' (by simpa using hm) hp'
     exact ⟨h1,h2.rd⟩
    have hlen:ms.toList.length=(Sp es).length:=by unfold Sp;simpa using hsz
    rcases Yq (kk:=kk) (q:=q) (zr:=H8 z) ms.toList (Sp es) 0 hlen hall with ⟨j,u,h1,h2,h3⟩ | ⟨h1,h2,h3⟩
    ·rw [h3]
     cases ok
     ·exact ⟨rfl,rfl,rfl,rfl,u,by simp [execOp,hval,hxv,Instr.lookup,run_underlying hu,run_underlying hkt,Instr.findKey,h1,hck,getObj,Sem.run,hh],Hf hy h2,trivial⟩
     ·exact ⟨rfl,rfl,rfl,rfl,_,by simp [execOp,hval,hxv,Instr.lookup,run_underlying hu,run_underlying hkt,Instr.findKey,h1,hck,getObj,Sem.run,hh],Le true (Hf hy h2),trivial⟩
    ·rw [h3]
     have hZ:RdA E z y:=Hf hy (by rw [h2];exact Hq z)
     cases ok
     ·exact ⟨rfl,rfl,rfl,rfl,z,by simp [execOp,hval,hxv,Instr.lookup,run_underlying hu,run_underlying hkt,Instr.findKey,h1,hck,getObj,Sem.run,hh,hzr],hZ,trivial⟩
     ·exact ⟨rfl,rfl,rfl,rfl,_,by simp [execOp,hval,hxv,Instr.lookup,run_underlying hu,run_underlying hkt,Instr.findKey,h1,hck,getObj,Sem.run,hh,hzr],Le false hZ,trivial⟩
   ·cases h
  ·cases h
 ·cases h
end
end Go.Sx
namespace Go.Sx
open Go.RowKit
section
variable {P:Program} {cx:Ctx} {E:Env} {a:Act} {e:Operand→AV} {H:List Ob} {n:Nat} {r:Res}
 {dst:Option Tmp} {ty:TypeId} {pos:String} {after:Array Go.Edge} {guard:Option (Nat × Bool)} {wn:Nat→Prop} {K:Act→World→Prop} {Q:Exit→Act→World→Prop} {ro:Option Nat}
inductive Src (E:Env) (t:Ty) (ys:List t.den) (v:Value):Prop
 | none (ba:Option Addr) (c:Nat) (h:ys=[]) (hv:v=.slice ba 0 c):Src E t ys v
 | some (b o c:Nat) (us:List Value) (hv:v=.slice (some ⟨b,o,none⟩) ys.length c) (hl:us.length=ys.length * t.size) (hcell:∀ (j:Nat) u,us[j]?=some u→E.w.cell? ⟨b,o+j,none⟩=some u)
  (h1:∀ u∈us,u.oneCell'=true) (hrd:∀ (j:Nat) p,(flat t ys)[j]?=some p→∃ u,us[j]?=some u∧RdP E.w E.Fz u p) (hlim:ys.length≤big):Src E t ys v
theorem I4 {b o m:Nat} {t:Ty} {ys:List t.den} {v:Value} {c:Nat} (hv:v=.slice (some ⟨b,o,none⟩) ys.length c) (hlim:ys.length≤big) (h:∀ j p,(flat t ys)[j]?=some p→∃ u,E.w.cell? ⟨b,o+j,none⟩=some u∧RdP E.w E.Fz u p) (_hm:m=0):Src E t ys v:=by
 let f:Nat→Value:=fun j=>(E.w.cell? ⟨b,o+j,none⟩).getD undef
 have key:∀ j,j < ys.length * t.size→∃ p,(flat t ys)[j]?=some p∧E.w.cell? ⟨b,o+j,none⟩=some (f j)∧RdP E.w E.Fz (f j) p:=by
  intro j hj
  have hp:(flat t ys)[j]?=some ((flat t ys)[j]'(by rw [As];exact hj)):=List.getElem?_eq_getElem (by rw [As];exact hj)
  obtain ⟨u,h1,h2⟩:=h j _ hp
  have hf:f j=u:=by simp [f,h1]
  exact ⟨_,hp,by rw [hf];exact h1,by rw [hf];exact h2⟩
 have get:∀ (j:Nat) u,((List.range (ys.length * t.size)).map f)[j]?=some u→j < ys.length * t.size∧u=f j:=by
  intro j u hu
  simp only [List.getElem?_map,Option.map_eq_some_iff] at hu
  obtain ⟨i,hi,rfl⟩:=hu
  have hlt:j < ys.length * t.size:=by have:=(List.getElem?_eq_some_iff.1 hi).1;simpa using this
  rw [List.getElem?_range hlt] at hi
  cases hi
  exact ⟨hlt,rfl⟩
 refine .some b o c ((List.range (ys.length * t.size)).map f) hv (by simp) (fun j u hu=>?_) (fun u hu=>?_) (fun j p hp=>?_) hlim
 ·obtain ⟨h1,rfl⟩:=get j u hu
  obtain ⟨p,_,h2,_⟩:=key j h1
  exact h2
 ·obtain ⟨j,hj⟩:=List.mem_iff_getElem?.1 hu
  obtain ⟨h1,rfl⟩:=get j u hj
  obtain ⟨p,_,_,h3⟩:=key j h1
  exact h3.one
 ·have hlt:j < ys.length * t.size:=by have:=(List.getElem?_eq_some_iff.1 hp).1;rwa [As] at this
  obtain ⟨p',hp',_,h3⟩:=key j hlt
  rw [hp] at hp'
  cases hp'
  exact ⟨f j,by simp [List.getElem?_range hlt],h3⟩
theorem Hr (hL:∀ id,E.A id→Ac H id≠.dead→E.L id) (hH:∀ id,E.L id→Ac H id≠.dead→OkOb E id (Ac H id)) {v:Value} {x:AV} {t:Ty} {ys:List t.den} (hx:RdA E v x) (h:D8 H x=some ⟨t,ys⟩):Src E t ys v:=by
 have own:∀ (id:Nat) (t:Ty) (ys:List t.den),RowsAt E t ys (E.ρ id)→Oa (E.ρ id) v→Src E t ys v:=by
  intro id t ys hrow hv
  cases hρ:E.ρ id with
  | none=>rw [hρ] at hrow hv;obtain ⟨ba,hv⟩:=hv;exact .none ba 0 hrow hv
  | some hd =>
   rw [hρ] at hrow hv
   obtain ⟨g1,g2,g3,g3',arr,el,g4,g5,g6⟩:=hrow
   have hv':v=.slice (some ⟨hd.blk,hd.off,none⟩) hd.len hd.cap:=hv
   rw [g1] at hv' g3
   refine I4 (m:=0) hv' (Jl g3) (fun j p hp=>?_) rfl
   obtain ⟨u,hu,hr⟩:=g6 j p hp
   exact ⟨u,by simp [World.cell?,g4,hu],hr⟩
 have part:∀ (id k lo len:Nat) (t:Ty) (xs:List t.den),RowsAt E t xs (E.ρ id)→k=t.size→Wa k lo len (E.ρ id) v→Src E t ((xs.drop lo).take len) v:=by
  intro id k lo len t xs hrow hk hv
  subst hk
  cases hρ:E.ρ id with
  | none =>
   rw [hρ] at hv hrow
   obtain ⟨h0,ba,hv⟩:=hv
   subst h0
   exact .none ba 0 (by simp) hv
  | some hd =>
   rw [hρ] at hv hrow
   obtain ⟨h1,o,c,hv,h2,_,h3⟩:=hv
   obtain ⟨g1,g2,g3,g3',arr,el,g4,g5,g6⟩:=hrow
   by_cases h0:len=0
   ·subst h0;exact .none _ c (by simp) hv
   ·have ho:o=hd.off+lo * t.size:=h3.resolve_right (by omega)
    subst ho
    have hlen:((xs.drop lo).take len).length=len:=by rw [List.length_take,List.length_drop];omega
    refine I4 (m:=0) (by rw [hlen];exact hv) (Jl (by omega)) (fun j p hp=>?_) rfl
    rw [Db,Da] at hp
    have hj:j < len * t.size:=by
     have:=(List.getElem?_eq_some_iff.1 hp).1
     rw [List.length_take] at this;omega
    rw [List.getElem?_take_of_lt hj,List.getElem?_drop] at hp
    obtain ⟨u,hu,hr⟩:=g6 _ p hp
    rw [← Nat.add_assoc] at hu
    exact ⟨u,by simp [World.cell?,g4,hu],hr⟩
 cases x with
 | sl t' xs =>
  simp only [D8,Option.some.injEq] at h
  cases h
  rcases hx.sl_inv.sl_inv with ⟨hnil,ba,c,hv⟩ | ⟨b,o,c,g,hv,hc,hl,hcell,hrd⟩
  ·exact .none ba c hnil hv
  ·exact I4 (m:=0) hv hl (fun j p hp=>⟨g j,(hcell j (List.getElem?_eq_some_iff.1 hp).1).2,hrd j p hp⟩) rfl
 | own id =>
  simp only [D8] at h
  have hA:=hx.own_inv.1
  split at h
  ·rename_i t' xs hob
   cases h
   have hne:Ac H id≠.dead:=by rw [hob];simp
   have hl:=hL id hA hne
   have hok:=hH id hl hne
   rw [hob] at hok
   exact own id _ _ hok (hx.own_inv.2.2 hl)
  ·rename_i t' xs hob
   cases h
   have hne:Ac H id≠.dead:=by rw [hob];simp
   have hl:=hL id hA hne
   have hok:=hH id hl hne
   rw [hob] at hok
   exact own id _ _ hok (hx.own_inv.2.2 hl)
  ·cases h
 | ownp id k lo len =>
  simp only [D8] at h
  have hA:=hx.ownp_inv.1
  split at h
  ·rename_i t' xs hob
   split at h
   ·rename_i hk
    cases h
    have hne:Ac H id≠.dead:=by rw [hob];simp
    have hl:=hL id hA hne
    have hok:=hH id hl hne
    rw [hob] at hok
    exact part id k lo len _ _ hok (by simpa using hk) (hx.ownp_inv.2.2 hl).q
   ·cases h
  ·rename_i t' xs hob
   split at h
   ·rename_i hk
    cases h
    have hne:Ac H id≠.dead:=by rw [hob];simp
    have hl:=hL id hA hne
    have hok:=hH id hl hne
    rw [hob] at hok
    exact part id k lo len _ _ hok (by simpa using hk) (hx.ownp_inv.2.2 hl).q
   ·cases h
  ·cases h
 | ownc id k lo len =>
  simp only [D8] at h
  have hA:=hx.ownc_inv.1
  have toP:∀ {t:Ty} {xs:List t.den},RowsAt E t xs (E.ρ id)→E.L id→Wa k lo len (E.ρ id) v:=by
   intro t xs hrow hl
   obtain ⟨hd,hρ,h1,h2⟩:=hx.ownc_inv.2.2 hl
   rw [hρ] at hrow ⊢
   have:=hrow.2.1
   exact ⟨h1,_,_,h2,by omega,by omega,.inl rfl⟩
  split at h
  ·rename_i t' xs hob
   split at h
   ·rename_i hk
    cases h
    have hne:Ac H id≠.dead:=by rw [hob];simp
    have hl:=hL id hA hne
    have hok:=hH id hl hne
    rw [hob] at hok
    exact part id k lo len _ _ hok (by simpa using hk) (toP hok hl)
   ·cases h
  ·rename_i t' xs hob
   split at h
   ·rename_i hk
    cases h
    have hne:Ac H id≠.dead:=by rw [hob];simp
    have hl:=hL id hA hne
    have hok:=hH id hl hne
    rw [hob] at hok
    exact part id k lo len _ _ hok (by simpa using hk) (toP hok hl)
   ·cases h
  ·cases h
 | slf t' xs =>
  simp only [D8,Option.some.injEq] at h
  cases h
  rcases hx.slf_inv.2.sl_inv with ⟨hnil,ba,c,hv⟩ | ⟨b,o,c,g,hv,hc,hl,hcell,hrd⟩
  ·exact .none ba c hnil hv
  ·exact I4 (m:=0) hv hl (fun j p hp=>⟨g j,(hcell j (List.getElem?_eq_some_iff.1 hp).1).2,hrd j p hp⟩) rfl
 | _=>simp [D8] at h
theorem C0 {t elem u:TypeId} {base ba:Option Addr} {len cp c:Nat} {info:TypeInfo} (hu:P.underlying t=some (.slice elem)) (hi:P.info? elem=some info) (hle:len≤cp) (w:World) :
 (Builtin.append_ #[t,t] u #[.slice base len cp,.slice ba 0 c]).run P w=.ok (.slice base len cp) w:=by
 cases ba <;> cases base <;> simp [Builtin.append_,run_underlying hu,sizeOf,typeInfo,hi,Builtin.lenOf,hle,Builtin.firstCells,loadCells,loadCellsFrom,storeCells]
theorem Gd (w:World) (t ty e:TypeId) (i:TypeInfo) (ht:P.underlying t=some (.slice e)) (hi:P.info? e=some i)
 (g o sLen sCap:Nat) (cur:Array Value) (el:TypeId) (hg:w.heap[g]?=some (.cells cur el (0,0)))
 (a:Addr) (m c:Nat) (news:List Value) (hl:news.length=m * i.size) (hnews:∀ (j:Nat) u,news[j]?=some u→w.cell? (a.add j)=some u) (h1:∀ u∈news,u.oneCell'=true)
 (hroom:sLen+m≤sCap) (hfit:o+sLen * i.size+news.length≤cur.size) :
 (Builtin.append_ #[t,t] ty #[.slice (some ⟨g,o,none⟩) sLen sCap,.slice (some a) m c]).run P w =
   .ok (.slice (some ⟨g,o,none⟩) (sLen+m) sCap) (w.setRow g (cur.toList.take (o+sLen * i.size)++news++cur.toList.drop (o+sLen * i.size+news.length)).toArray):=by
 have hf:=run_firstCells_some (P:=P) w i.size m a m c news hl hnews
 have hst:=run_storeCells_at P g (o+sLen * i.size) el news 0 cur w hg (by simpa using hfit) h1
 simp only [Nat.add_zero] at hst
 simp [Builtin.append_,run_underlying ht,sizeOf,typeInfo,hi,Builtin.lenOf,hroom,hf,B7,hst]
theorem D9 {w':World} {hd:Option Hdr} {t:Ty} {zs:List t.den} {v':Value} {kill:Option Nat} {q:Option Prop} (hr:Ready E n 1) (hA:∃ N,∀ id,E.A id→id < N) (h0:r=⟨q,none,.own n,[.rows t zs],kill,none,[]⟩) (hs:Step E n r w' (fun _=>hd))
 (hv:Oa hd v') (h1:v'.oneCell'=true) (hrow:∀ E':Env,E'.w=w'→(∀ b o,E.Fz b o→E'.Fz b o∧E'.w.cell? ⟨b,o,none⟩=E.w.cell? ⟨b,o,none⟩)→RowsAt E' t zs hd)
 (hK:∀ E' v,Ext E n r wn E'→A4 r.given→RdA E' v r.val→K (a.put dst v) E'.w):K (a.put dst v') w':=by
 subst h0
 have hρ:(E.ext n 1 kill [] wn w' (fun _=>hd)).ρ n=hd:=by simp [Env.ext]
 have hx:=hs.ext (wn:=wn) hr hA (fun hevo j ob hj=>by
  match j,hj with
  | 0,hj =>
   cases hj
   show RowsAt _ t zs _
   have:(E.ext n (List.length [Ob.rows t zs]) kill [] wn w' (fun _=>hd)).ρ (n+0)=hd:=hρ
   rw [this]
   exact hrow _ rfl (hevo 0).fz) (fun _ id ob h=>by cases h)
 refine hK _ _ hx trivial (.own _ n (.inr ⟨Nat.le_refl _,by simp⟩) h1 fun _=>?_)
 have:(E.ext n (List.length [Ob.rows t zs]) kill [] wn w' (fun _=>hd)).ρ n=hd:=hρ
 rw [this]
 exact hv
theorem Hg {t:Ty} {ys:List t.den} {v:Value} (h:Src E t ys v) (hm:ys≠[]):∃ (b o c:Nat) (us:List Value),v=.slice (some ⟨b,o,none⟩) ys.length c∧us.length=ys.length * t.size∧(∀ (j:Nat) u,us[j]?=some u→E.w.cell? ⟨b,o+j,none⟩=some u) ∧
 (∀ u∈us,u.oneCell'=true)∧(∀ (j:Nat) p,(flat t ys)[j]?=some p→∃ u,us[j]?=some u∧RdP E.w E.Fz u p):=by
 cases h with
 | none ba c h hv=>exact absurd h hm
 | some b o c us hv hl hcell h1 hrd hlim=>exact ⟨b,o,c,us,hv,hl,hcell,h1,hrd⟩
theorem Na {t:Ty} {ys:List t.den} {v:Value} (h:Src E t ys v) (hm:ys=[]):∃ ba c,v=.slice ba 0 c:=by
 cases h with
 | none ba c h hv=>exact ⟨ba,c,hv⟩
 | some b o c us hv hl hcell h1 hrd hlim=>subst hm;exact ⟨_,c,hv⟩
theorem Lg {t elem:TypeId} {info:TypeInfo} {z:Value} {ty':Ty} {xs ys:List ty'.den} {base:Option Addr} {cp:Nat} {v:Value} {olds:List Value} {kill:Option Nat} {q:Option Prop}
 (hr:Ready E n 1) (hA:∃ N,∀ id,E.A id→id < N) (hW:∀ id,kill=some id→E.W id) (hu:P.underlying t=some (.slice elem)) (hi:P.info? elem=some info) (hs:info.size=ty'.size) (hz:info.zero=some z) (hzs:z.cells.size=ty'.size) (hby:1≤info.bytes)
 (hlo:olds.length=xs.length * ty'.size) (hold:∀ (j:Nat) p,(flat ty' xs)[j]?=some p→∃ u,olds[j]?=some u∧RdP E.w E.Fz u p) (hbase:(base=none∧xs=[]∧cp=0)∨∃ b,base=some b∧∀ (j:Nat) u,olds[j]?=some u→E.w.cell? (b.add j)=some u)
 (hsrc:Src E ty' ys v) (hm:ys≠[]) (hcap:cp < xs.length+ys.length) (hneed:(xs.length+ys.length) * info.bytes≤lim) (h0:r=⟨q,none,.own n,[.rows ty' (xs++ys)],kill,none,[]⟩)
 (hK:∀ E' v,Ext E n r wn E'→A4 r.given→RdA E' v r.val→K (a.put dst v) E'.w):∃ v' w',(Builtin.append_ #[t,t] ty #[.slice base xs.length cp,v]).run P E.w=.ok v' w'∧K (a.put dst v') w':=by
 obtain ⟨b,o,c,us,rfl,hul,hucell,hu1,hurd⟩:=Hg hsrc hm
 have hlen1:1 * (xs.length+ys.length)≤(xs.length+ys.length) * info.bytes:=by rw [Nat.mul_comm];exact Nat.mul_le_mul_left _ hby
 have hlimv:lim=140737488355328:=rfl
 have hpos:0 < ys.length:=List.length_pos_iff.2 hm
 have hucell':∀ j u,us[j]?=some u→E.w.cell? ((⟨b,o,none⟩ : Addr).add j)=some u:=fun j u h=>by rw [B7];exact hucell j u h
 have hul':us.length=ys.length * info.size:=by rw [hs];exact hul
 have fin:∀ (arr:Array Value) (cap':Nat),xs.length+ys.length≤cap'→cap'≤maxLen→arr.toList=olds++us++(Builtin.zeroCells z.cells (cap' - (xs.length+ys.length))).toList →
  K (a.put dst (.slice (some ⟨E.w.heap.size,0,none⟩) (xs.length+ys.length) cap')) (E.w.drew.alloc (.cells arr elem)):=by
  intro arr cap' hc1 hc2 harr
  have hsz:arr.size=cap' * ty'.size:=by
   have:=congrArg List.length harr
   simp only [Array.length_toList,List.length_append,size_zeroCells,hlo,hul,hzs] at this
   rw [this,← Nat.add_mul,← Nat.add_mul]
   congr 1
   omega
  have hstep:Step E n r (E.w.drew.alloc (.cells arr elem)) (fun _=>some ⟨E.w.heap.size,0,xs.length+ys.length,cap'⟩):=by
   subst h0
   refine ⟨((Below.refl _ _).drew).alloc hr.B _,fun b hb _=>Below.heap_alloc _ _ _ hb, ?_, ?_,hW, ?_⟩
   ·intro j h _ hj;cases hj;exact ⟨by simp,.inl (Nat.le_refl _)⟩
   ·intro j j' h h' hj hj' _ _ hne;simp at hj hj';omega
   ·intro p hp;cases hp
  refine D9 (wn:=wn) hr hA h0 hstep rfl rfl (fun E' hw hfz=>?_) hK
  refine ⟨by simp,hc1,by simp [lim];omega,hc2,arr,elem, ?_,by simp [hsz],fun j p hp=>?_⟩
  ·rw [hw];exact heap_alloc_new E.w.drew _
  ·have hget:arr[j]?=(olds++us++(Builtin.zeroCells z.cells (cap' - (xs.length+ys.length))).toList)[j]?:=by rw [← harr];simp
   rw [Nat.zero_add,hget]
   rw [Cc] at hp
   by_cases hj:j < (flat ty' xs).length
   ·rw [List.getElem?_append_left hj] at hp
    obtain ⟨u,h1,h2⟩:=hold j p hp
    rw [As,← hlo] at hj
    exact ⟨u,by rw [List.append_assoc,List.getElem?_append_left hj];exact h1,h2.mono hfz⟩
   ·rw [List.getElem?_append_right (by omega)] at hp
    obtain ⟨u,h1,h2⟩:=hurd _ p hp
    rw [As,← hlo] at h1 hj
    have hlt:=(List.getElem?_eq_some_iff.1 h1).1
    exact ⟨u,by rw [List.append_assoc,List.getElem?_append_right (by omega),List.getElem?_append_left hlt];exact h1,h2.mono hfz⟩
 rcases hbase with ⟨rfl,hxs,hcp⟩ | ⟨b',rfl,hb'⟩
 ·subst hxs;subst hcp
  simp only [List.length_nil,Nat.zero_add] at hneed hcap fin hlen1 ⊢
  have hol:olds=[]:=List.eq_nil_of_length_eq_zero (by simpa using hlo)
  subst hol
  exact ⟨_,_,run_append_nil (P:=P) E.w t ty elem info z hu hi hz ⟨b,o,none⟩ ys.length c us hul' hucell' hpos (by omega) (by omega),fin _ _ (grownCap_ge _ _ _ _) (grownCap_le_maxLen _ _ _ _ (by simp only [maxLen];omega)) (by simp)⟩
 ·have hlo':olds.length=xs.length * info.size:=by rw [hs];exact hlo
  exact ⟨_,_,run_append_grow (P:=P) E.w t ty elem info z hu hi hz b' xs.length cp olds hlo' hb' ⟨b,o,none⟩ ys.length c us hul' hucell' hcap (by omega) (growslice_fits hcap (by omega)),
   fin _ _ (grownCap_ge _ _ _ _) (grownCap_le_maxLen _ _ _ _ (by simp only [maxLen];omega)) (by simp)⟩
theorem Oi {P:Program} (w:World) (t tn ty e:TypeId) (i:TypeInfo) (z:Value) (k kn:IntKind) (ht:P.underlying t=some (.slice e)) (htn:P.underlying tn=some (.int kn)) (hi:P.info? e=some i) (hz:i.zero=some z)
 (ba:Option Addr) (n:Nat) (h0:0 < n) (hs:0 < i.size) (h63:(n:Int)≤9223372036854775807) (h48:n * i.bytes≤281474976710656) :
 (Builtin.append_ #[t,tn] ty #[.slice ba 0 0,.int k n]).run P w =
   .ok (.slice (some ⟨w.heap.size,0,none⟩) n (grownCap w n 0 e)) (w.drew.alloc (.cells (Builtin.zeroCells z.cells n++Builtin.zeroCells z.cells (grownCap w n 0 e - n)) e)):=by
 have hn:n≠0:=by omega
 have hw:IntKind.i64.wrap (n:Int)=n:=by rw [IntKind.wrap_i64];omega
 have h63':¬ (9223372036854775807 < (n:Int)):=by omega
 have h48':¬ (281474976710656 < Builtin.nextslicecap n 0 * i.bytes):=by rw [nextslicecap_zero h0];omega
 have h48i:¬ (281474976710656 < (n:Int) * (i.bytes:Int)):=by
  rw [← Int.natCast_mul]
  omega
 have hneg:¬ ((n:Int) < 0):=by omega
 have hns:¬ (n * i.size=0):=Nat.mul_ne_zero hn (by omega)
 have hf:(Builtin.firstCells i.size 0 (.slice ba 0 0)).run P w.drew=.ok #[] w.drew:=by
  cases ba <;> simp [Builtin.firstCells,loadCells,loadCellsFrom]
 simp [Builtin.append_,run_underlying ht,run_underlying htn,sizeOf,typeInfo,zeroValue,hi,hz,asInt,asIntOf,hw,hn,hneg,hns,h63',h48',h48i,Question.forced,hf,newRow,grownCap]
theorem Yr {t tn:TypeId} {x y:Operand} (hn:A4 r.need) (hr:Ready E n r.news.length) (hA:∃ N,∀ id,E.A id→id < N)
 (hx:RdA E (a.eval x) (e x)) (hy:RdA E (a.eval y) (e y)) (h:Mz cx P n t tn (e x) (e y)=some r)
 (hK:∀ E' v,Ext E n r wn E'→A4 r.given→RdA E' v r.val→K (a.put dst v) E'.w):∃ v w',(Builtin.append_ #[t,tn] ty #[a.eval x,a.eval y]).run P E.w=.ok v w'∧K (a.put dst v) w':=by
 unfold Mz at h
 split at h
 ·rename_i elem kn k c hu htn hvx hvy
  split at h
  ·rename_i u z hlook hz
   split at h
   ·rename_i hk
    simp only [Bool.and_eq_true] at hk
    obtain ⟨info,hi,hs⟩:=Bj hk.1 (Bc u)
    split at h
    ·rename_i ps ids hd
     split at h
     ·rename_i y' bs hy' hbs
      have hbs':=H9 hbs
      subst hbs'
      have h0:=(Option.some.inj h).symm
      have hr':Ready E n 1:=by rw [h0] at hr;exact hr
      have hn':0 < c∧c * (Cj P elem:Int)≤(lim:Int)∧c≤(lim:Int):=by rw [h0] at hn;exact hn
      obtain ⟨n1,n2,n3⟩:=hn'
      have hb:Cj P elem=info.bytes:=by simp [Cj,hi]
      have hiz:info.zero=some z:=by simpa [Dq,hi] using hz
      have hlimv:lim=140737488355328:=rfl
      rw [hvx] at hx
      rw [hvy] at hy
      obtain ⟨ba,hvv⟩:=hx.cap0_inv
      have hc:((c.toNat:Nat):Int)=c:=Int.toNat_of_nonneg (by omega)
      have hcb:c.toNat * info.bytes≤lim:=by
       rw [hb,← hc] at n2
       exact Int.ofNat_le.1 (by rw [Int.natCast_mul];exact n2)
      have hpos:=Bc u
      have hrun:=Oi (P:=P) E.w t tn ty elem info z k kn hu htn hi hiz ba c.toNat (by omega) (by omega) (by omega) (by omega)
      rw [hc] at hrun
      rw [hvv,hy.int_inv]
      refine ⟨_,_,hrun, ?_⟩
      have hzc:=Hp (E:=E) hk.2
      obtain ⟨g1,g2⟩:=Ft (ids':=[]) (H:=[]) (E:=E) (fun id _ hne=>absurd rfl hne) (fun id _ hne=>absurd rfl hne) hzc hd (fun id hid=>by
       have:ids=[]:=by
        have:∀ (l:List AV) ps ids,C1 [] l=some (ps,ids)→ids=[]:=by
         intro l
         induction l with
         | nil=>intro ps ids h;simp [C1] at h;exact h.2
         | cons x l ih =>
          intro ps ids h
          simp only [C1] at h
          split at h
          ·rename_i p ia qs ib h1 h2
           simp only [Option.some.injEq,Prod.mk.injEq] at h
           obtain ⟨_,rfl⟩:=h
           have hib:=ih _ _ h2
           subst hib
           rw [Oh h1];rfl
          ·cases h
        exact this _ _ _ hd
       subst this;exact hid)
      have hle:=Hl u ps y' hy'
      have hz':z.cells.size=u.size:=by
       have h1:=hle.get.1
       rw [Aq] at h1
       simp at g1
       omega
      have hc1:=grownCap_ge E.w c.toNat 0 elem
      have hc2:=grownCap_le_maxLen E.w c.toNat 0 elem (by simp only [maxLen];omega)
      generalize grownCap E.w c.toNat 0 elem=cap' at hc1 hc2 ⊢
      have hzl:z.cells.toList.length=u.size:=by simpa using hz'
      have hget0:∀ j,j < c.toNat * u.size→(Builtin.zeroCells z.cells c.toNat)[j]?=some (z.cells[j % u.size]!):=by
       intro j hj
       simp only [Builtin.zeroCells,hz',Array.getElem?_map,Array.getElem?_range,hj]
       rfl
      have hsz:(Builtin.zeroCells z.cells c.toNat++Builtin.zeroCells z.cells (cap' - c.toNat)).size=cap' * u.size:=by
       simp only [Builtin.zeroCells,hz',Array.size_append,Array.size_map,Array.size_range]
       rw [← Nat.add_mul]
       congr 1
       omega
      have hstep:Step E n r (E.w.drew.alloc (.cells (Builtin.zeroCells z.cells c.toNat++Builtin.zeroCells z.cells (cap' - c.toNat)) elem)) (fun _=>some ⟨E.w.heap.size,0,c.toNat,cap'⟩):=by
       subst h0
       refine ⟨((Below.refl _ _).drew).alloc hr.B _,fun b hb _=>Below.heap_alloc _ _ _ hb, ?_, ?_, ?_, ?_⟩
       ·intro j h _ hj;cases hj;exact ⟨by simp,.inl (Nat.le_refl _)⟩
       ·intro j j' h h' hj hj' _ _ hne;simp at hj hj';omega
       ·intro id hid;cases hid
       ·intro p hp;cases hp
      refine D9 (wn:=wn) hr' hA h0 hstep rfl rfl (fun E' hw hfz=>?_) hK
      refine ⟨by simp,hc1,by simp [lim];omega,hc2,_,elem, ?_,by rw [hsz];simp,fun j p hp=>?_⟩
      ·rw [hw];exact heap_alloc_new E.w.drew _
      ·have hj:j < c.toNat * u.size:=by
        have:=(List.getElem?_eq_some_iff.1 hp).1
        rw [As,List.length_replicate] at this;exact this
       have hp':=Fu u y' _ j p hp
       have hmod:j % u.size < u.size:=Nat.mod_lt _ hpos
       have hu':z.cells.toList[j % u.size]?=some (z.cells.toList[j % u.size]'(by omega)):=List.getElem?_eq_getElem (by omega)
       refine ⟨z.cells.toList[j % u.size]'(by omega), ?_, ?_⟩
       ·rw [Nat.zero_add,Array.getElem?_append_left (by simp only [Builtin.zeroCells,hz',Array.size_map,Array.size_range];exact hj),hget0 j hj,getElem!_pos z.cells _ (by omega)]
        rfl
       ·have hpl:ps[j % u.size]?=some (ps[j % u.size]'(by rw [← g1];omega)):=List.getElem?_eq_getElem (by rw [← g1];omega)
        exact ((g2 _ _ _ hu' hpl).2.le (hle.get.2 _ _ _ hpl hp')).mono (fun b o hb=>by
         rcases hb with hb | ⟨id,hid,_⟩
         ·exact hfz b o hb
         ·cases hid)
     ·cases h
    ·cases h
   ·cases h
  ·cases h
 ·cases h
theorem I5 {t u:Ty} {ys:List t.den} {zs:List u.den} (h:J5 t u ys=some zs) {v:Value} (hs:Src E t ys v):Src E u zs v:=by
 obtain ⟨e,h⟩:=Ga h
 subst e
 cases h
 exact hs
theorem Oj {t elem:TypeId} {info:TypeInfo} {z:Value} {u:Ty} {xs zs:List u.den} {x y:Operand} {id:Nat} {hd? : Option Hdr} {q:Option Prop} (hr':Ready E n 1) (hA:∃ N,∀ id,E.A id→id < N) (hWid:∀ id',some id=some id'→E.W id') (hl:E.L id)
 (hu:P.underlying t=some (.slice elem)) (hi:P.info? elem=some info) (hs':info.size=u.size) (hz:info.zero=some z) (hzs':z.cells.size=u.size) (hby':1≤info.bytes)
 (hsrc':Src E u zs (a.eval y)) (hok:RowsAt E u xs hd?) (hown:Oa hd? (a.eval x)) (hblk:∀ hd,hd?=some hd→∃ hd0,E.ρ id=some hd0∧hd0.blk=hd.blk) (hn':(xs.length+zs.length) * info.bytes≤lim)
 (h0:r=⟨q,none,.own n,[.rows u (xs++zs)],some id,none,[]⟩)
 (hK:∀ E' v,Ext E n r wn E'→A4 r.given→RdA E' v r.val→K (a.put dst v) E'.w):∃ v w',(Builtin.append_ #[t,t] ty #[a.eval x,a.eval y]).run P E.w=.ok v w'∧K (a.put dst v) w':=by
 cases hd? with
 | none =>
  obtain ⟨ba,hvv⟩:=hown
  have hxs:xs=[]:=hok
  subst hxs
  rw [hvv]
  by_cases hm:zs=[]
  ·obtain ⟨ba',c,hvy⟩:=Na hsrc' hm
   rw [hvy]
   refine ⟨_,_,C0 hu hi (Nat.le_refl _) _, ?_⟩
   have hstep:Step E n r E.w (fun _=>none):=by
    subst h0
    refine ⟨Below.refl _ _,fun b hb _=>rfl, ?_, ?_,hWid, ?_⟩
    ·intro j h _ hj;cases hj
    ·intro j j' h h' _ _ hj;cases hj
    ·intro p hp;cases hp
   exact D9 (wn:=wn) hr' hA h0 hstep ⟨ba,rfl⟩ rfl (fun E' _ _=>by subst hm;rfl) hK
  ·exact Lg (xs:=[]) (olds:=[]) hr' hA hWid hu hi hs' hz hzs' hby' (by simp) (fun j p hp=>by simp [flat] at hp)
    (by cases ba with
      | none=>exact .inl ⟨rfl,rfl,rfl⟩
      | some b=>exact .inr ⟨b,rfl,fun j u hu=>by simp at hu⟩) hsrc' hm (by have:=List.length_pos_iff.2 hm;simpa using this) (by simpa using hn') h0 hK
 | some hd =>
  have hvv:a.eval x=.slice (some ⟨hd.blk,hd.off,none⟩) hd.len hd.cap:=hown
  obtain ⟨g1,g2,g3,g3',arr,el,g4,g5,g6⟩:=hok
  have hWi:E.W id:=hWid id rfl
  obtain ⟨hd0,hρ,hb0⟩:=hblk hd rfl
  have hlt:=hr'.lt id hd0 hl hρ
  rw [hb0] at hlt
  rw [hvv]
  by_cases hroom:hd.len+zs.length≤hd.cap
  ·
   by_cases hm:zs=[]
   ·obtain ⟨ba',c,hvy⟩:=Na hsrc' hm
    rw [hvy]
    refine ⟨_,_,C0 hu hi g2 _, ?_⟩
    have hstep:Step E n r E.w (fun _=>some hd):=by
     subst h0
     refine ⟨Below.refl _ _,fun b hb _=>rfl, ?_, ?_,hWid, ?_⟩
     ·intro j h _ hj;cases hj;exact ⟨hlt.2,.inr ⟨id,hWi,rfl,.inl ⟨hd0,hρ,hb0⟩⟩⟩
     ·intro j j' h h' hj hj' _ _ hne;simp at hj hj';omega
     ·intro p hp;cases hp
    exact D9 (wn:=wn) hr' hA h0 hstep rfl rfl (fun E' hw hfz=>by
     subst hm
     rw [List.append_nil]
     refine ⟨g1,g2,g3,g3',arr,el,by rw [hw];exact g4,g5,fun j p hp=>?_⟩
     obtain ⟨v,h1,h2⟩:=g6 j p hp
     exact ⟨v,h1,h2.mono hfz⟩) hK
   ·obtain ⟨b,o,c,us,hvy,hul,hucell,hu1,hurd⟩:=Hg hsrc' hm
    rw [hvy]
    have hmul:(hd.len+zs.length) * u.size≤hd.cap * u.size:=Nat.mul_le_mul_right _ hroom
    rw [Nat.add_mul] at hmul
    have hfit:hd.off+hd.len * info.size+us.length≤arr.size:=by rw [hs',hul];omega
    have hrun:=Gd (P:=P) E.w t ty elem info hu hi hd.blk hd.off hd.len hd.cap arr el g4 ⟨b,o,none⟩ zs.length c us (by rw [hs'];exact hul) (fun j u h=>by rw [B7];exact hucell j u h) hu1 hroom hfit
    obtain ⟨arr',harr,hasz,hget⟩ : ∃ arr':Array Value,(arr.toList.take (hd.off+hd.len * info.size)++us++arr.toList.drop (hd.off+hd.len * info.size+us.length)).toArray=arr'∧arr'.size=arr.size ∧
     ∀ j,arr'[j]?=if hd.off+hd.len * u.size≤j∧j < hd.off+hd.len * u.size+us.length then us[j - (hd.off+hd.len * u.size)]? else arr[j]?:=by
     refine ⟨_,rfl, ?_,fun j=>by rw [getElem?_spliced hfit,hs']⟩
     simp only [List.size_toArray,List.length_append,List.length_take,List.length_drop,Array.length_toList]
     omega
    rw [harr] at hrun
    refine ⟨_,_,hrun, ?_⟩
    have hstep:Step E n r (E.w.setRow hd.blk arr') (fun _=>some ⟨hd.blk,hd.off,hd.len+zs.length,hd.cap⟩):=by
     subst h0
     refine ⟨⟨rfl,rfl,rfl,by simp,fun b hb=>setRow_other _ _ _ _ (by omega)⟩,fun b hb hne=>setRow_other _ _ _ _ (fun e=>hne id hWi (.inl rfl) (.inl ⟨hd0,hρ,hb0.trans e.symm⟩)), ?_, ?_,hWid, ?_⟩
     ·intro j h _ hj;cases hj;exact ⟨by simpa using hlt.2,.inr ⟨id,hWi,rfl,.inl ⟨hd0,hρ,hb0⟩⟩⟩
     ·intro j j' h h' hj hj' _ _ hne;simp at hj hj';omega
     ·intro p hp;cases hp
    refine D9 (wn:=wn) hr' hA h0 hstep rfl rfl (fun E' hw hfz=>?_) hK
    have hlen1:1 * (xs.length+zs.length)≤(xs.length+zs.length) * info.bytes:=by rw [Nat.mul_comm];exact Nat.mul_le_mul_left _ hby'
    refine ⟨by simp [g1],hroom,by simp only;omega,g3',arr',el,by rw [hw];exact setRow_heap _ _ arr _ el _ g4,by rw [hasz];exact g5,fun j p hp=>?_⟩
    simp only
    rw [hget]
    rw [Cc] at hp
    have hfl:(flat u xs).length=hd.len * u.size:=by rw [As,g1]
    by_cases hj:j < (flat u xs).length
    ·rw [List.getElem?_append_left hj] at hp
     rw [if_neg (by omega)]
     obtain ⟨v,h1,h2⟩:=g6 j p hp
     exact ⟨v,h1,h2.mono hfz⟩
    ·rw [List.getElem?_append_right (by omega)] at hp
     obtain ⟨v,h1,h2⟩:=hurd _ p hp
     have hlt:=(List.getElem?_eq_some_iff.1 h1).1
     rw [hfl] at h1 hlt hj
     rw [if_pos (by omega)]
     exact ⟨v,by rw [← h1];congr 1;omega,h2.mono hfz⟩
  ·have hm:zs≠[]:=by rintro rfl;simp at hroom;omega
   have hsrcx:Src E u xs (a.eval x):=by
    rw [hvv]
    refine I4 (m:=0) (by rw [g1]) (Jl (by omega)) (fun j p hp=>?_) rfl
    obtain ⟨v,h1,h2⟩:=g6 j p hp
    exact ⟨v,by simp [World.cell?,g4,h1],h2⟩
   by_cases hxs:xs=[]
   ·subst hxs
    have h00:hd.len=0:=by simpa using g1
    rw [h00]
    exact Lg (xs:=[]) (olds:=[]) (cp:=hd.cap) hr' hA hWid hu hi hs' hz hzs' hby' (by simp) (fun j p hp=>by simp [flat] at hp)
     (.inr ⟨_,rfl,fun j u hu=>by simp at hu⟩) hsrc' hm (by simp;omega) (by simpa using hn') h0 hK
   ·obtain ⟨b,o,c,us,hvx2,hul,hucell,hu1,hurd⟩:=Hg hsrcx hxs
    rw [hvv] at hvx2
    simp only [Value.slice.injEq,Option.some.injEq,Addr.mk.injEq,and_true] at hvx2
    obtain ⟨⟨hb1,hb2⟩,hb3,hb4⟩:=hvx2
    rw [g1]
    exact Lg (xs:=xs) (olds:=us) (cp:=hd.cap) hr' hA hWid hu hi hs' hz hzs' hby' hul hurd
     (.inr ⟨_,rfl,fun j w hw=>by rw [B7,hb1,hb2];exact hucell j w hw⟩) hsrc' hm (by omega) hn' h0 hK
theorem Ys {t elem:TypeId} {x y:Operand} (hn:A4 r.need) (hr:Ready E n r.news.length) (hA:∃ N,∀ id,E.A id→id < N) (hL:∀ id,E.A id→Ac H id≠.dead→E.L id) (hH:∀ id,E.L id→Ac H id≠.dead→OkOb E id (Ac H id))
 (hW:∀ id,r.kill=some id→E.W id) (hx:RdA E (a.eval x) (e x)) (hy:RdA E (a.eval y) (e y)) (hu:P.underlying t=some (.slice elem)) (h:Kf P H n elem (e x) (e y)=some r)
 (hK:∀ E' v,Ext E n r wn E'→A4 r.given→RdA E' v r.val→K (a.put dst v) E'.w):∃ v w',(Builtin.append_ #[t,t] ty #[a.eval x,a.eval y]).run P E.w=.ok v w'∧K (a.put dst v) w':=by
 unfold Kf at h
 split at h
 ·split at h
  ·cases h
  rename_i info hi
  have same:∀ (w:AV),r=Res.pure w→RdA E (a.eval x) w→(∃ ba len c,a.eval x=.slice ba len c∧len≤c)→(∃ ba c,a.eval y=.slice ba 0 c)→∃ v w',(Builtin.append_ #[t,t] ty #[a.eval x,a.eval y]).run P E.w=.ok v w'∧K (a.put dst v) w':=by
   rintro w rfl hxw ⟨ba,len,c,hvx,hle⟩ ⟨ba',c',hvy⟩
   refine ⟨_,_, ?_,hK E (a.eval x) (Ext.idle hr rfl rfl rfl rfl) trivial hxw⟩
   rw [hvx,hvy]
   exact C0 hu hi hle _
  split at h
  ·rename_i hvy hvx
   rw [hvy] at hy;rw [hvx] at hx
   obtain ⟨ba,hb⟩:=hx.cap0_inv
   obtain ⟨ba',hb'⟩:=hy.cap0_inv
   exact same _ (Option.some.inj h).symm hx ⟨_,_,_,hb,Nat.le_refl _⟩ ⟨_,_,hb'⟩
  ·rename_i hvy hvx
   rw [hvy] at hy;rw [hvx] at hx
   obtain ⟨ba,hb⟩:=hx.cap0_inv
   obtain ⟨ba',c,hb'⟩:=hy.nils_inv
   exact same _ (Option.some.inj h).symm hx ⟨_,_,_,hb,Nat.le_refl _⟩ ⟨_,_,hb'⟩
  ·rename_i id hvy hvx
   rw [hvy] at hy;rw [hvx] at hx
   obtain ⟨ba',hb'⟩:=hy.cap0_inv
   split at h
   ·rename_i t' xs hob
    have hne:Ac H id≠.dead:=by rw [hob];simp
    have hl:=hL id hx.own_inv.1 hne
    have hok:=hH id hl hne
    rw [hob] at hok
    exact same _ (Option.some.inj h).symm hx (Jn (hx.own_inv.2.2 hl) (Lb hok)) ⟨_,_,hb'⟩
   ·cases h
  ·rename_i id hvy hvx
   rw [hvy] at hy;rw [hvx] at hx
   obtain ⟨ba',c,hb'⟩:=hy.nils_inv
   split at h
   ·rename_i t' xs hob
    have hne:Ac H id≠.dead:=by rw [hob];simp
    have hl:=hL id hx.own_inv.1 hne
    have hok:=hH id hl hne
    rw [hob] at hok
    exact same _ (Option.some.inj h).symm hx (Jn (hx.own_inv.2.2 hl) (Lb hok)) ⟨_,_,hb'⟩
   ·cases h
  ·cases h
 ·rename_i t' ys hcon
  have hsrc:=Hr hL hH hy hcon
  split at h
  ·rename_i hcond
   simp only [Bool.and_eq_true] at hcond
   obtain ⟨⟨hk,hzz⟩,hby⟩:=hcond
   obtain ⟨info,hi,hs⟩:=Bj hk (Bc t')
   have hb:Cj P elem=info.bytes:=by simp [Cj,hi]
   have hby':1≤info.bytes:=by rw [← hb];exact Nat.le_of_ble_eq_true hby
   obtain ⟨z,hz,hzs⟩ : ∃ z,info.zero=some z∧z.cells.size=t'.size:=by
    unfold Mx at hzz
    cases hzt:Dq P elem with
    | none=>simp [hzt] at hzz
    | some z =>
     simp only [hzt] at hzz
     exact ⟨z,by simpa [Dq,hi] using hzt,Nat.eq_of_beq_eq_true hzz⟩
   cases hbs:Qr (Cj P elem) Pb with
   | none=>rw [hbs] at h;cases h
   | some bs =>
   rw [hbs] at h
   have hbs':=H9 hbs
   subst hbs'
   simp only at h
   split at h
   ·rename_i hvx
    rw [hvx] at hx
    obtain ⟨ba,hvv⟩:=hx.cap0_inv
    have h0:=(Option.some.inj h).symm
    have hr':Ready E n 1:=by rw [h0] at hr;exact hr
    have hn':ys.length * info.bytes≤lim:=by rw [h0] at hn;rw [← hb];exact hn
    rw [hvv]
    by_cases hm:ys=[]
    ·obtain ⟨ba',c,hvy⟩:=Na hsrc hm
     rw [hvy]
     refine ⟨_,_,C0 hu hi (Nat.le_refl _) _, ?_⟩
     have hstep:Step E n r E.w (fun _=>none):=by
      subst h0
      refine ⟨Below.refl _ _,fun b hb _=>rfl, ?_, ?_, ?_, ?_⟩
      ·intro j h _ hj;cases hj
      ·intro j j' h h' _ _ hj;cases hj
      ·intro id hid;cases hid
      ·intro p hp;cases hp
     exact D9 (wn:=wn) hr' hA h0 hstep ⟨ba,rfl⟩ rfl (fun E' _ _=>hm) hK
    ·exact Lg (xs:=[]) (olds:=[]) hr' hA (fun id hid=>by cases hid) hu hi hs hz hzs hby' (by simp) (fun j p hp=>by simp [flat] at hp)
      (by cases ba with
        | none=>exact .inl ⟨rfl,rfl,rfl⟩
        | some b=>exact .inr ⟨b,rfl,fun j u hu=>by simp at hu⟩) hsrc hm (by have:=List.length_pos_iff.2 hm;simpa using this) (by simpa using hn') h0 hK
   ·rename_i id hvx
    rw [hvx] at hx
    split at h
    ·rename_i u xs hob
     split at h
     ·rename_i zs hcast
      have hsrc':=I5 hcast hsrc
      obtain ⟨hteq,_⟩:=Ga hcast
      have h0:=(Option.some.inj h).symm
      have hr':Ready E n 1:=by rw [h0] at hr;exact hr
      have hn':(xs.length+zs.length) * info.bytes≤lim:=by rw [h0] at hn;rw [← hb];exact hn
      have hs':info.size=u.size:=by rw [hs,hteq]
      have hzs':z.cells.size=u.size:=by rw [hzs,hteq]
      have hne:Ac H id≠.dead:=by rw [hob];simp
      have hl:=hL id hx.own_inv.1 hne
      have hok:RowsAt E u xs (E.ρ id):=by
       have:=hH id hl hne
       rw [hob] at this
       exact this
      have hWid:∀ id',some id=some id'→E.W id':=by rw [h0] at hW;exact hW
      have hown:=hx.own_inv.2.2 hl
      exact Oj hr' hA hWid hl hu hi hs' hz hzs' hby' hsrc' hok hown (fun hd hhd=>⟨hd,hhd,rfl⟩) hn' h0 hK
     ·cases h
    ·cases h
   ·rename_i id k lo len hvx
    rw [hvx] at hx
    split at h
    ·rename_i u xs hob
     split at h
     ·rename_i hk
      split at h
      ·rename_i zs hcast
       have hk':=Nat.eq_of_beq_eq_true hk
       have hsrc':=I5 hcast hsrc
       obtain ⟨hteq,_⟩:=Ga hcast
       have h0:=(Option.some.inj h).symm
       have hr':Ready E n 1:=by rw [h0] at hr;exact hr
       have hn':(((xs.drop lo).take len).length+zs.length) * info.bytes≤lim:=by rw [h0] at hn;rw [← hb];exact hn
       have hs':info.size=u.size:=by rw [hs,hteq]
       have hzs':z.cells.size=u.size:=by rw [hzs,hteq]
       have hne:Ac H id≠.dead:=by rw [hob];simp
       have hl:=hL id hx.ownp_inv.1 hne
       have hok:RowsAt E u xs (E.ρ id):=by
        have:=hH id hl hne
        rw [hob] at this
        exact this
       have hWid:∀ id',some id=some id'→E.W id':=by rw [h0] at hW;exact hW
       have hown:=hx.ownp_inv.2.2 hl
       cases hρ:E.ρ id with
       | none =>
        rw [hρ] at hown
        obtain ⟨h00,ba,hv⟩:=hown
        subst h00
        exact Oj (hd?:=none) hr' hA hWid hl hu hi hs' hz hzs' hby' hsrc' (by simp [RowsAt]) ⟨ba,hv⟩ (fun hd hhd=>by cases hhd) hn' h0 hK
       | some hd =>
        rw [hρ] at hown hok
        obtain ⟨h1,o,c,hv,h2,h3,h4⟩:=hown
        obtain ⟨g1,g2,g3,g3',arr,el,g4,g5,g6⟩:=hok
        have hlen:((xs.drop lo).take len).length=len:=by rw [List.length_take,List.length_drop];omega
        refine Oj (hd?:=some ⟨hd.blk,o,len,c⟩) hr' hA hWid hl hu hi hs' hz hzs' hby' hsrc' ⟨hlen.symm,h2,by simp only;omega,by simp only;omega,arr,el,g4, ?_,fun j p hp=>?_⟩ hv (fun hd' hhd=>by cases hhd;exact ⟨hd,hρ,rfl⟩) hn' h0 hK
        ·simp only
         rcases h4 with rfl | ⟨rfl,h4⟩
         ·have hcm:(lo+c) * u.size≤hd.cap * u.size:=Nat.mul_le_mul_right _ (by omega)
          rw [Nat.add_mul] at hcm
          rw [hk']
          omega
         ·rw [hk'] at h4
          rw [Nat.zero_mul];omega
        ·have hj:j < len * u.size:=by
          have:=(List.getElem?_eq_some_iff.1 hp).1
          rw [As,hlen] at this;exact this
         have ho:o=hd.off+lo * k:=h4.resolve_right (fun hc=>by
          have:len=0:=by omega
          rw [this,Nat.zero_mul] at hj;omega)
         rw [Db,Da,List.getElem?_take_of_lt hj,List.getElem?_drop] at hp
         obtain ⟨v,hv1,hv2⟩:=g6 _ p hp
         refine ⟨v, ?_,hv2⟩
         simp only
         rw [← hv1,ho,hk',Nat.add_assoc]
      ·cases h
     ·cases h
    ·cases h
   ·cases h
  ·cases h
theorem Yt {t elem:TypeId} {x y:Operand} (hn:A4 r.need) (hr:Ready E n r.news.length) (hA:∃ N,∀ id,E.A id→id < N) (hL:∀ id,E.A id→Ac H id≠.dead→E.L id) (hH:∀ id,E.L id→Ac H id≠.dead→OkOb E id (Ac H id))
 (hWs:∀ q,r.st=some q→E.W q.1) (hx:RdA E (a.eval x) (e x)) (hy:RdA E (a.eval y) (e y)) (hu:P.underlying t=some (.slice elem)) (h:My P H elem (e x) (e y)=some r)
 (hK:∀ E' v,Ext E n r wn E'→A4 r.given→RdA E' v r.val→K (a.put dst v) E'.w):∃ v w',(Builtin.append_ #[t,t] ty #[a.eval x,a.eval y]).run P E.w=.ok v w'∧K (a.put dst v) w':=by
 unfold My at h
 split at h
 ·rename_i id k lo len t' ys hvx hcont
  rw [hvx] at hx
  have hsrc:=Hr hL hH hy hcont
  split at h
  ·rename_i u xs hob
   split at h
   ·rename_i hk
    simp only [Bool.and_eq_true] at hk
    obtain ⟨info,hi,hs⟩:=Bj hk.1 (Bc u)
    have hk2:=Nat.eq_of_beq_eq_true hk.2
    subst hk2
    split at h
    ·rename_i zs hz
     have h0:=(Option.some.inj h).symm
     have hsrc':=I5 hz hsrc
     have hroom:lo+len+zs.length≤xs.length:=by rw [h0] at hn;exact hn
     have hne:Ac H id≠.dead:=by rw [hob];simp
     have hl:=hL id hx.ownp_inv.1 hne
     have hok:RowsAt E u xs (E.ρ id):=by
      have:=hH id hl hne
      rw [hob] at this
      exact this
     have hown:=hx.ownp_inv.2.2 hl
     have hWi:E.W id:=hWs _ (by rw [h0])
     subst h0
     by_cases hm:zs=[]
     ·obtain ⟨ba',c',hvy⟩:=Na hsrc' hm
      obtain ⟨ba,c,hvv,hcc⟩ : ∃ ba c,a.eval x=.slice ba len c∧len≤c:=by
       cases hρ:E.ρ id with
       | none =>
        rw [hρ] at hown
        obtain ⟨h1,ba,h2⟩:=hown
        subst h1
        exact ⟨ba,0,h2,Nat.le_refl _⟩
       | some hd =>
        rw [hρ] at hown
        obtain ⟨h1,o,c,h2,h3,_⟩:=hown
        exact ⟨_,c,h2,h3⟩
      rw [hvv,hvy]
      refine ⟨_,_,C0 hu hi hcc _, ?_⟩
      subst hm
      have hstep:Step E n ⟨some (lo+len+([]:List u.den).length≤xs.length),none,.ownp id u.size lo (len+([]:List u.den).length),[],none,some (id,.rows u (xs.take (lo+len)++([]++xs.drop (lo+len+([]:List u.den).length)))),[]⟩ E.w (fun _=>none):=by
       refine ⟨Below.refl _ _,fun b hb _=>rfl, ?_, ?_,fun i hi=>(by cases hi),fun p hp=>(by cases hp;exact hWi)⟩
       ·intro j h hj;simp at hj
       ·intro j j' h h' hj;simp at hj
      have hxx:=hstep.ext (wn:=wn) hr hA (fun _ j ob hj=>by simp at hj) (fun hevo i ob hi=>by
       cases hi
       show RowsAt _ u _ _
       have hρ2:(E.ext n (List.length ([]:List Ob)) none [] wn E.w (fun _=>none)).ρ id=E.ρ id:=by
        simp only [Env.ext];rw [if_neg (by simp)]
       rw [hρ2]
       have e1:xs.take (lo+len)++([]++xs.drop (lo+len+([]:List u.den).length))=xs:=by simp
       rw [e1]
       exact (RowsAt.mono (o:=E.ρ id) (hevo 0).fz (fun _ _=>rfl) hok))
      refine hK (E.ext n (List.length ([]:List Ob)) none [] wn E.w (fun _=>none)) _ hxx trivial ?_
      obtain ⟨N,hN⟩:=hA
      have hx2:=hx.mono (hxx.evo N) hN
      rw [hvv] at hx2
      simpa using hx2
     ·obtain ⟨b,o2,c2,us,hvy,hul,hucell,hu1,hurd⟩:=Hg hsrc' hm
      have hzl:=List.length_pos_iff.2 hm
      cases hρ:E.ρ id with
      | none =>
       rw [hρ] at hok
       have:xs=[]:=hok
       subst this
       simp only [List.length_nil] at hroom
       omega
      | some hd =>
       rw [hρ] at hown hok
       obtain ⟨q1,o,c,hvv,q2,q3,q4⟩:=hown
       obtain ⟨g1,g2,g3,g3',arr,el,g4,g5,g6⟩:=hok
       have ho:o=hd.off+lo * u.size:=q4.resolve_right (fun hc=>by omega)
       subst ho
       rw [hvv,hvy]
       have hlen:hd.len=xs.length:=g1
       have hmul:(lo+len+zs.length) * u.size≤hd.cap * u.size:=Nat.mul_le_mul_right _ (by omega)
       rw [Nat.add_mul,Nat.add_mul] at hmul
       have hfit:hd.off+lo * u.size+len * info.size+us.length≤arr.size:=by rw [hs,hul];omega
       have hrun:=Gd (P:=P) E.w t ty elem info hu hi hd.blk (hd.off+lo * u.size) len c arr el g4 ⟨b,o2,none⟩ zs.length c2 us (by rw [hs];exact hul) (fun j u h=>by rw [B7];exact hucell j u h) hu1 (by omega) hfit
       obtain ⟨arr',harr,hasz,hget⟩ : ∃ arr':Array Value,(arr.toList.take (hd.off+lo * u.size+len * info.size)++us++arr.toList.drop (hd.off+lo * u.size+len * info.size+us.length)).toArray=arr'∧arr'.size=arr.size ∧
        ∀ j,arr'[j]?=if hd.off+lo * u.size+len * u.size≤j∧j < hd.off+lo * u.size+len * u.size+us.length then us[j - (hd.off+lo * u.size+len * u.size)]? else arr[j]?:=by
        refine ⟨_,rfl, ?_,fun j=>by rw [getElem?_spliced hfit,hs]⟩
        simp only [List.size_toArray,List.length_append,List.length_take,List.length_drop,Array.length_toList]
        omega
       rw [harr] at hrun
       refine ⟨_,_,hrun, ?_⟩
       let r0:Res:=⟨some (lo+len+zs.length≤xs.length),none,.ownp id u.size lo (len+zs.length),[],none,some (id,.rows u (xs.take (lo+len)++(zs++xs.drop (lo+len+zs.length)))),[]⟩
       have hstep:Step E n r0 (E.w.setRow hd.blk arr') (fun _=>none):=I3 (by simpa using hr) rfl rfl rfl hWi hρ _
       have hρ2:(E.ext n r0.news.length r0.kill r0.frz wn (E.w.setRow hd.blk arr') (fun _=>none)).ρ id=some hd:=by
        simp only [Env.ext];rw [if_neg (by simp [r0])];exact hρ
       have hxx:=hstep.ext (wn:=wn) hr hA (fun _ j ob hj=>by simp [r0] at hj) (fun hevo i ob hi=>by
        cases hi
        show RowsAt _ u _ _
        rw [hρ2]
        have hln:(xs.take (lo+len)++(zs++xs.drop (lo+len+zs.length))).length=xs.length:=by
         simp only [List.length_append,List.length_take,List.length_drop];omega
        refine ⟨by rw [hln];exact g1,g2,g3,g3',arr',el,setRow_heap _ _ arr _ el _ g4,by rw [hasz];exact g5,fun j p hp=>?_⟩
        rw [hget]
        have f1:(flat u (xs.take (lo+len))).length=lo * u.size+len * u.size:=by
         rw [As,List.length_take,Nat.min_eq_left (by omega),Nat.add_mul]
        have f2:(flat u zs).length=us.length:=by rw [As,hul]
        rw [Cc,Cc] at hp
        by_cases hj:j < lo * u.size+len * u.size
        ·rw [List.getElem?_append_left (by omega)] at hp
         rw [if_neg (by omega)]
         rw [Db] at hp
         have hjj:j < (lo+len) * u.size:=by rw [Nat.add_mul];exact hj
         rw [List.getElem?_take_of_lt hjj] at hp
         obtain ⟨v,k1,k2⟩:=g6 j p hp
         exact ⟨v,k1,k2.mono (hevo 0).fz⟩
        ·rw [List.getElem?_append_right (by omega),f1] at hp
         by_cases hj2:j - (lo * u.size+len * u.size) < us.length
         ·rw [List.getElem?_append_left (by omega)] at hp
          obtain ⟨v,k1,k2⟩:=hurd _ p hp
          rw [if_pos (by omega)]
          exact ⟨v,by rw [← k1];congr 1;omega,k2.mono (hevo 0).fz⟩
         ·rw [List.getElem?_append_right (by omega),f2,Da,List.getElem?_drop] at hp
          rw [if_neg (by omega)]
          have hidx:(lo+len+zs.length) * u.size+(j - (lo * u.size+len * u.size) - us.length)=j:=by
           rw [Nat.add_mul,Nat.add_mul,← hul];omega
          rw [hidx] at hp
          obtain ⟨v,k1,k2⟩:=g6 j p hp
          exact ⟨v,k1,k2.mono (hevo 0).fz⟩)
       refine hK _ _ hxx trivial (.ownp _ id u.size lo (len+zs.length) ((hxx.A id).2 (.inl hx.ownp_inv.1)) rfl fun _=>?_)
       rw [hρ2]
       exact ⟨by omega,hd.off+lo * u.size,c,rfl,by omega,q3,.inl rfl⟩
    ·cases h
   ·cases h
  ·cases h
 ·cases h
theorem Acb {t elem:TypeId} {x y:Operand} (hn:A4 r.need) (hr:Ready E n r.news.length) (hA:∃ N,∀ id,E.A id→id < N) (hL:∀ id,E.A id→Ac H id≠.dead→E.L id) (hH:∀ id,E.L id→Ac H id≠.dead→OkOb E id (Ac H id))
 (hW:∀ id,r.kill=some id→E.W id) (hWs:∀ q,r.st=some q→E.W q.1) (hx:RdA E (a.eval x) (e x)) (hy:RdA E (a.eval y) (e y)) (hu:P.underlying t=some (.slice elem)) (h:Jk P H n elem (e x) (e y)=some r)
 (hK:∀ E' v,Ext E n r wn E'→A4 r.given→RdA E' v r.val→K (a.put dst v) E'.w):∃ v w',(Builtin.append_ #[t,t] ty #[a.eval x,a.eval y]).run P E.w=.ok v w'∧K (a.put dst v) w':=by
 unfold Jk at h
 split at h
 ·exact Yt hn hr hA hL hH hWs hx hy hu h hK
 split at h
 ·rename_i id k lo len hvx
  rw [hvx] at hx
  unfold P6 at h
  split at h
  ·cases h
  ·rename_i t' ys hcont
   have hsrc:=Hr hL hH hy hcont
   split at h
   ·rename_i u xs hob
    split at h
    ·rename_i hk
     simp only [Bool.and_eq_true] at hk
     obtain ⟨info,hi,hs⟩:=Bj hk.1 (Bc u)
     have hk2:=Nat.eq_of_beq_eq_true hk.2
     subst hk2
     split at h
     ·rename_i zs hz
      have h0:=(Option.some.inj h).symm
      have hsrc':=I5 hz hsrc
      have hroom:lo+len+zs.length≤xs.length:=by rw [h0] at hn;exact hn
      have hne:Ac H id≠.dead:=by rw [hob];simp
      have hl:=hL id hx.ownc_inv.1 hne
      have hok:=hH id hl hne
      rw [hob] at hok
      obtain ⟨hd,hρ,h1,hvv⟩:=hx.ownc_inv.2.2 hl
      have hrow:RowsAt E u xs (some hd):=by rw [← hρ];exact hok
      obtain ⟨g1,g2,g3,g3',arr,el,g4,g5,g6⟩:=hrow
      have hWi:E.W id:=hWs _ (by rw [h0])
      have hlt:=hr.lt id hd hl hρ
      rw [hvv]
      subst h0
      by_cases hm:zs=[]
      ·obtain ⟨ba',c,hvy⟩:=Na hsrc' hm
       rw [hvy]
       refine ⟨_,_,C0 hu hi (by omega) _, ?_⟩
       subst hm
       have hstep:Step E n ⟨some (lo+len+([]:List u.den).length≤xs.length),none,.ownc id u.size lo (len+([]:List u.den).length),[],none,some (id,.rows u (xs.take (lo+len)++([]++xs.drop (lo+len+([]:List u.den).length)))),[]⟩ E.w (fun _=>none):=by
        refine ⟨Below.refl _ _,fun b hb _=>rfl, ?_, ?_,fun i hi=>(by cases hi),fun p hp=>(by cases hp;exact hWi)⟩
        ·intro j h hj;simp at hj
        ·intro j j' h h' hj;simp at hj
       have hxx:=hstep.ext (wn:=wn) hr hA (fun _ j ob hj=>by simp at hj) (fun hevo i ob hi=>by
        cases hi
        show RowsAt _ u _ _
        have hρ2:(E.ext n (List.length ([]:List Ob)) none [] wn E.w (fun _=>none)).ρ id=some hd:=by
         simp only [Env.ext];rw [if_neg (by simp)];exact hρ
        rw [hρ2]
        have e1:xs.take (lo+len)++([]++xs.drop (lo+len+([]:List u.den).length))=xs:=by simp
        rw [e1]
        exact (RowsAt.mono (o:=some hd) (hevo 0).fz (fun _ _=>rfl) ⟨g1,g2,g3,g3',arr,el,g4,g5,g6⟩))
       refine hK (E.ext n (List.length ([]:List Ob)) none [] wn E.w (fun _=>none)) _ hxx trivial ?_
       obtain ⟨N,hN⟩:=hA
       have hx2:=hx.mono (hxx.evo N) hN
       rw [hvv] at hx2
       simpa using hx2
      ·obtain ⟨b,o,c,us,hvy,hul,hucell,hu1,hurd⟩:=Hg hsrc' hm
       rw [hvy]
       have hlen:hd.len=xs.length:=g1
       have hmul:(lo+len+zs.length) * u.size≤hd.cap * u.size:=Nat.mul_le_mul_right _ (by omega)
       rw [Nat.add_mul,Nat.add_mul] at hmul
       have hfit:hd.off+lo * u.size+len * info.size+us.length≤arr.size:=by rw [hs,hul];omega
       have hrun:=Gd (P:=P) E.w t ty elem info hu hi hd.blk (hd.off+lo * u.size) len (hd.len - lo) arr el g4 ⟨b,o,none⟩ zs.length c us (by rw [hs];exact hul) (fun j u h=>by rw [B7];exact hucell j u h) hu1 (by omega) hfit
       obtain ⟨arr',harr,hasz,hget⟩ : ∃ arr':Array Value,(arr.toList.take (hd.off+lo * u.size+len * info.size)++us++arr.toList.drop (hd.off+lo * u.size+len * info.size+us.length)).toArray=arr'∧arr'.size=arr.size ∧
        ∀ j,arr'[j]?=if hd.off+lo * u.size+len * u.size≤j∧j < hd.off+lo * u.size+len * u.size+us.length then us[j - (hd.off+lo * u.size+len * u.size)]? else arr[j]?:=by
        refine ⟨_,rfl, ?_,fun j=>by rw [getElem?_spliced hfit,hs]⟩
        simp only [List.size_toArray,List.length_append,List.length_take,List.length_drop,Array.length_toList]
        omega
       rw [harr] at hrun
       refine ⟨_,_,hrun, ?_⟩
       let r0:Res:=⟨some (lo+len+zs.length≤xs.length),none,.ownc id u.size lo (len+zs.length),[],none,some (id,.rows u (xs.take (lo+len)++(zs++xs.drop (lo+len+zs.length)))),[]⟩
       have hstep:Step E n r0 (E.w.setRow hd.blk arr') (fun _=>none):=I3 (by simpa using hr) rfl rfl rfl hWi hρ _
       have hρ2:(E.ext n r0.news.length r0.kill r0.frz wn (E.w.setRow hd.blk arr') (fun _=>none)).ρ id=some hd:=by
        simp only [Env.ext];rw [if_neg (by simp [r0])];exact hρ
       have hxx:=hstep.ext (wn:=wn) hr hA (fun _ j ob hj=>by simp [r0] at hj) (fun hevo i ob hi=>by
        cases hi
        show RowsAt _ u _ _
        rw [hρ2]
        have hln:(xs.take (lo+len)++(zs++xs.drop (lo+len+zs.length))).length=xs.length:=by
         simp only [List.length_append,List.length_take,List.length_drop];omega
        refine ⟨by rw [hln];exact g1,g2,g3,g3',arr',el,setRow_heap _ _ arr _ el _ g4,by rw [hasz];exact g5,fun j p hp=>?_⟩
        rw [hget]
        have f1:(flat u (xs.take (lo+len))).length=lo * u.size+len * u.size:=by
         rw [As,List.length_take,Nat.min_eq_left (by omega),Nat.add_mul]
        have f2:(flat u zs).length=us.length:=by rw [As,hul]
        rw [Cc,Cc] at hp
        by_cases hj:j < lo * u.size+len * u.size
        ·rw [List.getElem?_append_left (by omega)] at hp
         rw [if_neg (by omega)]
         rw [Db] at hp
         have hjj:j < (lo+len) * u.size:=by rw [Nat.add_mul];exact hj
         rw [List.getElem?_take_of_lt hjj] at hp
         obtain ⟨v,k1,k2⟩:=g6 j p hp
         exact ⟨v,k1,k2.mono (hevo 0).fz⟩
        ·rw [List.getElem?_append_right (by omega),f1] at hp
         by_cases hj2:j - (lo * u.size+len * u.size) < us.length
         ·rw [List.getElem?_append_left (by omega)] at hp
          obtain ⟨v,k1,k2⟩:=hurd _ p hp
          rw [if_pos (by omega)]
          exact ⟨v,by rw [← k1];congr 1;omega,k2.mono (hevo 0).fz⟩
         ·rw [List.getElem?_append_right (by omega),f2,Da,List.getElem?_drop] at hp
          rw [if_neg (by omega)]
          have hidx:(lo+len+zs.length) * u.size+(j - (lo * u.size+len * u.size) - us.length)=j:=by
           rw [Nat.add_mul,Nat.add_mul,← hul];omega
          rw [hidx] at hp
          obtain ⟨v,k1,k2⟩:=g6 j p hp
          exact ⟨v,k1,k2.mono (hevo 0).fz⟩)
       refine hK _ _ hxx trivial (.ownc _ id u.size lo (len+zs.length) ((hxx.A id).2 (.inl hx.ownc_inv.1)) rfl fun _=>⟨hd,hρ2,by omega,rfl⟩)
     ·cases h
    ·cases h
   ·cases h
 ·rename_i u xs hvx
  rw [hvx] at hx
  unfold P7 at h
  split at h
  ·cases h
  ·rename_i t' ys hcont
   have hsrc:=Hr hL hH hy hcont
   split at h
   ·rename_i hk
    simp only [Bool.and_eq_true] at hk
    obtain ⟨⟨hk1,hzf⟩,hby⟩:=hk
    obtain ⟨info,hi,hs⟩:=Bj hk1 (Bc u)
    split at h
    ·rename_i bs zs hbs hz
     have hbs':=H9 hbs
     subst hbs'
     have h0:=(Option.some.inj h).symm
     have hsrc':=I5 hz hsrc
     have hn':zs≠[]∧(xs.length+zs.length) * Cj P elem≤lim:=by rw [h0] at hn;exact hn
     obtain ⟨hm,hlim⟩:=hn'
     obtain ⟨z,hzt,hzs⟩ : ∃ z,Dq P elem=some z∧z.cells.size=u.size:=by
      unfold Mx at hzf
      split at hzf
      ·rename_i z hz;exact ⟨z,hz,Nat.eq_of_beq_eq_true hzf⟩
      ·cases hzf
     have hb:Cj P elem=info.bytes:=by simp [Cj,hi]
     have hiz:info.zero=some z:=by simpa [Dq,hi] using hzt
     obtain ⟨⟨ba,hvv⟩,hp⟩:=hx.slf_inv
     rw [hvv] at hp
     rw [hvv]
     have hr':Ready E n 1:=by rw [h0] at hr;exact hr
     rcases hp.sl_inv with ⟨hnil,ba',c',hv'⟩ | ⟨b,o,c,g,hv',hc,hl,hcell,hrd⟩
     ·subst hnil
      exact Lg (xs:=[]) (olds:=[]) (kill:=none) hr' hA (fun _ h=>by cases h) hu hi hs hiz hzs (by rw [← hb];exact Nat.le_of_ble_eq_true hby) (by simp) (fun j p hp=>by simp [flat] at hp)
       (by cases ba with
         | none=>exact .inl ⟨rfl,rfl,rfl⟩
         | some b=>exact .inr ⟨b,rfl,fun j u hu=>by simp at hu⟩) hsrc' hm (by have:=List.length_pos_iff.2 hm;simpa using this) (by rw [← hb];exact hlim) h0 hK
     ·simp only [Value.slice.injEq] at hv'
      obtain ⟨hba,_,_⟩:=hv'
      subst hba
      refine Lg (xs:=xs) (olds:=(List.range (flat u xs).length).map g) (kill:=none) hr' hA (fun _ h=>by cases h) hu hi hs hiz hzs (by rw [← hb];exact Nat.le_of_ble_eq_true hby) (by simp [As]) (fun j p hp=>?_)
       (.inr ⟨_,rfl,fun j w hw=>?_⟩) hsrc' hm (by have:=List.length_pos_iff.2 hm;omega) (by rw [← hb];exact hlim) h0 hK
      ·have hj:=(List.getElem?_eq_some_iff.1 hp).1
       exact ⟨g j,by simp [hj],hrd j p hp⟩
      ·have hj:j < (flat u xs).length:=by
        have:=(List.getElem?_eq_some_iff.1 hw).1
        simpa using this
       have:w=g j:=by simp [hj] at hw;exact hw.symm
       rw [this,B7]
       exact (hcell j hj).2
    ·cases h
   ·cases h
 ·exact Ys hn hr hA hL hH hW hx hy hu h hK
end
end Go.Sx
namespace Go.Sx
open Go.RowKit
section
variable {P:Program} {cx:Ctx} {E:Env} {a:Act} {e:Operand→AV} {H:List Ob} {n:Nat} {r:Res}
 {dst:Option Tmp} {ty:TypeId} {pos:String} {after:Array Go.Edge} {guard:Option (Nat × Bool)} {wn:Nat→Prop} {K:Act→World→Prop} {Q:Exit→Act→World→Prop} {ro:Option Nat}
theorem Aih {t elem:TypeId} {x y:Operand} {id:Nat} {u t':Ty} {xs zs:List u.den} {ys:List t'.den} (hr:Ready E n r.news.length) (hA:∃ N,∀ id,E.A id→id < N) (hL:∀ id,E.A id→Ac H id≠.dead→E.L id) (hH:∀ id,E.L id→Ac H id≠.dead→OkOb E id (Ac H id))
 (hW:∀ q,r.st=some q→E.W q.1) (hx:RdA E (a.eval x) (.own id)) (hy:RdA E (a.eval y) (e y)) (hu:P.underlying t=some (.slice elem)) (hk:Nat.beq (Be P elem) u.size=true) (hob:Ac H id=.rows u xs) (hcon:D8 H (e y)=some ⟨t',ys⟩) (hcast:J5 t' u ys=some zs)
 (h0:r=⟨none,none,.int .i64 ((Nat.min zs.length xs.length:Nat):Int),[],none,some (id,.rows u (zs.take xs.length++xs.drop zs.length)),[]⟩)
 (hK:∀ E' v,Ext E n r wn E'→A4 r.given→RdA E' v r.val→K (a.put dst v) E'.w):∃ v w',(Builtin.copy_ #[t,t] ty #[a.eval x,a.eval y]).run P E.w=.ok v w'∧K (a.put dst v) w':=by
 obtain ⟨info,hi,hs⟩:=Bj hk (Bc u)
 have hsrc:=I5 hcast (Hr hL hH hy hcon)
 have hne:Ac H id≠.dead:=by rw [hob];simp
 have hl:=hL id hx.own_inv.1 hne
 have hok:RowsAt E u xs (E.ρ id):=by
  have:=hH id hl hne
  rw [hob] at this
  exact this
 have hWid:E.W id:=by rw [h0] at hW;exact hW _ rfl
 have hown:=hx.own_inv.2.2 hl
 have hsr:(sizeOf elem).run P E.w=.ok u.size E.w:=by simp [sizeOf,typeInfo,hi,hs]
 have idle:Nat.min zs.length xs.length=0→(∃ ba len c,a.eval x=.slice ba len c∧len=xs.length)→(∃ ba len c,a.eval y=.slice ba len c∧len=zs.length)→∃ v w',(Builtin.copy_ #[t,t] ty #[a.eval x,a.eval y]).run P E.w=.ok v w'∧K (a.put dst v) w':=by
  rintro hmin ⟨ba,len,c,hvx,hlx⟩ ⟨ba',len',c',hvy,hly⟩
  subst hlx;subst hly
  refine ⟨.int .i64 0,E.w, ?_, ?_⟩
  ·rw [hvx,hvy]
   cases ba <;> cases ba' <;> simp [Builtin.copy_,run_underlying hu,Builtin.lenOf,Builtin.firstCells,hsr,hmin,loadCells,loadCellsFrom,storeCells,goInt]
  ·have hnew:zs.take xs.length++xs.drop zs.length=xs:=by
    have h1:zs.length=0∨xs.length=0:=by
     rcases Nat.le_total zs.length xs.length with h | h
     ·left;rw [← hmin];exact (Nat.min_eq_left h).symm
     ·right;rw [← hmin];exact (Nat.min_eq_right h).symm
    rcases h1 with h1 | h1
    ·have:=List.eq_nil_of_length_eq_zero h1;subst this;simp
    ·have:=List.eq_nil_of_length_eq_zero h1;subst this;simp
   subst h0
   have hstep:Step E n ⟨none,none,.int .i64 ((Nat.min zs.length xs.length:Nat):Int),[],none,some (id,.rows u (zs.take xs.length++xs.drop zs.length)),[]⟩ E.w (fun _=>none):=by
    refine ⟨Below.refl _ _,fun b hb _=>rfl, ?_, ?_, ?_, ?_⟩
    ·intro j h hj;simp at hj
    ·intro j j' h h' hj;simp at hj
    ·intro id hid;cases hid
    ·intro p hp;cases hp;exact hWid
   have hx:=hstep.ext (wn:=wn) hr hA (fun _ j ob hj=>by simp at hj) (fun hevo i ob hi=>by
    cases hi
    show RowsAt _ u _ _
    rw [hnew]
    have hρ2:(E.ext n 0 none [] wn E.w (fun _=>none)).ρ id=E.ρ id:=by simp only [Env.ext];rw [if_neg (by omega)]
    rw [show (E.ext n (List.length ([]:List Ob)) none [] wn E.w (fun _=>none)).ρ id=E.ρ id from hρ2]
    exact hok.mono (hevo 0).fz (fun _ _=>rfl))
   have:=hK _ (.int .i64 0) hx trivial (by rw [hmin];exact .int _ _)
   exact this
 cases hρ:E.ρ id with
 | none =>
  rw [hρ] at hok hown
  obtain ⟨ba,hvx⟩:=hown
  have hxs:xs=[]:=hok
  subst hxs
  refine idle (Nat.min_eq_right (Nat.zero_le _)) ⟨_,_,_,hvx,rfl⟩ ?_
  cases hsrc with
  | none ba' c h hv=>subst h;exact ⟨_,_,_,hv,rfl⟩
  | some b o c us hv _ _ _ _ _=>exact ⟨_,_,_,hv,rfl⟩
 | some hd =>
  rw [hρ] at hok hown
  have hvx:a.eval x=.slice (some ⟨hd.blk,hd.off,none⟩) hd.len hd.cap:=hown
  obtain ⟨g1,g2,g3,g3',arr,el,g4,g5,g6⟩:=hok
  by_cases hmin:Nat.min zs.length xs.length=0
  ·refine idle hmin ⟨_,_,_,hvx,g1⟩ ?_
   cases hsrc with
   | none ba' c h hv=>subst h;exact ⟨_,_,_,hv,rfl⟩
   | some b o c us hv _ _ _ _ _=>exact ⟨_,_,_,hv,rfl⟩
  ·have hzs:zs≠[]:=by rintro rfl;exact hmin (Nat.min_eq_left (Nat.zero_le _))
   obtain ⟨b,o,c,us,hvy,hul,hucell,hu1,hurd⟩:=Hg hsrc hzs
   rw [hvx,hvy]
   have hmle:Nat.min zs.length xs.length≤zs.length:=Nat.min_le_left _ _
   have hmle':Nat.min zs.length xs.length≤xs.length:=Nat.min_le_right _ _
   generalize hmm:Nat.min zs.length xs.length=m at *
   have hmz:m * u.size≤zs.length * u.size:=Nat.mul_le_mul_right _ hmle
   have hmx:m * u.size≤hd.cap * u.size:=Nat.mul_le_mul_right _ (by omega)
   have hcl:(us.take (m * u.size)).length=m * u.size:=by rw [List.length_take,hul];omega
   have hf:=run_firstCells_some (P:=P) E.w u.size m ⟨b,o,none⟩ zs.length c (us.take (m * u.size)) hcl (fun j v hv=>by
    rw [B7]
    have hj:j < m * u.size:=by have:=(List.getElem?_eq_some_iff.1 hv).1;omega
    rw [List.getElem?_take_of_lt hj] at hv
    exact hucell j v hv)
   have hfit:hd.off+(us.take (m * u.size)).length≤arr.size:=by rw [hcl];omega
   have hst:=run_storeCells_at P hd.blk hd.off el (us.take (m * u.size)) 0 arr E.w g4 (by simpa using hfit) (fun v hv=>hu1 v (List.mem_of_mem_take hv))
   simp only [Nat.add_zero] at hst
   obtain ⟨arr',harr,hasz,hget⟩ : ∃ arr':Array Value,(arr.toList.take hd.off++us.take (m * u.size)++arr.toList.drop (hd.off+(us.take (m * u.size)).length)).toArray=arr'∧arr'.size=arr.size ∧
    ∀ j,arr'[j]?=if hd.off≤j∧j < hd.off+m * u.size then us[j - hd.off]? else arr[j]?:=by
    refine ⟨_,rfl, ?_,fun j=>?_⟩
    ·simp only [List.size_toArray,List.length_append,List.length_drop,Array.length_toList]
     rw [hcl] at hfit ⊢
     simp only [List.length_take,Array.length_toList]
     omega
    ·rw [getElem?_spliced hfit,hcl]
     split
     ·rw [List.getElem?_take_of_lt (by omega)]
     ·rfl
   rw [harr] at hst
   refine ⟨.int .i64 (m:Int),E.w.setRow hd.blk arr', ?_, ?_⟩
   ·simp [Builtin.copy_,run_underlying hu,Builtin.lenOf,hsr,g1,hmm,hf,hst,goInt]
   ·subst h0
    have hs:Step E n ⟨none,none,.int .i64 (m:Int),[],none,some (id,.rows u (zs.take xs.length++xs.drop zs.length)),[]⟩ (E.w.setRow hd.blk arr') (fun _=>none):=I3 hr rfl rfl rfl hWid hρ _
    have hx:=hs.ext (wn:=wn) hr hA (fun _ j ob hj=>by simp at hj) (fun hevo i ob hi=>by
     cases hi
     show RowsAt _ u _ _
     have hρ2:(E.ext n 0 none [] wn (E.w.setRow hd.blk arr') (fun _=>none)).ρ id=some hd:=by simp only [Env.ext];rw [if_neg (by omega)];exact hρ
     rw [show (E.ext n (List.length ([]:List Ob)) none [] wn (E.w.setRow hd.blk arr') (fun _=>none)).ρ id=some hd from hρ2]
     have hevo0:=(hevo 0).fz
     have hnl:(zs.take xs.length++xs.drop zs.length).length=xs.length:=by
      rw [List.length_append,List.length_take,List.length_drop];omega
     refine ⟨by rw [hnl];exact g1,g2,g3,g3',arr',el,setRow_heap _ _ arr _ el _ g4,by rw [hasz];exact g5,fun j p hp=>?_⟩
     rw [hget]
     have htl:(zs.take xs.length).length=m:=by rw [List.length_take,Nat.min_comm];exact hmm
     rw [Cc] at hp
     by_cases hj:j < m * u.size
     ·rw [List.getElem?_append_left (by rw [As,htl];exact hj)] at hp
      rw [if_pos (by omega),Nat.add_sub_cancel_left]
      rw [Db] at hp
      have:j < xs.length * u.size:=Nat.lt_of_lt_of_le hj (Nat.mul_le_mul_right _ hmle')
      rw [List.getElem?_take_of_lt this] at hp
      obtain ⟨v,h1,h2⟩:=hurd j p hp
      exact ⟨v,h1,h2.mono hevo0⟩
     ·rw [List.getElem?_append_right (by rw [As,htl];omega),As,htl,Da,List.getElem?_drop] at hp
      rw [if_neg (by omega)]
      have hlt:=(List.getElem?_eq_some_iff.1 hp).1
      rw [As] at hlt
      have hzm:zs.length=m:=by
       rcases Nat.le_total zs.length xs.length with h | h
       ·rw [← hmm];exact (Nat.min_eq_left h).symm
       ·exfalso
        have:=Nat.mul_le_mul_right u.size h
        omega
      rw [hzm,show m * u.size+(j - m * u.size)=j by omega] at hp
      obtain ⟨v,h1,h2⟩:=g6 j p hp
      exact ⟨v,h1,h2.mono hevo0⟩)
    have:=hK _ (.int .i64 (m:Int)) hx trivial (.int _ _)
    exact this
theorem Acc:∀ (l:List AV) ps ids,C1 [] l=some (ps,ids)→ids=[]:=by
 intro l
 induction l with
 | nil=>intro ps ids h;simp [C1] at h;exact h.2
 | cons x l ih =>
  intro ps ids h
  simp only [C1] at h
  split at h
  ·rename_i p ia qs ib h1 h2
   simp only [Option.some.injEq,Prod.mk.injEq] at h
   obtain ⟨_,rfl⟩:=h
   have hib:=ih _ _ h2
   subst hib
   rw [Oh h1];rfl
  ·cases h
theorem Aey {t elem:TypeId} {x:Operand} {id lo len:Nat} {u:Ty} {xs:List u.den} {z:Value} {ps:List PV} {ids:List Nat} {y:u.den} (hr:Ready E n r.news.length) (hA:∃ N,∀ id,E.A id→id < N) (hL:∀ id,E.A id→Ac H id≠.dead→E.L id) (hH:∀ id,E.L id→Ac H id≠.dead→OkOb E id (Ac H id))
 (hW:∀ q,r.st=some q→E.W q.1) (hx:RdA E (a.eval x) (.ownp id u.size lo len)) (hu:P.underlying t=some (.slice elem)) (hk:Nat.beq (Be P elem) u.size=true) (hob:Ac H id=.rows u xs)
 (hz:Dq P elem=some z) (hall:z.cells.toList.all Dp=true) (hd:C1 [] (z.cells.toList.map Dx)=some (ps,ids)) (hy:dec u ps=some y)
 (h0:r=⟨none,none,.any,[],none,some (id,.rows u (xs.take lo++(List.replicate len y++xs.drop (lo+len)))),[]⟩)
 (hK:∀ E' v,Ext E n r wn E'→A4 r.given→RdA E' v r.val→K (a.put dst v) E'.w):∃ v w',(Builtin.clear_ #[t] ty #[a.eval x]).run P E.w=.ok v w'∧K (a.put dst v) w':=by
 obtain ⟨info,hi,hs⟩:=Bj hk (Bc u)
 have hne:Ac H id≠.dead:=by rw [hob];simp
 have hl:=hL id hx.ownp_inv.1 hne
 have hok:RowsAt E u xs (E.ρ id):=by
  have:=hH id hl hne
  rw [hob] at this
  exact this
 have hWid:E.W id:=by rw [h0] at hW;exact hW _ rfl
 have hown:=hx.ownp_inv.2.2 hl
 have hzc:=Hp (E:=E) hall
 obtain ⟨g1,g2⟩:=Ft (ids':=[]) (H:=[]) (E:=E) (fun id _ hne=>absurd rfl hne) (fun id _ hne=>absurd rfl hne) hzc hd (fun id hid=>by
  rw [Acc _ _ _ hd] at hid
  exact hid)
 have hle:=Hl u ps y hy
 have hz':z.cells.size=u.size:=by
  have h1:=hle.get.1
  rw [Aq] at h1
  simp at g1
  omega
 have idle:len=0→(∃ ba c,a.eval x=.slice ba 0 c)→∃ v w',(Builtin.clear_ #[t] ty #[a.eval x]).run P E.w=.ok v w'∧K (a.put dst v) w':=by
  rintro rfl ⟨ba,c,hvx⟩
  refine ⟨.tuple #[],E.w, ?_, ?_⟩
  ·rw [hvx]
   cases ba <;> simp [Builtin.clear_,run_underlying hu]
  ·have hnew:xs.take lo++(List.replicate 0 y++xs.drop (lo+0))=xs:=by simp
   rw [hnew] at h0
   subst h0
   have hstep:Step E n ⟨none,none,.any,[],none,some (id,.rows u xs),[]⟩ E.w (fun _=>none):=by
    refine ⟨Below.refl _ _,fun b hb _=>rfl, ?_, ?_, ?_, ?_⟩
    ·intro j h hj;simp at hj
    ·intro j j' h h' hj;simp at hj
    ·intro id hid;cases hid
    ·intro p hp;cases hp;exact hWid
   have hx:=hstep.ext (wn:=wn) hr hA (fun _ j ob hj=>by simp at hj) (fun hevo i ob hi=>by
    cases hi
    show RowsAt _ u _ _
    have hρ2:(E.ext n 0 none [] wn E.w (fun _=>none)).ρ id=E.ρ id:=by simp only [Env.ext];rw [if_neg (by omega)]
    rw [show (E.ext n (List.length ([]:List Ob)) none [] wn E.w (fun _=>none)).ρ id=E.ρ id from hρ2]
    exact hok.mono (hevo 0).fz (fun _ _=>rfl))
   have:=hK _ (.tuple #[]) hx trivial (.any _)
   exact this
 cases hρ:E.ρ id with
 | none =>
  rw [hρ] at hown
  obtain ⟨h1,ba,hvx⟩:=hown
  exact idle h1 ⟨_,_,hvx⟩
 | some hd =>
  rw [hρ] at hok hown
  obtain ⟨hlo,o,c,hvx,hlc,hcc,hoo⟩:=hown
  obtain ⟨k1,k2,k3,k3',arr,el,k4,k5,k6⟩:=hok
  by_cases hlen:len=0
  ·rw [hlen] at hvx
   exact idle hlen ⟨_,_,hvx⟩
  ·have ho:o=hd.off+lo * u.size:=by
    rcases hoo with h | ⟨h,_⟩
    ·exact h
    ·omega
   subst ho
   rw [hvx]
   have hcl:(Builtin.zeroCells z.cells len).toList.length=len * u.size:=by simp [Builtin.zeroCells,hz']
   have hget0:∀ j,j < len * u.size→(Builtin.zeroCells z.cells len).toList[j]?=some (z.cells[j % u.size]!):=by
    intro j hj
    simp only [Builtin.zeroCells,hz',Array.getElem?_toList,Array.getElem?_map,Array.getElem?_range,hj]
    simp
   have hzone:∀ v∈(Builtin.zeroCells z.cells len).toList,v.oneCell'=true:=by
    intro v hv
    obtain ⟨j,hj⟩:=List.mem_iff_getElem?.1 hv
    have hjl:j < len * u.size:=by rw [← hcl];exact (List.getElem?_eq_some_iff.1 hj).1
    rw [hget0 j hjl] at hj
    cases hj
    have hmod:j % u.size < z.cells.size:=by rw [hz'];exact Nat.mod_lt _ (Bc u)
    rw [getElem!_pos z.cells _ hmod]
    exact List.all_eq_true.1 hall _ (by simp)
   have hroom:(lo+len) * u.size≤hd.cap * u.size:=Nat.mul_le_mul_right _ (by omega)
   rw [Nat.add_mul] at hroom
   have hfit:hd.off+lo * u.size+(Builtin.zeroCells z.cells len).toList.length≤arr.size:=by rw [hcl];omega
   have hst:=run_storeCells_at P hd.blk (hd.off+lo * u.size) el (Builtin.zeroCells z.cells len).toList 0 arr E.w k4 (by simpa using hfit) hzone
   simp only [Nat.add_zero] at hst
   obtain ⟨arr',harr,hasz,hget⟩ : ∃ arr':Array Value,(arr.toList.take (hd.off+lo * u.size)++(Builtin.zeroCells z.cells len).toList++arr.toList.drop (hd.off+lo * u.size+(Builtin.zeroCells z.cells len).toList.length)).toArray=arr'∧arr'.size=arr.size ∧
    ∀ j,arr'[j]?=if hd.off+lo * u.size≤j∧j < hd.off+lo * u.size+len * u.size then (Builtin.zeroCells z.cells len).toList[j - (hd.off+lo * u.size)]? else arr[j]?:=by
    refine ⟨_,rfl, ?_,fun j=>?_⟩
    ·rw [hcl] at hfit
     simp only [List.size_toArray,List.length_append,List.length_drop,List.length_take,hcl]
     simp only [Array.length_toList]
     omega
    ·rw [getElem?_spliced hfit,hcl]
   rw [harr] at hst
   refine ⟨.tuple #[],E.w.setRow hd.blk arr', ?_, ?_⟩
   ·cases hlen2:len with
    | zero=>exact absurd hlen2 hlen
    | succ m =>
     rw [hlen2] at hst
     simp [Builtin.clear_,run_underlying hu,I2 hz,hst]
   ·subst h0
    have hs:Step E n ⟨none,none,.any,[],none,some (id,.rows u (xs.take lo++(List.replicate len y++xs.drop (lo+len)))),[]⟩ (E.w.setRow hd.blk arr') (fun _=>none):=I3 hr rfl rfl rfl hWid hρ _
    refine hK _ (.tuple #[]) (hs.ext (wn:=wn) hr hA (fun _ j ob hj=>by simp at hj) (fun hevo i ob hi=>?_)) trivial (.any _)
    cases hi
    show RowsAt _ u _ _
    have hρ2:(E.ext n 0 none [] wn (E.w.setRow hd.blk arr') (fun _=>none)).ρ id=some hd:=by simp only [Env.ext];rw [if_neg (by omega)];exact hρ
    rw [show (E.ext n (List.length ([]:List Ob)) none [] wn (E.w.setRow hd.blk arr') (fun _=>none)).ρ id=some hd from hρ2]
    have hevo0:=(hevo 0).fz
    have hnl:(xs.take lo++(List.replicate len y++xs.drop (lo+len))).length=xs.length:=by
     simp only [List.length_append,List.length_take,List.length_drop,List.length_replicate]
     omega
    refine ⟨by rw [hnl];exact k1,k2,k3,k3',arr',el,setRow_heap _ _ arr _ el _ k4,by rw [hasz];exact k5,fun j p hp=>?_⟩
    rw [hget]
    have htl:(xs.take lo).length=lo:=by rw [List.length_take];omega
    rw [Cc] at hp
    by_cases hj:j < lo * u.size
    ·rw [List.getElem?_append_left (by rw [As,htl];exact hj),Db,List.getElem?_take_of_lt hj] at hp
     rw [if_neg (by omega)]
     obtain ⟨v,h1,h2⟩:=k6 j p hp
     exact ⟨v,h1,h2.mono hevo0⟩
    ·rw [List.getElem?_append_right (by rw [As,htl];omega),As,htl,Cc] at hp
     by_cases hj2:j - lo * u.size < len * u.size
     ·rw [List.getElem?_append_left (by rw [As,List.length_replicate];exact hj2)] at hp
      rw [if_pos (by omega),show hd.off+j - (hd.off+lo * u.size)=j - lo * u.size by omega,hget0 _ hj2]
      have hp':=Fu u y _ _ p hp
      have hmod:(j - lo * u.size) % u.size < z.cells.size:=by rw [hz'];exact Nat.mod_lt _ (Bc u)
      refine ⟨_,rfl, ?_⟩
      rw [getElem!_pos z.cells _ hmod]
      have hzl:z.cells.toList[(j - lo * u.size) % u.size]?=some (z.cells[(j - lo * u.size) % u.size]'hmod):=by simp
      have hpl:ps[(j - lo * u.size) % u.size]?=some (ps[(j - lo * u.size) % u.size]'(by rw [← g1];simpa using hmod)):=List.getElem?_eq_getElem _
      have:=(g2 _ _ _ hzl hpl).2.le (hle.get.2 _ _ _ hpl hp')
      exact (this.monoF (fun b o hb=>by
       rcases hb with hb | ⟨i,hi,_⟩
       ·exact hb
       ·cases hi)).mono hevo0
     ·rw [List.getElem?_append_right (by rw [As,List.length_replicate];omega),As,List.length_replicate,Da,List.getElem?_drop] at hp
      rw [if_neg (by omega)]
      rw [Nat.add_mul,show lo * u.size+len * u.size+(j - lo * u.size - len * u.size)=j by omega] at hp
      obtain ⟨v,h1,h2⟩:=k6 j p hp
      exact ⟨v,h1,h2.mono hevo0⟩
end
end Go.Sx
namespace Go.Sx
open Go.RowKit
def Env.base (w:World) (F0:Nat→Nat→Prop):Env:=⟨w,w.heap.size,F0,fun _=>none,fun _=>False,fun _=>False,fun _=>False,fun _ _=>none,w.heap.size,fun _=>False⟩
def Env.aft (w w':World) (F0:Nat→Nat→Prop) (m:Nat) (hd:Nat→Option Hdr) (kd:Nat→Nat→Option (Option Hdr)):Env:=⟨w',w.heap.size,F0,hd,fun id=>id < m,fun id=>id < m,fun id=>id < m,kd,w.heap.size,fun _=>False⟩
def Wm (w:World) (F0:Nat→Nat→Prop) (r:CR) (e:Ending) (w':World):Prop :=
 A4 r.given∧∃ v hd kd,e=.returned v∧Below w.heap.size w w'∧RdA (Env.aft w w' F0 r.news.length hd kd) v r.res ∧
  (∀ (j:Nat) ob,r.news[j]?=some ob→OkOb (Env.aft w w' F0 r.news.length hd kd) j ob) ∧
  (∀ j h,j < r.news.length→hd j=some h→w.heap.size≤h.blk∧h.blk < w'.heap.size) ∧
  (∀ j j' h h',j < r.news.length→j' < r.news.length→hd j=some h→hd j'=some h'→j≠j'→h.blk≠h'.blk)
structure GoodC (P:Program) (g:FuncId) (C:Ctr):Prop where
 fn:∃ fn,P.funcs[g]?=some fn∧fn.body.isSome=true∧(fn.name == "runtime.NumGoroutine")=false
 gen:∀ args r,C args=some r→∀ k,r.gen k→k r.cr.res
 calls:∀ args r gen,C args=some ⟨r,gen⟩→A4 r.need→∀ (w:World) (F0:Nat→Nat→Prop) (vs:Array Value),(∀ b o,F0 b o→b < w.heap.size)→vs.size=args.length →
  (∀ (i:Nat) v x,vs[i]?=some v→args[i]?=some x→RdA (Env.base w F0) v x)→Calls P g vs w (Wm w F0 r)
def Ah (P:Program) (cx:Ctx):Prop:=∀ g s C,Gp cx.tab g=some (s,C)→GoodC P g C
mutual
theorem Aez {E:Env}:∀ (s:Sh) (x:AV) {v:Value},RdA E v x→RdA E v (fit s x)
 | .any,x,v,h=>by unfold fit;exact h
 | .ints t,x,v,h=>by
  unfold fit
  split
  ·obtain ⟨_,rfl⟩:=h.cap0_inv;exact .sl _ _ _ (.sl0 _ _ _)
  ·obtain ⟨_,_,rfl⟩:=h.nils_inv;exact .sl _ _ _ (.sl0 _ _ _)
  ·rename_i he;cases he
  ·rename_i he;cases he
  ·exact h
 | .agg l,x,v,h=>by
  cases x with
  | agg cs =>
   obtain ⟨vs,rfl,h1,h2,h3⟩:=h.agg_inv
   obtain ⟨g1,g2⟩:=Qc (E:=E) l cs
   exact .agg vs _ (by rw [h1,g1]) h2 fun i u y hu hy=>g2 i u y (fun x hx=>h3 i u x hu hx) hy
  | tup cs =>
   have ⟨vs,hv,h1,h3⟩ : ∃ vs:Array Value,v=.tuple vs∧vs.size=cs.length∧∀ (i:Nat) u x,vs[i]?=some u→cs[i]?=some x→RdA E u x:=match h with | .tup vs _ h1 h2=>⟨vs,rfl,h1,h2⟩
   subst hv
   obtain ⟨g1,g2⟩:=Qc (E:=E) l cs
   exact .tup vs _ (by rw [h1,g1]) fun i u y hu hy=>g2 i u y (fun x hx=>h3 i u x hu hx) hy
  | _=>unfold fit;exact h
theorem Qc {E:Env}:∀ (ss:List Sh) (l:List AV),l.length=(Lz ss l).length∧∀ (i:Nat) (u:Value) (y:AV),(∀ x,l[i]?=some x→RdA E u x)→(Lz ss l)[i]?=some y→RdA E u y
 | [],l=>⟨by cases l <;> rfl,fun i u y h hy=>h y (by cases l <;> exact hy)⟩
 | s :: ss,[]=>⟨rfl,fun i u y h hy=>by simp [Lz] at hy⟩
 | s :: ss,x :: l=>by
  obtain ⟨g1,g2⟩:=Qc (E:=E) ss l
  refine ⟨by simp [Lz,← g1],fun i u y h hy=>?_⟩
  cases i with
  | zero =>
   simp only [Lz,List.getElem?_cons_zero,Option.some.injEq] at hy
   subst hy
   exact Aez s x (h x rfl)
  | succ i=>exact g2 i u y (fun x hx=>h x (by simpa using hx)) (by simpa [Lz] using hy)
end
section
variable {P:Program} {cx:Ctx} {E:Env} {a:Act} {e:Operand→AV} {H:List Ob} {n:Nat} {r:Res}
 {dst:Option Tmp} {ty:TypeId} {pos:String} {after:Array Go.Edge} {guard:Option (Nat × Bool)} {wn:Nat→Prop} {K:Act→World→Prop} {Q:Exit→Act→World→Prop} {ro:Option Nat}
theorem Uz {w:World} {F:Nat→Nat→Prop} {b o:Nat} (hb:b < w.heap.size) (h:F b o):(Env.base w F).Fz b o:=.inl ⟨hb,h⟩
theorem Qd {p:PV} {E':Env} {v:Value} (h:RdP E'.w E'.Fz v p):RdA E' v (up p):=.up h
theorem Q5 {w:World} {F:Nat→Nat→Prop} {t:Ty}:∀ {ps:List PV} {xss:List (List t.den)},L6 t ps=some xss→ps.length=xss.length ∧
 ∀ (i:Nat) p xs v,ps[i]?=some p→xss[i]?=some xs→RdP w F v p→RdP w F v (.sl t xs)
 | [],xss,h=>by
  cases h
  exact ⟨rfl,fun i p xs v hp=>by simp at hp⟩
 | .nils :: l,xss,h=>by
  simp only [L6,Option.map_eq_some_iff] at h
  obtain ⟨ys,h1,rfl⟩:=h
  obtain ⟨g1,g2⟩:=Q5 (w:=w) (F:=F) h1
  refine ⟨by simp [g1],fun i p xs v hp hx hv=>?_⟩
  cases i with
  | zero =>
   simp only [List.getElem?_cons_zero,Option.some.injEq] at hp hx
   subst hp;subst hx
   cases hv
   exact .sl0 _ _ _
  | succ i=>exact g2 i p xs v (by simpa using hp) (by simpa using hx) hv
 | .sl t' ys :: l,xss,h=>by
  simp only [L6] at h
  split at h
  ·rename_i zs hz
   simp only [Option.map_eq_some_iff] at h
   obtain ⟨us,h1,rfl⟩:=h
   obtain ⟨g1,g2⟩:=Q5 (w:=w) (F:=F) h1
   refine ⟨by simp [g1],fun i p xs v hp hx hv=>?_⟩
   cases i with
   | zero =>
    simp only [List.getElem?_cons_zero,Option.some.injEq] at hp hx
    subst hp;subst hx
    obtain ⟨e,he⟩:=Ga hz
    subst e
    subst he
    exact hv
   | succ i=>exact g2 i p xs v (by simpa using hp) (by simpa using hx) hv
  ·cases h
 | .int _ _ :: _,_,h=>by simp [L6] at h
 | .bool _ :: _,_,h=>by simp [L6] at h
 | .str _ :: _,_,h=>by simp [L6] at h
 | .val _ :: _,_,h=>by simp [L6] at h
theorem Ok (t:Ty):∀ xss:List (List t.den),flat (.sl t) xss=xss.map (PV.sl t)
 | []=>rfl
 | x :: xs=>by
  have h:=Ok t xs
  unfold flat at h ⊢
  rw [List.flatMap_cons,h]
  rfl
theorem Tb (hL:∀ id,E.A id→Ac H id≠.dead→E.L id) (hH:∀ id,E.L id→Ac H id≠.dead→OkOb E id (Ac H id)) {ids':List Nat} {v:Value} {t:Ty} {id m:Nat} (hx:RdA E v (.csl t id m))
 {x':AV} {ids:List Nat} (h:Aj H (.csl t id m)=some (x',ids)) (hsub:∀ id∈ids,id∈ids'):∃ xss:List (List t.den),x'=.sl (.sl t) xss∧RdP E.w (FF E ids') v (.sl (.sl t) xss):=by
 simp only [Aj] at h
 split at h
 ·rename_i cs hob
  split at h
  ·rename_i hm
   split at h
   ·rename_i ps l hd
    split at h
    ·rename_i xss hr
     cases h
     refine ⟨xss,rfl, ?_⟩
     simp only [Bool.and_eq_true] at hm
     have hm':=Nat.eq_of_beq_eq_true hm.1
     have hm2:=Nat.le_of_ble_eq_true hm.2
     obtain ⟨hA,h1,hp⟩:=hx.csl_inv
     have hne:Ac H id≠.dead:=by rw [hob];simp
     have hl:=hL id hA hne
     have hok:=hH id hl hne
     rw [hob] at hok
     obtain ⟨hd',hρ,arr,el,g1,g2,g3⟩:=hok
     obtain ⟨hd'',hρ',hv⟩:=hp hl
     rw [hρ] at hρ'
     cases hρ'
     have hcl:CellL E arr.toList cs:=⟨by simpa using g2,fun i u y hu hy=>g3 i u y (by simpa using hu) hy⟩
     obtain ⟨d1,d2⟩:=Ft (ids':=ids') hL hH hcl hd (fun i hi=>hsub i (by simp [hi]))
     obtain ⟨r1,r2⟩:=Q5 (w:=E.w) (F:=FF E ids') hr
     subst hv
     have hlen:xss.length=m:=by
      have:arr.toList.length=ps.length:=d1
      rw [Array.length_toList] at this
      omega
     by_cases h0:m=0
     ·subst h0
      have:xss=[]:=List.eq_nil_of_length_eq_zero hlen
      subst this
      exact .sl0 _ _ _
     ·refine .sl hd'.blk 0 m m (.sl t) xss (fun j=>(arr[j]?).getD undef) hlen.symm (Nat.le_refl _) ?_ (fun j hj=>?_) (fun j p hp=>?_)
      ·exact Nat.le_trans hm2 (by decide)
      ·have hj':j < m:=by
        have:=Ok t xss
        rw [this,List.length_map] at hj
        omega
       have hlt:j < arr.size:=by omega
       refine ⟨.inr ⟨id,hsub id (by simp),hl,.inl ⟨hd',hρ,rfl⟩⟩, ?_⟩
       rw [Nat.zero_add]
       simp [World.cell?,g1,hlt]
      ·rw [Ok,List.getElem?_map,Option.map_eq_some_iff] at hp
       obtain ⟨xs,hxs,rfl⟩:=hp
       have hj:j < xss.length:=(List.getElem?_eq_some_iff.1 hxs).1
       have hjp:j < ps.length:=by omega
       have hja:j < arr.toList.length:=by rw [d1];exact hjp
       have hv:=List.getElem?_eq_getElem hja
       have:=(d2 j _ _ hv (List.getElem?_eq_getElem hjp)).2
       have h2:=r2 j _ _ _ (List.getElem?_eq_getElem hjp) hxs this
       have e:(arr[j]?).getD undef=arr.toList[j]:=by
        have hlt:j < arr.size:=by simpa using hja
        simp [hlt]
       rw [e]
       exact h2
    ·cases h
   ·cases h
  ·cases h
 ·cases h
theorem lowerArg_ok (hL:∀ id,E.A id→Ac H id≠.dead→E.L id) (hH:∀ id,E.L id→Ac H id≠.dead→OkOb E id (Ac H id)) {F:Nat→Nat→Prop} {ids':List Nat} (hF:∀ b o,FF E ids' b o→F b o∧b < E.w.heap.size) {v:Value} {x:AV} (hx:RdA E v x) :
 ∀ (x':AV) (ids:List Nat),Aj H x=some (x',ids)→(∀ id∈ids,id∈ids')→RdA (Env.base E.w F) v x':=by
 have toB:∀ {v p},RdP E.w (FF E ids') v p→RdP E.w (Env.base E.w F).Fz v p:=fun h=>h.monoF fun b o hb=>Uz (hF b o hb).2 (hF b o hb).1
 have toB':∀ {v p},RdP E.w E.Fz v p→RdP E.w (Env.base E.w F).Fz v p:=fun h=>toB (h.monoF fun b o hb=>.inl hb)
 have ffid:∀ {id:Nat} {hd:Hdr},id∈ids'→E.L id→E.ρ id=some hd→∀ o,(Env.base E.w F).Fz hd.blk o:=fun hid hl hρ o =>
  Uz (hF _ o (.inr ⟨_,hid,hl,.inl ⟨_,hρ,rfl⟩⟩)).2 (hF _ o (.inr ⟨_,hid,hl,.inl ⟨_,hρ,rfl⟩⟩)).1
 induction hx with
 | int k m=>intro x' ids h _;simp only [Aj,Option.some.injEq,Prod.mk.injEq] at h;obtain ⟨rfl,_⟩:=h;exact .int _ _
 | bool b=>intro x' ids h _;simp only [Aj,Option.some.injEq,Prod.mk.injEq] at h;obtain ⟨rfl,_⟩:=h;exact .bool _
 | str s=>intro x' ids h _;simp only [Aj,Option.some.injEq,Prod.mk.injEq] at h;obtain ⟨rfl,_⟩:=h;exact .str _
 | val v h1=>intro x' ids h _;simp only [Aj,Option.some.injEq,Prod.mk.injEq] at h;obtain ⟨rfl,_⟩:=h;exact .val _ h1
 | nils b c=>intro x' ids h _;simp only [Aj,Option.some.injEq,Prod.mk.injEq] at h;obtain ⟨rfl,_⟩:=h;exact .nils _ _
 | cap0 b=>intro x' ids h _;simp only [Aj,Option.some.injEq,Prod.mk.injEq] at h;obtain ⟨rfl,_⟩:=h;exact .cap0 _
 | sl v t xs h1=>intro x' ids h _;simp only [Aj,Option.some.injEq,Prod.mk.injEq] at h;obtain ⟨rfl,_⟩:=h;exact .sl _ _ _ (toB' h1)
 | mp v id _ _ _=>intro x' ids h _;simp [Aj] at h
 | any v=>intro x' ids h _;simp [Aj] at h
 | tup vs xs hv _ ih=>intro x' ids h _;simp [Aj] at h
 | when v c s w x _ _ _=>intro x' ids h _;simp [Aj] at h
 | yld=>intro x' ids h _;simp [Aj] at h
 | grow=>intro x' ids h _;simp [Aj] at h
 | gptr=>intro x' ids h _;simp [Aj] at h
 | slf t xs ba h1=>intro x' ids h _;simp only [Aj,Option.some.injEq,Prod.mk.injEq] at h;obtain ⟨rfl,_⟩:=h;exact .sl _ _ _ (toB' h1)
 | ownc v id k lo m hA h1 hp =>
  intro x' ids h hsub
  simp only [Aj,Option.map_eq_some_iff,Prod.mk.injEq,Prod.exists] at h
  obtain ⟨p,l,h2,rfl,rfl⟩:=h
  exact Qd (E':=Env.base E.w F) (toB (M8 hL hH (.ownc v id k lo m hA h1 hp) h2 hsub))
 | own v id hA h1 hp =>
  intro x' ids h hsub
  simp only [Aj,Option.map_eq_some_iff,Prod.mk.injEq,Prod.exists] at h
  obtain ⟨p,l,h2,rfl,rfl⟩:=h
  exact Qd (E':=Env.base E.w F) (toB (M8 hL hH (.own v id hA h1 hp) h2 hsub))
 | ownp v id k lo m hA h1 hp =>
  intro x' ids h hsub
  simp only [Aj,Option.map_eq_some_iff,Prod.mk.injEq,Prod.exists] at h
  obtain ⟨p,l,h2,rfl,rfl⟩:=h
  exact Qd (E':=Env.base E.w F) (toB (M8 hL hH (.ownp v id k lo m hA h1 hp) h2 hsub))
 | dmp b es ms clock hB hb hh hsz hes=>intro x' ids h hsub;simp [Aj] at h
 | csl v t id m hA h1 hp =>
  intro x' ids h hsub
  obtain ⟨y,hy⟩:=Tb hL hH (ids':=ids') (.csl v t id m hA h1 hp) h hsub
  obtain ⟨rfl,hy⟩:=hy
  exact Qd (E':=Env.base E.w F) (p:=.sl _ _) (toB hy)
 | ptr v id off hA h1 hp =>
  intro x' ids h hsub
  simp only [Aj] at h
  split at h
  ·rename_i cs hob
   split at h
   ·rename_i ps l hd
    simp only [Option.some.injEq,Prod.mk.injEq] at h
    obtain ⟨rfl,rfl⟩:=h
    have hne:Ac H id≠.dead:=by rw [hob];simp
    have hl:=hL id hA hne
    have hok:=hH id hl hne
    rw [hob] at hok
    obtain ⟨hd',hρ,arr,el,g1,g2,g3⟩:=hok
    obtain ⟨hd'',hρ',hv⟩:=hp hl
    rw [hρ] at hρ'
    cases hρ'
    have hcl:CellL E (arr.toList.drop off) (cs.drop off):=by
     refine ⟨by simp [g2],fun i u y hu hy=>?_⟩
     rw [List.getElem?_drop] at hu hy
     exact g3 _ u y (by simpa using hu) hy
    obtain ⟨d1,d2⟩:=Ft (ids':=ids') hL hH hcl hd (fun i hi=>hsub i (by simp [hi]))
    subst hv
    refine .eptr hd'.blk off ps (fun j=>(arr[off+j]?).getD undef) (fun j hj=>⟨ffid (hsub id (by simp)) hl hρ _, ?_⟩) (fun j p hp=>?_)
    ·have hlt:off+j < arr.size:=by
      rw [← d1] at hj
      simp only [List.length_drop,Array.length_toList] at hj
      omega
     simp [World.cell?,g1,hlt,Env.base]
    ·have hlt:j < (arr.toList.drop off).length:=by rw [d1];exact (List.getElem?_eq_some_iff.1 hp).1
     have hu:(arr.toList.drop off)[j]?=some ((arr.toList.drop off)[j]):=List.getElem?_eq_getElem hlt
     have h3:=(d2 j _ p hu hp).2
     rw [List.getElem?_drop] at hu
     have h4:(arr[off+j]?).getD undef=(arr.toList.drop off)[j]:=by
      have:arr[off+j]?=some ((arr.toList.drop off)[j]):=by simp
      rw [this];rfl
     rw [h4]
     exact toB h3
   ·cases h
  ·cases h
 | rptr v id k row off hA h1 hp =>
  intro x' ids h hsub
  have key:∀ (t:Ty) (xs:List t.den),RowsAt E t xs (E.ρ id)→E.L id→(if k == t.size then some (AV.eptr ((enc t (xs.getD row (Ab t))).drop off),[id]) else none)=some (x',ids)→RdA (Env.base E.w F) v x':=by
   intro t xs hrow hl h
   split at h
   ·rename_i hk
    simp only [Option.some.injEq,Prod.mk.injEq] at h
    obtain ⟨rfl,rfl⟩:=h
    have hk':k=t.size:=by simpa using hk
    subst hk'
    obtain ⟨hd',hρ,hlt,hv⟩:=hp hl
    rw [hρ] at hrow
    obtain ⟨g1,g2,g3,g3',arr,el,g4,g5,g6⟩:=hrow
    subst hv
    have get:∀ (j:Nat) p,((enc t (xs.getD row (Ab t))).drop off)[j]?=some p→∃ u,arr[hd'.off+row * t.size+off+j]?=some u∧RdP E.w E.Fz u p:=by
     intro j p hp
     rw [List.getElem?_drop] at hp
     have:=M7 t xs row (by omega) (Ab t) _ p hp
     obtain ⟨u,h2,h3⟩:=g6 _ p this
     exact ⟨u,by rw [← h2];congr 1;omega,h3⟩
    refine .eptr hd'.blk _ _ (fun j=>(arr[hd'.off+row * t.size+off+j]?).getD undef) (fun j hj=>⟨ffid (hsub id (by simp)) hl hρ _, ?_⟩) (fun j p hp=>?_)
    ·obtain ⟨u,h2,_⟩:=get j _ (List.getElem?_eq_getElem hj)
     simp [World.cell?,g4,h2,Env.base]
    ·obtain ⟨u,h2,h3⟩:=get j p hp
     have:(arr[hd'.off+row * t.size+off+j]?).getD undef=u:=by rw [h2];rfl
     rw [this]
     exact toB' h3
   ·cases h
  simp only [Aj] at h
  split at h
  ·rename_i t xs hob
   have hne:Ac H id≠.dead:=by rw [hob];simp
   have hl:=hL id hA hne
   have hok:=hH id hl hne
   rw [hob] at hok
   exact key t xs hok hl h
  ·rename_i t xs hob
   have hne:Ac H id≠.dead:=by rw [hob];simp
   have hl:=hL id hA hne
   have hok:=hH id hl hne
   rw [hob] at hok
   exact key t xs hok hl h
  ·cases h
 | eptr b o cs g hcell hrd =>
  intro x' ids h _
  simp only [Aj,Option.some.injEq,Prod.mk.injEq] at h
  obtain ⟨rfl,_⟩:=h
  refine .eptr b o cs g (fun j hj=>?_) (fun j p hp=>toB' (hrd j p hp))
  obtain ⟨h1,h2⟩:=hcell j hj
  exact ⟨Uz (hF _ _ (.inl h1)).2 (hF _ _ (.inl h1)).1,h2⟩
 | agg vs xs hv h1 _ ih =>
  intro x' ids h hsub
  simp only [Aj] at h
  split at h
  ·rename_i l m hl
   simp only [Option.some.injEq,Prod.mk.injEq] at h
   obtain ⟨rfl,rfl⟩:=h
   have:=lowerArgs_get hl
   refine .agg vs l (by rw [hv,this.1]) h1 (fun i v y hv' hy=>?_)
   obtain ⟨x,ids2,h2,h3,h4⟩:=this.2 i y hy
   exact ih i v x hv' h2 y ids2 h3 (fun id hid=>hsub id (h4 id hid))
  ·cases h
 | fn f vs ws xs ys hv hw _ _ ih1 ih2 =>
  intro x' ids h hsub
  simp only [Aj] at h
  split at h
  ·rename_i l m l' m' hl hl'
   simp only [Option.some.injEq,Prod.mk.injEq] at h
   obtain ⟨rfl,rfl⟩:=h
   have t1:=lowerArgs_get hl
   have t2:=lowerArgs_get hl'
   refine .fn f vs ws l l' (by rw [hv,t1.1]) (by rw [hw,t2.1]) (fun i v y hv' hy=>?_) (fun i v y hv' hy=>?_)
   ·obtain ⟨x,ids2,h2,h3,h4⟩:=t1.2 i y hy
    exact ih1 i v x hv' h2 y ids2 h3 (fun id hid=>hsub id (by simp [h4 id hid]))
   ·obtain ⟨x,ids2,h2,h3,h4⟩:=t2.2 i y hy
    exact ih2 i v x hv' h2 y ids2 h3 (fun id hid=>hsub id (by simp [h4 id hid]))
  ·cases h
where
 lowerArgs_get {H:List Ob}:∀ {xs:List AV} {l:List AV} {m:List Nat},C9 H xs=some (l,m)→xs.length=l.length∧∀ (i:Nat) y,l[i]?=some y→∃ x ids,xs[i]?=some x∧Aj H x=some (y,ids)∧∀ id∈ids,id∈m
  | [],l,m,h=>by
   simp only [C9,Option.some.injEq,Prod.mk.injEq] at h
   obtain ⟨rfl,rfl⟩:=h
   exact ⟨rfl,fun i y hy=>by simp at hy⟩
  | x :: xs,l,m,h=>by
   simp only [C9] at h
   split at h
   ·rename_i y ia ys ib h1 h2
    simp only [Option.some.injEq,Prod.mk.injEq] at h
    obtain ⟨rfl,rfl⟩:=h
    have ih:=lowerArgs_get h2
    refine ⟨by simp [ih.1],fun i z hz=>?_⟩
    match i,hz with
    | 0,hz=>cases hz;exact ⟨x,ia,rfl,h1,fun id hid=>by simp [hid]⟩
    | i+1,hz =>
     obtain ⟨x',ids,g1,g2,g3⟩:=ih.2 i z (by simpa using hz)
     exact ⟨x',ids,by simpa using g1,g2,fun id hid=>by simp [g3 id hid]⟩
   ·cases h
theorem Mm (n:Nat):∀ (l:List AV),(Jj n l).length=l.length∧∀ (i:Nat) x,l[i]?=some x→(Jj n l)[i]?=some (shift n x)
 | []=>⟨rfl,fun i x h=>by simp at h⟩
 | y :: l=>by
  have ih:=Mm n l
  refine ⟨by simp [Jj,ih.1],fun i x h=>?_⟩
  match i,h with
  | 0,h=>cases h;rfl
  | i+1,h=>simpa [Jj] using ih.2 i x (by simpa using h)
theorem Jp:∀ {l:List AV} {i:Nat} {x:AV},Iw l=true→l[i]?=some x→Gm x=true
 | [],i,x,_,h=>by simp at h
 | y :: l,0,x,h,hx=>by cases hx;simp only [Iw,Bool.and_eq_true] at h;exact h.1
 | y :: l,i+1,x,h,hx=>by simp only [Iw,Bool.and_eq_true] at h;exact Jp h.2 (by simpa using hx)
theorem Ij {news:List Ob}:∀ {l:List AV} {i:Nat} {x:AV},Hc news l=true→l[i]?=some x→D1 news x=true
 | [],i,x,_,h=>by simp at h
 | y :: l,0,x,h,hx=>by cases hx;simp only [Hc,Bool.and_eq_true] at h;exact h.1
 | y :: l,i+1,x,h,hx=>by simp only [Hc,Bool.and_eq_true] at h;exact Ij h.2 (by simpa using hx)
theorem Ae0 {g:FuncId} {args:List AV} {vs:Array Value} (hcx:Ah P cx) (hr:Ready E n r.news.length) (hA:∃ N,∀ id,E.A id→id < N) (hL:∀ id,E.A id→Ac H id≠.dead→E.L id) (hH:∀ id,E.L id→Ac H id≠.dead→OkOb E id (Ac H id))
 (hn:A4 r.need) (hsz:vs.size=args.length) (hargs:∀ (i:Nat) v x,vs[i]?=some v→args[i]?=some x→RdA E v x) (h:Pc cx H n g args=some r) :
 (∃ fn,P.funcs[g]?=some fn∧fn.body.isSome=true∧(fn.name == "runtime.NumGoroutine")=false) ∧
 Calls P g vs E.w (fun en w'=>A4 r.given∧∃ v E',en=.returned v∧E'.w=w'∧Ext E n r wn E'∧RdA E' v r.val):=by
 unfold Pc at h
 split at h
 ·cases h
 ·rename_i shs C hC
  have hgood:=hcx g shs C hC
  refine ⟨hgood.fn, ?_⟩
  split at h
  ·cases h
  ·rename_i args' ids hlow
   split at h
   ·cases h
   ·rename_i cr _ hcr
    split at h
    ·rename_i hfine0
     simp only [Bool.and_eq_true] at hfine0
     obtain ⟨hfine,hfob⟩:=hfine0
     have main:∀ (F:Nat→Nat→Prop) (frz:List Nat),(∀ b o,FF E ids b o→F b o∧b < E.w.heap.size)→(∀ b o,F b o→b < E.w.heap.size)→r=⟨cr.need,cr.given,shift n cr.res,cr.news,none,none,frz⟩ →
      ((∀ b o,F b o→FF E frz b o)∨(D1 cr.news cr.res=true∧cr.news.all Aeh=true)) →
      Calls P g vs E.w (fun en w'=>A4 r.given∧∃ v E',en=.returned v∧E'.w=w'∧Ext E n r wn E'∧RdA E' v r.val):=by
      intro F frz hF hFs h0 hmode
      subst h0
      have hla:=lowerArg_ok.lowerArgs_get hlow
      obtain ⟨fl1,fl2⟩:=Qc (E:=Env.base E.w F) shs args'
      have hcalls:=hgood.calls (Lz shs args') cr _ hcr hn E.w F vs hFs (by rw [hsz,hla.1,fl1]) (fun i v x hv hx=>fl2 i v x (fun x' hx'=>by
       obtain ⟨y,ids2,h1,h2,h3⟩:=hla.2 i x' hx'
       exact lowerArg_ok hL hH hF (hargs i v y hv h1) x' ids2 h2 h3) hx)
      refine hcalls.mono fun en w' hpost=>?_
      obtain ⟨hgiven,v,hd,kd,he,hbelow,hres,hnews,hblk,htwo⟩:=hpost
      refine ⟨hgiven,v,E.ext n cr.news.length none frz wn w' hd,he,rfl, ?_, ?_⟩
      all_goals
       have hstep:Step E n ⟨cr.need,cr.given,shift n cr.res,cr.news,none,none,frz⟩ w' hd :=
        ⟨hbelow.mono hr.B,fun b hb _=>hbelow.block b hb,fun j h hj hh=>⟨(hblk j h hj hh).2,.inl (hblk j h hj hh).1⟩,htwo,fun _ hid=>by { cases hid },fun _ hp=>by { cases hp }⟩
       have hfz:(∀ b o,F b o→FF E frz b o)→∀ b o,(Env.aft E.w w' F cr.news.length hd kd).Fz b o→(E.ext n cr.news.length none frz wn w' hd).Fz b o∧w'.cell? ⟨b,o,none⟩=w'.cell? ⟨b,o,none⟩:=by
        intro hmode b o hb
        refine ⟨?_,rfl⟩
        rcases hb with ⟨h1,h2⟩ | ⟨h1,h2,h3,_⟩
        ·exact (hstep.ff (wn:=wn) hr rfl (fun p hp=>by cases hp) (hmode b o h2)).1
        ·refine .inr ⟨Nat.le_trans hr.B h1,h2,fun id hW ho=>?_,fun hh=>Nat.lt_irrefl _ (Nat.lt_of_lt_of_le (hr.hlt b hh) h1)⟩
         rcases Env.ext_own ho with ⟨hid,h,hρ,hb⟩ | ⟨hid,ho⟩
         ·exact h3 (id - n) (show id - n < cr.news.length by omega) (.inl ⟨h,hρ,hb⟩)
         ·rcases hW with ⟨hW,_⟩ | ⟨g1,g2,_⟩
          ·have:=(hr.ltO id b (hr.wl id hW) ho).2
           have h1':E.w.heap.size≤b:=h1
           omega
          ·exact absurd ⟨g1,g2⟩ hid
      ·refine hstep.ext (wn:=wn) hr hA (fun hevo j ob hj=>?_) (fun _ id ob h=>by cases h)
       have hlt:j < cr.news.length:=(List.getElem?_eq_some_iff.1 hj).1
       have hok:=hnews j ob hj
       have hρ:(E.ext n cr.news.length none frz wn w' hd).ρ (n+j)=hd j:=by
        simp only [Env.ext]
        rw [if_pos ⟨by omega,by omega⟩,Nat.add_sub_cancel_left]
       have rows:∀ (t:Ty) (xs:List t.den),t.flat=true∨(∀ b o,F b o→FF E frz b o)→RowsAt (Env.aft E.w w' F cr.news.length hd kd) t xs (hd j)→RowsAt (E.ext n cr.news.length none frz wn w' hd) t xs (hd j):=by
        intro t xs hor hrow
        cases hdj:hd j with
        | none=>rw [hdj] at hrow;exact hrow
        | some hh =>
         rw [hdj] at hrow
         obtain ⟨g1,g2,g3,g3',arr,el,g4,g5,g6⟩:=hrow
         refine ⟨g1,g2,g3,g3',arr,el,g4,g5,fun i p hp=>?_⟩
         obtain ⟨u,h1,h2⟩:=g6 i p hp
         refine ⟨u,h1, ?_⟩
         rcases hor with hor | hor
         ·exact Aaq hor hp h2
         ·exact h2.mono (hfz hor)
       cases ob with
       | dead=>exact hok
       | cells cs =>
        have:=List.all_eq_true.1 hfob _ (List.mem_of_getElem? hj)
        simp [Mf] at this
       | fmap es =>
        have:=List.all_eq_true.1 hfob _ (List.mem_of_getElem? hj)
        simp [Mf] at this
       | rows t xs =>
        show RowsAt _ t xs _
        rw [hρ]
        refine rows t xs ?_ hok
        rcases hmode with hm | ⟨_,hm⟩
        ·exact .inr hm
        ·have:=List.all_eq_true.1 hm _ (List.mem_of_getElem? hj)
         exact .inl this
       | froz t xs =>
        have:=List.all_eq_true.1 hfob _ (List.mem_of_getElem? hj)
        simp [Mf] at this
       | grid t m xss =>
        have:=List.all_eq_true.1 hfob _ (List.mem_of_getElem? hj)
        simp [Mf] at this
       | loop a1 a2 a3 a4 a5 a6 =>
        have:=List.all_eq_true.1 hfob _ (List.mem_of_getElem? hj)
        simp [Mf] at this
      ·have hfine':(∀ b o,F b o→FF E frz b o)∧Gm cr.res=true∨D1 cr.news cr.res=true:=by
        rcases hmode with hm | ⟨hm,_⟩
        ·exact .inl ⟨hm,hfine⟩
        ·exact .inr hm
       show RdA _ v (shift n cr.res)
       clear hcr hfine hmode hcalls he
       generalize hres':cr.res=x at hres hfine'
       clear hres'
       induction hres with
       | int k m=>exact .int _ _
       | bool b=>exact .bool _
       | str s=>exact .str _
       | nils b c=>exact .nils _ _
       | cap0 b=>exact .cap0 _
       | val v h1=>exact .val _ h1
       | sl v t xs h1 =>
        rcases hfine' with ⟨hm,_⟩ | hm
        ·exact .sl _ _ _ (h1.mono (hfz hm))
        ·simp [D1] at hm
       | own v id hA' h1 hp =>
        refine .own _ (n+id) (.inr ⟨by omega,by have:id < cr.news.length:=hA';omega⟩) h1 fun _=>?_
        have hρ:(E.ext n cr.news.length none frz wn w' hd).ρ (n+id)=hd id:=by
         have:id < cr.news.length:=hA'
         simp only [Env.ext]
         rw [if_pos ⟨by omega,by omega⟩,Nat.add_sub_cancel_left]
        rw [hρ]
        exact hp hA'
       | agg us xs hv h1 _ ih =>
        have hs:=Mm n xs
        refine .agg us (Jj n xs) (by rw [hv,hs.1]) h1 (fun i u y hu hy=>?_)
        have hlt:i < xs.length:=by rw [← hs.1];exact (List.getElem?_eq_some_iff.1 hy).1
        have hxi:xs[i]?=some xs[i]:=List.getElem?_eq_getElem hlt
        have:=hs.2 i _ hxi
        rw [this] at hy
        cases hy
        refine ih i u _ hu hxi ?_
        rcases hfine' with ⟨hm,hf⟩ | hm
        ·exact .inl ⟨hm,Jp (l:=xs) (by simpa [Gm] using hf) hxi⟩
        ·exact .inr (Ij (l:=xs) (by simpa [D1] using hm) hxi)
       | tup us xs hv _ ih =>
        have hs:=Mm n xs
        refine .tup us (Jj n xs) (by rw [hv,hs.1]) (fun i u y hu hy=>?_)
        have hlt:i < xs.length:=by rw [← hs.1];exact (List.getElem?_eq_some_iff.1 hy).1
        have hxi:xs[i]?=some xs[i]:=List.getElem?_eq_getElem hlt
        have:=hs.2 i _ hxi
        rw [this] at hy
        cases hy
        refine ih i u _ hu hxi ?_
        rcases hfine' with ⟨hm,hf⟩ | hm
        ·exact .inl ⟨hm,Jp (l:=xs) (by simpa [Gm] using hf) hxi⟩
        ·exact .inr (Ij (l:=xs) (by simpa [D1] using hm) hxi)
       | any v=>exact .any _
       | eptr b o cs g hcell hrd =>
        rcases hfine' with ⟨hm,_⟩ | hm
        ·exact .eptr b o cs g (fun j hj=>⟨(hfz hm b (o+j) (hcell j hj).1).1,(hcell j hj).2⟩) (fun j p hp=>(hrd j p hp).mono (hfz hm))
        ·simp [D1] at hm
       | fn f us ws xs ys hv hw h1 h2 ih1 ih2 =>
        rcases hfine' with ⟨hm,hf⟩ | hm
        ·simp only [Gm,Bool.and_eq_true] at hf
         refine .fn f us ws xs ys hv hw (fun i u x hu hx=>?_) (fun i u x hu hx=>?_)
         ·have he:=List.all_eq_true.1 hf.1 x (List.mem_of_getElem? hx)
          cases x with
          | eptr cs=>exact ih1 i u _ hu hx (.inl ⟨hm,by simp [Gm]⟩)
          | _=>simp [Aai] at he
         ·have he:=List.all_eq_true.1 hf.2 x (List.mem_of_getElem? hx)
          cases x with
          | eptr cs=>exact ih2 i u _ hu hx (.inl ⟨hm,by simp [Gm]⟩)
          | _=>simp [Aai] at he
        ·simp [D1] at hm
       | dmp b es ms clock hB hb hh hsz hes =>
        have h1:E.w.heap.size≤b:=hB
        refine .dmp b es ms clock (Nat.le_trans hr.B h1) ⟨hb.1,fun id hW ho=>?_,fun hh=>Nat.lt_irrefl _ (Nat.lt_of_lt_of_le (hr.hlt b hh) h1)⟩ hh hsz hes
        rcases Env.ext_own ho with ⟨hid,h,hρ,hbb⟩ | ⟨hid,ho⟩
        ·exact hb.2.1 (id - n) (show id - n < cr.news.length by omega) (.inl ⟨h,hρ,hbb⟩)
        ·rcases hW with ⟨hW,_⟩ | ⟨g1,g2,_⟩
         ·have:=(hr.ltO id b (hr.wl id hW) ho).2
          omega
         ·exact absurd ⟨g1,g2⟩ hid
       | _=>rcases hfine' with ⟨_,hf⟩ | hm <;> simp_all [Gm,D1]
     have hffs:∀ b o,FF E ids b o→b < E.w.heap.size:=by
      intro b o hb
      rcases hb with (⟨h1,_⟩ | ⟨_,h1,_⟩) | ⟨id,_,hl,ho⟩
      ·exact Nat.lt_of_lt_of_le h1 hr.B
      ·exact h1
      ·exact (hr.ltO id b hl ho).2
     split at h
     ·rename_i hplain
      simp only [Bool.and_eq_true] at hplain
      exact main (fun b _=>b < E.w.heap.size) [] (fun b o hb=>⟨hffs b o hb,hffs b o hb⟩) (fun b o hb=>hb) (Option.some.inj h).symm (.inr hplain)
     ·exact main (FF E ids) ids (fun b o hb=>⟨hb,hffs b o hb⟩) hffs (Option.some.inj h).symm (.inl fun _ _ hb=>hb)
    ·cases h
end
end Go.Sx
namespace Go.Sx
open Go.RowKit
section
variable {P:Program} {cx:Ctx} {E:Env} {a:Act} {e:Operand→AV} {H:List Ob} {n:Nat} {r:Res}
 {wn:Nat→Prop} {K:Act→World→Prop} {Q:Exit→Act→World→Prop} {ro:Option Nat}
theorem PureRun.wp {o:Oper} (h:PureRun P E a o r) (hr:Ready E n r.news.length) (hK:∀ E' v,Ext E n r wn E'→A4 r.given→RdA E' v r.val→K (a.put o.dst v) E'.w):o.wpI ro P a E.w K Q:=by
 obtain ⟨v,h1,h2,h3⟩:=h.run
 exact Cb h1 (hK E v (Ext.idle hr h.kill h.st h.frz h.news) h3 h2)
theorem Fc {g:FuncId} {fn:Func} (hf:P.funcs[g]?=some fn) (hb:fn.body.isSome=true) (hn:(fn.name == "runtime.NumGoroutine")=false) (vs:Array Value) (w:World) :
 (callFunc g vs).run P w=.ok (.enter g vs) w:=by
 have hn':¬ fn.name = "runtime.NumGoroutine":=by simpa using hn
 simp [callFunc,go_sem,hf,hn']
 intro h0
 rw [h0] at hb
 cases hb
theorem Yu {v:Value} {f:Fn} {xs ys:List AV} (h:RdA E v (.fn f xs ys)):∃ vs ws:Array Value,v=.func f vs ws∧vs.size=xs.length∧ws.size=ys.length ∧
 (∀ (i:Nat) u x,vs[i]?=some u→xs[i]?=some x→RdA E u x)∧∀ (i:Nat) u x,ws[i]?=some u→ys[i]?=some x→RdA E u x :=
 match h with | .fn _ vs ws _ _ h1 h2 h3 h4=>⟨vs,ws,rfl,h1,h2,h3,h4⟩
theorem Tc {f:Operand} {g:FuncId} {xs ys:List AV} {args:Array Operand} (hf:RdA E (a.eval f) (.fn (.func g) xs ys)) (hx:∀ x∈args.toList,RdA E (a.eval x) (e x)) :
 ∃ vs:Array Value,(∀ (dst:Option Tmp) (ts:Array TypeId) (ty:TypeId) (pos:String) (after:Array Go.Edge) (guard:Option (Nat × Bool)) (w:World),
  (execOp a.eval ⟨dst,.call ⟨.value f,args,ts⟩,ty,pos,after,guard⟩).run P w=(callFunc g vs).run P w) ∧
  vs.size=(xs++args.toList.map e++ys).length∧∀ (i:Nat) u x,vs[i]?=some u→(xs++args.toList.map e++ys)[i]?=some x→RdA E u x:=by
 obtain ⟨us,ws,h1,h2,h3,h4,h5⟩:=Yu hf
 refine ⟨us++args.map a.eval++ws,fun dst ts ty pos after guard w=>?_,by simp [h2,h3],fun i u x hu hx'=>?_⟩
 ·simp [execOp,Go.resolve,h1,Deferred.ofValue,invoke]
 ·have hm:=Od (a:=a) (E:=E) (e:=e) (l:=args) hx
  simp only [Array.getElem?_append,Array.size_append,Array.size_map] at hu
  simp only [List.getElem?_append,List.length_append,List.length_map,Array.length_toList] at hx'
  rw [h2] at hu
  split at hu
  ·rename_i hlt
   rw [if_pos hlt] at hx'
   split at hu
   ·rename_i hlt2
    rw [if_pos hlt2] at hx'
    exact h4 i u x hu hx'
   ·rename_i hlt2
    rw [if_neg hlt2] at hx'
    exact hm.2 _ u x hu hx'
  ·rename_i hlt
   rw [if_neg hlt] at hx'
   exact h5 _ u x hu hx'
structure OpPre (P:Program) (cx:Ctx) (E:Env) (a:Act) (o:Oper) (e:Operand→AV) (H:List Ob) (n:Nat) (r:Res):Prop where
 cx:Ah P cx
 ready:Ready E n r.news.length
 fin:∃ N,∀ id,E.A id→id < N
 live:∀ id,E.A id→Ac H id≠.dead→E.L id
 ok:∀ id,E.L id→Ac H id≠.dead→OkOb E id (Ac H id)
 kill:∀ id,r.kill=some id→E.W id
 st:∀ q,r.st=some q→E.W q.1
 rd:∀ x∈o.op.operands.toList,RdA E (a.eval x) (e x)
 when:∀ x∈o.op.operands.toList,∀ c s w v,Operand.tmp s∈o.op.operands.toList→e x=.when c s w v→a.eval (.tmp s)=.bool w→c
 need:A4 r.need
theorem Q6 {o:Oper} (hp:OpPre P cx E a o e H n r) (h:evOp cx P e H n o=some r)
 (hK:∀ E' v,Ext E n r wn E'→A4 r.given→RdA E' v r.val→K (a.put o.dst v) E'.w):o.wpI ro P a E.w K Q:=by
 obtain ⟨hcx,hr,hA,hL,hH,hk,hst,hx,hwh,hn⟩:=hp
 obtain ⟨dst,op,ty,pos,after,guard⟩:=o
 cases op with
 | move x=>exact (Aem (hx x (by simp [Op.operands])) h).wp hr hK
 | assign x=>exact (We (hx x (by simp [Op.operands])) h).wp hr hK
 | pick c x y =>
  refine (Ak9 (hx c (by simp [Op.operands])) (hx x (by simp [Op.operands])) (hx y (by simp [Op.operands])) (fun s hs q w v=>?_) (fun s hs q w v=>?_) h).wp hr hK
  ·subst hs;exact hwh x (by simp [Op.operands]) q s w v (by simp [Op.operands])
  ·subst hs;exact hwh y (by simp [Op.operands]) q s w v (by simp [Op.operands])
 | extract x i=>exact (S6 (hx x (by simp [Op.operands])) h).wp hr hK
 | makeFunc f xs ys=>exact (Q0 (fun x hm=>hx x (by simp only [Op.operands,Array.toList_append,List.mem_append];exact .inl hm)) (fun x hm=>hx x (by simp only [Op.operands,Array.toList_append,List.mem_append];exact .inr hm)) h).wp hr hK
 | alloc t=>exact Aie hr hA h hK
 | box t x=>exact Anc hr hA (hx x (by simp [Op.operands])) h hK
 | build t parts=>exact (Aid (fun p hm=>hx p.2 (by simp only [Op.operands,List.mem_map];exact ⟨p,hm,rfl⟩)) h).wp hr hK
 | buildSlice t len parts=>exact Uy hr hA hL hH (fun p hm=>hx p.2 (by simp only [Op.operands,List.mem_map];exact ⟨p,hm,rfl⟩)) h hK
 | load t x=>exact (Aeq hL hH (hx x (by simp [Op.operands])) hn h).wp hr hK
 | makeMap t hint =>
  cases hint with
  | none=>exact Ab7 hr hA h hK
  | some x=>simp [evOp] at h
 | insert t m k x=>exact Aew hr hA hL hH hst (hx m (by simp [Op.operands])) (hx k (by simp [Op.operands])) (hx x (by simp [Op.operands])) h hK
 | store t p x=>exact Aig hr hA hL hH hk hst (hx p (by simp [Op.operands])) (hx x (by simp [Op.operands])) hn h hK
 | nilCheck x=>exact (Q1 (hx x (by simp [Op.operands])) h).wp hr hK
 | binOp op t x y u=>exact (Aan (hx x (by simp [Op.operands])) (hx y (by simp [Op.operands])) hn h).wp hr hK
 | unOp op t x=>exact (Aep (hx x (by simp [Op.operands])) hn h).wp hr hK
 | convert s d x=>exact (S7 (hx x (by simp [Op.operands])) hn h).wp hr hK
 | fieldAddr t x f=>exact (Pf (hx x (by simp [Op.operands])) h).wp hr hK
 | field t x f=>exact (Aam (hx x (by simp [Op.operands])) h).wp hr hK
 | lookup t m k ok=>exact (Aex (hx m (by simp [Op.operands])) (hx k (by simp [Op.operands])) h).wp hr hK
 | index t x ix=>exact (Aao (hx x (by simp [Op.operands])) (hx ix (by simp [Op.operands])) hn h).wp hr hK
 | indexAddr t x ix=>exact (Pg hL hH (hx x (by simp [Op.operands])) (hx ix (by simp [Op.operands])) hn h).wp hr hK
 | slice t x lo hi mx=>exact (Aap hL hH (hx x (by simp [Op.operands])) (fun o ho=>hx o (by simp [Op.operands,ho])) (fun o ho=>hx o (by simp [Op.operands,ho])) (fun o ho=>hx o (by simp [Op.operands,ho])) hn h).wp hr hK
 | makeSlice t l c=>exact Wk hr hA (hx l (by simp [Op.operands])) (hx c (by simp [Op.operands])) hn h hK
 | call c =>
  obtain ⟨callee,args,ts⟩:=c
  cases callee with
  | value f =>
   simp only [evOp] at h
   split at h
   ·rename_i g xs ys hf
    have hfv:=hx f (by simp [Op.operands,Call.operands])
    rw [hf] at hfv
    obtain ⟨vs,h1,h2,h3⟩:=Tc (P:=P) (args:=args) hfv (fun x hm=>hx x (by simp only [Op.operands,Call.operands];simp [Array.mem_toList_iff.1 hm]))
    obtain ⟨⟨fn,g1,g2,g3⟩,hc⟩:=Ae0 (wn:=wn) hcx hr hA hL hH hn h2 h3 h
    refine Aal (w':=E.w) (f:=g) (args:=vs) (by rw [h1,Fc g1 g2 g3]) (hc.mono fun en w' hpost=>?_)
    obtain ⟨hgiv,v,E',rfl,rfl,hext,hv⟩:=hpost
    exact ⟨v,rfl,hK E' v hext hgiv hv⟩
   ·cases h
  | invoke _ _=>simp [evOp] at h
  | builtin b =>
   cases b with
   | len=>exact (Akg rfl hL hH (fun x hm=>hx x (by simp only [Op.operands,Call.operands];simpa using hm)) hn h).wp hr hK
   | cap=>exact (Am9 rfl (fun x hm=>hx x (by simp only [Op.operands,Call.operands];simpa using hm)) h).wp hr hK
   | min=>exact (Ana rfl (fun x hm=>hx x (by simp only [Op.operands,Call.operands];simpa using hm)) h).wp hr hK
   | max=>exact (Anb rfl (fun x hm=>hx x (by simp only [Op.operands,Call.operands];simpa using hm)) h).wp hr hK
   | append =>
    simp only [evOp] at h
    split at h
    ·rename_i dv sv t t' hargs hts
     split at h
     ·rename_i hteq
      have:=Nat.eq_of_beq_eq_true hteq
      subst this
      split at h
      ·rename_i elem hu
       obtain ⟨x,y,rfl,rfl,rfl⟩:=Fa hargs
       have ht2:=Uw hts
       subst ht2
       obtain ⟨v,w',h1,h2⟩:=Acb (dst:=dst) (ty:=ty) hn hr hA hL hH hk hst (hx x (by simp [Op.operands,Call.operands])) (hx y (by simp [Op.operands,Call.operands])) hu h hK
       exact Cb (by simp [execOp,Go.resolve,invoke,builtin,h1]) h2
      ·cases h
     ·obtain ⟨x,y,rfl,rfl,rfl⟩:=Fa hargs
      have ht2:=Uw hts
      subst ht2
      obtain ⟨v,w',h1,h2⟩:=Yr (dst:=dst) (ty:=ty) hn hr hA (hx x (by simp [Op.operands,Call.operands])) (hx y (by simp [Op.operands,Call.operands])) h hK
      exact Cb (by simp [execOp,Go.resolve,invoke,builtin,h1]) h2
    ·cases h
   | copy =>
    simp only [evOp] at h
    split at h
    ·rename_i id sv t t' hargs hts
     split at h
     ·rename_i hteq
      have:=Nat.eq_of_beq_eq_true hteq
      subst this
      split at h
      ·rename_i elem u xs t2 ys hu hob hcon
       split at h
       ·rename_i hk2
        split at h
        ·rename_i zs hcast
         obtain ⟨x,y,rfl,hxe,rfl⟩:=Fa hargs
         have ht2:=Uw hts
         subst ht2
         have hx1:=hx x (by simp [Op.operands,Call.operands])
         rw [hxe] at hx1
         obtain ⟨v,w',h1,h2⟩:=Aih (dst:=dst) (ty:=ty) hr hA hL hH hst hx1 (hx y (by simp [Op.operands,Call.operands])) hu hk2 hob hcon hcast (Option.some.inj h).symm hK
         exact Cb (by simp [execOp,Go.resolve,invoke,builtin,h1]) h2
        ·cases h
       ·cases h
      ·cases h
     ·cases h
    ·cases h
   | clear =>
    simp only [evOp] at h
    split at h
    ·rename_i id k lo len t hargs hts
     split at h
     ·rename_i elem u xs hu hob
      split at h
      ·rename_i z hz
       split at h
       ·rename_i hcond
        simp only [Bool.and_eq_true] at hcond
        split at h
        ·rename_i ps ids hd
         split at h
         ·rename_i y hy
          obtain ⟨x,rfl,hxe⟩:=Ca hargs
          have ht1:=Aic hts
          subst ht1
          have hx1:=hx x (by simp [Op.operands,Call.operands])
          rw [hxe] at hx1
          have hk':k=u.size:=Nat.eq_of_beq_eq_true hcond.2.1
          subst hk'
          obtain ⟨v,w',h1,h2⟩:=Aey (dst:=dst) (ty:=ty) hr hA hL hH hst hx1 hu hcond.1 hob hz hcond.2.2 hd hy (Option.some.inj h).symm hK
          exact Cb (by simp [execOp,Go.resolve,invoke,builtin,h1]) h2
         ·cases h
        ·cases h
       ·cases h
      ·cases h
     ·cases h
    ·cases h
   | _=>simp [evOp] at h
 | _=>simp [evOp] at h
end
end Go.Sx
namespace Go.Sx
open Go.RowKit
section
variable {P:Program} {cx:Ctx} {E E':Env} {a:Act} {H:List Ob} {n:Nat} {r:Res} {wn:Nat→Prop}
def Env.idle (E:Env) (w:World):Env:={ E with w:=w }
theorem Aas (hx:Ext E n r wn E') (hr:Ready E n r.news.length) (hk:r.kill=none) (hf:r.frz=[]) {b:Nat} (h:E'.Nb b):(E.idle E'.w).Nb b:=by
 refine ⟨h.1,fun id hW ho=>?_,by rw [show (E.idle E'.w).Hd=E'.Hd from (hx.evo 0).Hd.symm];exact h.2.2⟩
 have hl:E.L id:=hr.wl id hW
 have ha:E.A id:=hr.sub id hl
 have hW':E'.W id:=(hx.W id).2 (.inl ⟨hW,by rw [hk];simp,by rw [hf];simp⟩)
 have hl':E'.L id:=(hx.L id).2 (.inl ⟨hl,by rw [hk];simp⟩)
 exact h.2.1 id hW' ((hx.evo (id+1)).own (Nat.lt_succ_self id) ha hl' ho)
theorem U0 (hx:Ext E n r wn E') (hr:Ready E n r.news.length) (hk:r.kill=none) (hf:r.frz=[]) {b o:Nat} (h:E'.Fz b o):(E.idle E'.w).Fz b o:=by
 have hB:E'.B=E.B:=(hx.evo 0).B
 have hF:E'.F0=E.F0:=(hx.evo 0).F0
 rcases h with ⟨h1,h2⟩ | ⟨h1,h2⟩
 ·exact .inl ⟨hB ▸ h1,hF ▸ h2⟩
 ·exact .inr ⟨hB ▸ h1,Aas hx hr hk hf h2⟩
theorem Ae1 {q g:Option Prop} {v:AV} (hx:Ext E n r wn E') (hr:Ready E n r.news.length) (hA:∃ N,∀ id,E.A id→id < N) (hk:r.kill=none) (hst:r.st=none) (hf:r.frz=[]):Ext E n ⟨q,g,v,[],none,none,[]⟩ wn (E.idle E'.w):=by
 obtain ⟨N,hN⟩:=hA
 have evo:∀ n0,Evo n0 E (E.idle E'.w):=by
  intro n0
  have h0:=hx.evo 0
  refine ⟨rfl,rfl,rfl,h0.below,fun _ _ h=>h,fun _ _ _ h=>⟨h,rfl⟩,fun _ _ _ _ _ _ h=>h,fun b hb=>?_,rfl,h0.hh⟩
  obtain ⟨h1,h2⟩:=h0.hp b hb
  exact ⟨Aas hx hr hk hf h1,h2⟩
 refine ⟨evo, ?_, ?_, ?_,hr.injO, ?_,hr.hid, ?_, ?_, ?_, ?_⟩
 ·intro id;simp [Env.idle];omega
 ·intro id;simp [Env.idle];omega
 ·intro id;simp [Env.idle];omega
 ·intro id b hl ho
  obtain ⟨h1,h2⟩:=hr.ltO id b hl ho
  exact ⟨h1,Nat.lt_of_lt_of_le h2 (hx.evo 0).below.size⟩
 ·intro j ob h;simp at h
 ·intro id ob h;cases h
 ·intro id b hl ho _ _
  exact hx.keep id b hl ho (by rw [hk];simp) (by rw [hst];simp)
 ·intro id ob hl _ _ hok
  refine OkOb.mono (evo N) hN (hr.sub id hl) hl rfl (fun b ho=>hx.keep id b hl ho (by rw [hk];simp) (by rw [hst];simp)) hok
theorem I6 {news:List Ob}:∀ {l m:List AV},Pd n news l=some m→l.length=m.length∧∀ (i:Nat) x y,l[i]?=some x→m[i]?=some y→L0 n news x=some y
 | [],m,h=>by
  simp only [Pd,Option.some.injEq] at h
  subst h
  exact ⟨rfl,fun i x y hx=>by simp at hx⟩
 | x :: l,m,h=>by
  simp only [Pd] at h
  split at h
  ·rename_i y ys h1 h2
   cases h
   have ih:=I6 h2
   refine ⟨by simp [ih.1],fun i u v hu hv=>?_⟩
   match i,hu,hv with
   | 0,hu,hv=>cases hu;cases hv;exact h1
   | i+1,hu,hv=>exact ih.2 i u v (by simpa using hu) (by simpa using hv)
  ·cases h
theorem Aii (hx:Ext E n r wn E') (hr:Ready E n r.news.length) (hk:r.kill=none) (hf:r.frz=[]) {v:Value} {x:AV} (hv:RdA E' v x) :
 ∀ x',L0 n r.news x=some x'→RdA (E.idle E'.w) v x':=by
 have old:∀ id,¬ n≤id→E'.A id→E.A id:=fun id h ha=>((hx.A id).1 ha).resolve_right fun h'=>h h'.1
 have oldL:∀ id,E.L id→E'.L id∧E'.ρ id=E.ρ id:=fun id hl=>by
  have hl':E'.L id:=(hx.L id).2 (.inl ⟨hl,by rw [hk];simp⟩)
  exact ⟨hl',((hx.evo (id+1)).ids id (Nat.lt_succ_self id) (hr.sub id hl) hl').2⟩
 have toP:∀ {v p},RdP E'.w E'.Fz v p→RdP (E.idle E'.w).w (E.idle E'.w).Fz v p:=fun h=>h.monoF fun b o hb=>U0 hx hr hk hf hb
 induction hv with
 | any v=>intro x' h;cases h;exact .any _
 | int k m=>intro x' h;cases h;exact .int _ _
 | bool b=>intro x' h;cases h;exact .bool _
 | str s=>intro x' h;cases h;exact .str _
 | val v h1=>intro x' h;cases h;exact .val _ h1
 | nils b c=>intro x' h;cases h;exact .nils _ _
 | cap0 b=>intro x' h;cases h;exact .cap0 _
 | sl v t xs h1=>intro x' h;cases h;exact .sl _ _ _ (toP h1)
 | when v c s w x _ _ _=>intro x' h;cases h
 | fn f vs ws xs ys hv hw _ _ ih1 ih2 =>
  intro x' h
  simp only [L0] at h
  split at h
  ·rename_i a' b' ha hb
   cases h
   obtain ⟨la,ga⟩:=I6 ha
   obtain ⟨lb,gb⟩:=I6 hb
   refine .fn f vs ws a' b' (hv.trans la) (hw.trans lb) (fun i v x hv' hx=>?_) fun i v x hv' hx=>?_
   ·have hi:i < xs.length:=by rw [la];exact (List.getElem?_eq_some_iff.1 hx).1
    exact ih1 i v _ hv' (List.getElem?_eq_getElem hi) _ (ga i _ _ (List.getElem?_eq_getElem hi) hx)
   ·have hi:i < ys.length:=by rw [lb];exact (List.getElem?_eq_some_iff.1 hx).1
    exact ih2 i v _ hv' (List.getElem?_eq_getElem hi) _ (gb i _ _ (List.getElem?_eq_getElem hi) hx)
  ·cases h
 | ownp v id k lo m hA h1 hp=>intro x' h;cases h
 | ownc v id k lo m hA h1 hp=>intro x' h;cases h
 | csl v t id m hA h1 hp =>
  intro x' h
  simp only [L0] at h
  split at h
  ·cases h
  ·rename_i hle
   cases h
   have hle':¬ n≤id:=by simpa using hle
   refine .csl _ t id m (old id hle' hA) h1 fun hl=>?_
   obtain ⟨g1,g2⟩:=oldL id hl
   have:=hp g1
   rw [g2] at this
   exact this
 | dmp=>intro x' h;cases h
 | grow=>intro x' h;cases h
 | gptr=>intro x' h;cases h
 | slf t xs ba h1=>intro x' h;cases h;exact .slf t xs ba (toP h1)
 | yld v id hA h1 hp =>
  intro x' h
  simp only [L0] at h
  split at h
  ·cases h
  ·rename_i hle
   cases h
   have hle':¬ n≤id:=by simpa using hle
   refine .yld _ id (old id hle' hA) h1 fun hl=>?_
   obtain ⟨g1,g2⟩:=oldL id hl
   have:=hp g1
   rw [g2] at this
   exact this
 | eptr b o cs g hcell hrd =>
  intro x' h
  cases h
  exact .eptr b o cs g (fun j hj=>⟨U0 hx hr hk hf (hcell j hj).1,(hcell j hj).2⟩) (fun j p hp=>toP (hrd j p hp))
 | ptr v id off hA h1 hp =>
  intro x' h
  simp only [L0] at h
  split at h
  ·cases h
  ·rename_i hle
   cases h
   have hle':¬ n≤id:=by simpa using hle
   refine .ptr _ id off (old id hle' hA) h1 fun hl=>?_
   obtain ⟨g1,g2⟩:=oldL id hl
   have:=hp g1
   rw [g2] at this
   exact this
 | mp v id hA h1 hp =>
  intro x' h
  simp only [L0] at h
  split at h
  ·cases h
  ·rename_i hle
   cases h
   have hle':¬ n≤id:=by simpa using hle
   refine .mp _ id (old id hle' hA) h1 fun hl=>?_
   obtain ⟨g1,g2⟩:=oldL id hl
   have:=hp g1
   rw [g2] at this
   exact this
 | rptr v id k row off hA h1 hp =>
  intro x' h
  simp only [L0] at h
  split at h
  ·cases h
  ·rename_i hle
   cases h
   have hle':¬ n≤id:=by simpa using hle
   refine .rptr _ id k row off (old id hle' hA) h1 fun hl=>?_
   obtain ⟨g1,g2⟩:=oldL id hl
   have:=hp g1
   rw [g2] at this
   exact this
 | own v id hA h1 hp =>
  intro x' h
  simp only [L0] at h
  split at h
  ·rename_i hle
   have hle':n≤id:=by simpa using hle
   split at h
   ·rename_i t xs hob
    cases h
    have hlt:id - n < r.news.length:=by
     rcases Nat.lt_or_ge (id - n) r.news.length with h | h
     ·exact h
     ·exfalso
      have:Ac r.news (id - n)=.dead:=by
       unfold Ac
       rw [Bg,List.getElem?_eq_none h]
       rfl
      rw [this] at hob
      cases hob
    have hget:r.news[id - n]?=some (.rows t xs):=by
     rw [← hob]
     exact Ck hlt
    have hl':E'.L id:=(hx.L id).2 (.inr ⟨hle',by omega⟩)
    have hok:=hx.new (id - n) _ hget
    rw [show n+(id - n)=id by omega] at hok
    have hrow:RowsAt E' t xs (E'.ρ id):=hok
    have hd:=Oe (ids:=[id]) hrow hl' (hp hl') (by simp)
    refine .sl _ _ _ (hd.monoF fun b o hb=>?_)
    rcases hb with hb | ⟨id2,hid2,hl2,ho2⟩
    ·exact U0 hx hr hk hf hb
    ·simp only [List.mem_singleton] at hid2
     subst hid2
     have hlt2:=hx.ltO id2 b hl2 ho2
     refine .inr ⟨(hx.evo 0).B ▸ hlt2.1,hlt2.2,fun id3 hW3 ho3=>?_,by rw [show (E.idle E'.w).Hd=E'.Hd from (hx.evo 0).Hd.symm];exact hx.hid id2 b hl2 ho2⟩
     have hl3:E.L id3:=hr.wl id3 hW3
     obtain ⟨g1,g2⟩:=oldL id3 hl3
     have e:=hx.injO id3 id2 b g1 hl2 ((hx.evo (id3+1)).own (Nat.lt_succ_self id3) (hr.sub id3 hl3) g1 ho3) ho2
     subst e
     exact hr.fresh id3 hle' (by omega) (hr.sub id3 hl3)
   ·cases h
  ·rename_i hle
   cases h
   have hle':¬ n≤id:=by simpa using hle
   refine .own _ id (old id hle' hA) h1 fun hl=>?_
   obtain ⟨g1,g2⟩:=oldL id hl
   have:=hp g1
   rw [g2] at this
   exact this
 | agg vs xs hv h1 _ ih =>
  intro x' h
  simp only [L0,Option.map_eq_some_iff] at h
  obtain ⟨ys,h2,rfl⟩:=h
  have hg:=I6 h2
  refine .agg vs ys (by rw [hv,hg.1]) h1 fun i u y hu hy=>?_
  have hlt:i < xs.length:=by rw [hg.1];exact (List.getElem?_eq_some_iff.1 hy).1
  exact ih i u _ hu (List.getElem?_eq_getElem hlt) y (hg.2 i _ y (List.getElem?_eq_getElem hlt) hy)
 | tup vs xs hv _ ih =>
  intro x' h
  simp only [L0,Option.map_eq_some_iff] at h
  obtain ⟨ys,h2,rfl⟩:=h
  have hg:=I6 h2
  refine .tup vs ys (by rw [hv,hg.1]) fun i u y hu hy=>?_
  have hlt:i < xs.length:=by rw [hg.1];exact (List.getElem?_eq_some_iff.1 hy).1
  exact ih i u _ hu (List.getElem?_eq_getElem hlt) y (hg.2 i _ y (List.getElem?_eq_getElem hlt) hy)
end
end Go.Sx
namespace Go.Sx
open Go.RowKit
def Ob.wr:Ob→Prop
 | .cells _=>True
 | .rows _ _=>True
 | .fmap _=>True
 | .grid _ _ _=>True
 | .loop _ _ _ _ _ _=>True
 | _=>False
def Ph (id:Nat):AV→Prop
 | .own i=>i=id
 | .ptr i _=>i=id
 | .rptr i _ _ _=>i=id
 | .ownp i _ _ _=>i=id
 | .mp i=>i=id
 | .gptr i _ _=>i=id
 | .grow i _=>i=id
 | .ownc i _ _ _=>i=id
 | _=>False
section
variable {P:Program} {cx:Ctx} {e:Operand→AV} {H:List Ob} {n:Nat} {r:Res}
def calm (r:Res):Prop:=r.kill=none∧r.st=none
theorem Yv {op:BinOp} {k:IntKind} {p q:Int} (h:Qt op k p q=some r):calm r:=by
 unfold Qt at h
 split at h <;> first | (cases h;exact ⟨rfl,rfl⟩) | cases h
theorem Acd {q:Bool} {x y:AV} (h:Qu q x y=some r):calm r:=by
 unfold Qu at h
 repeat' split at h
 all_goals first | (cases h;exact ⟨rfl,rfl⟩) | cases h
theorem Wn {o:Option AV} (h:o.map Res.pure=some r):calm r:=by
 simp only [Option.map_eq_some_iff] at h
 obtain ⟨v,_,rfl⟩:=h
 exact ⟨rfl,rfl⟩
theorem Yw {g:FuncId} {args:List AV} (h:Pc cx H n g args=some r):calm r:=by
 unfold Pc at h
 repeat' split at h
 all_goals first | (cases h;exact ⟨rfl,rfl⟩) | cases h
theorem Ace {elem:TypeId} {x y:AV} (h:Jk P H n elem x y=some r):(∀ p,r.st=some p→Ph p.1 x∧(Ac H p.1).wr)∧∀ id,r.kill=some id→Ph id x∧∃ t xs,Ac H id=.rows t xs:=by
 unfold Jk at h
 split at h
 ·unfold My at h
  repeat' split at h
  all_goals first
   | cases h;done
   | (cases h;refine ⟨fun p hp=>?_,fun id hid=>(by cases hid)⟩;cases hp;exact ⟨rfl,by simp [*,Ob.wr]⟩)
 split at h
 ·unfold P6 at h
  repeat' split at h
  all_goals first
   | cases h;done
   | (cases h;refine ⟨fun p hp=>?_,fun id hid=>(by cases hid)⟩;cases hp;exact ⟨rfl,by simp [*,Ob.wr]⟩)
 ·unfold P7 at h
  repeat' split at h
  all_goals first
   | cases h;done
   | (cases h;exact ⟨fun p hp=>(by cases hp),fun id hid=>(by cases hid)⟩)
 ·unfold Kf at h
  repeat' split at h
  all_goals first
   | cases h;done
   | (cases h;refine ⟨fun p hp=>(by cases hp),fun id hid=>?_⟩;cases hid;done)
   | (cases h;refine ⟨fun p hp=>(by cases hp),fun id hid=>?_⟩;cases hid;exact ⟨rfl,_,_,‹_›⟩)
def Akh (o:Oper) (e:Operand→AV) (H:List Ob) (r:Res):Prop :=
 (∀ id,r.kill=some id→(∃ x∈o.op.operands.toList,Ph id (e x))∧∃ t xs,Ac H id=.rows t xs) ∧
   ∀ p,r.st=some p→(∃ x∈o.op.operands.toList,Ph p.1 (e x))∧(Ac H p.1).wr
theorem calm.turns {o:Oper} (h:calm r):Akh o e H r :=
 ⟨fun id hid=>(by rw [h.1] at hid;cases hid),fun p hp=>(by rw [h.2] at hp;cases hp)⟩
theorem Sr {x:AV} {id:Nat} {ob:Ob} (h:M0 H x=some (id,ob)):Ph id x∧∃ t xs,Ac H id=.rows t xs:=by
 unfold M0 at h
 split at h
 ·split at h
  ·rename_i hob
   split at h
   ·cases h
    exact ⟨rfl,_,_,hob⟩
   ·cases h
  ·cases h
 ·cases h
theorem Jq {o:Oper} (h:evOp cx P e H n o=some r):Akh o e H r:=by
 obtain ⟨dst,op,ty,pos,after,guard⟩:=o
 cases op with
 | store t p x =>
  simp only [evOp] at h
  split at h
  ·cases h
  ·split at h
   ·split at h
    ·cases h
    ·split at h
     ·rename_i id off hp
      split at h
      ·rename_i cs hob
       split at h
       ·split at h
        ·rename_i id2 ob hpr
         cases h
         obtain ⟨hn2,hob2⟩:=Sr hpr
         refine ⟨fun id hid=>?_,fun q hq=>?_⟩
         ·cases hid
          exact ⟨⟨x,by simp [Op.operands],hn2⟩,hob2⟩
         ·cases hq
          exact ⟨⟨p,by simp [Op.operands],by rw [hp];rfl⟩,by rw [hob];trivial⟩
        ·cases h
         refine ⟨fun id hid=>(by cases hid),fun q hq=>?_⟩
         cases hq
         exact ⟨⟨p,by simp [Op.operands],by rw [hp];rfl⟩,by rw [hob];trivial⟩
       ·cases h
      ·cases h
     ·rename_i id k row off hp
      split at h
      ·rename_i t' xs hob
       repeat' split at h
       all_goals first
        | cases h;done
        | (cases h
           refine ⟨fun id hid=>(by cases hid),fun q hq=>?_⟩
           cases hq
           exact ⟨⟨p,by simp [Op.operands],by rw [hp];rfl⟩,by rw [hob];trivial⟩)
      ·rename_i gt m xss hob
       split at h
       ·split at h
        ·rename_i j hvx
         split at h
         ·rename_i t' xs hobj
          split at h
          ·cases h
           refine ⟨fun id hid=>?_,fun q hq=>?_⟩
           ·cases hid
            exact ⟨⟨x,by simp [Op.operands],by rw [hvx];rfl⟩,_,_,hobj⟩
           ·cases hq
            exact ⟨⟨p,by simp [Op.operands],by rw [hp];rfl⟩,by rw [hob];trivial⟩
          ·cases h
         ·cases h
        ·cases h
       ·cases h
      ·cases h
     ·rename_i id gi gj hp
      split at h
      ·rename_i gt m xss hob
       repeat' split at h
       all_goals first
        | cases h;done
        | (cases h
           refine ⟨fun id hid=>(by cases hid),fun q hq=>?_⟩
           cases hq
           exact ⟨⟨p,by simp [Op.operands],by rw [hp];rfl⟩,by rw [hob];trivial⟩)
      ·cases h
     ·cases h
   ·cases h
 | makeMap t hint =>
  cases hint with
  | none=>cases h;exact calm.turns ⟨rfl,rfl⟩
  | some x=>simp [evOp] at h
 | insert t m k x =>
  simp only [evOp] at h
  repeat' split at h
  all_goals first
   | cases h;done
   | (cases h
      refine ⟨fun id hid=>(by cases hid),fun q hq=>?_⟩
      cases hq
      exact ⟨⟨m,by simp [Op.operands],by simp [*,Ph]⟩,by simp [*,Ob.wr]⟩)
 | call c =>
  obtain ⟨callee,args,ts⟩:=c
  cases callee with
  | value f =>
   simp only [evOp] at h
   split at h
   ·exact (Yw h).turns
   ·cases h
  | invoke _ _=>simp [evOp] at h
  | builtin b =>
   cases b with
   | append =>
    simp only [evOp] at h
    split at h
    ·rename_i dv sv t t' hargs hts
     obtain ⟨x,y,rfl,hx,rfl⟩:=Fa hargs
     split at h
     ·split at h
      ·obtain ⟨g1,g2⟩:=Ace h
       refine ⟨fun id hid=>?_,fun p hp=>⟨⟨x,by simp [Op.operands,Call.operands],by rw [hx];exact (g1 p hp).1⟩,(g1 p hp).2⟩⟩
       obtain ⟨g3,g4⟩:=g2 id hid
       exact ⟨⟨x,by simp [Op.operands,Call.operands],by rw [hx];exact g3⟩,g4⟩
      ·cases h
     ·unfold Mz at h
      repeat' split at h
      all_goals first
       | cases h;done
       | (cases h;exact calm.turns ⟨rfl,rfl⟩)
    ·cases h
   | copy =>
    simp only [evOp] at h
    split at h
    ·rename_i id sv t t' hargs hts
     obtain ⟨x,y,rfl,hx,rfl⟩:=Fa hargs
     repeat' split at h
     all_goals first
      | cases h;done
      | (cases h
         refine ⟨fun id hid=>(by cases hid),fun q hq=>?_⟩
         cases hq
         exact ⟨⟨x,by simp [Op.operands,Call.operands],by rw [hx];rfl⟩,by simp [*,Ob.wr]⟩)
    ·cases h
   | clear =>
    simp only [evOp] at h
    split at h
    ·rename_i id k lo len t hargs hts
     obtain ⟨x,rfl,hx⟩:=Ca hargs
     repeat' split at h
     all_goals first
      | cases h;done
      | (cases h
         refine ⟨fun id hid=>(by cases hid),fun q hq=>?_⟩
         cases hq
         exact ⟨⟨x,by simp [Op.operands,Call.operands],by rw [hx];rfl⟩,by simp [*,Ob.wr]⟩)
    ·cases h
   | _ =>
    simp only [evOp] at h
    repeat' split at h
    all_goals first
     | cases h;done
     | (cases h;exact calm.turns ⟨rfl,rfl⟩)
 | binOp op t x y u =>
  simp only [evOp] at h
  repeat' split at h
  all_goals first
   | cases h;done
   | exact (Yv h).turns
   | (cases h;exact calm.turns ⟨rfl,rfl⟩)
   | (unfold S2 at h
      split at h <;> first
       | (cases h;exact calm.turns ⟨rfl,rfl⟩)
       | cases h)
 | pick c x y =>
  simp only [evOp] at h
  repeat' split at h
  all_goals first
   | cases h;done
   | exact (Acd h).turns
 | load t x =>
  simp only [evOp] at h
  repeat' split at h
  all_goals first
   | cases h;done
   | exact (Wn h).turns
   | (cases h;exact calm.turns ⟨rfl,rfl⟩)
 | field t x f =>
  simp only [evOp] at h
  repeat' split at h
  all_goals first
   | cases h;done
   | exact (Wn h).turns
 | _ =>
  simp only [evOp] at h
  repeat' split at h
  all_goals first
   | cases h;done
   | (cases h;exact calm.turns ⟨rfl,rfl⟩)
end
end Go.Sx
namespace Go.Sx
open Go.RowKit
def Hs (sl:List AV):Prop:=∀ (t:Nat) c s w v,sl[t]?=some (.when c s w v)→E9 sl s w=some c∧∀ c' s' w' v',v≠.when c' s' w' v'
structure StPre (P:Program) (cx:Ctx) (E:Env) (a:Act) (dr:Bool) (ops:List Oper) (o:Oper) (sl:List AV) (H:List Ob) (n:Nat) (r:Res):Prop where
 cx:Ah P cx
 ready:∀ m,(dr=false∨m≤r.news.length)→Ready E n m
 fin:∃ N,∀ id,E.A id→id < N
 live:∀ id,E.A id→Ac H id≠.dead→E.L id
 ok:∀ id,E.L id→Ac H id≠.dead→OkOb E id (Ac H id)
 wr:∀ id,(r.kill=some id∨∃ ob,r.st=some (id,ob))→E.A id→(Ac H id).wr→E.W id
 rd:∀ t∈C2 ops o,RdA E (a.eval (.tmp t)) (Am .any sl t)
 stat:Hs sl
 need:A4 r.need
section
variable {P:Program} {cx:Ctx} {E:Env} {a:Act} {dr:Bool} {ops:List Oper} {opsA:Array Oper} {o:Oper} {sl:List AV} {H:List Ob} {n:Nat} {r:Res}
 {wn:Nat→Prop} {K:Act→World→Prop} {Q:Exit→Act→World→Prop} {ro:Option Nat}
theorem Aki (hrd:∀ t,Operand.tmp t∈o.op.operands.toList→RdA E (a.eval (.tmp t)) (Am .any sl t)):∀ x∈o.op.operands.toList,RdA E (a.eval x) (ev sl x):=by
 intro x hx
 cases x with
 | tmp t=>exact hrd t hx
 | const v=>exact Hq v
 | global g=>exact .any _
 | func f=>exact .fn _ _ _ _ _ rfl rfl (fun i v x hv _=>by simp at hv) (fun i v x hv _=>by simp at hv)
theorem I7 {t:Nat} (h:Operand.tmp t∈o.op.operands.toList):t∈C2 ops o:=by
 unfold C2
 refine List.mem_append_left _ (List.mem_filterMap.2 ⟨_,h,rfl⟩)
theorem Qe {x:Operand} {c:Prop} {s:Nat} {w:Bool} {v:AV} (h:ev sl x=.when c s w v):∃ t,x=.tmp t∧sl[t]?=some (.when c s w v):=by
 cases x with
 | tmp t =>
  refine ⟨t,rfl, ?_⟩
  simp only [ev,Bg] at h
  cases hg:sl[t]? with
  | none=>rw [hg] at h;cases h
  | some y=>rw [hg] at h;simp only [Option.getD_some] at h;rw [h]
 | const v =>
  simp only [ev] at h
  cases v with
  | agg cs =>
   simp only [H8] at h
   split at h <;> cases h
  | slice b l c =>
   simp only [H8,Dx] at h
   split at h <;> cases h
  | _=>cases h
 | global g=>cases h
 | func f=>cases h
theorem Lh {s:Nat} {w:Bool} {c:Prop} (h:E9 sl s w=some c) (hs:RdA E (a.eval (.tmp s)) (Am .any sl s)):a.eval (.tmp s)=.bool w↔c:=by
 unfold E9 at h
 generalize a.eval (.tmp s)=v at hs
 split at h
 ·rename_i e he
  cases h
  rw [he] at hs
  rw [hs.bool_inv]
  simp
 ·rename_i cc _ _ e he
  cases h
  rw [he] at hs
  obtain ⟨h1,h2⟩:=hs.when_inv
  constructor
  ·intro hv
   by_cases hc:cc
   ·have:=(h1 hc).bool_inv
    rw [hv] at this
    simp only [Value.bool.injEq] at this
    exact ⟨hc,this.symm⟩
   ·have:=h2 hc
    rw [hv] at this
    cases this
  ·rintro ⟨hc,rfl⟩
   exact (h1 hc).bool_inv
 ·cases h
theorem Fd {v:Value} {x:AV} (h:RdA E v x):RdA E v (noW x):=by
 cases x <;> first | exact h | exact .any _
theorem G1 (x:AV):∀ c s w v,noW x≠.when c s w v:=by
 intro c s w v h
 cases x <;> cases h
theorem Q7 {j s:Nat} (h:He opsA.toList j=some s):(opsA[j]?).bind (·.dst)=some s:=by
 unfold He at h
 rw [Array.getElem?_toList] at h
 cases hj:opsA[j]? with
 | none=>rw [hj] at h;cases h
 | some o'=>rw [hj] at h;simpa using h
theorem Q8 {j s:Nat} {w:Bool} (hg:o.guard=some (j,w)) (hs:He opsA.toList j=some s):Region.wanted o (yielded opsA a.tmps)=true↔a.eval (.tmp s)=.bool w:=by
 simp only [Region.wanted,hg,yielded,Q7 hs,Option.bind_some,Act.eval,Array.getD_eq_getD_getElem?]
 cases ht:a.tmps[s]? with
 | none=>simp [undef]
 | some v=>cases v <;> simp
theorem Q9 {c:Prop} {q:Option Prop}:A4 (q.map (fun q=>c→q))↔(c→A4 q):=by
 cases q <;> simp [A4]
theorem Qf {v:Value} {x:AV} {id:Nat} (h:RdA E v x) (hn:Ph id x):E.A id:=by
 cases x <;> simp only [Ph] at hn
 ·subst hn;exact h.ptr_inv.1
 ·subst hn;exact h.rptr_inv.1
 ·subst hn;exact h.own_inv.1
 ·subst hn;exact h.ownp_inv.1
 ·subst hn;exact h.mp_inv.1
 ·subst hn;exact h.grow_inv.1
 ·subst hn;exact h.gptr_inv.1
 ·subst hn;exact h.ownc_inv.1
theorem Ra (hp:StPre P cx E a dr opsA.toList o sl H n r) (h:D2 cx P dr opsA.toList o sl H n=some r)
 (hK:∀ E' v,Ext E n r wn E'→A4 r.given→RdA E' v r.val→K (a.put o.dst v) E'.w) :
 (Region.wanted o (yielded opsA a.tmps)=true∧o.wpI ro P a E.w K Q)∨(Region.wanted o (yielded opsA a.tmps)=false∧K (a.put o.dst undef) E.w):=by
 obtain ⟨hcx,hready,hA,hL,hH,hwr,hrd,hstat,hneed⟩:=hp
 have hrd':∀ x∈o.op.operands.toList,RdA E (a.eval x) (ev sl x):=Aki fun t ht=>hrd t (I7 ht)
 have hwh:∀ x,∀ c s w v,Operand.tmp s∈o.op.operands.toList→ev sl x=.when c s w v→a.eval (.tmp s)=.bool w→c:=by
  intro x c s w v hs hx hv
  obtain ⟨t,rfl,ht⟩:=Qe hx
  exact (Lh (hstat t c s w v ht).1 (hrd s (I7 hs))).1 hv
 unfold D2 at h
 split at h
 ·rename_i hg
  left
  refine ⟨by simp [Region.wanted,hg], ?_⟩
  split at h
  ·rename_i q g v news kill st frz hev
   cases h
   have hturn:=Jq hev
   refine Q6 (wn:=wn) (r:=⟨q,g,v,news,kill,st,frz⟩) ⟨hcx,hready _ (.inr (Nat.le_refl _)),hA,hL,hH,fun id hid=>?_,fun p hp=>?_,hrd',fun x _=>hwh x,hneed⟩ hev fun E' v' hx hgiv hv'=>?_
   ·obtain ⟨⟨x,hx,hn⟩,t,xs,hob⟩:=hturn.1 id hid
    exact hwr id (.inl hid) (Qf (hrd' x hx) hn) (by rw [hob];trivial)
   ·obtain ⟨⟨x,hx,hn⟩,hob⟩:=hturn.2 p hp
    exact hwr p.1 (.inr ⟨p.2,hp⟩) (Qf (hrd' x hx) hn) hob
   ·refine hK E' v' ⟨hx.evo,hx.L,hx.W,hx.A,hx.injO,hx.ltO,hx.hid,hx.new,hx.st,hx.keep,hx.old⟩ hgiv (Fd hv')
  ·cases h
 ·rename_i j w hg
  split at h
  ·cases h
  ·rename_i s hs
   split at h
   ·cases h
   ·rename_i c hc
    have hlook:s∈C2 opsA.toList o:=by
     unfold C2
     refine List.mem_append_right _ ?_
     simp [hg,hs]
    have hcond:=Lh hc (hrd s hlook)
    have hw:=Q8 (a:=a) hg hs
    split at h
    ·rename_i q g v news hev
     split at h
     ·cases h
     ·rename_i hdr
      split at h
      ·rename_i v' has
       cases h
       by_cases hcc:c
       ·left
        have hsv:=hcond.2 hcc
        refine ⟨hw.2 hsv, ?_⟩
        have hr:Ready E n news.length:=by
         cases dr with
         | false=>exact hready _ (.inl rfl)
         | true =>
          simp only [Bool.true_and,Bool.not_eq_true,Bool.not_eq_false'] at hdr
          have:news=[]:=by simpa using hdr
          subst this
          exact hready _ (.inr (Nat.le_refl _))
        refine Q6 (wn:=wn) (r:=⟨q,g,v,news,none,none,[]⟩) ⟨hcx,hr,hA,hL,hH,fun id hid=>(by cases hid),fun p hp=>(by cases hp),fun x hx=>?_,fun x hx c' s' w' v'' hs' hx' hv'=>?_, ?_⟩ hev fun E' u hx hgiv hu=>?_
        ·refine K9 (hrd' x hx) (fun c' w' v'' hx' hv'=>?_) hsv
         obtain ⟨t,rfl,ht⟩:=Qe hx'
         exact (Lh (hstat t c' s w' v'' ht).1 (hrd s hlook)).1 hv'
        ·cases hx2:ev sl x with
         | when c2 s2 w2 v2 =>
          rw [hx2] at hx'
          simp only [Ji] at hx'
          split at hx'
          ·obtain ⟨t,rfl,ht⟩:=Qe hx2
           exact absurd hx' ((hstat t c2 s2 w2 v2 ht).2 c' s' w' v'')
          ·cases hx'
           exact hwh x c' s' w' v'' hs' hx2 hv'
         | _=>rw [hx2] at hx';cases hx'
        ·exact Q9.1 hneed hcc
        ·exact hK (E.idle E'.w) u (Ae1 hx hr hA rfl rfl rfl) (Q9.2 fun _=>hgiv) (.when _ _ _ _ _ (fun _=>Aii hx hr rfl rfl (Fd hu) _ has) (fun hn=>absurd hcc hn))
       ·right
        refine ⟨by rw [Bool.eq_false_iff];exact fun h=>hcc (hcond.1 (hw.1 h)), ?_⟩
        exact hK E undef (Ext.idle (hready 0 (.inr (Nat.zero_le _))) rfl rfl rfl rfl) (Q9.2 fun h=>absurd h hcc) (.when _ _ _ _ _ (fun h=>absurd h hcc) (fun _=>rfl))
      ·cases h
    ·cases h
end
end Go.Sx
