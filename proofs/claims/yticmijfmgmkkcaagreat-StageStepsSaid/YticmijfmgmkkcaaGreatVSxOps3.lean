import Derived.Test.YticmijfmgmkkcaaGreatVSxOps2
set_option linter.unusedSimpArgs false
set_option linter.unusedVariables false
set_option maxRecDepth 100000
namespace Go.Sx
open Go.RowKit
section
variable {P:Program} {cx:Ctx} {E:Env} {a:Act} {e:Operand→AV} {H:List Ob} {n:Nat} {r:Res}
 {dst:Option Tmp} {ty:TypeId} {pos:String} {after:Array Go.Edge} {guard:Option (Nat × Bool)}
theorem CellsAt.of_box {id:Nat} {cs:List AV} (h:OkOb E id (.cells cs)):∃ hd,E.ρ id=some hd∧CellsAt E hd.blk 0 cs:=by
 obtain ⟨hd,h1,arr,el,h2,h3,h4⟩:=h
 refine ⟨hd,h1,fun j x hx=>?_⟩
 have hj:j < arr.size:=by rw [h3];exact (List.getElem?_eq_some_iff.1 hx).1
 have hv:arr[j]?=some arr[j]:=Array.getElem?_eq_getElem hj
 refine ⟨arr[j], ?_,h4 j _ x hv hx⟩
 simp [World.cell?,h2,hv]
theorem flat_length (t:Ty) (xs:List t.den):(flat t xs).length=xs.length * t.size:=by
 unfold flat
 induction xs with
 | nil=>simp
 | cons x l ih=>simp [enc_length,ih,Nat.add_mul,Nat.add_comm]
theorem flat_append (t:Ty) (xs ys:List t.den):flat t (xs++ys)=flat t xs++flat t ys:=by simp [flat]
theorem flat_drop (t:Ty):∀ (xs:List t.den) (m:Nat),flat t (xs.drop m)=(flat t xs).drop (m * t.size)
 | [],m=>by simp [flat]
 | x :: l,0=>by simp
 | x :: l,m+1=>by
  have h1:flat t (x :: l)=enc t x++flat t l:=by simp [flat]
  rw [h1,List.drop_succ_cons,flat_drop t l m,Nat.add_mul,Nat.one_mul,Nat.add_comm,← List.drop_drop,List.drop_left' (enc_length t x)]
theorem flat_take (t:Ty):∀ (xs:List t.den) (m:Nat),flat t (xs.take m)=(flat t xs).take (m * t.size)
 | [],m=>by simp [flat]
 | x :: l,0=>by simp [flat]
 | x :: l,m+1=>by
  have h1:flat t (x :: l)=enc t x++flat t l:=by simp [flat]
  have h2:flat t (x :: l.take m)=enc t x++flat t (l.take m):=by simp [flat]
  rw [h1,List.take_succ_cons,h2,flat_take t l m,Nat.add_mul,Nat.one_mul,List.take_append,List.take_of_length_le (l:=enc t x) (by rw [enc_length];omega),enc_length,
   Nat.add_sub_cancel]
theorem flat_get (t:Ty) (xs:List t.den) (i:Nat) (hi:i < xs.length) (d:t.den):∀ j p,(enc t (xs.getD i d))[j]?=some p→(flat t xs)[i * t.size+j]?=some p:=by
 intro j p hp
 have h1:=flat_drop t xs i
 have h2:xs.drop i=xs[i] :: xs.drop (i+1):=List.drop_eq_getElem_cons hi
 have h3:xs.getD i d=xs[i]:=by simp [List.getD,hi]
 rw [h3] at hp
 have h4:((flat t xs).drop (i * t.size))[j]?=some p:=by
  rw [← h1,h2]
  have:flat t (xs[i] :: xs.drop (i+1))=enc t xs[i]++flat t (xs.drop (i+1)):=by simp only [flat,List.flatMap_cons]
  rw [this,List.getElem?_append_left (by exact (List.getElem?_eq_some_iff.1 hp).1)]
  exact hp
 rw [List.getElem?_drop] at h4
 exact h4
theorem CellsAt.of_row {t:Ty} {xs:List t.den} {hd:Hdr} (h:RowsAt E t xs (some hd)) {i:Nat} (hi:i < hd.len) :
 CellsAt E hd.blk (hd.off+i * t.size) ((enc t (xs.getD i (dflt t))).map up):=by
 obtain ⟨h1,h2,h3,h3',arr,el,h4,h5,h6⟩:=h
 intro j x hx
 simp only [List.getElem?_map,Option.map_eq_some_iff] at hx
 obtain ⟨p,hp,rfl⟩:=hx
 obtain ⟨v,hv,hr⟩:=h6 _ p (flat_get t xs i (by omega) (dflt t) j p hp)
 refine ⟨v, ?_,hr.one,.up hr⟩
 simp only [World.cell?,h4]
 simpa [Nat.add_assoc] using hv
theorem s_load {t:TypeId} {x:Operand} (hL:∀ id,E.A id→getOb H id≠.dead→E.L id) (hH:∀ id,E.L id→getOb H id≠.dead→OkOb E id (getOb H id)) (hx:RdA E (a.eval x) (e x)) (hn:OptP r.need)
 (h:evOp cx P e H n ⟨dst,.load t x,ty,pos,after,guard⟩=some r):PureRun P E a ⟨dst,.load t x,ty,pos,after,guard⟩ r:=by
 have fin:∀ (b o off:Nat) (cs:List AV),a.eval x=.pointer (some ⟨b,o+off,none⟩)→CellsAt E b o cs→(readAt P t cs off).map Res.pure=some r→PureRun P E a ⟨dst,.load t x,ty,pos,after,guard⟩ r:=by
  intro b o off cs hv hc hr
  simp only [Option.map_eq_some_iff] at hr
  obtain ⟨y,hy,rfl⟩:=hr
  obtain ⟨v,h1,h2⟩:=run_readAt (P:=P) hc hy
  exact ⟨rfl,rfl,rfl,rfl,v,by simp [execOp,hv,Instr.loadAt,Instr.sureAddr,h1],h2,trivial⟩
 have row:∀ (id k row off:Nat) (t':Ty) (xs:List t'.den),RowsAt E t' xs (E.ρ id)→E.L id→RdA E (a.eval x) (.rptr id k row off) →
  (if Nat.beq k t'.size then (readAt P t ((enc t' (xs.getD row (dflt t'))).map up) off).map Res.pure else none)=some r→PureRun P E a ⟨dst,.load t x,ty,pos,after,guard⟩ r:=by
  intro id k row off t' xs hrow hl hx h
  split at h
  ·rename_i hk
   have hk':=Nat.eq_of_beq_eq_true hk
   subst hk'
   generalize hval:a.eval x=val at hx
   obtain ⟨hA,h1,hp⟩:=hx.rptr_inv
   obtain ⟨hd,h2,h3,h4⟩:=hp hl
   rw [h2] at hrow
   exact fin _ _ _ _ (hval.trans h4) (.of_row hrow h3) h
  ·cases h
 simp only [evOp] at h
 split at h
 ·rename_i id off hv
  rw [hv] at hx
  split at h
  ·rename_i cs hob
   generalize hval:a.eval x=val at hx
   obtain ⟨hA,h1,hp⟩:=hx.ptr_inv
   have hne:getOb H id≠.dead:=by rw [hob];simp
   have hl:=hL id hA hne
   obtain ⟨hd,h2,h3⟩:=hp hl
   have hok:=hH id hl hne
   rw [hob] at hok
   obtain ⟨hd',h4,h5⟩:=CellsAt.of_box hok
   rw [h2] at h4
   cases h4
   exact fin _ 0 off cs (by rw [hval,h3,Nat.zero_add]) h5 h
  ·cases h
 ·rename_i id k row' off hv
  rw [hv] at hx
  have hA:E.A id:=hx.rptr_inv.1
  split at h
  ·rename_i t' xs hob
   have hne:getOb H id≠.dead:=by rw [hob];simp
   have hl:=hL id hA hne
   have hok:=hH id hl hne
   rw [hob] at hok
   exact row id k row' off t' xs hok hl hx h
  ·rename_i t' xs hob
   have hne:getOb H id≠.dead:=by rw [hob];simp
   have hl:=hL id hA hne
   have hok:=hH id hl hne
   rw [hob] at hok
   exact row id k row' off t' xs hok hl hx h
  ·rename_i gt m xss hob
   split at h
   ·rename_i hc
    have h0:=(Option.some.inj h).symm
    subst h0
    simp only [Bool.and_eq_true] at hc
    obtain ⟨hk,ho,hsl⟩:=hc
    have hk':=Nat.eq_of_beq_eq_true hk
    have ho':=Nat.eq_of_beq_eq_true ho
    subst hk';subst ho'
    have hne:getOb H id≠.dead:=by rw [hob];simp
    have hl:=hL id hA hne
    have hok:=hH id hl hne
    rw [hob] at hok
    obtain ⟨hd,hρ,hg⟩:=hok
    obtain ⟨hd',hρ',hlt,hval⟩:=hx.rptr_inv.2.2 hl
    rw [hρ] at hρ';cases hρ'
    obtain ⟨arr,el,g1,g2,g3,g4⟩:=hg.head
    obtain ⟨o,v,k1,k2,k3⟩:=g3 row' hn
    have hone:v.oneCell'=true:=by
     cases o with
     | none=>obtain ⟨ba,rfl⟩:=k3;rfl
     | some h'=>have:v=.slice (some ⟨h'.blk,h'.off,none⟩) h'.len h'.cap:=k3;rw [this];rfl
    have hca:CellsAt E hd.blk (hd.off+row') [.grow id row']:=by
     intro j x hx
     match j,hx with
     | 0,hx =>
      cases hx
      exact ⟨v,by simp [World.cell?,g1,k2],hone,.grow v id row' hA hone fun _=>⟨o,k1,k3⟩⟩
    have hread:readAt P t [.grow id row'] 0=some (.grow id row'):=by
     unfold isSliceT at hsl
     split at hsl
     ·rename_i e1 hu
      obtain ⟨i,hi⟩:=Option.isSome_iff_exists.1 hsl
      unfold readAt
      rw [hu,hi]
      rfl
     ·cases hsl
    obtain ⟨u,h1,h2⟩:=run_readAt (P:=P) hca hread
    rw [Nat.mul_one,Nat.add_zero] at hval
    rw [Nat.add_zero] at h1
    exact ⟨rfl,rfl,rfl,rfl,u,by simp [execOp,hval,Instr.loadAt,Instr.sureAddr,h1],h2,trivial⟩
   ·cases h
  ·cases h
 ·rename_i id gi gj hv
  rw [hv] at hx
  have hA:E.A id:=hx.gptr_inv.1
  split at h
  ·rename_i gt m xss hob
   split at h
   ·rename_i hk
    have hne:getOb H id≠.dead:=by rw [hob];simp
    have hl:=hL id hA hne
    have hok:=hH id hl hne
    rw [hob] at hok
    obtain ⟨hd,hρ,hg⟩:=hok
    obtain ⟨h',hK',hlt,hval⟩:=hx.gptr_inv.2.2 hl
    have hgi:gi < xss.length:=by
     rcases Nat.lt_or_ge gi xss.length with h | h
     ·exact h
     ·rw [hg.past gi h] at hK';cases hK'
    obtain ⟨o,k1,k2⟩:=hg.rows gi _ (List.getElem?_eq_getElem hgi)
    rw [hK'] at k1;cases k1
    have hsz:=Nat.eq_of_beq_eq_true hk
    have hc:=CellsAt.of_row k2 hlt
    have hgd:xss.getD gi []=xss[gi]:=by simp [List.getD,hgi]
    rw [hgd] at h
    refine fin h'.blk (h'.off+gj * gt.size) 0 _ ?_ hc h
    rw [hval,hsz,Nat.mul_one,Nat.add_zero]
   ·cases h
  ·cases h
 ·rename_i cs hv
  rw [hv] at hx
  generalize hval:a.eval x=val at hx
  cases hx
  rename_i b o g hcell hrd
  refine fin b o 0 (cs.map up) (by rw [hval,Nat.add_zero]) (fun j y hy=>?_) h
  simp only [List.getElem?_map,Option.map_eq_some_iff] at hy
  obtain ⟨p,hp,rfl⟩:=hy
  have hr:=hrd j p hp
  exact ⟨g j,(hcell j (List.getElem?_eq_some_iff.1 hp).1).2,hr.one,.up hr⟩
 ·cases h
theorem fieldT_some {t:TypeId} {f ft d:Nat} (h:fieldT P t f=some (ft,d)):∃ fs fl,P.underlying t=some (.struct fs)∧fs[f]?=some fl∧fl.type=ft∧fl.offset=d:=by
 unfold fieldT at h
 split at h
 ·rename_i fs hu
  simp only [Option.map_eq_some_iff,Prod.mk.injEq] at h
  obtain ⟨fl,h1,h2,h3⟩:=h
  exact ⟨fs,fl,hu,h1,h2,h3⟩
 ·cases h
theorem sizeT_pos {t:TypeId} (h:¬ (Nat.beq (sizeT P t) 0=true)):∃ i,P.info? t=some i∧i.size≠0:=by
 unfold sizeT at h
 split at h
 ·rename_i i hi
  exact ⟨i,hi,fun h0=>h (by rw [h0];rfl)⟩
 ·exact absurd rfl h
theorem s_fieldAddr {t:TypeId} {x:Operand} {f:Nat} (hx:RdA E (a.eval x) (e x))
 (h:evOp cx P e H n ⟨dst,.fieldAddr t x f,ty,pos,after,guard⟩=some r):PureRun P E a ⟨dst,.fieldAddr t x f,ty,pos,after,guard⟩ r:=by
 simp only [evOp] at h
 split at h
 ·rename_i ft d hf
  obtain ⟨fs,fl,hu,hfl,h1,h2⟩:=fieldT_some hf
  split at h
  ·cases h
  ·rename_i hz
   obtain ⟨i,hi,hi0⟩:=sizeT_pos hz
   have run:∀ b o,a.eval x=.pointer (some ⟨b,o,none⟩)→(execOp a.eval ⟨dst,.fieldAddr t x f,ty,pos,after,guard⟩).run P E.w=.ok (.value (.pointer (some ⟨b,o+d,none⟩))) E.w:=by
    intro b o hv
    have hs:(sizeOf fl.type).run P E.w=.ok i.size E.w:=by simp [sizeOf,typeInfo,h1,hi]
    simp [execOp,hv,Instr.fieldAt,run_underlying hu,hfl,Instr.sureAddr,fieldPlace,hs,hi0,addr_add,h2]
   split at h
   ·rename_i id off hv
    cases h
    rw [hv] at hx
    have hval:∃ b o,a.eval x=.pointer (some ⟨b,o,none⟩):=by
     exact hx.ptr_inv.2.1
    obtain ⟨b,o,hval⟩:=hval
    refine ⟨rfl,rfl,rfl,rfl,_,run b o hval, ?_,trivial⟩
    rw [hval] at hx
    obtain ⟨hA,h1,hp⟩:=hx.ptr_inv
    refine .ptr _ id (off+d) hA ⟨_,_,rfl⟩ fun hl=>?_
    obtain ⟨hd,h3,h4⟩:=hp hl
    simp only [Value.pointer.injEq,Option.some.injEq,Addr.mk.injEq,and_true] at h4
    exact ⟨hd,h3,by rw [h4.1,h4.2]⟩
   ·rename_i id k row off hv
    cases h
    rw [hv] at hx
    have hval:∃ b o,a.eval x=.pointer (some ⟨b,o,none⟩):=by
     exact hx.rptr_inv.2.1
    obtain ⟨b,o,hval⟩:=hval
    refine ⟨rfl,rfl,rfl,rfl,_,run b o hval, ?_,trivial⟩
    rw [hval] at hx
    obtain ⟨hA,h1,hp⟩:=hx.rptr_inv
    refine .rptr _ id k row (off+d) hA ⟨_,_,rfl⟩ fun hl=>?_
    obtain ⟨hd,h3,h3',h4⟩:=hp hl
    simp only [Value.pointer.injEq,Option.some.injEq,Addr.mk.injEq,and_true] at h4
    exact ⟨hd,h3,h3',by rw [h4.1,h4.2];simp [Nat.add_assoc]⟩
   ·rename_i cs hv
    cases h
    rw [hv] at hx
    generalize hval:a.eval x=val at hx
    cases hx
    rename_i b o g hcell hrd
    refine ⟨rfl,rfl,rfl,rfl,_,run b o hval, ?_,trivial⟩
    refine .eptr b (o+d) (cs.drop d) (fun j=>g (d+j)) (fun j hj=>?_) (fun j p hp=>?_)
    ·rw [List.length_drop] at hj
     have:=hcell (d+j) (by omega)
     rw [Nat.add_assoc];exact this
    ·rw [List.getElem?_drop] at hp
     exact hrd _ p hp
   ·cases h
 ·cases h
end
end Go.Sx
