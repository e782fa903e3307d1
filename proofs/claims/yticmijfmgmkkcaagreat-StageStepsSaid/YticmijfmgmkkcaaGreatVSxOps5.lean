import Derived.Test.YticmijfmgmkkcaaGreatVSxOps4
set_option linter.unusedSimpArgs false
set_option linter.unusedVariables false
set_option maxRecDepth 100000
namespace Go.Sx
open Go.RowKit
section
variable {P:Program} {cx:Ctx} {E:Env} {a:Act} {e:Operand→AV} {H:List Ob} {n:Nat} {r:Res}
 {dst:Option Tmp} {ty:TypeId} {pos:String} {after:Array Go.Edge} {guard:Option (Nat × Bool)}
theorem ownV_slice {o:Option Hdr} {v:Value} (h:ownV o v) (hle:∀ hd,o=some hd→hd.len≤hd.cap):∃ ba len c,v=.slice ba len c∧len≤c:=by
 cases o with
 | none=>obtain ⟨ba,rfl⟩:=h;exact ⟨_,_,_,rfl,Nat.le_refl _⟩
 | some hd=>exact ⟨_,_,_,h,hle hd rfl⟩
theorem rowsAt_le {t:Ty} {xs:List t.den} {o:Option Hdr} (h:RowsAt E t xs o):∀ hd,o=some hd→hd.len≤hd.cap:=by
 intro hd ho
 subst ho
 exact h.2.1
theorem run_slice00 {t elem:TypeId} {x:Operand} {ba:Option Addr} {len c sz:Nat} {k k':IntKind} {info:TypeInfo} (hu:P.underlying t=some (.slice elem)) (hi':P.info? elem=some info) (hs:info.size=sz) (hx:a.eval x=.slice ba len c) :
 (execOp a.eval ⟨dst,.slice t x none (some (.const (.int k 0))) (some (.const (.int k' 0))),ty,pos,after,guard⟩).run P E.w=.ok (.value (.slice ba 0 0)) E.w:=by
 have hs':(sizeOf elem).run P E.w=.ok sz E.w:=by simp [sizeOf,typeInfo,hi',hs]
 have e1:a.eval (.const (.int k 0))=.int k 0:=rfl
 have e2:a.eval (.const (.int k' 0))=.int k' 0:=rfl
 simp [execOp,hx,Instr.sliceAt,Instr.slice,run_underlying hu,Instr.sliceBounds,Instr.sliceBound,asIntOf,hs',e1,e2]
theorem partS_some {α:Type} {xs:List α} {len:Nat} {lo hi:Option Operand} {q:Prop} {l m:Nat} {ys:List α} (hlo:∀ o,lo=some o→RdA E (a.eval o) (e o)) (hhi:∀ o,hi=some o→RdA E (a.eval o) (e o))
 (h:partS xs len (lo.map e) (hi.map e)=some ⟨q,l,m,ys⟩) (hq:q) (hlen:xs.length=len) :
 ∃ h',l≤h'∧h'≤len∧m=h' - l∧ys=(xs.drop l).take m∧((lo=none∧l=0)∨∃ o k,lo=some o∧a.eval o=.int k (l:Int))∧((hi=none∧h'=len)∨∃ o k,hi=some o∧a.eval o=.int k (h':Int)):=by
 cases lo with
 | none =>
  cases hi with
  | none =>
   simp only [partS,Option.map_none,Option.some.injEq,PartS.mk.injEq] at h
   obtain ⟨rfl,rfl,rfl,rfl⟩:=h
   exact ⟨len,by omega,by omega,by omega,by simp [← hlen],.inl ⟨rfl,rfl⟩,.inl ⟨rfl,rfl⟩⟩
  | some o =>
   simp only [Option.map_none,Option.map_some] at h
   have ho:=hhi o rfl
   generalize heo:e o=eo at h ho
   unfold partS at h
   split at h <;> try (first | (cases h;done) | contradiction)
   rename_i k hh h1 h2
   cases h2
   simp only [Option.some.injEq,PartS.mk.injEq] at h
   obtain ⟨rfl,rfl,rfl,rfl⟩:=h
   refine ⟨hh.toNat,by omega,by omega,by omega,by simp,.inl ⟨rfl,rfl⟩,.inr ⟨o,k,rfl, ?_⟩⟩
   rw [ho.int_inv];congr 1;omega
 | some o =>
  have ho:=hlo o rfl
  cases hi with
  | none =>
   simp only [Option.map_none,Option.map_some] at h
   generalize heo:e o=eo at h ho
   unfold partS at h
   split at h <;> try (first | (cases h;done) | contradiction)
   rename_i k ll h1 h2
   cases h1
   simp only [Option.some.injEq,PartS.mk.injEq] at h
   obtain ⟨rfl,rfl,rfl,rfl⟩:=h
   refine ⟨len,by omega,by omega,by omega, ?_,.inr ⟨o,k,rfl, ?_⟩,.inl ⟨rfl,rfl⟩⟩
   ·rw [List.take_of_length_le];rw [List.length_drop];omega
   ·rw [ho.int_inv];congr 1;omega
  | some o' =>
   have ho':=hhi o' rfl
   simp only [Option.map_some] at h
   generalize heo:e o=eo at h ho
   generalize heo':e o'=eo' at h ho'
   unfold partS at h
   split at h <;> try (first | (cases h;done) | contradiction)
   rename_i k ll k' hh h1 h2
   cases h1;cases h2
   simp only [Option.some.injEq,PartS.mk.injEq] at h
   obtain ⟨rfl,rfl,rfl,rfl⟩:=h
   refine ⟨hh.toNat,by omega,by omega,by omega,rfl,.inr ⟨o,k,rfl, ?_⟩,.inr ⟨o',k',rfl, ?_⟩⟩
   ·rw [ho.int_inv];congr 1;omega
   ·rw [ho'.int_inv];congr 1;omega
theorem rdP_part {w:World} {F:Nat→Nat→Prop} {t:Ty} {xs:List t.den} {ba:Option Addr} {len c l m h':Nat} (hv:RdP w F (.slice ba len c) (.sl t xs)) (h1:l≤h') (h2:h'≤len) (hm:m=h' - l) (hlen:xs.length=len) :
 RdP w F (.slice (if c=l then ba else ba.map (·.add (l * t.size))) m (c - l)) (.sl t ((xs.drop l).take m)):=by
 rcases hv.sl_inv with ⟨hnil,ba',c',hva⟩ | ⟨b,o,c',g,hva,hc,hl,hcell,hrd⟩
 ·subst hnil
  simp only [Value.slice.injEq] at hva
  have:m=0:=by omega
  subst this
  simp only [List.drop_nil,List.take_nil]
  exact .sl0 _ _ _
 ·simp only [Value.slice.injEq] at hva
  obtain ⟨rfl,rfl,rfl⟩:=hva
  by_cases hm0:m=0
  ·subst hm0
   simp only [List.take_zero]
   exact .sl0 _ _ _
  ·have hne:¬ c=l:=by omega
   rw [if_neg hne]
   simp only [Option.map_some,addr_add]
   have hfl:∀ j p,(flat t ((xs.drop l).take m))[j]?=some p→(flat t xs)[l * t.size+j]?=some p:=by
    intro j p hp
    rw [flat_take,flat_drop] at hp
    have hj:j < m * t.size:=by
     have:=(List.getElem?_eq_some_iff.1 hp).1
     rw [List.length_take] at this;omega
    rw [List.getElem?_take_of_lt hj,List.getElem?_drop] at hp
    exact hp
   refine .sl b (o+l * t.size) m (c - l) t _ (fun j=>g (l * t.size+j)) ?_ (by omega) (by omega) (fun j hj=>?_) (fun j p hp=>hrd _ p (hfl j p hp))
   ·rw [List.length_take,List.length_drop];omega
   ·have:=hfl j _ (List.getElem?_eq_getElem hj)
    rw [Nat.add_assoc]
    exact hcell _ (List.getElem?_eq_some_iff.1 this).1
theorem s_slice {t:TypeId} {x:Operand} {lo hi mx:Option Operand} (hL:∀ id,E.A id→getOb H id≠.dead→E.L id) (hH:∀ id,E.L id→getOb H id≠.dead→OkOb E id (getOb H id))
 (hx:RdA E (a.eval x) (e x)) (hlo:∀ o,lo=some o→RdA E (a.eval o) (e o)) (hhi:∀ o,hi=some o→RdA E (a.eval o) (e o)) (hmx:∀ o,mx=some o→RdA E (a.eval o) (e o)) (hn:OptP r.need)
 (h:evOp cx P e H n ⟨dst,.slice t x lo hi mx,ty,pos,after,guard⟩=some r):PureRun P E a ⟨dst,.slice t x lo hi mx,ty,pos,after,guard⟩ r:=by
 have own:∀ (elem:TypeId) (id:Nat) (t':Ty) (xs:List t'.den),mx=none→P.underlying t=some (.slice elem)→e x=.own id→RowsAt E t' xs (E.ρ id)→E.L id →
  (if Nat.beq (sizeT P elem) t'.size then (match partS xs xs.length (lo.map e) (hi.map e) with | some ⟨q,l,m,_⟩=>some (⟨some q,none,.ownp id t'.size l m,[],none,none,[]⟩ : Res) | none=>none) else none)=some r →
  PureRun P E a ⟨dst,.slice t x lo hi mx,ty,pos,after,guard⟩ r:=by
  intro elem id t' xs hmx hu hvx hrow hl hq
  subst hmx
  split at hq
  ·rename_i hk
   obtain ⟨info,hi',hs⟩:=sizeT_eq hk (size_pos t')
   split at hq
   ·rename_i q l m ys hp
    cases hq
    simp only [OptP] at hn
    obtain ⟨h',h1,h2,h3,h4,h5,h6⟩:=partS_some (a:=a) (E:=E) hlo hhi hp hn rfl
    rw [hvx] at hx
    obtain ⟨hA,_,hown⟩:=hx.own_inv
    have hown:=hown hl
    cases hρ:E.ρ id with
    | none =>
     rw [hρ] at hown hrow
     obtain ⟨ba,hba⟩:=hown
     have:xs=[]:=hrow
     subst this
     simp only [List.length_nil] at h2 h6
     have hr:=run_slice (dst:=dst) (ty:=ty) (pos:=pos) (after:=after) (guard:=guard) (E:=E) hu hi' hs hba h5 h6 h1 h2 (Nat.le_refl _)
     refine ⟨rfl,rfl,rfl,rfl,_,hr, ?_,trivial⟩
     refine .ownp _ id _ l m hA rfl fun _=>?_
     rw [hρ]
     have hz:l=0:=by omega
     subst hz
     simp only [Nat.sub_zero,↓reduceIte]
     exact ⟨by omega,ba,by congr 1;omega⟩
    | some hd =>
     rw [hρ] at hown hrow
     have hval:a.eval x=.slice (some ⟨hd.blk,hd.off,none⟩) hd.len hd.cap:=hown
     have hlen:hd.len=xs.length:=hrow.1
     rw [← hlen] at h2 h6
     have hr:=run_slice (dst:=dst) (ty:=ty) (pos:=pos) (after:=after) (guard:=guard) (E:=E) hu hi' hs hval h5 h6 h1 h2 hrow.2.1
     refine ⟨rfl,rfl,rfl,rfl,_,hr, ?_,trivial⟩
     refine .ownp _ id _ l m hA rfl fun _=>?_
     rw [hρ]
     by_cases hc:hd.cap=l
     ·have:=hrow.2.1
      exact ⟨by omega,hd.off,hd.cap - l,by rw [if_pos hc,h3],by omega,rfl,.inr ⟨by omega,Nat.le_add_right _ _⟩⟩
     ·have:=hrow.2.1
      exact ⟨by omega,hd.off+l * t'.size,hd.cap - l,by rw [if_neg hc,h3];simp [addr_add],by omega,rfl,.inl rfl⟩
   ·cases hq
  ·cases hq
 simp only [evOp] at h
 split at h
 ·rename_i elem hu
  split at h
  ·rename_i k'
   split at h
   ·rename_i k
    have fin:(∃ ba len c,a.eval x=.slice ba len c∧len≤c)→r=Res.pure .cap0→(∃ info,P.info? elem=some info)→PureRun P E a ⟨dst,.slice t x none (some (.const (.int k 0))) (some (.const (.int k' 0))),ty,pos,after,guard⟩ r:=by
     rintro ⟨ba,len,c,hv,_⟩ rfl ⟨info,hi'⟩
     exact ⟨rfl,rfl,rfl,rfl,_,run_slice00 hu hi' rfl hv,.cap0 _,trivial⟩
    split at h
    ·cases h
    rename_i info hi'
    split at h
    ·rename_i t' xs hvx
     rw [hvx] at hx
     refine fin ?_ (by cases h;rfl) ⟨info,hi'⟩
     rcases hx.sl_inv.sl_inv with ⟨_,ba,c,hv⟩ | ⟨b,o,c,g,hv,hc,_⟩
     ·exact ⟨_,_,_,hv,Nat.zero_le _⟩
     ·exact ⟨_,_,_,hv,hc⟩
    ·rename_i id hvx
     rw [hvx] at hx
     have hA:E.A id:=hx.own_inv.1
     split at h
     ·rename_i t' xs hob
      have hne:getOb H id≠.dead:=by rw [hob];simp
      have hl:=hL id hA hne
      have hok:=hH id hl hne
      rw [hob] at hok
      exact fin (ownV_slice (hx.own_inv.2.2 hl) (rowsAt_le hok)) (by cases h;rfl) ⟨info,hi'⟩
     ·rename_i t' xs hob
      have hne:getOb H id≠.dead:=by rw [hob];simp
      have hl:=hL id hA hne
      have hok:=hH id hl hne
      rw [hob] at hok
      exact fin (ownV_slice (hx.own_inv.2.2 hl) (rowsAt_le hok)) (by cases h;rfl) ⟨info,hi'⟩
     ·cases h
    ·rename_i id k2 lo2 len2 hvx
     rw [hvx] at hx
     have hA:E.A id:=hx.ownp_inv.1
     split at h
     ·cases h
     ·rename_i hne
      refine fin ?_ (by cases h;rfl) ⟨info,hi'⟩
      have hp:=hx.ownp_inv.2.2 (hL id hA hne)
      cases hρ:E.ρ id with
      | none=>rw [hρ] at hp;obtain ⟨_,ba,hv⟩:=hp;exact ⟨_,_,_,hv,Nat.le_refl _⟩
      | some hd=>rw [hρ] at hp;obtain ⟨_,o,c,hv,hc,_⟩:=hp;exact ⟨_,_,_,hv,hc⟩
    ·rename_i hvx
     rw [hvx] at hx
     obtain ⟨ba,hv⟩:=hx.cap0_inv
     exact fin ⟨_,_,_,hv,Nat.le_refl _⟩ (by cases h;rfl) ⟨info,hi'⟩
    ·rename_i hvx
     rw [hvx] at hx
     obtain ⟨ba,c,hv⟩:=hx.nils_inv
     exact fin ⟨_,_,_,hv,Nat.zero_le _⟩ (by cases h;rfl) ⟨info,hi'⟩
    ·cases h
   ·cases h
  ·rename_i mo _
   split at h
   ·rename_i ho t' xs hvx
    split at h
    ·rename_i ka av kb bv hva hvb
     split at h
     ·rename_i hk
      obtain ⟨info,hi',hs⟩:=sizeT_eq hk (size_pos t')
      cases h
      simp only [OptP] at hn
      obtain ⟨n1,n2,n3⟩:=hn
      subst n2
      have e1:=hhi ho rfl
      rw [hva] at e1
      have e2:=hmx mo rfl
      rw [hvb] at e2
      have v1:=e1.int_inv
      have v2:=e2.int_inv
      rw [hvx] at hx
      have hlen:(xs.take av.toNat).length=av.toNat:=by rw [List.length_take];omega
      have key:∀ (ba:Option Addr) (c:Nat),a.eval x=.slice ba xs.length c→xs.length≤c →
       (execOp a.eval ⟨dst,.slice t x none (some ho) (some mo),ty,pos,after,guard⟩).run P E.w=.ok (.value (.slice (if av.toNat=0 then ba else ba.map (·.add (0 * info.size))) (av.toNat - 0) (av.toNat - 0))) E.w:=by
       intro ba c hv hc
       have hs':(sizeOf elem).run P E.w=.ok info.size E.w:=by simp [sizeOf,typeInfo,hi']
       have hb:(Instr.sliceBounds true xs.length c none (some (a.eval ho)) (some (a.eval mo))).run P E.w=.ok (0,av.toNat,av.toNat) E.w:=by
        have h4:av≤(c:Int):=by omega
        have h5:av≤max av 0:=by omega
        simp [Instr.sliceBounds,Instr.sliceBound,asIntOf,v1,v2,n1,h4,h5]
       simp [execOp,hv,Instr.sliceAt,Instr.slice,run_underlying hu,hb,hs']
      have hslf:∀ (ba:Option Addr),RdP E.w E.Fz (.slice ba av.toNat av.toNat) (.sl t' (xs.take av.toNat))→RdA E (.slice ba (av.toNat - 0) (av.toNat - 0)) (.slf t' (xs.take av.toNat)):=by
       intro ba hp
       have:=RdA.slf (E:=E) t' (xs.take av.toNat) ba (by rw [hlen];exact hp)
       rw [hlen] at this
       simpa using this
      rcases hx.sl_inv.sl_inv with ⟨hnil,ba,c,hv⟩ | ⟨b,o,c,g,hv,hc,hl,hcell,hrd⟩
      ·subst hnil
       have h0:av.toNat=0:=by simp at n3;omega
       refine ⟨rfl,rfl,rfl,rfl,_,key ba c (by simpa using hv) (Nat.zero_le _),hslf _ ?_,trivial⟩
       rw [h0];simp only [List.take_zero];exact .sl0 _ _ _
      ·refine ⟨rfl,rfl,rfl,rfl,_,key _ c hv hc,hslf _ ?_,trivial⟩
       by_cases h0:av.toNat=0
       ·rw [h0];simp only [List.take_zero];exact .sl0 _ _ _
       ·rw [if_neg h0]
        have hfl:∀ (j:Nat) (p:PV),(flat t' (xs.take av.toNat))[j]?=some p→(flat t' xs)[j]?=some p:=by
         intro j p hp
         rw [flat_take] at hp
         have hj:j < av.toNat * t'.size:=by
          have:=(List.getElem?_eq_some_iff.1 hp).1
          rw [List.length_take] at this;omega
         rw [List.getElem?_take_of_lt hj] at hp
         exact hp
        have hadr:(some (⟨b,o,none⟩ : Addr)).map (·.add (0 * info.size))=some ⟨b,o,none⟩:=by simp [addr_add]
        rw [hadr]
        refine .sl b o av.toNat av.toNat t' _ g hlen.symm (Nat.le_refl _) (by omega) (fun j hj=>hcell j ?_) (fun j p hp=>hrd j p (hfl j p hp))
        have hp:=List.getElem?_eq_getElem hj
        exact (List.getElem?_eq_some_iff.1 (hfl j _ hp)).1
     ·cases h
    ·cases h
   ·rename_i lo' ho id hvx
    rw [hvx] at hx
    split at h
    ·rename_i t' xs hob
     split at h
     ·rename_i ka av kb bv kc cv hva hvb hvc
      split at h
      ·rename_i hk
       obtain ⟨info,hi',hs⟩:=sizeT_eq hk (size_pos t')
       cases h
       simp only [OptP] at hn
       obtain ⟨n1,n2,n3,n4⟩:=hn
       have e0:=hlo lo' rfl
       rw [hva] at e0
       have e1:=hhi ho rfl
       rw [hvb] at e1
       have e2:=hmx mo rfl
       rw [hvc] at e2
       have v0:=e0.int_inv
       have v1:=e1.int_inv
       have v2:=e2.int_inv
       have hA:E.A id:=hx.own_inv.1
       have hne:getOb H id≠.dead:=by rw [hob];simp
       have hl:=hL id hA hne
       have hok:RowsAt E t' xs (E.ρ id):=by
        have:=hH id hl hne
        rw [hob] at this
        exact this
       have hform:∃ ba n c,a.eval x=.slice ba n c∧xs.length≤c:=by
        have hown:=hx.own_inv.2.2 hl
        cases hρ:E.ρ id with
        | none =>
         rw [hρ] at hown hok
         obtain ⟨ba,hv⟩:=hown
         have:xs=[]:=hok
         subst this
         exact ⟨_,_,_,hv,Nat.le_refl _⟩
        | some hd =>
         rw [hρ] at hown hok
         have hv:a.eval x=.slice (some ⟨hd.blk,hd.off,none⟩) hd.len hd.cap:=hown
         have h1:hd.len=xs.length:=hok.1
         have h2:=hok.2.1
         exact ⟨_,_,_,hv,by omega⟩
       obtain ⟨ba,nn,c,hv,hc⟩:=hform
       have hs':(sizeOf elem).run P E.w=.ok info.size E.w:=by simp [sizeOf,typeInfo,hi']
       have hb:(Instr.sliceBounds true nn c (some (a.eval lo')) (some (a.eval ho)) (some (a.eval mo))).run P E.w=.ok (av.toNat,bv.toNat,cv.toNat) E.w:=by
        have h1:cv≤(c:Int):=by omega
        have h2:0≤cv:=by omega
        have h3:0≤bv:=by omega
        have h4:bv≤max cv 0:=by omega
        have h5:av≤max bv 0:=by omega
        simp [Instr.sliceBounds,Instr.sliceBound,asIntOf,v0,v1,v2,n1,h1,h2,h3,h4,h5]
       refine ⟨rfl,rfl,rfl,rfl,.slice (if cv.toNat=av.toNat then ba else ba.map (·.add (av.toNat * info.size))) (bv.toNat - av.toNat) (cv.toNat - av.toNat), ?_,.any _,trivial⟩
       simp [execOp,hv,Instr.sliceAt,Instr.slice,run_underlying hu,hb,hs']
      ·cases h
     ·cases h
    ·cases h
   ·cases h
  ·split at h
   ·rename_i id k l0 n0 hvx
    rw [hvx] at hx
    split at h
    ·rename_i t' xs hob
     split at h
     ·rename_i hk
      simp only [Bool.and_eq_true] at hk
      obtain ⟨info,hi',hs⟩:=sizeT_eq hk.1 (size_pos t')
      have hk2:=Nat.eq_of_beq_eq_true hk.2
      subst hk2
      split at h
      ·rename_i q l m ys hp
       cases h
       simp only [OptP] at hn
       obtain ⟨hq,hroom⟩:=hn
       obtain ⟨h',h1,h2,h3,h4,h5,h6⟩:=partS_some (a:=a) (E:=E) hlo hhi hp hq (by simp)
       obtain ⟨hA,_,hown⟩:=hx.ownp_inv
       have hne:getOb H id≠.dead:=by rw [hob];simp
       have hl:=hL id hA hne
       have hok:RowsAt E t' xs (E.ρ id):=by
        have:=hH id hl hne
        rw [hob] at this
        exact this
       have hown:=hown hl
       have hlen2:h'≤xs.length - l0:=by
        cases hhi':hi with
        | none=>rw [hhi'] at h2;have h2':h'≤n0:=h2;omega
        | some o=>rw [hhi'] at h2;exact h2
       have h6':(hi=none∧h'=n0)∨∃ o k,hi=some o∧a.eval o=.int k (h':Int):=by
        rcases h6 with ⟨e1,e2⟩ | h6
        ·left
         subst e1
         exact ⟨rfl,e2⟩
        ·exact .inr h6
       cases hρ:E.ρ id with
       | none =>
        rw [hρ] at hown hok
        obtain ⟨hn0,ba,hba⟩:=hown
        have:xs=[]:=hok
        subst this
        simp only [List.length_nil] at hlen2 hroom
        subst hn0
        have hr:=run_slice' (dst:=dst) (ty:=ty) (pos:=pos) (after:=after) (guard:=guard) (E:=E) hu hi' hs hba h5 h6' h1 (by omega)
        refine ⟨rfl,rfl,rfl,rfl,_,hr, ?_,trivial⟩
        refine .ownp _ id _ (l0+l) m hA rfl fun _=>?_
        rw [hρ]
        have hz:l=0:=by omega
        subst hz
        simp only [Nat.sub_zero,↓reduceIte]
        exact ⟨by omega,ba,by congr 1;omega⟩
       | some hd =>
        rw [hρ] at hown hok
        obtain ⟨k1,o,c,hv,k2,k3,k4⟩:=hown
        have hlen:hd.len=xs.length:=hok.1
        have hcap:=hok.2.1
        have hr:=run_slice' (dst:=dst) (ty:=ty) (pos:=pos) (after:=after) (guard:=guard) (E:=E) hu hi' hs hv h5 h6' h1 (by omega)
        refine ⟨rfl,rfl,rfl,rfl,_,hr, ?_,trivial⟩
        refine .ownp _ id _ (l0+l) m hA rfl fun _=>?_
        rw [hρ]
        by_cases hc:c=l
        ·refine ⟨by omega,o,c - l,by rw [if_pos hc,h3],by omega,by omega,.inr ⟨by omega, ?_⟩⟩
         rcases k4 with k4 | k4
         ·rw [k4]
          exact Nat.add_le_add_left (Nat.mul_le_mul_right _ (by omega)) _
         ·exact k4.2
        ·refine ⟨by omega,o+l * t'.size,c - l,by rw [if_neg hc,h3];simp [addr_add],by omega,by omega, ?_⟩
         rcases k4 with k4 | k4
         ·left
          rw [k4,Nat.add_mul]
          omega
         ·exact absurd k4.1 (by omega)
      ·cases h
     ·cases h
    ·cases h
   ·rename_i t' xs hvx
    rw [hvx] at hx
    split at h
    ·rename_i hk
     obtain ⟨info,hi',hs⟩:=sizeT_eq hk (size_pos t')
     split at h
     ·rename_i q l m ys hp
      cases h
      simp only [OptP] at hn
      obtain ⟨h',h1,h2,h3,h4,h5,h6⟩:=partS_some (a:=a) (E:=E) hlo hhi hp hn rfl
      have hx':=hx.sl_inv
      have hform:∃ ba c,a.eval x=.slice ba xs.length c∧xs.length≤c:=by
       rcases hx'.sl_inv with ⟨hnil,ba,c,hv⟩ | ⟨b,o,c,g,hv,hc,_⟩
       ·subst hnil;exact ⟨_,_,hv,Nat.zero_le _⟩
       ·exact ⟨_,_,hv,hc⟩
      obtain ⟨ba,c,hv,hc⟩:=hform
      have hr:=run_slice (dst:=dst) (ty:=ty) (pos:=pos) (after:=after) (guard:=guard) (E:=E) hu hi' hs hv h5 h6 h1 h2 hc
      refine ⟨rfl,rfl,rfl,rfl,_,hr, ?_,trivial⟩
      rw [hv] at hx'
      subst h4
      rw [← h3]
      exact .sl _ _ _ (rdP_part hx' h1 h2 h3 rfl)
     ·cases h
    ·cases h
   ·rename_i id hvx
    have hA:E.A id:=by rw [hvx] at hx;exact hx.own_inv.1
    split at h
    ·rename_i t' xs hob
     have hne:getOb H id≠.dead:=by rw [hob];simp
     have hl:=hL id hA hne
     have hok:=hH id hl hne
     rw [hob] at hok
     exact own elem id t' xs rfl hu hvx hok hl h
    ·rename_i t' xs hob
     have hne:getOb H id≠.dead:=by rw [hob];simp
     have hl:=hL id hA hne
     have hok:=hH id hl hne
     rw [hob] at hok
     exact own elem id t' xs rfl hu hvx hok hl h
    ·cases h
   ·rename_i hvx
    rw [hvx] at hx
    obtain ⟨ba,hv⟩:=hx.cap0_inv
    split at h
    ·cases h
    rename_i info hi'
    split at h
    ·rename_i q l m ys hp
     cases h
     simp only [OptP] at hn
     obtain ⟨h',h1,h2,h3,h4,h5,h6⟩:=partS_some (a:=a) (E:=E) hlo hhi hp hn rfl
     have hr:=run_slice (dst:=dst) (ty:=ty) (pos:=pos) (after:=after) (guard:=guard) (E:=E) hu hi' rfl hv h5 h6 h1 h2 (Nat.le_refl _)
     refine ⟨rfl,rfl,rfl,rfl,_,hr, ?_,trivial⟩
     have hz:l=0:=by omega
     have hz':h'=0:=by omega
     subst hz;subst hz'
     exact .cap0 _
    ·cases h
   ·rename_i hvx
    rw [hvx] at hx
    obtain ⟨ba,c,hv⟩:=hx.nils_inv
    split at h
    ·cases h
    rename_i info hi'
    split at h
    ·rename_i q l m ys hp
     cases h
     simp only [OptP] at hn
     obtain ⟨h',h1,h2,h3,h4,h5,h6⟩:=partS_some (a:=a) (E:=E) hlo hhi hp hn rfl
     have hr:=run_slice (dst:=dst) (ty:=ty) (pos:=pos) (after:=after) (guard:=guard) (E:=E) hu hi' rfl hv h5 h6 h1 h2 (Nat.zero_le _)
     refine ⟨rfl,rfl,rfl,rfl,_,hr, ?_,trivial⟩
     have hz':h'=0:=by omega
     subst hz'
     rw [Nat.zero_sub]
     exact .nils _ _
    ·cases h
   ·cases h
 ·cases h
end
end Go.Sx
