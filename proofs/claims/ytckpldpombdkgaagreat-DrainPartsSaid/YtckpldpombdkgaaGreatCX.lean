/- Pipelines. -/
import Derived.Test.YtckpldpombdkgaaGreatCB1
import Derived.Test.YtckpldpombdkgaaGreatCB2
import Derived.Test.YtckpldpombdkgaaGreatCB3
import Derived.Test.YtckpldpombdkgaaGreatCB4
import Derived.Test.YtckpldpombdkgaaGreatCB5
import Derived.Test.YtckpldpombdkgaaGreatCB6
import Derived.Test.YtckpldpombdkgaaGreatCZ1
import Derived.Test.YtckpldpombdkgaaGreatCZ2
import Derived.Test.YtckpldpombdkgaaGreatCZ3
import Derived.Test.YtckpldpombdkgaaGreatCZ4
import Derived.Test.YtckpldpombdkgaaGreatCZ5
import Derived.Test.YtckpldpombdkgaaGreatCZ6
import Derived.Test.YtckpldpombdkgaaGreatCZ7
import Derived.Test.YtckpldpombdkgaaGreatCZ8
import Derived.Test.YtckpldpombdkgaaGreatCZ9
import Derived.Test.YtckpldpombdkgaaGreatCP
import Derived.Test.YtckpldpombdkgaaGreatCQ1
import Derived.Test.YtckpldpombdkgaaGreatCQ2
import Derived.Test.YtckpldpombdkgaaGreatCQ3
import Derived.Test.YtckpldpombdkgaaGreatCG1
import Derived.Test.YtckpldpombdkgaaGreatCG2
import Derived.Test.YtckpldpombdkgaaGreatCG3
import Derived.Test.YtckpldpombdkgaaGreatCG4
import Derived.Test.YtckpldpombdkgaaGreatCG5
import Derived.Test.YtckpldpombdkgaaGreatCH
set_option linter.unusedSimpArgs false
set_option linter.unusedVariables false
set_option maxRecDepth 100000
namespace Go.Proofs.YtckpldpombdkgaaGreat
open Go.Sx
theorem fSend_ok {c:Cred} {x:Int} (h:(Hz c x).2=0):Bp c=0∧Bp (Hz c x).1=0∧Av x=false∧c.2.2.2.2.2=false∧c.2.2.1 < c.2.1∧(Hz c x).1=(c.1,c.2.1,c.2.2.1+1,c.2.2.2.1,c.2.2.2.2.1++[x],c.2.2.2.2.2):=by
 unfold Hz at h ⊢
 by_cases h1:Bp c=0
 ·rw [if_neg (by simpa using h1)] at h ⊢
  by_cases h2:Av x=true
  ·rw [if_pos h2] at h;simp at h
  ·rw [if_neg h2] at h ⊢
   by_cases h3:c.2.2.2.2.2=true
   ·rw [if_pos h3] at h;simp at h
   ·rw [if_neg h3] at h ⊢
    by_cases h4:c.2.2.1=c.2.1
    ·rw [if_pos h4] at h;simp at h
    ·rw [if_neg h4]
     have hb:=(Vr c).1 h1
     refine ⟨h1,(Vr _).2 ?_,by simpa using h2,by simpa using h3,by omega,rfl⟩
     simp only [List.length_append,List.length_cons,List.length_nil,List.any_append,List.any_cons,List.any_nil,Bool.or_false]
     refine ⟨hb.1,hb.2.1,hb.2.2.1,by omega,by omega,by omega,by omega,by omega, ?_⟩
     rw [hb.2.2.2.2.2.2.2.2];simpa using h2
 ·rw [if_pos (by simpa using h1)] at h
  exact absurd h h1
theorem fClose_ok {c:Cred} (h:(Gl c).2=0):Bp c=0∧Bp (Gl c).1=0∧c.2.2.2.2.2=false∧(Gl c).1=(c.1,c.2.1,c.2.2.1,c.2.2.2.1,c.2.2.2.2.1,true):=by
 unfold Gl at h ⊢
 by_cases h1:Bp c=0
 ·rw [if_neg (by simpa using h1)] at h ⊢
  by_cases h3:c.2.2.2.2.2=true
  ·rw [if_pos h3] at h;simp at h
  ·rw [if_neg h3]
   have hb:=(Vr c).1 h1
   exact ⟨h1,(Vr _).2 hb,by simpa using h3,rfl⟩
 ·rw [if_pos (by simpa using h1)] at h
  exact absurd h h1
theorem fSend_yes {c:Cred} {x:Int} (h1:Bp c=0) (h2:Av x=false) (h3:c.2.2.2.2.2=false) (h4:c.2.2.1 < c.2.1) :
 Hz c x=((c.1,c.2.1,c.2.2.1+1,c.2.2.2.1,c.2.2.2.2.1++[x],c.2.2.2.2.2),0):=by
 unfold Hz
 rw [if_neg (by simpa using h1),if_neg (by simp [h2]),if_neg (by simp [h3]),if_neg (by omega)]
theorem fClose_yes {c:Cred} (h1:Bp c=0) (h3:c.2.2.2.2.2=false):Gl c=((c.1,c.2.1,c.2.2.1,c.2.2.2.1,c.2.2.2.2.1,true),0):=by
 unfold Gl
 rw [if_neg (by simpa using h1),if_neg (by simp [h3])]
theorem sendC_ok:∀ (l:List Int) {c:Cred},Bp c=0→c.2.2.2.2.2=false→(l.length:Int)≤c.2.1 - c.2.2.1→(∀ a∈l,Av a=false) →
 N2 c l=(c.1,c.2.1,c.2.2.1+l.length,c.2.2.2.1,c.2.2.2.2.1++l,false)∧Bp (N2 c l)=0
 | [],(a,b,d,e,f,g),h,hc,_,_=>by
  have hc:g=false:=hc
  subst hc
  refine ⟨?_,h⟩
  show (a,b,d,e,f,false)=(a,b,d+((0:Nat):Int),e,f++[],false)
  rw [List.append_nil];simp
 | v :: l,c,h,hc,hl,hb=>by
  rw [List.length_cons] at hl
  have h1:=fSend_yes (x:=v) h (hb v List.mem_cons_self) hc (by omega)
  have h2:=fSend_ok (c:=c) (x:=v) (by rw [h1])
  have h3:=sendC_ok l (c:=(Hz c v).1) h2.2.1 (by rw [h1];exact hc) (by rw [h1];show (l.length:Int)≤c.2.1 - (c.2.2.1+1);omega) (fun a ha=>hb a (List.mem_cons_of_mem v ha))
  have e:N2 c (v :: l)=N2 (Hz c v).1 l:=rfl
  rw [e]
  refine ⟨?_,h3.2⟩
  rw [h3.1,h1]
  show (c.1,c.2.1,c.2.2.1+1+(l.length:Int),c.2.2.2.1,(c.2.2.2.2.1++[v])++l,false)=(c.1,c.2.1,c.2.2.1+((l.length+1:Nat):Int),c.2.2.2.1,c.2.2.2.2.1++v :: l,false)
  rw [List.append_assoc,show c.2.2.1+1+(l.length:Int)=c.2.2.1+((l.length+1:Nat):Int) by omega];rfl
theorem endC_ok {b:Bool} {c:Cred} (h:Bp c=0) (hc:c.2.2.2.2.2=false):Ag7 b c=(c.1,c.2.1,c.2.2.1,c.2.2.2.1,c.2.2.2.2.1,b)∧Bp (Ag7 b c)=0:=by
 unfold Ag7
 cases b
 ·rw [if_neg (by simp)]
  refine ⟨?_,h⟩
  obtain ⟨a,b,d,e,f,g⟩:=c
  have hc:g=false:=hc
  rw [hc]
 ·rw [if_pos rfl]
  have h1:=fClose_yes h hc
  exact ⟨by rw [h1],(fClose_ok (by rw [h1])).2.1⟩
theorem fits_iff {x:PlT} {s:FsT} {i:Int} {o:List (List Int)}:Fj x s i o=true↔∀ n < o.length,((o.getD n []).length:Int)≤N0 (Dt s (Cq x i n)):=by
 unfold Fj
 simp only [Bool.not_eq_true',List.any_eq_false,List.mem_range,decide_eq_true_eq,Int.not_lt]
theorem step_ok {x:PlT} {s:FsT} {i:Int} (h:(Du x s i).2=0):StepR x s i (Cy x s i).1 (Du x s i).1:=by
 unfold Du at h ⊢
 split at h
 ·rename_i h1;exact absurd h h1
 rename_i h1
 obtain ⟨w,v⟩:=Cg.1 (Classical.not_not.1 h1)
 split at h
 ·omega
 rename_i h2
 simp only [Classical.not_not] at h2
 split at h
 ·simp at h
 rename_i h3
 split at h
 ·rename_i h4;exact absurd h h4
 rename_i h4
 split at h
 ·simp at h
 rename_i h5
 split at h
 ·rename_i h6;exact absurd h h6
 rename_i h6
 rw [if_neg h1,if_neg (by omega),if_neg h3,if_neg h4,if_neg h5,if_neg h6]
 clear h1 h
 have e1:(Bk x s i).1=(Cy x s i).1:=rfl
 rw [e1] at h4 h5 h6 ⊢
 have h4:(Cy x s i).1.2.2.2.2.2.2=0:=Classical.not_not.1 h4
 have h3':((Cy x s i).2 && (!decide ((Cy x s i).1.2.2.2.2.2.2=0) || Fj x s i (Cy x s i).1.2.1))=true:=(Bool.not_eq_false _).mp h3
 rw [h4] at h3'
 simp only [decide_true,Bool.not_true,Bool.false_or,Bool.and_eq_true] at h3'
 obtain ⟨g1,g2⟩:=h3'
 have mv:=Abv v h2.1 h2.2 g1 h4
 have is:Cy x s i=((Cy x s i).1,true):=by rw [← g1]
 generalize hm:(Cy x s i).1=m at *
 clear h3 e1
 have h6:(Di x s.2.1 i m).2=0:=Classical.not_not.1 h6
 have T:(Di x s.2.1 i m).1.length=x.2.length∧∀ k < x.2.length,(Di x s.2.1 i m).1.getD k A9=if m.2.2.2.1=true∧(pIn x i m.2.2.2.2.1).toNat=k then (Ig (s.2.1.getD k A9)).1 else s.2.1.getD k A9:=by
  unfold Di
  by_cases ht:m.2.2.2.1=true
  ·rw [if_neg (by rw [ht];simp)]
   refine ⟨by rw [List.length_set];exact v.lc,fun k hk=>?_⟩
   rw [Ii]
   by_cases hkk:(pIn x i m.2.2.2.2.1).toNat=k
   ·subst hkk
    rw [if_pos ⟨rfl,by rw [v.lc];exact hk⟩,if_pos ⟨ht,rfl⟩]
   ·rw [if_neg (fun h=>hkk h.1),if_neg (fun h=>hkk h.2)]
  ·rw [if_pos (by simpa using ht)]
   exact ⟨v.lc,fun k hk=>by rw [if_neg (fun h=>ht h.1)]⟩
 obtain ⟨T1,T2⟩:=T
 have hN:0≤stOut (sg x i):=Abq _
 obtain ⟨S1,S2⟩:=Ua w h2.1 h2.2 m.2.1 m.2.2.1 (Di x s.2.1 i m).1 T1 (stOut (sg x i)).toNat (by omega)
 have htk:m.2.2.2.1=true→(Ig (Dt s (pIn x i m.2.2.2.2.1))).2=0:=fun ht=>by
  have h:=h6
  unfold Di at h
  rw [if_neg (by rw [ht];simp)] at h
  exact h
 have C:∀ k < x.2.length,(Px x i m.2.1 m.2.2.1 (Di x s.2.1 i m).1).getD k A9=crS x i m k (s.2.1.getD k A9)∧Bp ((Px x i m.2.1 m.2.2.1 (Di x s.2.1 i m).1).getD k A9)=0:=fun k hk=>by
  unfold Px
  rw [S2 k hk,T2 k hk]
  have p:=w.pipe hk
  obtain ⟨c1,c2,c3,c4⟩:=Fm.1 (v.cr k hk)
  unfold crS
  by_cases hi:(x.2.getD k Aw).1=i
  ·have on:=p.on
   rw [hi] at on
   rw [if_pos ⟨hi,by omega⟩,if_pos hi]
   rw [if_neg]
   ·have hcl:(s.2.1.getD k A9).2.2.2.2.2=false:=by rw [c3,hi];exact mv.en
    have hlen:((m.2.1.getD (x.2.getD k Aw).2.1.toNat []).length:Int)≤N0 (s.2.1.getD k A9):=by
     have:=fits_iff.1 g2 (x.2.getD k Aw).2.1.toNat (by have:=mv.len;have:=p.o0;omega)
     have he:Dt s (Cq x i (((x.2.getD k Aw).2.1.toNat:Nat):Int))=s.2.1.getD k A9:=by
      have:=p.o0
      have o1:=p.out
      rw [hi] at o1
      rw [show ((((x.2.getD k Aw).2.1.toNat:Nat):Int))=(x.2.getD k Aw).2.1 by omega,o1]
      rfl
     rwa [he] at this
    unfold N0 at hlen
    rw [if_neg (by rw [c1,hcl];simp)] at hlen
    have hg:∀ a∈m.2.1.getD (x.2.getD k Aw).2.1.toNat [],Av a=false:=by
     have hh:(x.2.getD k Aw).2.1.toNat < m.2.1.length:=by have:=mv.len;have:=p.o0;omega
     rw [Bt hh]
     exact mv.good _ (List.getElem_mem hh)
    obtain ⟨q1,q2⟩:=sendC_ok _ c1 hcl hlen hg
    obtain ⟨r1,r2⟩:=endC_ok (b:=m.2.2.1) q2 (by rw [q1])
    refine ⟨?_,r2⟩
    rw [r1,q1]
   ·rintro ⟨ht,he⟩
    obtain ⟨t1,t2,l,t3⟩:=mv.tk ht
    obtain ⟨j,j1,j2,j3,j4⟩:=w.ins h2.1 h2.2 t1 t2
    have hjk:j=k:=by rw [j2] at he;omega
    subst hjk
    exact w.ne hk (hi.trans j3.symm)
  ·rw [if_neg (fun h=>hi h.1),if_neg hi]
   refine ⟨rfl, ?_⟩
   split
   ·rename_i h
    obtain ⟨t1,t2,l,t3⟩:=mv.tk h.1
    have t4:=htk h.1
    unfold Dt at t3 t4
    rw [h.2] at t3 t4
    exact (Ahi c1 t3 t4).1
   ·exact c1
 refine ⟨w,v,h2.1,h2.2,is,h4,mv,fun hs h=>h5 ⟨hs,h⟩,htk,g2,rfl, ?_,fun k hk=>(C k hk).1,fun k hk=>(C k hk).2,rfl,rfl⟩
 show (Px x i m.2.1 m.2.2.1 (Di x s.2.1 i m).1).length=_
 unfold Px
 rw [S1,T1]
theorem runG_out (x:PlT) (l:List Int):∀ (m k:Nat) (s:FsT) (o:List Int),((Kd x l m k s []).2.2≠0→Kd x l m k s o=Kd x l m k s []∧Kd x l m k s []=(zFs,[],(Kd x l m k s []).2.2)) ∧
 ((Kd x l m k s []).2.2=0→Kd x l m k s o=((Kd x l m k s []).1,o++(Kd x l m k s []).2.1,0))
 | 0,k,s,o=>⟨fun h=>absurd rfl h,fun _=>by show (s,o,(0:Int))=(s,o++[],0);rw [List.append_nil]⟩
 | m+1,k,s,o=>by
  by_cases hs:Ub x s
  ·rw [Ado hs,Ado hs]
   exact ⟨fun h=>absurd rfl h,fun _=>by show (s,o,(0:Int))=(s,o++[],0);rw [List.append_nil]⟩
  ·by_cases he:(Du x s (J8 x l k s)).2=0
   ·rw [Ajw hs he,Ajw hs he]
    obtain ⟨a1,a2⟩:=runG_out x l m (k+1) (Du x s (J8 x l k s)).1 (o++[J8 x l k s])
    obtain ⟨b1,b2⟩:=runG_out x l m (k+1) (Du x s (J8 x l k s)).1 ([]++[J8 x l k s])
    generalize Kd x l m (k+1) (Du x s (J8 x l k s)).1 []=R at *
    by_cases hR:R.2.2=0
    ·rw [a2 hR,b2 hR]
     refine ⟨fun h=>absurd rfl h,fun _=>?_⟩
     show (R.1,o++[J8 x l k s]++R.2.1,(0:Int))=(R.1,o++([]++[J8 x l k s]++R.2.1),0)
     simp
    ·rw [(a1 hR).1,(b1 hR).1]
     exact ⟨fun _=>⟨rfl,(a1 hR).2⟩,fun h=>absurd h hR⟩
   ·rw [Ahj hs he,Ahj hs he]
    exact ⟨fun _=>⟨rfl,rfl⟩,fun h=>absurd h he⟩
theorem runG_split (x:PlT) (l:List Int) (b:Nat):∀ (a k:Nat) (s:FsT),((Kd x l a k s []).2.2≠0→Kd x l (a+b) k s []=Kd x l a k s []) ∧
 ((Kd x l a k s []).2.2=0→Kd x l (a+b) k s []=Kd x l b (k+a) (Kd x l a k s []).1 (Kd x l a k s []).2.1)
 | 0,k,s=>⟨fun h=>absurd rfl h,fun _=>by rw [Nat.zero_add];rfl⟩
 | a+1,k,s=>by
  rw [show a+1+b=(a+b)+1 by omega]
  by_cases hs:Ub x s
  ·rw [Ado hs,Ado hs]
   exact ⟨fun h=>absurd rfl h,fun _=>(Ado hs).symm⟩
  ·by_cases he:(Du x s (J8 x l k s)).2=0
   ·rw [Ajw hs he,Ajw hs he]
    generalize J8 x l k s=i at *
    obtain ⟨a1,a2⟩:=runG_split x l b a (k+1) (Du x s i).1
    obtain ⟨b1,b2⟩:=runG_out x l (a+b) (k+1) (Du x s i).1 ([]++[i])
    obtain ⟨c1,c2⟩:=runG_out x l a (k+1) (Du x s i).1 ([]++[i])
    generalize Kd x l a (k+1) (Du x s i).1 []=R at *
    by_cases hR:R.2.2=0
    ·rw [c2 hR]
     refine ⟨fun h=>absurd rfl h,fun _=>?_⟩
     have a2:=a2 hR
     rw [show k+1+a=k+(a+1) by omega] at a2
     show _=Kd x l b (k+(a+1)) R.1 ([]++[i]++R.2.1)
     obtain ⟨d1,d2⟩:=runG_out x l b (k+(a+1)) R.1 R.2.1
     obtain ⟨e1,e2⟩:=runG_out x l b (k+(a+1)) R.1 ([]++[i]++R.2.1)
     generalize Kd x l b (k+(a+1)) R.1 []=Q at *
     by_cases hQ:Q.2.2=0
     ·rw [d2 hQ] at a2
      rw [e2 hQ,b2 (by rw [a2]),a2]
      simp
     ·rw [(d1 hQ).1] at a2
      rw [(e1 hQ).1,(b1 (by rw [a2];exact hQ)).1,a2]
    ·have a1:=a1 hR
     rw [(c1 hR).1]
     exact ⟨fun _=>by rw [(b1 (by rw [a1];exact hR)).1,a1],fun h=>absurd h hR⟩
   ·rw [Ahj hs he,Ahj hs he]
    exact ⟨fun _=>rfl,fun h=>absurd h he⟩
theorem runG_rot {x:PlT} {l l':List Int} {n:Nat} (h:∀ j c,Sf l (n+j) c=Sf l' j c):∀ (m k:Nat) (s:FsT) (o:List Int),Kd x l m (n+k) s o=Kd x l' m k s o
 | 0,_,_,_=>rfl
 | m+1,k,s,o=>by
  unfold Kd
  rw [h k,show n+k+1=n+(k+1) by omega,runG_rot h m (k+1)]
def rotF (l:List Int) (n:Nat):List Int:=if l.length=0 then l else l.drop (n % l.length)++l.take (n % l.length)
theorem pick_rot (l:List Int) (n j:Nat) (c:Int):Sf l (n+j) c=Sf (rotF l n) j c:=by
 unfold rotF
 by_cases h:l.length=0
 ·rw [if_pos h];unfold Sf;rw [if_pos h,if_pos h]
 ·rw [if_neg h]
  have hm:=Nat.mod_lt n (Nat.pos_of_ne_zero h)
  have hL:(l.drop (n % l.length)++l.take (n % l.length)).length=l.length:=by
   rw [List.length_append,List.length_drop,List.length_take];omega
  unfold Sf
  rw [if_neg h,if_neg (by omega),hL]
  have hj:=Nat.mod_lt j (Nat.pos_of_ne_zero h)
  have e:(l.drop (n % l.length)++l.take (n % l.length)).getD (j % l.length) 0=l.getD ((n+j) % l.length) 0:=by
   rw [List.getD_eq_getElem?_getD,List.getD_eq_getElem?_getD,List.getElem?_append,List.length_drop]
   have e2:(n+j) % l.length=if n % l.length+j % l.length < l.length then n % l.length+j % l.length else n % l.length+j % l.length - l.length:=by
    rw [Nat.add_mod]
    split
    ·rename_i h;exact Nat.mod_eq_of_lt h
    ·rename_i h2
     rw [Nat.mod_eq_sub_mod (by omega),Nat.mod_eq_of_lt (by omega)]
   rw [e2]
   by_cases h2:n % l.length+j % l.length < l.length
   ·rw [if_pos h2,if_pos (by omega),List.getElem?_drop]
   ·rw [if_neg h2,if_neg (by omega),List.getElem?_take,if_pos (by omega)]
    congr 2
    omega
  rw [e]
theorem runG_vs {x:PlT} {l:List Int}:∀ (m k:Nat) (s:FsT) (o:List Int),Cv x s=0→(Kd x l m k s o).2.2=0→Cv x (Kd x l m k s o).1=0
 | 0,_,_,_,h,_=>h
 | m+1,k,s,o,h,h2=>by
  by_cases hs:Ub x s
  ·rw [Ado hs];exact h
  ·by_cases he:(Du x s (J8 x l k s)).2=0
   ·rw [Ajw hs he] at h2 ⊢
    have r:=step_ok he
    exact runG_vs m (k+1) _ _ (Cg.2 ⟨r.w,r.vs⟩) h2
   ·rw [Ahj hs he] at h2
    exact absurd h2 he
theorem runG_len {x:PlT} {l:List Int}:∀ (m k:Nat) (s:FsT) (o:List Int),(Kd x l m k s o).2.2=0→(Kd x l m k s o).2.1.length=o.length+m∨Ub x (Kd x l m k s o).1
 | 0,_,_,_,_=>.inl rfl
 | m+1,k,s,o,h2=>by
  by_cases hs:Ub x s
  ·rw [Ado hs];exact .inr hs
  ·by_cases he:(Du x s (J8 x l k s)).2=0
   ·rw [Ajw hs he] at h2 ⊢
    rcases runG_len m (k+1) _ _ h2 with h | h
    ·left;rw [h,List.length_append,List.length_singleton];omega
    ·exact .inr h
   ·rw [Ahj hs he] at h2
    exact absurd h2 he
theorem parts_ok {x:PlT} {s:FsT} (h:Cv x s=0) (l:List Int) (n m:Nat) (hn:n+m≤10000) :
 ((Sg x s l n).2.2≠0→(Sg x s l ((n+m:Nat):Int)).2.2=(Sg x s l n).2.2∧(Sg x s l ((n+m:Nat):Int)).2.1=[]) ∧
 ((Sg x s l n).2.2=0→(Sg x (Sg x s l n).1 (rotF l n) m).2.2=(Sg x s l ((n+m:Nat):Int)).2.2 ∧
   ((Sg x s l n).2.1.length < n→(Sg x (Sg x s l n).1 (rotF l n) m).2.1=[]) ∧
   ((Sg x s l ((n+m:Nat):Int)).2.2=0→(Sg x (Sg x s l n).1 (rotF l n) m).1=(Sg x s l ((n+m:Nat):Int)).1 ∧
     (Sg x s l n).2.1++(Sg x (Sg x s l n).1 (rotF l n) m).2.1=(Sg x s l ((n+m:Nat):Int)).2.1)):=by
 have e:∀ (t:FsT) (l:List Int) (a:Nat),Cv x t=0→a≤10000→Sg x t l a=Kd x l a 0 t []:=fun t l a ht ha=>by
  unfold Sg
  rw [if_neg (by simpa using ht),if_neg (by omega),show (a:Int).toNat=a by omega]
 rw [e s l n h (by omega),e s l (n+m) h hn]
 obtain ⟨a1,a2⟩:=runG_split x l m n 0 s
 refine ⟨fun hx=>?_,fun hx=>?_⟩
 ·rw [a1 hx]
  obtain ⟨b1,_⟩:=runG_out x l n 0 s []
  refine ⟨rfl, ?_⟩
  rw [(b1 hx).2]
 ·rw [a2 hx]
  have ht:=runG_vs n 0 s [] h hx
  rw [e _ (rotF l n) m ht (by omega)]
  have hr:Kd x l m (0+n) (Kd x l n 0 s []).1 (Kd x l n 0 s []).2.1=Kd x (rotF l n) m 0 (Kd x l n 0 s []).1 (Kd x l n 0 s []).2.1:=by
   rw [show 0+n=n+0 by omega]
   exact runG_rot (fun j c=>pick_rot l n j c) m 0 _ _
  rw [hr]
  have hlen:=runG_len n 0 s [] hx
  generalize Kd x l n 0 s []=A at *
  obtain ⟨c1,c2⟩:=runG_out x (rotF l n) m 0 A.1 A.2.1
  have hst:Ub x A.1→Kd x (rotF l n) m 0 A.1 []=(A.1,[],0):=fun h=>Ado h
  generalize Kd x (rotF l n) m 0 A.1 []=Q at *
  refine ⟨?_,fun hl=>?_,fun hz=>?_⟩
  ·by_cases hQ:Q.2.2=0
   ·rw [c2 hQ,hQ]
   ·rw [(c1 hQ).1]
  ·rcases hlen with h | h
   ·simp at h;omega
   ·rw [hst h]
  ·by_cases hQ:Q.2.2=0
   ·rw [c2 hQ];exact ⟨rfl,rfl⟩
   ·rw [(c1 hQ).1] at hz;exact absurd hz hQ
end Go.Proofs.YtckpldpombdkgaaGreat
