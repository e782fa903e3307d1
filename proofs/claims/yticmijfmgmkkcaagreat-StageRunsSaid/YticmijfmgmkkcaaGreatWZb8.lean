import Derived.Test.YticmijfmgmkkcaaGreatWZb8a
set_option linter.unusedSimpArgs false
set_option linter.unusedVariables false
set_option maxRecDepth 100000
namespace Go.Proofs.YticmijfmgmkkcaaGreat
open Go.Sx
structure RF (x:StT) (ins:List (List Int)) (J:Nat→RT→Prop) (r:Nat) (s:SST) (ats:List Int) (outs:List (List Int)):Prop where
 need:(needF x s).2=0∧((needF x s).1=[]∨∃ i,(needF x s).1=[i])
 inx:∀ {j:Int},oneOf (needF x s).1=some j→0≤j∧j < (ins.length:Int)
 atx:∀ {j:Int},oneOf (needF x s).1=some j→0≤j∧j < (ats.length:Int)
 bad:∀ {j:Int},oneOf (needF x s).1=some j→(bif bif decide (j < 0) then true else decide ((ins.length:Int)≤j) then true else s.2.2)=true→False
 item:∀ {j:Int},oneOf (needF x s).1=some j→decide (ats.getD j.toNat 0=((ins.getD j.toNat []).length:Int))=false→0≤ats.getD j.toNat 0∧ats.getD j.toNat 0 < ((ins.getD j.toNat []).length:Int)
 endk:∀ {j:Int},oneOf (needF x s).1=some j→decide (ats.getD j.toNat 0=((ins.getD j.toNat []).length:Int))=true→(endG x s j).2.2.2=0
 endn:∀ {j:Int},oneOf (needF x s).1=some j→decide (ats.getD j.toNat 0=((ins.getD j.toNat []).length:Int))=true→Nx J r (s,ats,outs) (endG x s j).1 ats (endG x s j).2.1
 takk:∀ {j:Int},oneOf (needF x s).1=some j→decide (ats.getD j.toNat 0=((ins.getD j.toNat []).length:Int))=false→(takeF x s j ((ins.getD j.toNat []).getD (ats.getD j.toNat 0).toNat 0)).2.2=0
 takn:∀ {j:Int},oneOf (needF x s).1=some j→decide (ats.getD j.toNat 0=((ins.getD j.toNat []).length:Int))=false→Nx J r (s,ats,outs) (takeF x s j ((ins.getD j.toNat []).getD (ats.getD j.toNat 0).toNat 0)).1 (ats.set j.toNat (ats.getD j.toNat 0+1)) (takeF x s j ((ins.getD j.toNat []).getD (ats.getD j.toNat 0).toNat 0)).2.1
 done:hasOne (needF x s).1=false→s.2.2=true→outs=outF x ins
 end1:hasOne (needF x s).1=false→s.2.2=false→(bif !decide (x.1=1) then true else decide (s.2.1=(x.2.2.2.length:Int)))=true→(endG x s (-1)).2.2.2=0∧Nx J r (s,ats,outs) (endG x s (-1)).1 ats (endG x s (-1)).2.1
 tak1:hasOne (needF x s).1=false→s.2.2=false→(bif !decide (x.1=1) then true else decide (s.2.1=(x.2.2.2.length:Int)))=false→(takeF x s (-1) 0).2.2=0∧Nx J r (s,ats,outs) (takeF x s (-1) 0).1 ats (takeF x s (-1) 0).2.1
theorem rd_facts {x:StT} {ins:List (List Int)} {J:Nat→RT→Prop} {r:Nat} {s:SST} {ats:List Int} {outs:List (List Int)} (h:Rnd x ins J r (s,ats,outs)):RF x ins J r s ats outs:=by
 obtain ⟨g1,g2,g3,g4⟩:=h
 replace g1:(needF x s).2=0:=g1
 replace g2:ats.length=ins.length:=g2
 rcases g4 with ⟨n1,n2,n3⟩ | ⟨k,p,n1,n2,n3,n4,n5,n6,n7⟩ | ⟨n1,n2,n3,n4,n5⟩
 ·replace n1:(needF x s).1=[]:=n1
  replace n2:s.2.2=true:=n2
  have ab:∀ {j:Int} {q:Prop},oneOf (needF x s).1=some j→q:=fun h=>by rw [n1] at h;cases h
  exact ⟨⟨g1,.inl n1⟩,ab,ab,fun h=>ab h,fun h=>ab h,fun h=>ab h,fun h=>ab h,fun h=>ab h,fun h=>ab h,fun _ _=>n3,fun _ h=>(by rw [n2] at h;cases h),fun _ h=>(by rw [n2] at h;cases h)⟩
 ·replace n1:(needF x s).1=[(k:Int)]:=n1
  replace n3:s.2.2=false:=n3
  replace n4:ats.getD k 0=(p:Int):=n4
  have ej:∀ {j:Int},oneOf (needF x s).1=some j→j=(k:Int):=fun h=>by rw [n1] at h;cases h;rfl
  have ab:∀ {q:Prop},hasOne (needF x s).1=false→q:=fun h=>by rw [n1] at h;exact absurd h (by show ¬ true=false;decide)
  refine ⟨⟨g1,.inr ⟨_,n1⟩⟩,fun h=>?_,fun h=>?_,fun h h'=>?_,fun h h'=>?_,fun h h'=>?_,fun h h'=>?_,fun h h'=>?_,fun h h'=>?_,fun h _=>ab h,fun h=>ab h,fun h=>ab h⟩
  ·have:=ej h;omega
  ·have:=ej h;omega
  ·have:=ej h;subst this
   rw [n3,decide_eq_false (by omega),decide_eq_false (by omega)] at h';cases h'
  ·have:=ej h;subst this
   have h9:=of_decide_eq_false h'
   rw [Int.toNat_natCast,n4] at h9 ⊢
   omega
  ·have:=ej h;subst this
   have h9:=of_decide_eq_true h'
   rw [Int.toNat_natCast,n4] at h9
   exact (n6 (by omega)).1
  ·have:=ej h;subst this
   have h9:=of_decide_eq_true h'
   rw [Int.toNat_natCast,n4] at h9
   exact (n6 (by omega)).2
  ·have:=ej h;subst this
   have h9:=of_decide_eq_false h'
   rw [Int.toNat_natCast,n4] at h9 ⊢
   exact (n7 (by omega)).1
  ·have:=ej h;subst this
   have h9:=of_decide_eq_false h'
   rw [Int.toNat_natCast,n4] at h9 ⊢
   exact (n7 (by omega)).2
 ·replace n1:(needF x s).1=[]:=n1
  replace n2:s.2.2=false:=n2
  have ab:∀ {j:Int} {q:Prop},oneOf (needF x s).1=some j→q:=fun h=>by rw [n1] at h;cases h
  refine ⟨⟨g1,.inl n1⟩,ab,ab,fun h=>ab h,fun h=>ab h,fun h=>ab h,fun h=>ab h,fun h=>ab h,fun h=>ab h,fun _ h=>(by rw [n2] at h;cases h),fun _ _ h=>?_,fun _ _ h=>?_⟩
  ·rw [decide_eq_true n3] at h
   exact n4 (of_decide_eq_true h)
  ·rw [decide_eq_true n3] at h
   exact n5 (of_decide_eq_false h)
theorem addR_get:∀ (a b:List (List Int)) (i:Nat),b.length=a.length→(addR a b).getD i []=a.getD i []++b.getD i []
 | [],[],i,_=>by simp [addR]
 | [],_ :: _,_,h=>by simp at h
 | _ :: _,[],_,h=>by simp at h
 | x :: a,y :: b,0,_=>rfl
 | x :: a,y :: b,i+1,h=>by
  have ih:=addR_get a b i (by simpa using h)
  show (addR a b).getD i []=_
  rw [ih];rfl
theorem long_get {o:List (List Int)} (h:o.any longB=false) (i:Nat):(o.getD i []).length≤200:=by
 by_cases hi:i < o.length
 ·have h1:=List.any_eq_false.1 h (o.getD i []) (by simp [List.getD_eq_getElem?_getD,List.getElem?_eq_getElem hi])
  unfold longB at h1
  have h2:¬ 200 < ((o.getD i []).length:Int):=fun h3=>h1 (decide_eq_true h3)
  omega
 ·simp [List.getD_eq_getElem?_getD,List.getElem?_eq_none (show o.length≤i by omega)]
theorem rows_le {x:StT} {ins:List (List Int)} (hm:(meanF x ins).2=0) {J:Nat→RT→Prop} (hJ:∀ r t,J r t→Rnd x ins J r t):∀ (r:Nat) (t:RT),J r t→∀ i,(t.2.2.getD i []).length≤200:=by
 intro r
 induction r using Nat.strongRecOn with
 | _ r ih =>
  intro t hj i
  obtain ⟨-,-,-,g4⟩:=hJ r t hj
  have step:∀ s at2 o,Nx J r t s at2 o→(t.2.2.getD i []).length≤200:=by
   rintro s at2 o ⟨hl,r',hr,hj'⟩
   have h1:=ih r' hr _ hj' i
   replace h1:((addR t.2.2 o).getD i []).length≤200:=h1
   rw [addR_get _ _ _ hl,List.length_append] at h1
   omega
  rcases g4 with ⟨_,_,h⟩ | ⟨k,p,_,_,_,_,h6,hE,hT⟩ | ⟨_,_,_,hE,hT⟩
  ·rw [h]
   exact long_get (mean_iff.1 hm).2.2.2.2 i
  ·by_cases hp:p=(ins.getD k []).length
   ·exact step _ _ _ (hE hp).2
   ·exact step _ _ _ (hT (by omega)).2
  ·by_cases hp:t.1.2.1=(x.2.2.2.length:Int)
   ·exact step _ _ _ (hE hp).2
   ·exact step _ _ _ (hT hp).2
theorem bool_no {a:Bool} (h:(!a)=true) (h':a=true):False:=by rw [h'] at h;cases h
theorem bool_no2 {a:Bool} (h:(!a)=false) (h':a=false):False:=by rw [h'] at h;cases h
theorem nx_to {J:Nat→RT→Prop} {r:Nat} {t:RT} {s s':SST} {a:List Int} {o o':List (List Int)} (n:Nx J r t s a o) (e:s'=s) (e':o'=o):Nx J r t s' a o':=by
 subst e
 subst e'
 exact n
theorem addR0 {w:List (List Int)} (h:w.length=0):addR [] w=[]:=by
 rw [List.length_eq_zero_iff.1 h];rfl
theorem addR1 {o:List Int} {w:List (List Int)} (h:w.length=1):addR [o] w=[o++w.getD 0 []]:=by
 match w,h with
 | [a],_=>rfl
theorem addR2 {o q:List Int} {w:List (List Int)} (h:w.length=2):addR [o,q] w=[o++w.getD 0 [],q++w.getD 1 []]:=by
 match w,h with
 | [a,b],_=>rfl
theorem call_at {sem:CallSem} {g:FuncId} {a:List AV} {H:List Ob} {n:Nat} {K:AV→List Ob→Nat→Prop} (a':List AV) (H':List Ob) (n':Nat) (h:sem g a' H' n' K) (e1:a=a') (e2:H=H') (e3:n=n'):sem g a H n K:=by
 subst e1 e2 e3
 exact h
set_option maxHeartbeats 8000000 in
theorem law8:LawOk Tryz.prog 8 [tSt,tIss] [true,false]:=by
 refine ⟨cxQ8,3,cxQ8_good,fun (⟨⟨k,z,⟨ek,eo,em,ev,ea⟩,l⟩,ins,_⟩ : StT × List (List Int) × Unit) fine=>?_⟩
 obtain ⟨sem,A0,A1,A2,es⟩ : ∃ sem,AddS0 sem∧AddS1 sem∧AddS2 sem∧sem=callN cxQ8 Tryz.prog 1:=⟨_,add0,add1,add2,rfl⟩
 rw [show callN cxQ8 Tryz.prog 3=callS cxQ8 Tryz.prog (callS cxQ8 Tryz.prog (callN cxQ8 Tryz.prog 1)) from rfl,← es]
 clear es
 by_cases hm:(meanF (k,z,ExprT.mk ek eo em ev ea,l) ins).2=0
 ·obtain ⟨hchk,hl,hs,hc,hb⟩:=mean_iff.1 hm
  have he:=mean_eq hm
  obtain ⟨J,hJ,r0,hr0,hst⟩:=runs_ok hm
  have hil:ins.length≤2:=by
   have hkn:∀ q:Int,1≤q∧q≤10→(knownF q).1≤2:=fun q hq=>by
    rcases kinds hq with rfl | rfl | rfl | rfl | rfl | rfl | rfl | rfl | rfl | rfl <;> decide
   have:=hkn k (chk_kind hchk)
   replace hl:(ins.length:Int)=(knownF k).1:=hl
   omega
  have hkn3:(knownF k).2.1=0∨(knownF k).2.1=1∨(knownF k).2.1=2:=by
   have hkn:∀ q:Int,1≤q∧q≤10→(knownF q).2.1=0∨(knownF q).2.1=1∨(knownF q).2.1=2:=fun q hq=>by
    rcases kinds hq with rfl | rfl | rfl | rfl | rfl | rfl | rfl | rfl | rfl | rfl <;> decide
   exact hkn k (chk_kind hchk)
  have n21:stOut (k,z,ExprT.mk ek eo em ev ea,l)=0∨stOut (k,z,ExprT.mk ek eo em ev ea,l)=1∨stOut (k,z,ExprT.mk ek eo em ev ea,l)=2:=by
   rw [stOut,if_pos hchk]
   exact hkn3
  have m01:(0:Int)≤0∧(0:Int)=0∧(0:Int) * ((24:Nat):Int)≤((lim:Nat):Int)∧(0:Int)≤((lim:Nat):Int):=⟨by decide,rfl,by decide,by decide⟩
  have m02:(0:Int)≤1∧(1:Int)=1∧(1:Int) * ((24:Nat):Int)≤((lim:Nat):Int)∧(1:Int)≤((lim:Nat):Int):=⟨by decide,rfl,by decide,by decide⟩
  have room1:ins.length * 8≤lim:=by simp only [lim];omega
  have emz:∀ {y:Rens rIssI} {p:Prop},y=((meanF (k,z,ExprT.mk ek eo em ev ea,l) ins).1,(meanF (k,z,ExprT.mk ek eo em ev ea,l) ins).2,())→(!decide (y.2.1=0))=true→p:=fun h h'=>by
   rw [h] at h'
   have h9:¬ (meanF (k,z,ExprT.mk ek eo em ev ea,l) ins).2=0:=by simpa using h'
   exact absurd hm h9
  refine (aI (by first | kernel_rfl | rfl) (aI True.intro (aI (fun h0=>(aI True.intro (fin_of rfl (by rfl)))) (fun h0=>(aI True.intro (fun (h1:List (List Int) × Int × PUnit)=>(fun h2=>(aI (fun h3=>(fun h4=>(aI (fun h5=>True.intro) (fin_of rfl (by exact emz h2 h3))))) (fun h3=>(aI (by first | kernel_rfl | rfl) (aI (by omega) (aI (fun h6=>(aI (by decide) (fun h7=>(aI (by (intros;(try subst_vars);(try simp only [nB] at *);(try simp only [inK,big,lim,nL] at *);omega)) ?_)))) (fun h6=>(aI (fun h8=>(aI (by decide) (fun h9=>(aI (by (intros;(try subst_vars);(try simp only [nB] at *);(try simp only [inK,big,lim,nL] at *);omega)) ?_)))) (fun h8=>(aI (by decide) (fun h10=>(aI (by (intros;(try subst_vars);(try simp only [nB] at *);(try simp only [inK,big,lim,nL] at *);omega)) ?_))))))))))))))))))
  ·have hk1:J r0 (([],0,false),List.replicate ins.length 0,[[]]):=by
    have h9:(knownF k).2.1=1:=by
     have e9:stOut (k,z,ExprT.mk ek eo em ev ea,l)=(knownF k).2.1:=by rw [stOut,if_pos hchk]
     rw [← e9]
     exact (of_decide_eq_true (p:=stOut (k,z,ExprT.mk ek eo em ev ea,l)=1) (by assumption))
    have h6:=hst
    unfold start at h6
    replace h6:J r0 (([],0,false),List.replicate ins.length 0,List.replicate (knownF k).2.1.toNat []):=h6
    rw [h9] at h6
    exact h6
   refine ex4 _ (fun p:Nat × Nat × (List Int × Int × Bool) × List Int × List Int=>⟨[.any,.sl (.sl (.int .i64)) ins,.ptr 1 0,.any,.any,.ptr 2 0,.any,.ptr 3 0,.ptr 5 0,.fn (Fn.func 62) [] [.ptr 5 0],.own 6,.any,.any,.any,.any,.any,.any,.any,.any,.any,.any,.any,.any,.any,.int .i64 (p.1:Int),.any,.any,.any,.any,.any,.any,.any,.any,.any,.any,.any,.any,.any,.any,.any,.any,.any,.any,.any,.any,.any,.any,.any,.any,.any,.any,.any,.any,.any,.any,.any,.any,.any,.any,.any,.any,.any,.any,.any,.any,.any,.any,.any,.any,.any,.any,.any,.any,.any,.any,.any,.any,.any,.any,.any,.any,.any,.any,.any,.any,.any,.any,.any,.any,.any,.any,.any,.any,.any,.any,.any,.any,.any,.any,.any,.any,.any,.any,.any,.any,.any,.any,.any,.any,.any,.any,.any,.any,.any,.any,.any,.any,.any,.any,.any,.any,.any,.any,.any,.any,.any,.any,.any,.any,.any,.any,.any,.any,.any],[.cells   [.int .i64 k,.int .i64 z,.int .i64 (ExprT.mk ek eo em ev ea).kind,     .int .i64 (ExprT.mk ek eo em ev ea).op,.str (ExprT.mk ek eo em ev ea).name,     .int .i64 (ExprT.mk ek eo em ev ea).value,.sl .expr (ExprT.mk ek eo em ev ea).args,     .sl (.int .i64) l],.cells   [.int .i64 k,.int .i64 z,.int .i64 (ExprT.mk ek eo em ev ea).kind,     .int .i64 (ExprT.mk ek eo em ev ea).op,.str (ExprT.mk ek eo em ev ea).name,     .int .i64 (ExprT.mk ek eo em ev ea).value,.sl .expr (ExprT.mk ek eo em ev ea).args,     .sl (.int .i64) l],.cells [.cap0,.int .i64 0,.bool false],.cells [.sl tI p.2.2.1.1,.int .i64 p.2.2.1.2.1,.bool p.2.2.1.2.2],.cells [.own 7],.cells [.csl tI 4 (Int.toNat 1)],.rows tI p.2.2.2.1,.rows tI p.2.2.2.2],8⟩) (fun p=>p.1+p.2.1≤r0∧J p.2.1 (p.2.2.1,p.2.2.2.1,[p.2.2.2.2])) (fun p=>p.2.1) (aI (Exists.intro ((0,r0,([],0,false),List.replicate ins.length 0,[])) (Exists.intro ([some 0,some 1,some 2,some 3,some 4,some 5,some 6,none]) (aI ?_ (aI (by rfl) (aI (by rfl) (aI (aI (aI (by rfl) (by rfl)) (aI (aI (by rfl) (by rfl)) (aI (aI (by rfl) (by rfl)) (aI (aI (by rfl) (by rfl)) (aI (aI (by rfl) (by rfl)) (aI (aI (by rfl) (by rfl)) (aI (by rfl) (aI (by rfl) True.intro)))))))) (by rfl))))))) ?_)
   ·exact ⟨Nat.le_of_eq (Nat.zero_add _),hk1⟩
   rintro ⟨i,r,⟨hd,c,b⟩,ats,o⟩ ⟨hi,hj⟩
   replace hi:i+r≤r0:=hi
   replace hj:J r ((hd,c,b),ats,[o]):=hj
   obtain ⟨g1,g2,g3,g4⟩:=hJ _ _ hj
   replace g1:(needF (k,z,ExprT.mk ek eo em ev ea,l) (hd,c,b)).2=0:=g1
   replace g2:ats.length=ins.length:=g2
   replace g3:(([o]:List (List Int)).length:Int)=(knownF k).2.1:=g3
   have R:=rd_facts (hJ _ _ hj)
   have nx:∀ {j:Int},oneOf (needF (k,z,ExprT.mk ek eo em ev ea,l) (hd,c,b)).1=some j→(!decide (ats.getD j.toNat 0=((ins.getD j.toNat []).length:Int)))=true→decide (ats.getD j.toNat 0=((ins.getD j.toNat []).length:Int))=false:=fun _ h=>by simpa using h
   have nr:∀ {j:Int},oneOf (needF (k,z,ExprT.mk ek eo em ev ea,l) (hd,c,b)).1=some j→(!decide (ats.getD j.toNat 0=((ins.getD j.toNat []).length:Int)))=true→-9223372036854775808≤ats.getD j.toNat 0+1∧ats.getD j.toNat 0+1≤9223372036854775807:=fun {j} h h'=>by
    have h9:=R.item h (nx h h')
    have h8:=str_len hs j.toNat
    omega
   have ek1:b=false→hasOne (needF (k,z,ExprT.mk ek eo em ev ea,l) (hd,c,b)).1=false→(bif !decide (k=1) then true else decide (c=(l.length:Int)))=true→(endG (k,z,ExprT.mk ek eo em ev ea,l) (hd,c,b) (-1)).2.2.2=0:=fun h1 h2 h3=>(R.end1 h2 h1 h3).1
   have tk1:b=false→hasOne (needF (k,z,ExprT.mk ek eo em ev ea,l) (hd,c,b)).1=false→(bif !decide (k=1) then true else decide (c=(l.length:Int)))=false→(takeF (k,z,ExprT.mk ek eo em ev ea,l) (hd,c,b) (-1) 0).2.2=0:=fun h1 h2 h3=>(R.tak1 h2 h1 h3).1
   refine (aI (fun w0=>(aI (R.need) (aI (fun w1=>(fun w2=>(fun w3=>(fun w4=>(aI (fun w5=>False.elim (Bool.false_ne_true (Eq.trans (by kernel_rfl) w5))) (fun w5=>(fun w6=>(aI (fun w7=>(aI (by (intros;(try subst_vars);(try simp only [nB] at *);(try simp only [inK,big,lim,nL] at *);omega)) (fun w8=>(aI (fun w9=>(aI (by first | kernel_rfl | rfl) (aI (fun w10=>True.intro) (aI (fun w11=>True.intro) (fin_of rfl (by exact (R.bad w3 w9).elim)))))) (fun w9=>(aI (by first | kernel_rfl | rfl) (aI (R.atx w3) (aI (R.inx w3) (fun w12=>(aI (fun w13=>(aI (by first | kernel_rfl | rfl) (aI (R.inx w3) (aI (R.atx w3) (aI (R.item w3 (nx w3 w13)) (aI (R.atx w3) (aI (nr w3 w13) (aI (R.atx w3) (aI (fun w14=>(aI (R.endk w3 (by assumption)) (fun w15=>(fun w16=>(fun w17=>(fun w18=>(fun w19=>(fun w20=>(fun w21=>(fun w22=>(aI (fun w23=>?_) (fun w23=>False.elim (Bool.false_ne_true (Eq.trans (by kernel_rfl) w23)))))))))))))) (fun w14=>(aI (R.takk w3 (by assumption)) (fun w24=>(fun w25=>(fun w26=>(fun w27=>(fun w28=>(fun w29=>(aI (fun w30=>?_) (fun w30=>False.elim (Bool.false_ne_true (Eq.trans (by kernel_rfl) w30))))))))))))))))))))) (fun w13=>(aI (fun w31=>(aI (R.endk w3 (by assumption)) (fun w32=>(fun w33=>(fun w34=>(fun w35=>(fun w36=>(fun w37=>(fun w38=>(fun w39=>(aI (fun w40=>?_) (fun w40=>False.elim (Bool.false_ne_true (Eq.trans (by kernel_rfl) w40)))))))))))))) (fun w31=>(aI (by (intros;(try subst_vars);(try simp only [nB] at *);(try simp only [inK,big,lim,nL] at *);omega)) (fun w41=>(fun w42=>(fun w43=>(fun w44=>(fun w45=>(fun w46=>(aI (fun w47=>?_) (fun w47=>False.elim (Bool.false_ne_true (Eq.trans (by kernel_rfl) w47)))))))))))))))))))))))) (fun w7=>False.elim (Bool.false_ne_true (Eq.symm (Eq.trans (by kernel_rfl) w7)))))))))))) (fun w1=>(fun w48=>(aI (fun w49=>False.elim (Bool.false_ne_true (Eq.trans (by kernel_rfl) w49))) (fun w49=>(fun w50=>(aI (fun w51=>False.elim (Bool.false_ne_true (Eq.trans (by kernel_rfl) w51))) (fun w51=>(aI (fun w52=>(aI (by first | kernel_rfl | rfl) (aI (fun w53=>True.intro) (aI (fun w54=>True.intro) (fin_of rfl ?_))))) (fun w52=>(fun w55=>(aI (fun w56=>(aI (ek1 (by assumption) (by assumption) (by assumption)) (fun w57=>(fun w58=>(fun w59=>(fun w60=>(fun w61=>(fun w62=>(fun w63=>(fun w64=>(aI (fun w65=>?_) (fun w65=>False.elim (Bool.false_ne_true (Eq.trans (by kernel_rfl) w65)))))))))))))) (fun w56=>(aI (tk1 (by assumption) (by assumption) (by assumption)) (fun w66=>(fun w67=>(fun w68=>(fun w69=>(fun w70=>(fun w71=>(aI (fun w72=>?_) (fun w72=>False.elim (Bool.false_ne_true (Eq.trans (by kernel_rfl) w72)))))))))))))))))))))))))) (fun (w0:decide ((↑i:Int) < (500:Int))=false)=>absurd (by omega) (of_decide_eq_false w0)))
   ·exact (bool_no w13 w14).elim
   ·obtain ⟨n1,r',n2,n3⟩:=nx_to (R.takn w3 (nx w3 w13)) w28 w29
    replace n1:w27.length=1:=n1
    have q0:=rows_le hm hJ r' _ n3 0
    replace q0:((addR [o] w27).getD 0 []).length≤200:=q0
    rw [addR_get _ _ _ n1,List.length_append] at q0
    replace q0:o.length+(w27.getD 0 []).length≤200:=q0
    replace n3:J r' ((w24,w25,w26),ats.set w2.toNat (ats.getD w2.toNat 0+1),addR [o] w27):=n3
    rw [addR1 n1] at n3
    refine call_at _ _ _ (A1 k z ek eo ev w25 em ea l w24 (ats.set w2.toNat (ats.getD w2.toNat 0+1)) o w26 w27 _ n1 (by omega) ?_) (by kernel_rfl) (by kernel_rfl) rfl
    refine (aI (fun v0=>False.elim (Bool.false_ne_true (Eq.trans (by kernel_rfl) v0))) (fun v0=>(aI (by intros;(try subst_vars);(try simp only [nB] at *);(try simp only [inK,big,lim,nL] at *);omega) ?_)))
    refine Exists.intro ((i+1,r',(w24,w25,w26),ats.set w2.toNat (ats.getD w2.toNat 0+1),o++w27.getD 0 [])) (Exists.intro ([some 0,some 1,some 2,some 3,some 4,some 5,some 6,some 8]) (aI ?_ (aI ?_ (aI (by rfl) (aI (by rfl) (aI (aI (aI (by rfl) (by rfl)) (aI (aI (by rfl) (by rfl)) (aI (aI (by rfl) (by rfl)) (aI (aI (by rfl) (by rfl)) (aI (aI (by rfl) (by rfl)) (aI (aI (by rfl) (by rfl)) (aI (by rfl) (aI (by rfl) True.intro)))))))) (by rfl)))))))
    ·exact ⟨by show i+1+r'≤r0;omega,n3⟩
    ·exact n2
   ·obtain ⟨n1,r',n2,n3⟩:=nx_to (R.endn w3 w31) w37 w38
    replace n1:w35.length=1:=n1
    have q0:=rows_le hm hJ r' _ n3 0
    replace q0:((addR [o] w35).getD 0 []).length≤200:=q0
    rw [addR_get _ _ _ n1,List.length_append] at q0
    replace q0:o.length+(w35.getD 0 []).length≤200:=q0
    replace n3:J r' ((w32,w33,w34),ats,addR [o] w35):=n3
    rw [addR1 n1] at n3
    refine call_at _ _ _ (A1 k z ek eo ev w33 em ea l w32 (ats) o w34 w35 _ n1 (by omega) ?_) (by kernel_rfl) (by kernel_rfl) rfl
    refine (aI (fun v0=>False.elim (Bool.false_ne_true (Eq.trans (by kernel_rfl) v0))) (fun v0=>(aI (by intros;(try subst_vars);(try simp only [nB] at *);(try simp only [inK,big,lim,nL] at *);omega) ?_)))
    refine Exists.intro ((i+1,r',(w32,w33,w34),ats,o++w35.getD 0 [])) (Exists.intro ([some 0,some 1,some 2,some 3,some 4,some 5,some 6,some 8]) (aI ?_ (aI ?_ (aI (by rfl) (aI (by rfl) (aI (aI (aI (by rfl) (by rfl)) (aI (aI (by rfl) (by rfl)) (aI (aI (by rfl) (by rfl)) (aI (aI (by rfl) (by rfl)) (aI (aI (by rfl) (by rfl)) (aI (aI (by rfl) (by rfl)) (aI (by rfl) (aI (by rfl) True.intro)))))))) (by rfl)))))))
    ·exact ⟨by show i+1+r'≤r0;omega,n3⟩
    ·exact n2
   ·exact (bool_no2 w13 w31).elim
   ·have d:=R.done w1 w52
    have d2:h1.1=[o]:=by rw [h2];show (meanF _ _).1=_;rw [he,d]
    rw [show b=true from w52,d2];simp
   ·obtain ⟨n1,r',n2,n3⟩:=nx_to ((R.end1 w1 w52 w56).2) w62 w63
    replace n1:w60.length=1:=n1
    have q0:=rows_le hm hJ r' _ n3 0
    replace q0:((addR [o] w60).getD 0 []).length≤200:=q0
    rw [addR_get _ _ _ n1,List.length_append] at q0
    replace q0:o.length+(w60.getD 0 []).length≤200:=q0
    replace n3:J r' ((w57,w58,w59),ats,addR [o] w60):=n3
    rw [addR1 n1] at n3
    refine call_at _ _ _ (A1 k z ek eo ev w58 em ea l w57 (ats) o w59 w60 _ n1 (by omega) ?_) (by kernel_rfl) (by kernel_rfl) rfl
    refine (aI (fun v0=>False.elim (Bool.false_ne_true (Eq.trans (by kernel_rfl) v0))) (fun v0=>(aI (by intros;(try subst_vars);(try simp only [nB] at *);(try simp only [inK,big,lim,nL] at *);omega) ?_)))
    refine Exists.intro ((i+1,r',(w57,w58,w59),ats,o++w60.getD 0 [])) (Exists.intro ([some 0,some 1,some 2,some 3,some 4,some 5,some 6,some 8]) (aI ?_ (aI ?_ (aI (by rfl) (aI (by rfl) (aI (aI (aI (by rfl) (by rfl)) (aI (aI (by rfl) (by rfl)) (aI (aI (by rfl) (by rfl)) (aI (aI (by rfl) (by rfl)) (aI (aI (by rfl) (by rfl)) (aI (aI (by rfl) (by rfl)) (aI (by rfl) (aI (by rfl) True.intro)))))))) (by rfl)))))))
    ·exact ⟨by show i+1+r'≤r0;omega,n3⟩
    ·exact n2
   ·obtain ⟨n1,r',n2,n3⟩:=nx_to ((R.tak1 w1 w52 w56).2) w70 w71
    replace n1:w69.length=1:=n1
    have q0:=rows_le hm hJ r' _ n3 0
    replace q0:((addR [o] w69).getD 0 []).length≤200:=q0
    rw [addR_get _ _ _ n1,List.length_append] at q0
    replace q0:o.length+(w69.getD 0 []).length≤200:=q0
    replace n3:J r' ((w66,w67,w68),ats,addR [o] w69):=n3
    rw [addR1 n1] at n3
    refine call_at _ _ _ (A1 k z ek eo ev w67 em ea l w66 (ats) o w68 w69 _ n1 (by omega) ?_) (by kernel_rfl) (by kernel_rfl) rfl
    refine (aI (fun v0=>False.elim (Bool.false_ne_true (Eq.trans (by kernel_rfl) v0))) (fun v0=>(aI (by intros;(try subst_vars);(try simp only [nB] at *);(try simp only [inK,big,lim,nL] at *);omega) ?_)))
    refine Exists.intro ((i+1,r',(w66,w67,w68),ats,o++w69.getD 0 [])) (Exists.intro ([some 0,some 1,some 2,some 3,some 4,some 5,some 6,some 8]) (aI ?_ (aI ?_ (aI (by rfl) (aI (by rfl) (aI (aI (aI (by rfl) (by rfl)) (aI (aI (by rfl) (by rfl)) (aI (aI (by rfl) (by rfl)) (aI (aI (by rfl) (by rfl)) (aI (aI (by rfl) (by rfl)) (aI (aI (by rfl) (by rfl)) (aI (by rfl) (aI (by rfl) True.intro)))))))) (by rfl)))))))
    ·exact ⟨by show i+1+r'≤r0;omega,n3⟩
    ·exact n2
  ·have hk2:J r0 (([],0,false),List.replicate ins.length 0,[[],[]]):=by
    have h9:(knownF k).2.1=2:=by
     have e9:stOut (k,z,ExprT.mk ek eo em ev ea,l)=(knownF k).2.1:=by rw [stOut,if_pos hchk]
     rw [← e9]
     exact (of_decide_eq_true (p:=stOut (k,z,ExprT.mk ek eo em ev ea,l)=2) (by assumption))
    have h6:=hst
    unfold start at h6
    replace h6:J r0 (([],0,false),List.replicate ins.length 0,List.replicate (knownF k).2.1.toNat []):=h6
    rw [h9] at h6
    exact h6
   refine ex4 _ (fun p:Nat × Nat × (List Int × Int × Bool) × List Int × List Int × List Int=>⟨[.any,.sl (.sl (.int .i64)) ins,.ptr 1 0,.any,.any,.ptr 2 0,.any,.ptr 3 0,.ptr 5 0,.fn (Fn.func 62) [] [.ptr 5 0],.own 6,.any,.any,.any,.any,.any,.any,.any,.any,.any,.any,.any,.any,.any,.int .i64 (p.1:Int),.any,.any,.any,.any,.any,.any,.any,.any,.any,.any,.any,.any,.any,.any,.any,.any,.any,.any,.any,.any,.any,.any,.any,.any,.any,.any,.any,.any,.any,.any,.any,.any,.any,.any,.any,.any,.any,.any,.any,.any,.any,.any,.any,.any,.any,.any,.any,.any,.any,.any,.any,.any,.any,.any,.any,.any,.any,.any,.any,.any,.any,.any,.any,.any,.any,.any,.any,.any,.any,.any,.any,.any,.any,.any,.any,.any,.any,.any,.any,.any,.any,.any,.any,.any,.any,.any,.any,.any,.any,.any,.any,.any,.any,.any,.any,.any,.any,.any,.any,.any,.any,.any,.any,.any,.any,.any,.any,.any,.any],[.cells   [.int .i64 k,.int .i64 z,.int .i64 (ExprT.mk ek eo em ev ea).kind,     .int .i64 (ExprT.mk ek eo em ev ea).op,.str (ExprT.mk ek eo em ev ea).name,     .int .i64 (ExprT.mk ek eo em ev ea).value,.sl .expr (ExprT.mk ek eo em ev ea).args,     .sl (.int .i64) l],.cells   [.int .i64 k,.int .i64 z,.int .i64 (ExprT.mk ek eo em ev ea).kind,     .int .i64 (ExprT.mk ek eo em ev ea).op,.str (ExprT.mk ek eo em ev ea).name,     .int .i64 (ExprT.mk ek eo em ev ea).value,.sl .expr (ExprT.mk ek eo em ev ea).args,     .sl (.int .i64) l],.cells [.cap0,.int .i64 0,.bool false],.cells [.sl tI p.2.2.1.1,.int .i64 p.2.2.1.2.1,.bool p.2.2.1.2.2],.cells [.own 7,.own 8],.cells [.csl tI 4 (Int.toNat 2)],.rows tI p.2.2.2.1,.rows tI p.2.2.2.2.1,.rows tI p.2.2.2.2.2],9⟩) (fun p=>p.1+p.2.1≤r0∧J p.2.1 (p.2.2.1,p.2.2.2.1,[p.2.2.2.2.1,p.2.2.2.2.2])) (fun p=>p.2.1) (aI (Exists.intro ((0,r0,([],0,false),List.replicate ins.length 0,([],[]))) (Exists.intro ([some 0,some 1,some 2,some 3,some 4,some 5,some 6,none,none]) (aI ?_ (aI (by rfl) (aI (by rfl) (aI (aI (aI (by rfl) (by rfl)) (aI (aI (by rfl) (by rfl)) (aI (aI (by rfl) (by rfl)) (aI (aI (by rfl) (by rfl)) (aI (aI (by rfl) (by rfl)) (aI (aI (by rfl) (by rfl)) (aI (by rfl) (aI (by rfl) (aI (by rfl) True.intro))))))))) (by rfl))))))) ?_)
   ·exact ⟨Nat.le_of_eq (Nat.zero_add _),hk2⟩
   rintro ⟨i,r,⟨hd,c,b⟩,ats,⟨o,q⟩⟩ ⟨hi,hj⟩
   replace hi:i+r≤r0:=hi
   replace hj:J r ((hd,c,b),ats,[o,q]):=hj
   obtain ⟨g1,g2,g3,g4⟩:=hJ _ _ hj
   replace g1:(needF (k,z,ExprT.mk ek eo em ev ea,l) (hd,c,b)).2=0:=g1
   replace g2:ats.length=ins.length:=g2
   replace g3:(([o,q]:List (List Int)).length:Int)=(knownF k).2.1:=g3
   have R:=rd_facts (hJ _ _ hj)
   have nx:∀ {j:Int},oneOf (needF (k,z,ExprT.mk ek eo em ev ea,l) (hd,c,b)).1=some j→(!decide (ats.getD j.toNat 0=((ins.getD j.toNat []).length:Int)))=true→decide (ats.getD j.toNat 0=((ins.getD j.toNat []).length:Int))=false:=fun _ h=>by simpa using h
   have nr:∀ {j:Int},oneOf (needF (k,z,ExprT.mk ek eo em ev ea,l) (hd,c,b)).1=some j→(!decide (ats.getD j.toNat 0=((ins.getD j.toNat []).length:Int)))=true→-9223372036854775808≤ats.getD j.toNat 0+1∧ats.getD j.toNat 0+1≤9223372036854775807:=fun {j} h h'=>by
    have h9:=R.item h (nx h h')
    have h8:=str_len hs j.toNat
    omega
   have ek1:b=false→hasOne (needF (k,z,ExprT.mk ek eo em ev ea,l) (hd,c,b)).1=false→(bif !decide (k=1) then true else decide (c=(l.length:Int)))=true→(endG (k,z,ExprT.mk ek eo em ev ea,l) (hd,c,b) (-1)).2.2.2=0:=fun h1 h2 h3=>(R.end1 h2 h1 h3).1
   have tk1:b=false→hasOne (needF (k,z,ExprT.mk ek eo em ev ea,l) (hd,c,b)).1=false→(bif !decide (k=1) then true else decide (c=(l.length:Int)))=false→(takeF (k,z,ExprT.mk ek eo em ev ea,l) (hd,c,b) (-1) 0).2.2=0:=fun h1 h2 h3=>(R.tak1 h2 h1 h3).1
   refine (aI (fun w0=>(aI (R.need) (aI (fun w1=>(fun w2=>(fun w3=>(fun w4=>(aI (fun w5=>False.elim (Bool.false_ne_true (Eq.trans (by kernel_rfl) w5))) (fun w5=>(fun w6=>(aI (fun w7=>(aI (by (intros;(try subst_vars);(try simp only [nB] at *);(try simp only [inK,big,lim,nL] at *);omega)) (fun w8=>(aI (fun w9=>(aI (by first | kernel_rfl | rfl) (aI (fun w10=>True.intro) (aI (fun w11=>True.intro) (fin_of rfl (by exact (R.bad w3 w9).elim)))))) (fun w9=>(aI (by first | kernel_rfl | rfl) (aI (R.atx w3) (aI (R.inx w3) (fun w12=>(aI (fun w13=>(aI (by first | kernel_rfl | rfl) (aI (R.inx w3) (aI (R.atx w3) (aI (R.item w3 (nx w3 w13)) (aI (R.atx w3) (aI (nr w3 w13) (aI (R.atx w3) (aI (fun w14=>(aI (R.endk w3 (by assumption)) (fun w15=>(fun w16=>(fun w17=>(fun w18=>(fun w19=>(fun w20=>(fun w21=>(fun w22=>(aI (fun w23=>?_) (fun w23=>False.elim (Bool.false_ne_true (Eq.trans (by kernel_rfl) w23)))))))))))))) (fun w14=>(aI (R.takk w3 (by assumption)) (fun w24=>(fun w25=>(fun w26=>(fun w27=>(fun w28=>(fun w29=>(aI (fun w30=>?_) (fun w30=>False.elim (Bool.false_ne_true (Eq.trans (by kernel_rfl) w30))))))))))))))))))))) (fun w13=>(aI (fun w31=>(aI (R.endk w3 (by assumption)) (fun w32=>(fun w33=>(fun w34=>(fun w35=>(fun w36=>(fun w37=>(fun w38=>(fun w39=>(aI (fun w40=>?_) (fun w40=>False.elim (Bool.false_ne_true (Eq.trans (by kernel_rfl) w40)))))))))))))) (fun w31=>(aI (by (intros;(try subst_vars);(try simp only [nB] at *);(try simp only [inK,big,lim,nL] at *);omega)) (fun w41=>(fun w42=>(fun w43=>(fun w44=>(fun w45=>(fun w46=>(aI (fun w47=>?_) (fun w47=>False.elim (Bool.false_ne_true (Eq.trans (by kernel_rfl) w47)))))))))))))))))))))))) (fun w7=>False.elim (Bool.false_ne_true (Eq.symm (Eq.trans (by kernel_rfl) w7)))))))))))) (fun w1=>(fun w48=>(aI (fun w49=>False.elim (Bool.false_ne_true (Eq.trans (by kernel_rfl) w49))) (fun w49=>(fun w50=>(aI (fun w51=>False.elim (Bool.false_ne_true (Eq.trans (by kernel_rfl) w51))) (fun w51=>(aI (fun w52=>(aI (by first | kernel_rfl | rfl) (aI (fun w53=>True.intro) (aI (fun w54=>True.intro) (fin_of rfl ?_))))) (fun w52=>(fun w55=>(aI (fun w56=>(aI (ek1 (by assumption) (by assumption) (by assumption)) (fun w57=>(fun w58=>(fun w59=>(fun w60=>(fun w61=>(fun w62=>(fun w63=>(fun w64=>(aI (fun w65=>?_) (fun w65=>False.elim (Bool.false_ne_true (Eq.trans (by kernel_rfl) w65)))))))))))))) (fun w56=>(aI (tk1 (by assumption) (by assumption) (by assumption)) (fun w66=>(fun w67=>(fun w68=>(fun w69=>(fun w70=>(fun w71=>(aI (fun w72=>?_) (fun w72=>False.elim (Bool.false_ne_true (Eq.trans (by kernel_rfl) w72)))))))))))))))))))))))))) (fun (w0:decide ((↑i:Int) < (500:Int))=false)=>absurd (by omega) (of_decide_eq_false w0)))
   ·exact (bool_no w13 w14).elim
   ·obtain ⟨n1,r',n2,n3⟩:=nx_to (R.takn w3 (nx w3 w13)) w28 w29
    replace n1:w27.length=2:=n1
    have q0:=rows_le hm hJ r' _ n3 0
    replace q0:((addR [o,q] w27).getD 0 []).length≤200:=q0
    rw [addR_get _ _ _ n1,List.length_append] at q0
    replace q0:o.length+(w27.getD 0 []).length≤200:=q0
    have q1:=rows_le hm hJ r' _ n3 1
    replace q1:((addR [o,q] w27).getD 1 []).length≤200:=q1
    rw [addR_get _ _ _ n1,List.length_append] at q1
    replace q1:q.length+(w27.getD 1 []).length≤200:=q1
    replace n3:J r' ((w24,w25,w26),ats.set w2.toNat (ats.getD w2.toNat 0+1),addR [o,q] w27):=n3
    rw [addR2 n1] at n3
    refine call_at _ _ _ (A2 k z ek eo ev w25 em ea l w24 (ats.set w2.toNat (ats.getD w2.toNat 0+1)) o q w26 w27 _ n1 ⟨by omega,by omega⟩ ?_) (by kernel_rfl) (by kernel_rfl) rfl
    refine (aI (fun v0=>False.elim (Bool.false_ne_true (Eq.trans (by kernel_rfl) v0))) (fun v0=>(aI (by intros;(try subst_vars);(try simp only [nB] at *);(try simp only [inK,big,lim,nL] at *);omega) ?_)))
    refine Exists.intro ((i+1,r',(w24,w25,w26),ats.set w2.toNat (ats.getD w2.toNat 0+1),o++w27.getD 0 [],q++w27.getD 1 [])) (Exists.intro ([some 0,some 1,some 2,some 3,some 4,some 5,some 6,some 9,some 10]) (aI ?_ (aI ?_ (aI (by rfl) (aI (by rfl) (aI (aI (aI (by rfl) (by rfl)) (aI (aI (by rfl) (by rfl)) (aI (aI (by rfl) (by rfl)) (aI (aI (by rfl) (by rfl)) (aI (aI (by rfl) (by rfl)) (aI (aI (by rfl) (by rfl)) (aI (by rfl) (aI (by rfl) (aI (by rfl) True.intro))))))))) (by rfl)))))))
    ·exact ⟨by show i+1+r'≤r0;omega,n3⟩
    ·exact n2
   ·obtain ⟨n1,r',n2,n3⟩:=nx_to (R.endn w3 w31) w37 w38
    replace n1:w35.length=2:=n1
    have q0:=rows_le hm hJ r' _ n3 0
    replace q0:((addR [o,q] w35).getD 0 []).length≤200:=q0
    rw [addR_get _ _ _ n1,List.length_append] at q0
    replace q0:o.length+(w35.getD 0 []).length≤200:=q0
    have q1:=rows_le hm hJ r' _ n3 1
    replace q1:((addR [o,q] w35).getD 1 []).length≤200:=q1
    rw [addR_get _ _ _ n1,List.length_append] at q1
    replace q1:q.length+(w35.getD 1 []).length≤200:=q1
    replace n3:J r' ((w32,w33,w34),ats,addR [o,q] w35):=n3
    rw [addR2 n1] at n3
    refine call_at _ _ _ (A2 k z ek eo ev w33 em ea l w32 (ats) o q w34 w35 _ n1 ⟨by omega,by omega⟩ ?_) (by kernel_rfl) (by kernel_rfl) rfl
    refine (aI (fun v0=>False.elim (Bool.false_ne_true (Eq.trans (by kernel_rfl) v0))) (fun v0=>(aI (by intros;(try subst_vars);(try simp only [nB] at *);(try simp only [inK,big,lim,nL] at *);omega) ?_)))
    refine Exists.intro ((i+1,r',(w32,w33,w34),ats,o++w35.getD 0 [],q++w35.getD 1 [])) (Exists.intro ([some 0,some 1,some 2,some 3,some 4,some 5,some 6,some 9,some 10]) (aI ?_ (aI ?_ (aI (by rfl) (aI (by rfl) (aI (aI (aI (by rfl) (by rfl)) (aI (aI (by rfl) (by rfl)) (aI (aI (by rfl) (by rfl)) (aI (aI (by rfl) (by rfl)) (aI (aI (by rfl) (by rfl)) (aI (aI (by rfl) (by rfl)) (aI (by rfl) (aI (by rfl) (aI (by rfl) True.intro))))))))) (by rfl)))))))
    ·exact ⟨by show i+1+r'≤r0;omega,n3⟩
    ·exact n2
   ·exact (bool_no2 w13 w31).elim
   ·have d:=R.done w1 w52
    have d2:h1.1=[o,q]:=by rw [h2];show (meanF _ _).1=_;rw [he,d]
    rw [show b=true from w52,d2];simp
   ·obtain ⟨n1,r',n2,n3⟩:=nx_to ((R.end1 w1 w52 w56).2) w62 w63
    replace n1:w60.length=2:=n1
    have q0:=rows_le hm hJ r' _ n3 0
    replace q0:((addR [o,q] w60).getD 0 []).length≤200:=q0
    rw [addR_get _ _ _ n1,List.length_append] at q0
    replace q0:o.length+(w60.getD 0 []).length≤200:=q0
    have q1:=rows_le hm hJ r' _ n3 1
    replace q1:((addR [o,q] w60).getD 1 []).length≤200:=q1
    rw [addR_get _ _ _ n1,List.length_append] at q1
    replace q1:q.length+(w60.getD 1 []).length≤200:=q1
    replace n3:J r' ((w57,w58,w59),ats,addR [o,q] w60):=n3
    rw [addR2 n1] at n3
    refine call_at _ _ _ (A2 k z ek eo ev w58 em ea l w57 (ats) o q w59 w60 _ n1 ⟨by omega,by omega⟩ ?_) (by kernel_rfl) (by kernel_rfl) rfl
    refine (aI (fun v0=>False.elim (Bool.false_ne_true (Eq.trans (by kernel_rfl) v0))) (fun v0=>(aI (by intros;(try subst_vars);(try simp only [nB] at *);(try simp only [inK,big,lim,nL] at *);omega) ?_)))
    refine Exists.intro ((i+1,r',(w57,w58,w59),ats,o++w60.getD 0 [],q++w60.getD 1 [])) (Exists.intro ([some 0,some 1,some 2,some 3,some 4,some 5,some 6,some 9,some 10]) (aI ?_ (aI ?_ (aI (by rfl) (aI (by rfl) (aI (aI (aI (by rfl) (by rfl)) (aI (aI (by rfl) (by rfl)) (aI (aI (by rfl) (by rfl)) (aI (aI (by rfl) (by rfl)) (aI (aI (by rfl) (by rfl)) (aI (aI (by rfl) (by rfl)) (aI (by rfl) (aI (by rfl) (aI (by rfl) True.intro))))))))) (by rfl)))))))
    ·exact ⟨by show i+1+r'≤r0;omega,n3⟩
    ·exact n2
   ·obtain ⟨n1,r',n2,n3⟩:=nx_to ((R.tak1 w1 w52 w56).2) w70 w71
    replace n1:w69.length=2:=n1
    have q0:=rows_le hm hJ r' _ n3 0
    replace q0:((addR [o,q] w69).getD 0 []).length≤200:=q0
    rw [addR_get _ _ _ n1,List.length_append] at q0
    replace q0:o.length+(w69.getD 0 []).length≤200:=q0
    have q1:=rows_le hm hJ r' _ n3 1
    replace q1:((addR [o,q] w69).getD 1 []).length≤200:=q1
    rw [addR_get _ _ _ n1,List.length_append] at q1
    replace q1:q.length+(w69.getD 1 []).length≤200:=q1
    replace n3:J r' ((w66,w67,w68),ats,addR [o,q] w69):=n3
    rw [addR2 n1] at n3
    refine call_at _ _ _ (A2 k z ek eo ev w67 em ea l w66 (ats) o q w68 w69 _ n1 ⟨by omega,by omega⟩ ?_) (by kernel_rfl) (by kernel_rfl) rfl
    refine (aI (fun v0=>False.elim (Bool.false_ne_true (Eq.trans (by kernel_rfl) v0))) (fun v0=>(aI (by intros;(try subst_vars);(try simp only [nB] at *);(try simp only [inK,big,lim,nL] at *);omega) ?_)))
    refine Exists.intro ((i+1,r',(w66,w67,w68),ats,o++w69.getD 0 [],q++w69.getD 1 [])) (Exists.intro ([some 0,some 1,some 2,some 3,some 4,some 5,some 6,some 9,some 10]) (aI ?_ (aI ?_ (aI (by rfl) (aI (by rfl) (aI (aI (aI (by rfl) (by rfl)) (aI (aI (by rfl) (by rfl)) (aI (aI (by rfl) (by rfl)) (aI (aI (by rfl) (by rfl)) (aI (aI (by rfl) (by rfl)) (aI (aI (by rfl) (by rfl)) (aI (by rfl) (aI (by rfl) (aI (by rfl) True.intro))))))))) (by rfl)))))))
    ·exact ⟨by show i+1+r'≤r0;omega,n3⟩
    ·exact n2
  ·have hk0:J r0 (([],0,false),List.replicate ins.length 0,[]):=by
    have h9:(knownF k).2.1=0:=by
     have e9:stOut (k,z,ExprT.mk ek eo em ev ea,l)=(knownF k).2.1:=by rw [stOut,if_pos hchk]
     rw [← e9]
     exact (n21.resolve_right fun h=>h.elim (fun h=>of_decide_eq_false (p:=stOut (k,z,ExprT.mk ek eo em ev ea,l)=1) (by assumption) h) fun h=>of_decide_eq_false (p:=stOut (k,z,ExprT.mk ek eo em ev ea,l)=2) (by assumption) h)
    have h6:=hst
    unfold start at h6
    replace h6:J r0 (([],0,false),List.replicate ins.length 0,List.replicate (knownF k).2.1.toNat []):=h6
    rw [h9] at h6
    exact h6
   refine ex4 _ (fun p:Nat × Nat × (List Int × Int × Bool) × List Int × Unit=>⟨[.any,.sl (.sl (.int .i64)) ins,.ptr 1 0,.any,.any,.ptr 2 0,.any,.ptr 3 0,.ptr 5 0,.fn (Fn.func 62) [] [.ptr 5 0],.own 6,.any,.any,.any,.any,.any,.any,.any,.any,.any,.any,.any,.any,.any,.int .i64 (p.1:Int),.any,.any,.any,.any,.any,.any,.any,.any,.any,.any,.any,.any,.any,.any,.any,.any,.any,.any,.any,.any,.any,.any,.any,.any,.any,.any,.any,.any,.any,.any,.any,.any,.any,.any,.any,.any,.any,.any,.any,.any,.any,.any,.any,.any,.any,.any,.any,.any,.any,.any,.any,.any,.any,.any,.any,.any,.any,.any,.any,.any,.any,.any,.any,.any,.any,.any,.any,.any,.any,.any,.any,.any,.any,.any,.any,.any,.any,.any,.any,.any,.any,.any,.any,.any,.any,.any,.any,.any,.any,.any,.any,.any,.any,.any,.any,.any,.any,.any,.any,.any,.any,.any,.any,.any,.any,.any,.any,.any,.any],[.cells   [.int .i64 k,.int .i64 z,.int .i64 (ExprT.mk ek eo em ev ea).kind,     .int .i64 (ExprT.mk ek eo em ev ea).op,.str (ExprT.mk ek eo em ev ea).name,     .int .i64 (ExprT.mk ek eo em ev ea).value,.sl .expr (ExprT.mk ek eo em ev ea).args,     .sl (.int .i64) l],.cells   [.int .i64 k,.int .i64 z,.int .i64 (ExprT.mk ek eo em ev ea).kind,     .int .i64 (ExprT.mk ek eo em ev ea).op,.str (ExprT.mk ek eo em ev ea).name,     .int .i64 (ExprT.mk ek eo em ev ea).value,.sl .expr (ExprT.mk ek eo em ev ea).args,     .sl (.int .i64) l],.cells [.cap0,.int .i64 0,.bool false],.cells [.sl tI p.2.2.1.1,.int .i64 p.2.2.1.2.1,.bool p.2.2.1.2.2],.cells [],.cells [.csl tI 4 (Int.toNat 0)],.rows tI p.2.2.2.1],7⟩) (fun p=>p.1+p.2.1≤r0∧J p.2.1 (p.2.2.1,p.2.2.2.1,[])) (fun p=>p.2.1) (aI (Exists.intro ((0,r0,([],0,false),List.replicate ins.length 0,())) (Exists.intro ([some 0,some 1,some 2,some 3,some 4,some 5,some 6]) (aI ?_ (aI (by rfl) (aI (by rfl) (aI (aI (aI (by rfl) (by rfl)) (aI (aI (by rfl) (by rfl)) (aI (aI (by rfl) (by rfl)) (aI (aI (by rfl) (by rfl)) (aI (aI (by rfl) (by rfl)) (aI (aI (by rfl) (by rfl)) (aI (by rfl) True.intro))))))) (by rfl))))))) ?_)
   ·exact ⟨Nat.le_of_eq (Nat.zero_add _),hk0⟩
   rintro ⟨i,r,⟨hd,c,b⟩,ats,u⟩ ⟨hi,hj⟩
   replace hi:i+r≤r0:=hi
   replace hj:J r ((hd,c,b),ats,[]):=hj
   obtain ⟨g1,g2,g3,g4⟩:=hJ _ _ hj
   replace g1:(needF (k,z,ExprT.mk ek eo em ev ea,l) (hd,c,b)).2=0:=g1
   replace g2:ats.length=ins.length:=g2
   replace g3:(([]:List (List Int)).length:Int)=(knownF k).2.1:=g3
   have R:=rd_facts (hJ _ _ hj)
   have nx:∀ {j:Int},oneOf (needF (k,z,ExprT.mk ek eo em ev ea,l) (hd,c,b)).1=some j→(!decide (ats.getD j.toNat 0=((ins.getD j.toNat []).length:Int)))=true→decide (ats.getD j.toNat 0=((ins.getD j.toNat []).length:Int))=false:=fun _ h=>by simpa using h
   have nr:∀ {j:Int},oneOf (needF (k,z,ExprT.mk ek eo em ev ea,l) (hd,c,b)).1=some j→(!decide (ats.getD j.toNat 0=((ins.getD j.toNat []).length:Int)))=true→-9223372036854775808≤ats.getD j.toNat 0+1∧ats.getD j.toNat 0+1≤9223372036854775807:=fun {j} h h'=>by
    have h9:=R.item h (nx h h')
    have h8:=str_len hs j.toNat
    omega
   have ek1:b=false→hasOne (needF (k,z,ExprT.mk ek eo em ev ea,l) (hd,c,b)).1=false→(bif !decide (k=1) then true else decide (c=(l.length:Int)))=true→(endG (k,z,ExprT.mk ek eo em ev ea,l) (hd,c,b) (-1)).2.2.2=0:=fun h1 h2 h3=>(R.end1 h2 h1 h3).1
   have tk1:b=false→hasOne (needF (k,z,ExprT.mk ek eo em ev ea,l) (hd,c,b)).1=false→(bif !decide (k=1) then true else decide (c=(l.length:Int)))=false→(takeF (k,z,ExprT.mk ek eo em ev ea,l) (hd,c,b) (-1) 0).2.2=0:=fun h1 h2 h3=>(R.tak1 h2 h1 h3).1
   refine (aI (fun w0=>(aI (R.need) (aI (fun w1=>(fun w2=>(fun w3=>(fun w4=>(aI (fun w5=>False.elim (Bool.false_ne_true (Eq.trans (by kernel_rfl) w5))) (fun w5=>(fun w6=>(aI (fun w7=>(aI (by (intros;(try subst_vars);(try simp only [nB] at *);(try simp only [inK,big,lim,nL] at *);omega)) (fun w8=>(aI (fun w9=>(aI (by first | kernel_rfl | rfl) (aI (fun w10=>True.intro) (aI (fun w11=>True.intro) (fin_of rfl (by exact (R.bad w3 w9).elim)))))) (fun w9=>(aI (by first | kernel_rfl | rfl) (aI (R.atx w3) (aI (R.inx w3) (fun w12=>(aI (fun w13=>(aI (by first | kernel_rfl | rfl) (aI (R.inx w3) (aI (R.atx w3) (aI (R.item w3 (nx w3 w13)) (aI (R.atx w3) (aI (nr w3 w13) (aI (R.atx w3) (aI (fun w14=>(aI (R.endk w3 (by assumption)) (fun w15=>(fun w16=>(fun w17=>(fun w18=>(fun w19=>(fun w20=>(fun w21=>(fun w22=>(aI (fun w23=>?_) (fun w23=>False.elim (Bool.false_ne_true (Eq.trans (by kernel_rfl) w23)))))))))))))) (fun w14=>(aI (R.takk w3 (by assumption)) (fun w24=>(fun w25=>(fun w26=>(fun w27=>(fun w28=>(fun w29=>(aI (fun w30=>?_) (fun w30=>False.elim (Bool.false_ne_true (Eq.trans (by kernel_rfl) w30))))))))))))))))))))) (fun w13=>(aI (fun w31=>(aI (R.endk w3 (by assumption)) (fun w32=>(fun w33=>(fun w34=>(fun w35=>(fun w36=>(fun w37=>(fun w38=>(fun w39=>(aI (fun w40=>?_) (fun w40=>False.elim (Bool.false_ne_true (Eq.trans (by kernel_rfl) w40)))))))))))))) (fun w31=>(aI (by (intros;(try subst_vars);(try simp only [nB] at *);(try simp only [inK,big,lim,nL] at *);omega)) (fun w41=>(fun w42=>(fun w43=>(fun w44=>(fun w45=>(fun w46=>(aI (fun w47=>?_) (fun w47=>False.elim (Bool.false_ne_true (Eq.trans (by kernel_rfl) w47)))))))))))))))))))))))) (fun w7=>False.elim (Bool.false_ne_true (Eq.symm (Eq.trans (by kernel_rfl) w7)))))))))))) (fun w1=>(fun w48=>(aI (fun w49=>False.elim (Bool.false_ne_true (Eq.trans (by kernel_rfl) w49))) (fun w49=>(fun w50=>(aI (fun w51=>False.elim (Bool.false_ne_true (Eq.trans (by kernel_rfl) w51))) (fun w51=>(aI (fun w52=>(aI (by first | kernel_rfl | rfl) (aI (fun w53=>True.intro) (aI (fun w54=>True.intro) (fin_of rfl ?_))))) (fun w52=>(fun w55=>(aI (fun w56=>(aI (ek1 (by assumption) (by assumption) (by assumption)) (fun w57=>(fun w58=>(fun w59=>(fun w60=>(fun w61=>(fun w62=>(fun w63=>(fun w64=>(aI (fun w65=>?_) (fun w65=>False.elim (Bool.false_ne_true (Eq.trans (by kernel_rfl) w65)))))))))))))) (fun w56=>(aI (tk1 (by assumption) (by assumption) (by assumption)) (fun w66=>(fun w67=>(fun w68=>(fun w69=>(fun w70=>(fun w71=>(aI (fun w72=>?_) (fun w72=>False.elim (Bool.false_ne_true (Eq.trans (by kernel_rfl) w72)))))))))))))))))))))))))) (fun (w0:decide ((↑i:Int) < (500:Int))=false)=>absurd (by omega) (of_decide_eq_false w0)))
   ·exact (bool_no w13 w14).elim
   ·obtain ⟨n1,r',n2,n3⟩:=nx_to (R.takn w3 (nx w3 w13)) w28 w29
    replace n1:w27.length=0:=n1
    replace n3:J r' ((w24,w25,w26),ats.set w2.toNat (ats.getD w2.toNat 0+1),addR [] w27):=n3
    rw [addR0 n1] at n3
    refine call_at _ _ _ (A0 k z ek eo ev w25 em ea l w24 (ats.set w2.toNat (ats.getD w2.toNat 0+1))  w26 w27 _ n1 trivial ?_) (by kernel_rfl) (by kernel_rfl) rfl
    refine (aI (fun v0=>False.elim (Bool.false_ne_true (Eq.trans (by kernel_rfl) v0))) (fun v0=>(aI (by intros;(try subst_vars);(try simp only [nB] at *);(try simp only [inK,big,lim,nL] at *);omega) ?_)))
    refine Exists.intro ((i+1,r',(w24,w25,w26),ats.set w2.toNat (ats.getD w2.toNat 0+1),())) (Exists.intro ([some 0,some 1,some 2,some 3,some 4,some 5,some 6]) (aI ?_ (aI ?_ (aI (by rfl) (aI (by rfl) (aI (aI (aI (by rfl) (by rfl)) (aI (aI (by rfl) (by rfl)) (aI (aI (by rfl) (by rfl)) (aI (aI (by rfl) (by rfl)) (aI (aI (by rfl) (by rfl)) (aI (aI (by rfl) (by rfl)) (aI (by rfl) True.intro))))))) (by rfl)))))))
    ·exact ⟨by show i+1+r'≤r0;omega,n3⟩
    ·exact n2
   ·obtain ⟨n1,r',n2,n3⟩:=nx_to (R.endn w3 w31) w37 w38
    replace n1:w35.length=0:=n1
    replace n3:J r' ((w32,w33,w34),ats,addR [] w35):=n3
    rw [addR0 n1] at n3
    refine call_at _ _ _ (A0 k z ek eo ev w33 em ea l w32 (ats)  w34 w35 _ n1 trivial ?_) (by kernel_rfl) (by kernel_rfl) rfl
    refine (aI (fun v0=>False.elim (Bool.false_ne_true (Eq.trans (by kernel_rfl) v0))) (fun v0=>(aI (by intros;(try subst_vars);(try simp only [nB] at *);(try simp only [inK,big,lim,nL] at *);omega) ?_)))
    refine Exists.intro ((i+1,r',(w32,w33,w34),ats,())) (Exists.intro ([some 0,some 1,some 2,some 3,some 4,some 5,some 6]) (aI ?_ (aI ?_ (aI (by rfl) (aI (by rfl) (aI (aI (aI (by rfl) (by rfl)) (aI (aI (by rfl) (by rfl)) (aI (aI (by rfl) (by rfl)) (aI (aI (by rfl) (by rfl)) (aI (aI (by rfl) (by rfl)) (aI (aI (by rfl) (by rfl)) (aI (by rfl) True.intro))))))) (by rfl)))))))
    ·exact ⟨by show i+1+r'≤r0;omega,n3⟩
    ·exact n2
   ·exact (bool_no2 w13 w31).elim
   ·have d:=R.done w1 w52
    have d2:h1.1=[]:=by rw [h2];show (meanF _ _).1=_;rw [he,d]
    rw [show b=true from w52,d2];simp
   ·obtain ⟨n1,r',n2,n3⟩:=nx_to ((R.end1 w1 w52 w56).2) w62 w63
    replace n1:w60.length=0:=n1
    replace n3:J r' ((w57,w58,w59),ats,addR [] w60):=n3
    rw [addR0 n1] at n3
    refine call_at _ _ _ (A0 k z ek eo ev w58 em ea l w57 (ats)  w59 w60 _ n1 trivial ?_) (by kernel_rfl) (by kernel_rfl) rfl
    refine (aI (fun v0=>False.elim (Bool.false_ne_true (Eq.trans (by kernel_rfl) v0))) (fun v0=>(aI (by intros;(try subst_vars);(try simp only [nB] at *);(try simp only [inK,big,lim,nL] at *);omega) ?_)))
    refine Exists.intro ((i+1,r',(w57,w58,w59),ats,())) (Exists.intro ([some 0,some 1,some 2,some 3,some 4,some 5,some 6]) (aI ?_ (aI ?_ (aI (by rfl) (aI (by rfl) (aI (aI (aI (by rfl) (by rfl)) (aI (aI (by rfl) (by rfl)) (aI (aI (by rfl) (by rfl)) (aI (aI (by rfl) (by rfl)) (aI (aI (by rfl) (by rfl)) (aI (aI (by rfl) (by rfl)) (aI (by rfl) True.intro))))))) (by rfl)))))))
    ·exact ⟨by show i+1+r'≤r0;omega,n3⟩
    ·exact n2
   ·obtain ⟨n1,r',n2,n3⟩:=nx_to ((R.tak1 w1 w52 w56).2) w70 w71
    replace n1:w69.length=0:=n1
    replace n3:J r' ((w66,w67,w68),ats,addR [] w69):=n3
    rw [addR0 n1] at n3
    refine call_at _ _ _ (A0 k z ek eo ev w67 em ea l w66 (ats)  w68 w69 _ n1 trivial ?_) (by kernel_rfl) (by kernel_rfl) rfl
    refine (aI (fun v0=>False.elim (Bool.false_ne_true (Eq.trans (by kernel_rfl) v0))) (fun v0=>(aI (by intros;(try subst_vars);(try simp only [nB] at *);(try simp only [inK,big,lim,nL] at *);omega) ?_)))
    refine Exists.intro ((i+1,r',(w66,w67,w68),ats,())) (Exists.intro ([some 0,some 1,some 2,some 3,some 4,some 5,some 6]) (aI ?_ (aI ?_ (aI (by rfl) (aI (by rfl) (aI (aI (aI (by rfl) (by rfl)) (aI (aI (by rfl) (by rfl)) (aI (aI (by rfl) (by rfl)) (aI (aI (by rfl) (by rfl)) (aI (aI (by rfl) (by rfl)) (aI (aI (by rfl) (by rfl)) (aI (by rfl) True.intro))))))) (by rfl)))))))
    ·exact ⟨by show i+1+r'≤r0;omega,n3⟩
    ·exact n2
 ·have ab:∀ y:Rens rIssI,y=((meanF (k,z,ExprT.mk ek eo em ev ea,l) ins).1,(meanF (k,z,ExprT.mk ek eo em ev ea,l) ins).2,())→(!decide (y.2.1=0))=false→False:=fun y h h'=>hm (by rw [h] at h';simpa using h')
  have ee:∀ y:Rens rIssI,y=((meanF (k,z,ExprT.mk ek eo em ev ea,l) ins).1,(meanF (k,z,ExprT.mk ek eo em ev ea,l) ins).2,())→((true,()):Bool × Unit)=(bif decide ((y.1.length:Int)=0) then true else false,()):=fun y h=>by
   rw [h,mean_err hm];rfl
  refine (aI (by first | kernel_rfl | rfl) (aI True.intro (aI (fun h0=>(aI True.intro (fin_of rfl (by rfl)))) (fun h0=>(aI True.intro (fun (h1:List (List Int) × Int × PUnit)=>(fun h2=>(aI (fun h3=>(fun h4=>(aI (fun h5=>True.intro) (fin_of rfl (by exact ee h1 h2))))) (fun h3=>(aI (by first | kernel_rfl | rfl) (aI ((ab h1 h2 h3).elim) (aI (fun h6=>(aI (by decide) (fun h7=>(aI ((ab h1 h2 h3).elim) ?_)))) (fun h6=>(aI (fun h8=>(aI (by decide) (fun h9=>(aI ((ab h1 h2 h3).elim) ?_)))) (fun h8=>(aI (by decide) (fun h10=>(aI ((ab h1 h2 h3).elim) ?_))))))))))))))))))
  all_goals exact (ab h1 h2 h3).elim
end Go.Proofs.YticmijfmgmkkcaaGreat
