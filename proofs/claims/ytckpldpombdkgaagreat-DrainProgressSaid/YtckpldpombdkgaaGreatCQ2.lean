/- Pipelines. -/
import Derived.Test.YtckpldpombdkgaaGreatCQ1
import Derived.Test.YtckpldpombdkgaaGreatCZ9
import Derived.Test.YtckpldpombdkgaaGreatCB6
set_option linter.unusedSimpArgs false
set_option linter.unusedVariables false
set_option maxRecDepth 100000
namespace Go.Proofs.YtckpldpombdkgaaGreat
open Go.Sx
@[reducible] def tMv:Ty:=.pair tSS (.pair Xh (.pair .bool (.pair .bool (.pair tI (.pair tI tI)))))
@[reducible] def dMv:AK:=.dat true tMv
@[reducible] def rMv:List (Bool × Ty):=[(true,tMv),(false,.bool)]
def Adv:List (TypeId × Ty):=(93,tMv) :: O7
theorem Ao9 {b:Bool} {p:Prop} [Decidable p] (h:(bif b then true else decide p)=true):b=true∨p:=by
 cases b
 ·exact .inr (of_decide_eq_true h)
 ·exact .inl rfl
theorem Apa {b:Bool} {p:Prop} [Decidable p] (h:(bif b then true else decide p)=false):¬ (b=true∨p):=by
 cases b
 ·exact fun h'=>h'.elim (fun h=>by cases h) (of_decide_eq_false h)
 ·cases h
def okI (x:PlT) (s:FsT) (i:Int):Prop:=WF x∧VS x s∧0≤i∧i < x.1.length
def cxqH:Ctx:=⟨Adv,[(97,([],c31)),(147,([],c30)),(146,([],c32)),(145,([],cFEnd)),(92,([],cIn))]⟩
theorem Adw:Ah Tryz.prog cxqH:=C7 (Ae R7 (Ae Amf (Ae Amg (Ae Akr (Ae gIn Ag)))))
def cNext:Ctr:=fnC [dPl,dFs,dI] rMv (fun y=>okI y.1 y.2.1 y.2.2.1) (fun y=>((Cy y.1 y.2.1 y.2.2.1).1,(Cy y.1 y.2.1 y.2.2.1).2,()))
section
variable {x:PlT} {s:FsT} {i:Int}
theorem Apb (h:(Ci s i).2.2=true):Cy x s i=(zMv,false):=if_pos h
theorem Apc (h:(Ci s i).2.2=false) (h1:(sg x i).1=1) (h2:s.2.2.2=true∨(Ci s i).2.1=(sg x i).2.2.2.length):Cy x s i=(Sc (sg x i) (Ci s i) (-1),true) :=
 (if_neg (fun h'=>Bool.false_ne_true (h.symm.trans h'))).trans ((if_pos h1).trans (if_pos h2))
theorem Apd (h:(Ci s i).2.2=false) (h1:(sg x i).1=1) (h2:¬ (s.2.2.2=true∨(Ci s i).2.1=(sg x i).2.2.2.length)):Cy x s i=(J2 (sg x i) (Ci s i) false (-1) 0,true) :=
 (if_neg (fun h'=>Bool.false_ne_true (h.symm.trans h'))).trans ((if_pos h1).trans (if_neg h2))
variable {k:Int} (h:(Ci s i).2.2=false) (h1:(sg x i).1≠1) (hk:(Ar (sg x i) (Ci s i)).1=[k])
include h h1 hk
theorem Amo:Cy x s i=if 0 < (Dt s (pIn x i k)).2.2.2.2.1.length then (J2 (sg x i) (Ci s i) true k ((Dt s (pIn x i k)).2.2.2.2.1.getD 0 0),true)
 else if Cf (Dt s (pIn x i k))=true then (Sc (sg x i) (Ci s i) k,true) else (zMv,false):=by
 unfold Cy
 rw [if_neg (fun h'=>Bool.false_ne_true (h.symm.trans h')),if_neg h1,hk];rfl
theorem Ape (h2:0 < (Dt s (pIn x i k)).2.2.2.2.1.length):Cy x s i=(J2 (sg x i) (Ci s i) true k ((Dt s (pIn x i k)).2.2.2.2.1.getD 0 0),true):=(Amo h h1 hk).trans (if_pos h2)
theorem Apf (h2:¬ 0 < (Dt s (pIn x i k)).2.2.2.2.1.length) (h3:Cf (Dt s (pIn x i k))=true):Cy x s i=(Sc (sg x i) (Ci s i) k,true):=(Amo h h1 hk).trans ((if_neg h2).trans (if_pos h3))
theorem Apg (h2:¬ 0 < (Dt s (pIn x i k)).2.2.2.2.1.length) (h3:¬ Cf (Dt s (pIn x i k))=true):Cy x s i=(zMv,false):=(Amo h h1 hk).trans ((if_neg h2).trans (if_neg h3))
end
set_option maxHeartbeats 8000000 in
theorem Any:GoodC Tryz.prog 95 cNext:=by
 refine Ap Adw 3 _ _ _ _ ⟨_,Tryz.func95,rfl,rfl⟩ fun (⟨⟨st,ps⟩,⟨ss,cs,os,dr⟩,i,_⟩ : PlT × FsT × Int × Unit) hk=>?_
 replace hk:okI (st,ps) (ss,cs,os,dr) i:=hk
 obtain ⟨w,v,i0,iN⟩:=hk
 replace iN:i < st.length:=iN
 have hls:ss.length=st.length:=v.ls
 have hlc:cs.length=ps.length:=v.lc
 have hnd:(Ar (st.getD i.toNat (Ab tSt)) (ss.getD i.toNat (Ab tSS))).2=0:=by have:=v.nd i.toNat (show i.toNat < st.length by omega);rwa [show ((i.toNat:Nat):Int)=i by omega] at this
 have hin:∀ k,0≤k→k < stIn (st.getD i.toNat (Ab tSt))→0≤pIn (st,ps) i k∧pIn (st,ps) i k < cs.length:=fun k a b=>by
  obtain ⟨q,q1,q2,_⟩:=w.ins i0 iN a b
  rw [q2]
  have q1:q < ps.length:=q1
  omega
 have T:∀ {m:MvT × Bool},Cy (st,ps) (ss,cs,os,dr) i=m→((Cy (st,ps) (ss,cs,os,dr) i).1,(Cy (st,ps) (ss,cs,os,dr) i).2,())=(m.1,m.2,()):=fun h=>by rw [h]
 refine (aF (aF (aO (aO (aI (fun h0=>(Aa rfl ?_)) (fun h0=>(aI (fun h1=>(fun h2=>(aI (fun h3=>(aI tT (fun (h4:(List Int × Int × Bool) × List (List Int) × Bool × Int × PUnit)=>(fun h5=>(Aa rfl ?_))))) (fun h3=>(aI tT (fun (h6:(List Int × Int × Bool) × List (List Int) × Int × PUnit)=>(fun h7=>(Aa rfl ?_)))))))) (fun h1=>(aI tT (fun (h8:List Int × Int × PUnit)=>(fun h9=>(aI ?_ (aF (aI tT (aI ?_ (fun h10=>(aI (fun h11=>(aK (aO (aB (aO (aC (aB (aO (aB (aI (fun h12=>nG h12) (fun h12=>(aI tT (fun (h13:(List Int × Int × Bool) × List (List Int) × Int × PUnit)=>(fun h14=>(Aa rfl ?_))))))))))))))) (fun h11=>(aI tT (aI (fun h15=>(aI (fun h16=>(aI tT (fun (h17:(List Int × Int × Bool) × List (List Int) × Bool × Int × PUnit)=>(fun h18=>(Aa rfl ?_))))) (fun h16=>False.elim (Bool.false_ne_true (Eq.symm (Eq.trans (by kernel_rfl) h16)))))) (fun h15=>(Aa rfl ?_))))))))))))))))))))))
 ·exact T (Apb h0)
 ·simp only [eta] at h5
  subst h5
  exact T (Apc (x:=(st,ps)) (s:=(ss,cs,os,dr)) h0 (of_decide_eq_true h1) (Ao9 h3))
 ·simp only [eta] at h7
  subst h7
  exact T (Apd (x:=(st,ps)) (s:=(ss,cs,os,dr)) h0 (of_decide_eq_true h1) (Apa h3))
 all_goals
  simp only [eta] at h9
  have hk1:(st.getD i.toNat (Ab tSt)).1≠1:=of_decide_eq_false h1
  obtain ⟨k,k1,k2,k3⟩:=Abu hnd hk1 h0
  have e8:h8.1=[k]:=by rw [h9];exact k1
 ·rw [e8];exact ⟨Int.le_refl 0,show (0:Int) < ((1:Nat):Int) by decide⟩
 ·rw [e8];exact hin k k2 k3
 all_goals
  have eg:h8.1.getD (Int.toNat 0) (Ab (.int .i64))=k:=by rw [e8];rfl
 ·rw [eg] at h11 h14 ⊢
  simp only [eta] at h14
  subst h14
  exact T (Ape (x:=(st,ps)) (s:=(ss,cs,os,dr)) h0 hk1 k1 (Int.ofNat_lt.1 (of_decide_eq_true h11)))
 ·rw [eg] at h11 h15 h18 ⊢
  simp only [eta] at h18
  subst h18
  exact T (Apf (x:=(st,ps)) (s:=(ss,cs,os,dr)) h0 hk1 k1 (fun h=>of_decide_eq_false h11 (Int.ofNat_lt.2 h)) h15)
 ·rw [eg] at h11 h15
  exact T (Apg (x:=(st,ps)) (s:=(ss,cs,os,dr)) h0 hk1 k1 (fun h=>of_decide_eq_false h11 (Int.ofNat_lt.2 h)) (fun h=>Bool.false_ne_true (h15.symm.trans h)))
def cxqI:Ctx:=⟨Adv,[(148,([],cFRoom)),(94,([],cOut))]⟩
theorem Adx:Ah Tryz.prog cxqI:=C7 (Ae Aml (Ae Ajx Ag))
def cFits:Ctr:=fnC [dPl,dFs,dI,dMv] rB (fun y=>okI y.1 y.2.1 y.2.2.1∧(y.2.2.2.1.2.1.length:Int)≤stOut (sg y.1 y.2.2.1)) (fun y=>(Fj y.1 y.2.1 y.2.2.1 y.2.2.2.1.2.1,()))
set_option maxHeartbeats 8000000 in
theorem Anz:GoodC Tryz.prog 96 cFits:=by
 refine Ap Adx 3 _ _ _ _ ⟨_,Tryz.func96,rfl,rfl⟩ fun (⟨⟨st,ps⟩,⟨ss,cs,os,dr⟩,i,⟨t,o,b1,b2,m1,m2,m3⟩,_⟩ : PlT × FsT × Int × MvT × Unit) hk=>?_
 replace hk:okI (st,ps) (ss,cs,os,dr) i∧(o.length:Int)≤stOut (sg (st,ps) i):=hk
 refine (aF (fun h0=>?_))
 refine ex4 _ (fun n:Nat=>⟨[.any,.any,.int .i64 i,.any,.ptr 0 0,.ptr 1 0,.any,.ptr 2 0,.any,.any,.any,.ptr 2 3,.sl (.sl (.int .i64)) o,.int .i64 (↑o.length:Int),.int .i64 (n:Int)]++nA 17,[.cells [.sl tSt st,.sl A3 ps],.cells [.sl tSS ss,.sl A8 cs,.sl (.sl (.int .i64)) os,.bool dr],.cells   [.sl (.int .i64) t.1,.int .i64 t.2.1,.bool t.2.2,.sl (.sl (.int .i64)) o,.bool b1,     .bool b2,.int .i64 m1,.int .i64 m2,.int .i64 m3]],3⟩) (fun n=>n≤o.length∧(List.range n).any (fun n=>decide (N0 (Dt (ss,cs,os,dr) (Cq (st,ps) i n)) < ((o.getD n []).length:Int)))=false) (fun n=>o.length - n) (aI (eI (0) (eI ([some 0,some 1,some 2]) (aI ?_ (aB (aI (aI (aA (by rfl)) (aI (aA (by rfl)) (aI (aA (by rfl)) tT))) (by rfl)))))) ?_)
 ·exact ⟨Nat.zero_le _,rfl⟩
 rintro n ⟨hn,hc⟩
 have hlt:decide ((n:Int) < (o.length:Int))=true→n < o.length:=fun h=>by have:=of_decide_eq_true h;omega
 have hin:n < o.length→0≤Cq (st,ps) i n∧Cq (st,ps) i n < cs.length:=fun h=>by
  obtain ⟨k,k1,k2,_⟩:=hk.1.1.outs hk.1.2.2.1 hk.1.2.2.2 (Int.natCast_nonneg n) (show (n:Int) < stOut (sg (st,ps) i) by have:=hk.2;omega)
  rw [k2]
  have k1:k < ps.length:=k1
  have:cs.length=ps.length:=hk.1.2.1.lc
  omega
 have hF:n < o.length→decide (N0 (Dt (ss,cs,os,dr) (Cq (st,ps) i n)) < ((o.getD n []).length:Int))=true→Fj (st,ps) (ss,cs,os,dr) i o=false:=fun h1 h2=>by
  unfold Fj
  exact congrArg (fun b=>!b) (Qn h1 h2)
 refine (aI (fun k0=>(aO (aF (aI tT (aO (aI tT (fun k1=>(aI (fun k2=>(Aa rfl ?_)) (fun k2=>(aO ?_)))))))))) (fun k0=>(Aa rfl ?_)))
 ·exact congrArg (fun b=>(b,())) (hF (hlt k0) k2)
 ·have hn1:=hlt k0
  have hc1:(List.range (n+1)).any (fun n=>decide (N0 (Dt (ss,cs,os,dr) (Cq (st,ps) i n)) < ((o.getD n []).length:Int)))=false:=Qo hc k2
  clear k0 k1 k2
  refine eI (n+1) (eI ([some 0,some 1,some 2]) (aI ?_ (aI ?_ (aB (aI (aI (aA (by rfl)) (aI (aA (by rfl)) (aI (aA (by rfl)) tT))) (by rfl))))))
  ·exact ⟨hn1,hc1⟩
  ·show o.length - (n+1) < o.length - n
   omega
 ·have hn1:n=o.length:=by
   have:¬ (n:Int) < (o.length:Int):=of_decide_eq_false k0
   omega
  unfold Fj
  rw [← hn1,hc];rfl
theorem Aj1 (a b c:Bool):(a && (b || c))=(bif a then bif b then true else c else false):=by cases a <;> cases b <;> rfl
def cxqI2:Ctx:=⟨Adv,[(95,([],cNext)),(96,([],cFits))]⟩
theorem Z4:Ah Tryz.prog cxqI2:=C7 (Ae Any (Ae Anz Ag))
def cEnab:Ctr:=fnC [dPl,dFs,dI] rMv (fun y=>okI y.1 y.2.1 y.2.2.1) (fun y=>((Bk y.1 y.2.1 y.2.2.1).1,(Bk y.1 y.2.1 y.2.2.1).2,()))
set_option maxHeartbeats 8000000 in
theorem Akt:GoodC Tryz.prog 59 cEnab:=by
 refine Ap Z4 3 _ _ _ _ ⟨_,Tryz.func59,rfl,rfl⟩ fun (⟨⟨st,ps⟩,⟨ss,cs,os,dr⟩,i,_⟩ : PlT × FsT × Int × Unit) hk=>?_
 replace hk:okI (st,ps) (ss,cs,os,dr) i:=hk
 refine (aF (aI (by omega) (fun (h0:((List Int × Int × Bool) × List (List Int) × Bool × Bool × Int × Int × Int) × Bool × PUnit)=>(fun h1=>(aF (aI (fun h2=>?_) (Aa rfl ?_)))))))
 ·refine ⟨hk, ?_⟩
  rw [h1] at h2 ⊢
  have m:=Abv (x:=(st,ps)) (s:=(ss,cs,os,dr)) (i:=i) hk.2.1 hk.2.2.1 hk.2.2.2 h2.1 (of_decide_eq_true (Bw h2.2))
  exact Int.le_of_eq m.len
 ·rw [h1]
  unfold Bk
  rw [Aj1]
def cxqI3:Ctx:=⟨Adv,[(30,([],cVal)),(59,([],cEnab))]⟩
theorem Z5:Ah Tryz.prog cxqI3:=C7 (Ae Aj0 (Ae Akt Ag))
def cEnabled:Ctr:=fnC [dPl,dFs] Zj (fun _=>True) (fun y=>((Al y.1 y.2.1).1,(Al y.1 y.2.1).2,()))
set_option maxHeartbeats 8000000 in
theorem Ahs:GoodC Tryz.prog 28 cEnabled:=by
 refine Ap Z5 3 _ _ _ _ ⟨_,Tryz.func28,rfl,rfl⟩ fun (⟨⟨st,ps⟩,⟨ss,cs,os,dr⟩,_⟩ : PlT × FsT × Unit) _=>?_
 refine (aF (aI tT (aI (fun h0=>(Aa rfl ?_)) (fun h0=>(fun h1=>?_)))))
 ·have h:Cv (st,ps) (ss,cs,os,dr)≠0:=fun h=>by
   have h0:(!decide (Cv (st,ps) (ss,cs,os,dr)=0))=true:=h0
   rw [h] at h0;cases h0
  unfold Al
  rw [if_pos h]
 have hz:Cv (st,ps) (ss,cs,os,dr)=0:=of_decide_eq_true (Bw h0)
 obtain ⟨w,v⟩:=Cg.1 hz
 refine ex4 _ (fun p:Nat × List Int=>⟨[.any,.any,.ptr 0 0,.ptr 1 0,.any,.any,.any,.own 2,.any,.any,.any,.any,.any,.any,.any,.any,.any,.ptr 0 0,.sl tSt st,.int .i64 (↑st.length:Int),.int .i64 (p.1:Int)]++nA 16,[.cells [.sl tSt st,.sl A3 ps],.cells [.sl tSS ss,.sl A8 cs,.sl (.sl (.int .i64)) os,.bool dr],.rows tI p.2],3⟩) (fun p=>p.1≤st.length∧p.2=(ints p.1).filter (fun i=>(Bk (st,ps) (ss,cs,os,dr) i).2)) (fun p=>st.length - p.1) (aI (eI ((0,[])) (eI ([some 0,some 1,none]) (aI ?_ (aB (aI (aI (aA (by rfl)) (aI (aA (by rfl)) (aA tT))) (by rfl)))))) ?_)
 ·exact ⟨Nat.zero_le _,rfl⟩
 rintro ⟨i,l⟩ ⟨hi,hl⟩
 replace hi:i≤st.length:=hi
 replace hl:l=(ints i).filter (fun i=>(Bk (st,ps) (ss,cs,os,dr) i).2):=hl
 have hlt:decide ((i:Int) < (st.length:Int))=true→i < st.length:=fun h=>by have:=of_decide_eq_true h;omega
 have hs:(ints (i+1)).filter (fun i=>(Bk (st,ps) (ss,cs,os,dr) i).2)=l++if (Bk (st,ps) (ss,cs,os,dr) (i:Int)).2=true then [(i:Int)] else []:=by
  rw [show ints (i+1)=ints i++[(i:Int)] by simp [ints,List.range_succ],List.filter_append,hl]
  cases h:(Bk (st,ps) (ss,cs,os,dr) (i:Int)).2 <;> simp [h]
 have hn:st.length≤16:=w.n16
 have hle:l.length≤16:=by
  rw [hl]
  exact Nat.le_trans (List.length_filter_le _ _) (by rw [H5];omega)
 refine (aI (fun k0=>(aI ?_ (fun (k1:((List Int × Int × Bool) × List (List Int) × Bool × Bool × Int × Int × Int) × Bool × PUnit)=>(fun k2=>(aI (fun k3=>(aO (aO ?_))) (fun k3=>(aO ?_))))))) (fun k0=>(Aa rfl ?_)))
 ·exact ⟨w,v,Int.natCast_nonneg i,show (i:Int) < (st.length:Int) from of_decide_eq_true k0⟩
 ·have hi1:=hlt k0
  rw [k2] at k3
  have hs1:=hs.trans (congrArg _ (if_pos k3))
  refine eI ((i+1,l++[(i:Int)])) (eI ([some 0,some 1,some 5]) (aI ?_ (aI ?_ (aB (aI (aI (aA (by rfl)) (aI (aA (by rfl)) (aA tT))) (by rfl))))))
  ·exact ⟨hi1,hs1.symm⟩
  ·show st.length - (i+1) < st.length - i
   omega
 ·have hi1:=hlt k0
  rw [k2] at k3
  have hs1:=hs.trans (congrArg _ (if_neg (fun h=>Bool.false_ne_true (k3.symm.trans h))))
  rw [List.append_nil] at hs1
  refine eI ((i+1,l)) (eI ([some 0,some 1,some 2]) (aI ?_ (aI ?_ (aB (aI (aI (aA (by rfl)) (aI (aA (by rfl)) (aA tT))) (by rfl))))))
  ·exact ⟨hi1,hs1.symm⟩
  ·show st.length - (i+1) < st.length - i
   omega
 ·have hi1:i=st.length:=by
   have:¬ (i:Int) < (st.length:Int):=of_decide_eq_false k0
   omega
  unfold Al
  rw [if_neg (by rw [hz];simp),hl,hi1]
def Z8 (x:PlT):AV:=.agg [.sl tSt x.1,.sl A3 x.2]
def Z9 (m:MvT):AV:=.agg [.sl (.int .i64) m.1.1,.int .i64 m.1.2.1,.bool m.1.2.2,.sl tIs m.2.1,.bool m.2.2.1,.bool m.2.2.2.1,.int .i64 m.2.2.2.2.1,.int .i64 m.2.2.2.2.2.1,.int .i64 m.2.2.2.2.2.2]
def stB (ss:List SST) (cs:List Cred) (os:List (List Int)) (dr:Bool):List Ob:=[.cells [.own 1,.own 2,.own 3,.bool dr],.rows tSS ss,.rows A8 cs,.rows tIs os]
def cxqL:Ctx:=⟨Adv,[(92,([],cIn)),(94,([],cOut)),(166,([],cFTake)),(66,([],cFReq)),(167,([],cFSend)),(168,([],cFClose)),(87,([],c21))]⟩
theorem Uf:Ah Tryz.prog cxqL:=C7 (Ae gIn (Ae Ajx (Ae Amk (Ae Akq (Ae Amj (Ae Ajz (Ae Zi Ag)))))))
theorem X8 {α:Type} {l:List α} {k:Nat} {d:α} (h:k < l.length):l.set k (l.getD k d)=l:=by
 rw [List.getD_eq_getElem?_getD,List.getElem?_eq_getElem h]
 exact List.set_getElem_self h
theorem Aht {α:Type} {l:List α} {k:Nat} {a d:α} (h:k < l.length):(l.set k a).getD k d=a:=by
 rw [Ii,if_pos ⟨rfl,h⟩]
theorem Aaa (c:Cred) (l:List Int) (v:Int):N2 c (l++[v])=(Hz (N2 c l) v).1:=by
 unfold N2
 rw [List.foldl_append];rfl
theorem Ug {x:PlT} {i:Int} {o:List (List Int)} {b:Bool} {c:List Cred} {n:Nat} (h:o.length≤n):Fl x i o b c n=c.set (Cq x i n).toNat (Ag7 b (c.getD (Cq x i n).toNat A9)):=by
 unfold Fl
 rw [show o.getD ((n:Int)).toNat []=[] by rw [Int.toNat_natCast,List.getD_eq_getElem?_getD,List.getElem?_eq_none h];rfl]
 rfl
def okM (x:PlT) (i:Int) (cs:List Cred) (o:List (List Int)):Prop:=WF x∧(0≤i∧i < x.1.length)∧cs.length=x.2.length∧o.length≤1000
set_option maxHeartbeats 8000000 in
theorem Ahu (st:List StT) (ps:List PipeT) (i:Int) (t:SST) (o:List (List Int)) (b1 b2:Bool) (m1 m2 m3:Int) (ss:List SST) (cs:List Cred) (os:List (List Int)) (dr:Bool) (hk:okM (st,ps) i cs o) :
 A6 cxqL Tryz.prog (A6 cxqL Tryz.prog noS) 121 [Z8 (st,ps),.ptr 0 0,.int .i64 i,Z9 (t,o,b1,b2,m1,m2,m3)] (stB ss cs os dr) 4
  (fun x T' n'=>∃ σ,Iy 4 σ [noW x] T' n' ⟨[.tup []],stB ss (Px (st,ps) i o b1 cs) os dr,4⟩):=by
 obtain ⟨w,⟨i0,iN⟩,hlc,hol⟩:=hk
 replace iN:i < st.length:=iN
 replace hlc:cs.length=ps.length:=hlc
 refine (aF (aO (aI tT ?_)))
 have S0:0≤stOut (st.getD i.toNat (Ab tSt))∧stOut (st.getD i.toNat (Ab tSt))≤2:=⟨(N4 _).2.2.1,(N4 _).2.2.2⟩
 have hF:∀ n:Nat,(n:Int)≤stOut (st.getD i.toNat (Ab tSt))→((ints n).foldl (Fl (st,ps) i o b1) cs).length=cs.length:=fun n h=>(Ua w i0 iN o b1 cs hlc n h).1
 have hin:∀ n:Nat,(n:Int) < stOut (st.getD i.toNat (Ab tSt))→0≤Cq (st,ps) i n∧Cq (st,ps) i n < cs.length:=fun n h=>by
  obtain ⟨k,k1,k2,_⟩:=w.outs i0 iN (Int.natCast_nonneg n) h
  rw [k2]
  have k1:k < ps.length:=k1
  omega
 refine ex4 _ (fun p:Nat × List Cred=>⟨[.any,.ptr 0 0,.int .i64 i,.any,.ptr 4 0,.any,.any,.ptr 5 0,.any,.any,.any,.any,.any,.any,.any,.any,.any,.int .i64   (stOut     ((st.getD i.toNat (Ab tSt)).1,(st.getD i.toNat (Ab tSt)).2.1,       ExprT.mk (ExprT.kind (st.getD i.toNat (Ab tSt)).2.2.1) (ExprT.op (st.getD i.toNat (Ab tSt)).2.2.1)         (ExprT.name (st.getD i.toNat (Ab tSt)).2.2.1) (ExprT.value (st.getD i.toNat (Ab tSt)).2.2.1)         (ExprT.args (st.getD i.toNat (Ab tSt)).2.2.1),       (st.getD i.toNat (Ab tSt)).2.2.2)),.int .i64 (p.1:Int)]++nA 60,[.cells [.own 1,.own 2,.own 3,.bool dr],.rows tSS ss,.rows A8 p.2,.rows tIs os,.cells [.sl tSt st,.sl A3 ps],.cells   [.sl (.int .i64) t.1,.int .i64 t.2.1,.bool t.2.2,.sl tIs o,.bool b1,.bool b2,     .int .i64 m1,.int .i64 m2,.int .i64 m3]],6⟩) (fun p=>(p.1:Int)≤stOut (st.getD i.toNat (Ab tSt))∧p.2=(ints p.1).foldl (Fl (st,ps) i o b1) cs) (fun p=>(stOut (st.getD i.toNat (Ab tSt))).toNat - p.1) (aI (eI ((0,cs)) (eI ([some 0,some 1,some 2,some 3,some 4,some 5]) (aI ?_ (aB (aI (aI (aA (by rfl)) (aB (aA (aI (aA (by rfl)) (aI (aA (by rfl)) tT))))) (by rfl)))))) ?_)
 ·exact ⟨S0.1,rfl⟩
 rintro ⟨n,c⟩ ⟨hn,hc⟩
 replace hn:(n:Int)≤stOut (st.getD i.toNat (Ab tSt)):=hn
 replace hc:c=(ints n).foldl (Fl (st,ps) i o b1) cs:=hc
 have hcl:c.length=cs.length:=by rw [hc];exact hF n hn
 have hk0:(n:Int) < stOut (st.getD i.toNat (Ab tSt))→(0≤Cq (st,ps) i n∧Cq (st,ps) i n < c.length)∧(Cq (st,ps) i n).toNat < c.length∧(ints (n+1)).foldl (Fl (st,ps) i o b1) cs=Fl (st,ps) i o b1 c n∧((n+1:Nat):Int)≤stOut (st.getD i.toNat (Ab tSt)):=fun h=>by
  have h1:=hin n h
  refine ⟨by omega,by omega, ?_,by omega⟩
  rw [show ints (n+1)=ints n++[(n:Int)] by simp [ints,List.range_succ],List.foldl_append,← hc];rfl
 have hme:(n:Int) < stOut (st.getD i.toNat (Ab tSt))→(stOut (st.getD i.toNat (Ab tSt))).toNat - (n+1) < (stOut (st.getD i.toNat (Ab tSt))).toNat - n:=fun h=>by omega
 refine (aI (fun k0=>(aI tT (fun k1=>(aI (fun k2=>(aO (fun k3=>?_))) (fun k2=>(aI (fun k4=>(aF (aI ?_ (aI tT (aI ?_ (aO ?_)))))) (fun k4=>(aO ?_)))))))) (fun k0=>?_))
 ·simp only [eta] at k0
  have hn1:(n:Int) < stOut (st.getD i.toNat (Ab tSt)):=of_decide_eq_true k0
  obtain ⟨q1,q2,q3,q4⟩:=hk0 hn1
  have hme:=hme hn1
  clear k0 hk0
  refine ex4 _ (fun q:Nat × List Cred=>⟨[.any,.ptr 0 0,.int .i64 i,.any,.ptr 4 0,.any,.any,.ptr 5 0,.int .i64 (↑n:Int),.int .i64 (Cq (st,ps) i ↑n),.any,.any,.any,.any,.any,.any,.any,.int .i64 (stOut ((st.getD i.toNat (Ab tSt)).1,(st.getD i.toNat (Ab tSt)).2.1,ExprT.mk (ExprT.kind (st.getD i.toNat (Ab tSt)).2.2.1) (ExprT.op (st.getD i.toNat (Ab tSt)).2.2.1) (ExprT.name (st.getD i.toNat (Ab tSt)).2.2.1) (ExprT.value (st.getD i.toNat (Ab tSt)).2.2.1) (ExprT.args (st.getD i.toNat (Ab tSt)).2.2.1),(st.getD i.toNat (Ab tSt)).2.2.2)),.int .i64 (↑n:Int),.any,.int .i64 (↑n:Int),.agg [.sl tSt st,.sl A3 ps],.int .i64 i,.int .i64 (↑n:Int),.int .i64 (Cq (st,ps) i ↑n),.int .i64 (↑n:Int),.ptr 5 3,.sl tIs o,.int .i64 (↑o.length:Int),.bool (decide ((↑n:Int) < (↑o.length:Int))),.ptr 5 3,.sl tIs o,.int .i64 (↑n:Int),.eptr [PV.sl (.int .i64) (o.getD (↑n:Int).toNat (Ab tIs))],.sl (.int .i64) (o.getD (↑n:Int).toNat (Ab tIs)),.int .i64 (↑(List.length (o.getD (↑n:Int).toNat (Ab tIs))):Int),.int .i64 (q.1:Int)]++nA 42,[.cells [.own 1,.own 2,.own 3,.bool dr],.rows tSS ss,.rows A8 q.2,.rows tIs os,.cells [.sl tSt st,.sl A3 ps],.cells   [.sl (.int .i64) t.1,.int .i64 t.2.1,.bool t.2.2,.sl tIs o,.bool b1,.bool b2,     .int .i64 m1,.int .i64 m2,.int .i64 m3]],6⟩) (fun q=>q.1≤(o.getD (n:Int).toNat (Ab tIs)).length∧q.2=c.set (Cq (st,ps) i n).toNat (N2 (c.getD (Cq (st,ps) i n).toNat A9) ((o.getD (n:Int).toNat (Ab tIs)).take q.1))) (fun q=>(o.getD (n:Int).toNat (Ab tIs)).length - q.1) (aI (eI ((0,c)) (eI ([some 0,some 1,some 2,some 3,some 4,some 5]) (aI ?_ (aB (aI (aI (aA (by rfl)) (aB (aA (aI (aA (by rfl)) (aI (aA (by rfl)) tT))))) (by rfl)))))) ?_)
  ·exact ⟨Nat.zero_le _,(X8 q2).symm⟩
  rintro ⟨j,e⟩ ⟨hj,he⟩
  replace hj:j≤(o.getD (n:Int).toNat (Ab tIs)).length:=hj
  replace he:e=c.set (Cq (st,ps) i n).toNat (N2 (c.getD (Cq (st,ps) i n).toNat A9) ((o.getD (n:Int).toNat (Ab tIs)).take j)):=he
  have hel:e.length=c.length:=by rw [he,List.length_set]
  have q1e:0≤Cq (st,ps) i n∧Cq (st,ps) i n < e.length:=by omega
  have hjl:decide ((j:Int) < ((o.getD (n:Int).toNat (Ab tIs)).length:Int))=true→j < (o.getD (n:Int).toNat (Ab tIs)).length:=fun h=>by have:=of_decide_eq_true h;omega
  have hjn:decide ((j:Int) < ((o.getD (n:Int).toNat (Ab tIs)).length:Int))=false→e=c.set (Cq (st,ps) i n).toNat (N2 (c.getD (Cq (st,ps) i n).toNat A9) (o.getD (n:Int).toNat [])):=fun h=>by
   have:¬ (j:Int) < ((o.getD (n:Int).toNat (Ab tIs)).length:Int):=of_decide_eq_false h
   rw [he,List.take_of_length_le (by omega)]
  refine (aI (fun u0=>(aO (aF (aI (by omega) (aI tT (aI (by omega) (aO ?_))))))) (fun u0=>(aI (fun u1=>(aF (aI (by omega) (aI tT (aI (by omega) (aO ?_)))))) (fun u1=>(aO ?_)))))
  ·have hj1:=hjl u0
   clear u0
   refine eI ((j+1,e.set (Cq (st,ps) i n).toNat (Hz (e.getD (Cq (st,ps) i n).toNat A9) ((o.getD (n:Int).toNat (Ab tIs)).getD j 0)).1)) (eI ([some 0,some 1,some 2,some 3,some 4,some 5]) (aI ?_ (aI ?_ (aB (aI (aI (aA (by rfl)) (aB (aA (aI (aA (by rfl)) (aI (aA (by rfl)) tT))))) (by rfl))))))
   ·refine ⟨hj1, ?_⟩
    show e.set _ _=c.set _ (N2 _ ((o.getD (n:Int).toNat (Ab tIs)).take (j+1)))
    rw [List.take_succ_eq_append_getElem hj1,Aaa,← Bt (d:=0) hj1,he,List.set_set,Aht q2]
   ·show (o.getD (n:Int).toNat (Ab tIs)).length - (j+1) < (o.getD (n:Int).toNat (Ab tIs)).length - j
    omega
  ·have he2:=hjn u0
   have q5:(ints (n+1)).foldl (Fl (st,ps) i o b1) cs=e.set (Cq (st,ps) i n).toNat (Gl (e.getD (Cq (st,ps) i n).toNat A9)).1:=by
    rw [q3,he2,List.set_set,Aht q2]
    unfold Fl Ag7
    rw [if_pos u1]
   clear u0
   refine eI ((n+1,e.set (Cq (st,ps) i n).toNat (Gl (e.getD (Cq (st,ps) i n).toNat A9)).1)) (eI ([some 0,some 1,some 2,some 3,some 4,some 5]) (aI ?_ (aI ?_ (aB (aI (aI (aA (by rfl)) (aB (aA (aI (aA (by rfl)) (aI (aA (by rfl)) tT))))) (by rfl))))))
   ·exact ⟨q4,q5.symm⟩
   ·exact hme
  ·have he2:=hjn u0
   have q5:(ints (n+1)).foldl (Fl (st,ps) i o b1) cs=e:=by
    rw [q3,he2]
    unfold Fl Ag7
    rw [if_neg (fun h=>Bool.false_ne_true (u1.symm.trans h))]
   clear u0
   refine eI ((n+1,e)) (eI ([some 0,some 1,some 2,some 3,some 4,some 5]) (aI ?_ (aI ?_ (aB (aI (aI (aA (by rfl)) (aB (aA (aI (aA (by rfl)) (aI (aA (by rfl)) tT))))) (by rfl))))))
   ·exact ⟨q4,q5.symm⟩
   ·exact hme
 ·simp only [eta] at k0
  exact (hk0 (of_decide_eq_true k0)).1
 ·simp only [eta] at k0
  exact (hk0 (of_decide_eq_true k0)).1
 ·simp only [eta] at k0
  have hn1:(n:Int) < stOut (st.getD i.toNat (Ab tSt)):=of_decide_eq_true k0
  obtain ⟨q1,q2,q3,q4⟩:=hk0 hn1
  have hme:=hme hn1
  have hno:o.length≤n:=by have:¬ (n:Int) < (o.length:Int):=of_decide_eq_false k2;omega
  have q5:(ints (n+1)).foldl (Fl (st,ps) i o b1) cs=c.set (Cq (st,ps) i n).toNat (Gl (c.getD (Cq (st,ps) i n).toNat A9)).1:=q3.trans ((Ug hno).trans (by rw [k4];rfl))
  clear k0 k1 k2 hk0
  refine eI ((n+1,c.set (Cq (st,ps) i n).toNat (Gl (c.getD (Cq (st,ps) i n).toNat A9)).1)) (eI ([some 0,some 1,some 2,some 3,some 4,some 5]) (aI ?_ (aI ?_ (aB (aI (aI (aA (by rfl)) (aB (aA (aI (aA (by rfl)) (aI (aA (by rfl)) tT))))) (by rfl))))))
  ·exact ⟨q4,q5.symm⟩
  ·exact hme
 ·simp only [eta] at k0
  have hn1:(n:Int) < stOut (st.getD i.toNat (Ab tSt)):=of_decide_eq_true k0
  obtain ⟨q1,q2,q3,q4⟩:=hk0 hn1
  have hme:=hme hn1
  have hno:o.length≤n:=by have:¬ (n:Int) < (o.length:Int):=of_decide_eq_false k2;omega
  have q5:(ints (n+1)).foldl (Fl (st,ps) i o b1) cs=c:=q3.trans ((Ug hno).trans (by rw [k4];exact X8 q2))
  clear k0 k1 k2 hk0
  refine eI ((n+1,c)) (eI ([some 0,some 1,some 2,some 3,some 4,some 5]) (aI ?_ (aI ?_ (aB (aI (aI (aA (by rfl)) (aB (aA (aI (aA (by rfl)) (aI (aA (by rfl)) tT))))) (by rfl))))))
  ·exact ⟨q4,q5.symm⟩
  ·exact hme
 ·simp only [eta] at k0
  have hn2:¬ (n:Int) < stOut (st.getD i.toNat (Ab tSt)):=of_decide_eq_false k0
  have hc2:Px (st,ps) i o b1 cs=c:=by
   rw [hc]
   unfold Px
   rw [show (stOut (sg (st,ps) i)).toNat=n by show (stOut (st.getD i.toNat (Ab tSt))).toNat=n;omega]
  rw [hc2]
  exact ⟨[some 0,some 1,some 2,some 3],by rfl,by rfl,⟨⟨by rfl,by rfl⟩,by rfl,by rfl,by rfl,trivial⟩,by rfl⟩
set_option maxHeartbeats 8000000 in
theorem Ahv (st:List StT) (ps:List PipeT) (i:Int) (t:SST) (o:List (List Int)) (b1 b2:Bool) (m1 m2 m3:Int) (ss:List SST) (cs:List Cred) (os:List (List Int)) (dr:Bool) (hk:okM (st,ps) i cs o) (hb2:b2=true→0≤m1∧m1 < stIn (sg (st,ps) i)) :
 A6 cxqL Tryz.prog (A6 cxqL Tryz.prog noS) 120 [Z8 (st,ps),.ptr 0 0,.int .i64 i,Z9 (t,o,b1,b2,m1,m2,m3)] (stB ss cs os dr) 4
  (fun x T' n'=>∃ σ,Iy 4 σ [noW x] T' n' ⟨[.int .i64 (Di (st,ps) cs i (t,o,b1,b2,m1,m2,m3)).2],stB ss (Di (st,ps) cs i (t,o,b1,b2,m1,m2,m3)).1 os dr,4⟩):=by
 obtain ⟨w,⟨i0,iN⟩,hlc,hol⟩:=hk
 replace iN:i < st.length:=iN
 replace hlc:cs.length=ps.length:=hlc
 have hin:b2=true→0≤pIn (st,ps) i m1∧pIn (st,ps) i m1 < cs.length:=fun h=>by
  obtain ⟨k,k1,k2,_⟩:=w.ins i0 iN (hb2 h).1 (hb2 h).2
  rw [k2]
  have k1:k < ps.length:=k1
  omega
 have hT:b2=true→Di (st,ps) cs i (t,o,b1,b2,m1,m2,m3)=(cs.set (pIn (st,ps) i m1).toNat (Ig (cs.getD (pIn (st,ps) i m1).toNat A9)).1,(Ig (cs.getD (pIn (st,ps) i m1).toNat A9)).2):=fun h=>by
  subst h;rfl
 refine (aF (aI (fun h0=>?_) (fun h0=>(aI tT (aI ?_ (aI tT (fun (h1:(Int × Int × Int × Int × List Int × Bool) × Int × Int × PUnit)=>(fun h2=>(aI (fun h3=>(aI tT (fun (h4:(Int × Int × Int × Int × List Int × Bool) × Int × PUnit)=>(fun h5=>(aF (aI ?_ ?_)))))) (fun h3=>(aF (aI ?_ ?_))))))))))))
 ·have hb:b2=false:=by cases b2 <;> simp_all
  subst hb
  exact ⟨[some 0,some 1,some 2,some 3],by rfl,by rfl,⟨⟨by rfl,by rfl⟩,by rfl,by rfl,by rfl,trivial⟩,by rfl⟩
 ·exact hin (Bw h0)
 ·exact hin (Bw h0)
 ·have hb:=Bw h0
  rw [h2] at h3 h5
  have e:Ig (cs.getD (pIn (st,ps) i m1).toNat A9)=(h4.1,h4.2.1):=by
   unfold Ig
   have h3:=Vu h3
   rw [if_pos ⟨of_decide_eq_true h3.1,by have h:=h3.2;simpa using h⟩,h5]
  rw [hT hb,e]
  exact ⟨[some 0,some 1,some 2,some 3],by rfl,by rfl,⟨⟨by rfl,by rfl⟩,by rfl,by rfl,by rfl,trivial⟩,by rfl⟩
 ·exact hin (Bw h0)
 ·have hb:=Bw h0
  have e:Ig (cs.getD (pIn (st,ps) i m1).toNat A9)=(h1.1,h1.2.2.1):=by
   rw [h2] at h3 ⊢
   unfold Ig
   rw [if_neg]
   rintro ⟨a,b⟩
   have h3:(bif decide ((Dy (cs.getD (pIn (st,ps) i m1).toNat A9)).2.2=0) then !(Dy (cs.getD (pIn (st,ps) i m1).toNat A9)).1.2.2.2.2.2 else false)=false:=h3
   rw [decide_eq_true a,b] at h3;cases h3
  rw [hT hb,e]
  exact ⟨[some 0,some 1,some 2,some 3],by rfl,by rfl,⟨⟨by rfl,by rfl⟩,by rfl,by rfl,by rfl,trivial⟩,by rfl⟩
end Go.Proofs.YtckpldpombdkgaaGreat
