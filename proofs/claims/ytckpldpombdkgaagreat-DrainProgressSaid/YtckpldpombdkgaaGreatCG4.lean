/- Pipelines. -/
import Derived.Test.YtckpldpombdkgaaGreatCG3
import Derived.Test.YtckpldpombdkgaaGreatCQ1
set_option linter.unusedSimpArgs false
set_option linter.unusedVariables false
set_option maxRecDepth 100000
namespace Go.Proofs.YtckpldpombdkgaaGreat
open Go.Sx
def Aof:List (TypeId × Ty):=(31,tIs) :: O7
def cxqP:Ctx:=⟨Aof,[(51,([],cPChk)),(91,([],cOrder)),(86,([],c19)),(93,([],c13)),(92,([],cIn)),(94,([],cOut))]⟩
theorem Ad9:Ah Tryz.prog cxqP:=C7 (Ae Aho (Ae Am0 (Ae Zh (Ae Al9 (Ae gIn (Ae Ajx Ag))))))
def cMean:Ctr:=fnC [dPl] T4 (fun y=>It y.1=0→okO y.1) (fun y=>((Gy y.1).1,(Gy y.1).2,()))
set_option maxHeartbeats 8000000 in
theorem Aog:GoodC Tryz.prog 58 cMean:=by
 refine Ap Ad9 4 _ _ _ _ ⟨_,Tryz.func58,rfl,rfl⟩ fun (⟨⟨st,ps⟩,_⟩ : PlT × Unit) hg=>?_
 replace hg:It (st,ps)=0→okO (st,ps):=hg
 have hN:(!decide (It (st,ps)=0))=false→okO (st,ps)∧st.length≤16∧ps.length≤32:=fun h=>by
  have h0:=of_decide_eq_true (Bw h)
  have w:=Kz.1 h0
  exact ⟨hg h0,w.n16,w.p32⟩
 refine (aF (aI tT (aI (fun h0=>(Aa rfl ?_)) (fun h0=>(fun h1=>(aO (fun h2=>(aO (aI ?_ (fun (h3:List Int × PUnit)=>(fun h4=>(fun h5=>?_))))))))))))
 ·have hc:It (st,ps)≠0:=fun h=>by
   have h0:(!decide (It (st,ps)=0))=true:=h0
   rw [h] at h0;cases h0
  unfold Gy
  rw [if_pos hc]
 ·exact (hN h0).1
 have hz:It (st,ps)=0:=of_decide_eq_true (Bw h0)
 have w:=Kz.1 hz
 have tp:=Ah4 w
 have hM:Gy (st,ps)=P0 (st,ps) (Ad (st,ps)) (List.replicate ps.length []) (List.replicate st.length []):=if_neg (fun h=>h hz)
 have n16:st.length≤16:=w.n16
 have p32:ps.length≤32:=w.p32
 subst h4
 clear h0 hN hg
 refine ex4 _ (fun p:Nat × List (List Int) × List (List Int)=>⟨[.any,.ptr 0 0,.any,.any,.any,.own 1,.own 2,.any,.any,.any,.any,.any,.any,.any,.any,.any,.any,.any,.any,.any,.any,.any,.any,.any,.any,.any,.any,.any,.any,.any,.any,.agg [.sl tSt st,.sl A3 ps],.sl (.int .i64) (Ad (st,ps)),.int .i64 (↑(Ad (st,ps)).length:Int),.int .i64 (p.1:Int)]++nA 85,[.cells [.sl tSt st,.sl A3 ps],.rows tIs p.2.1,.rows tIs p.2.2],3⟩) (fun p=>p.1≤(Ad (st,ps)).length∧p.2.1.length=ps.length∧p.2.2.length=st.length∧Gy (st,ps)=P0 (st,ps) ((Ad (st,ps)).drop p.1) p.2.1 p.2.2) (fun p=>(Ad (st,ps)).length - p.1) (aI (eI ((0,List.replicate ps.length [],List.replicate st.length [])) (eI ([some 0,some 1,some 2]) (aI ?_ (aB (aI (aI (aA (by rfl)) (aB tT)) (by rfl)))))) ?_)
 ·exact ⟨Nat.zero_le _,List.length_replicate,List.length_replicate,hM⟩
 rintro ⟨i,S,K⟩ ⟨hi,hSl,hKl,hm⟩
 replace hi:i≤(Ad (st,ps)).length:=hi
 replace hSl:S.length=ps.length:=hSl
 replace hKl:K.length=st.length:=hKl
 replace hm:Gy (st,ps)=P0 (st,ps) ((Ad (st,ps)).drop i) S K:=hm
 have hlt:decide ((i:Int) < ((Ad (st,ps)).length:Int))=true→i < (Ad (st,ps)).length∧0≤((Ad (st,ps)).getD (i:Int).toNat (Ab (.int .i64)))∧((Ad (st,ps)).getD (i:Int).toNat (Ab (.int .i64))) < (st.length:Int):=fun h=>by
  have hi':i < (Ad (st,ps)).length:=by have:=of_decide_eq_true h;omega
  refine ⟨hi', ?_⟩
  have h1:=(tp.all ((Ad (st,ps)).getD i 0)).1 (by rw [Bt hi'];exact List.getElem_mem hi')
  exact h1
 refine (aI (fun k0=>(aO (aO (aI tT ?_)))) (fun k0=>(fun k1=>?_)))
 ·obtain ⟨hi',t0,tN⟩:=hlt k0
  have hstb:=N4 (st.getD ((Ad (st,ps)).getD (i:Int).toNat (Ab (.int .i64))).toNat (Ab tSt))
  have hcons:(Ad (st,ps)).drop i=((Ad (st,ps)).getD (i:Int).toNat (Ab (.int .i64))) :: (Ad (st,ps)).drop (i+1):=by
   rw [List.drop_eq_getElem_cons hi',← Bt (d:=0) hi'];rfl
  have hin:∀ n:Nat,(n:Int) < stIn (st.getD ((Ad (st,ps)).getD (i:Int).toNat (Ab (.int .i64))).toNat (Ab tSt))→0≤pIn (st,ps) ((Ad (st,ps)).getD (i:Int).toNat (Ab (.int .i64))) n∧pIn (st,ps) ((Ad (st,ps)).getD (i:Int).toNat (Ab (.int .i64))) n < S.length:=fun n h=>by
   obtain ⟨q,q1,q2,_⟩:=w.ins t0 tN (Int.natCast_nonneg n) h
   rw [q2]
   have q1:q < ps.length:=q1
   omega
  clear k0 hlt
  refine ex4 _ (fun q:Nat × List (List Int)=>⟨[.any,.ptr 0 0,.any,.any,.any,.own 1,.own 2,.any,.int .i64 ((Ad (st,ps)).getD (↑i:Int).toNat (Ab (.int .i64))),.own 3,.any,.any,.any,.any,.any,.any,.any,.any,.any,.any,.any,.any,.any,.any,.any,.any,.any,.any,.any,.any,.any,.agg [.sl tSt st,.sl A3 ps],.sl (.int .i64) (Ad (st,ps)),.int .i64 (↑(Ad (st,ps)).length:Int),.int .i64 (↑i:Int),.bool (decide ((↑i:Int) < (↑(Ad (st,ps)).length:Int))),.eptr [PV.int .i64 ((Ad (st,ps)).getD (↑i:Int).toNat (Ab (.int .i64)))],.int .i64 ((Ad (st,ps)).getD (↑i:Int).toNat (Ab (.int .i64))),.ptr 0 0,.sl tSt st,.int .i64 ((Ad (st,ps)).getD (↑i:Int).toNat (Ab (.int .i64))),.eptr   [PV.int .i64       (st.getD (Int.toNat ((Ad (st,ps)).getD (↑i:Int).toNat (Ab (.int .i64)))) (Ab tSt)).1,     PV.int .i64       (st.getD (Int.toNat ((Ad (st,ps)).getD (↑i:Int).toNat (Ab (.int .i64)))) (Ab tSt)).2.1,     PV.int .i64       (ExprT.kind         (st.getD (Int.toNat ((Ad (st,ps)).getD (↑i:Int).toNat (Ab (.int .i64)))) (Ab tSt)).2.2.1),     PV.int .i64       (ExprT.op         (st.getD (Int.toNat ((Ad (st,ps)).getD (↑i:Int).toNat (Ab (.int .i64)))) (Ab tSt)).2.2.1),     PV.str       (ExprT.name         (st.getD (Int.toNat ((Ad (st,ps)).getD (↑i:Int).toNat (Ab (.int .i64)))) (Ab tSt)).2.2.1),     PV.int .i64       (ExprT.value         (st.getD (Int.toNat ((Ad (st,ps)).getD (↑i:Int).toNat (Ab (.int .i64)))) (Ab tSt)).2.2.1),     PV.sl .expr       (ExprT.args         (st.getD (Int.toNat ((Ad (st,ps)).getD (↑i:Int).toNat (Ab (.int .i64)))) (Ab tSt)).2.2.1),     PV.sl (.int .i64)       (st.getD (Int.toNat ((Ad (st,ps)).getD (↑i:Int).toNat (Ab (.int .i64)))) (Ab tSt)).2.2.2],.agg   [.int .i64       (st.getD (Int.toNat ((Ad (st,ps)).getD (↑i:Int).toNat (Ab (.int .i64)))) (Ab tSt)).1,     .int .i64       (st.getD (Int.toNat ((Ad (st,ps)).getD (↑i:Int).toNat (Ab (.int .i64)))) (Ab tSt)).2.1,     .int .i64       (ExprT.kind         (st.getD (Int.toNat ((Ad (st,ps)).getD (↑i:Int).toNat (Ab (.int .i64)))) (Ab tSt)).2.2.1),     .int .i64       (ExprT.op         (st.getD (Int.toNat ((Ad (st,ps)).getD (↑i:Int).toNat (Ab (.int .i64)))) (Ab tSt)).2.2.1),     .str       (ExprT.name         (st.getD (Int.toNat ((Ad (st,ps)).getD (↑i:Int).toNat (Ab (.int .i64)))) (Ab tSt)).2.2.1),     .int .i64       (ExprT.value         (st.getD (Int.toNat ((Ad (st,ps)).getD (↑i:Int).toNat (Ab (.int .i64)))) (Ab tSt)).2.2.1),     .sl .expr       (ExprT.args         (st.getD (Int.toNat ((Ad (st,ps)).getD (↑i:Int).toNat (Ab (.int .i64)))) (Ab tSt)).2.2.1),     .sl (.int .i64)       (st.getD (Int.toNat ((Ad (st,ps)).getD (↑i:Int).toNat (Ab (.int .i64)))) (Ab tSt)).2.2.2],.int .i64 (stIn ((st.getD ((Ad (st,ps)).getD (i:Int).toNat (Ab (.int .i64))).toNat (Ab tSt)).1,(st.getD ((Ad (st,ps)).getD (i:Int).toNat (Ab (.int .i64))).toNat (Ab tSt)).2.1,ExprT.mk (ExprT.kind (st.getD ((Ad (st,ps)).getD (i:Int).toNat (Ab (.int .i64))).toNat (Ab tSt)).2.2.1) (ExprT.op (st.getD ((Ad (st,ps)).getD (i:Int).toNat (Ab (.int .i64))).toNat (Ab tSt)).2.2.1) (ExprT.name (st.getD ((Ad (st,ps)).getD (i:Int).toNat (Ab (.int .i64))).toNat (Ab tSt)).2.2.1) (ExprT.value (st.getD ((Ad (st,ps)).getD (i:Int).toNat (Ab (.int .i64))).toNat (Ab tSt)).2.2.1) (ExprT.args (st.getD ((Ad (st,ps)).getD (i:Int).toNat (Ab (.int .i64))).toNat (Ab tSt)).2.2.1),(st.getD ((Ad (st,ps)).getD (i:Int).toNat (Ab (.int .i64))).toNat (Ab tSt)).2.2.2)),.int .i64 (q.1:Int)]++nA 75,[.cells [.sl tSt st,.sl A3 ps],.rows tIs S,.rows tIs K,.rows tIs q.2],4⟩) (fun q=>(q.1:Int)≤stIn (st.getD ((Ad (st,ps)).getD (i:Int).toNat (Ab (.int .i64))).toNat (Ab tSt))∧q.2=(ints q.1).map fun n=>S.getD (pIn (st,ps) ((Ad (st,ps)).getD (i:Int).toNat (Ab (.int .i64))) n).toNat []) (fun q=>(stIn (st.getD ((Ad (st,ps)).getD (i:Int).toNat (Ab (.int .i64))).toNat (Ab tSt))).toNat - q.1) (aI (eI ((0,[])) (eI ([some 0,some 1,some 2,none]) (aI ?_ (aB (aI (aI (aA (by rfl)) (aB (aA tT))) (by rfl)))))) ?_)
  ·exact ⟨hstb.1,rfl⟩
  rintro ⟨n,ins⟩ ⟨hn,hq⟩
  replace hn:(n:Int)≤stIn (st.getD ((Ad (st,ps)).getD (i:Int).toNat (Ab (.int .i64))).toNat (Ab tSt)):=hn
  replace hq:ins=(ints n).map fun n=>S.getD (pIn (st,ps) ((Ad (st,ps)).getD (i:Int).toNat (Ab (.int .i64))) n).toNat []:=hq
  have hins:ins.length=n:=by rw [hq,List.length_map,H5]
  have hA:decide ((n:Int) < stIn (st.getD ((Ad (st,ps)).getD (i:Int).toNat (Ab (.int .i64))).toNat (Ab tSt)))=false→ins=Ad6 (st,ps) S ((Ad (st,ps)).getD (i:Int).toNat (Ab (.int .i64))):=fun h=>by
   have h1:¬ (n:Int) < stIn (st.getD ((Ad (st,ps)).getD (i:Int).toNat (Ab (.int .i64))).toNat (Ab tSt)):=of_decide_eq_false h
   rw [hq]
   unfold Ad6
   rw [show (stIn (sg (st,ps) ((Ad (st,ps)).getD (i:Int).toNat (Ab (.int .i64))))).toNat=n by show (stIn (st.getD ((Ad (st,ps)).getD (i:Int).toNat (Ab (.int .i64))).toNat (Ab tSt))).toNat=n;omega]
  refine (aI (fun u0=>(aI tT (aI ?_ (aO (aO ?_))))) (fun u0=>(aI (by omega) (aI tT (fun (u1:List (List Int) × Int × PUnit)=>(fun u2=>(aI (fun u3=>(Aa rfl ?_)) (fun u3=>(fun u4=>?_)))))))))
  ·simp only [eta] at u0
   exact hin n (of_decide_eq_true u0)
  ·simp only [eta] at u0
   have hn1:(n:Int) < stIn (st.getD ((Ad (st,ps)).getD (i:Int).toNat (Ab (.int .i64))).toNat (Ab tSt)):=of_decide_eq_true u0
   clear u0
   refine eI ((n+1,ins++[S.getD (pIn (st,ps) ((Ad (st,ps)).getD (i:Int).toNat (Ab (.int .i64))) n).toNat (Ab tIs)])) (eI ([some 0,some 1,some 2,some 5]) (aI ?_ (aI ?_ (aB (aI (aI (aA (by rfl)) (aB (aA tT))) (by rfl))))))
   ·refine ⟨by show ((n+1:Nat):Int)≤stIn (st.getD ((Ad (st,ps)).getD (i:Int).toNat (Ab (.int .i64))).toNat (Ab tSt));omega, ?_⟩
    show ins++[_]=(ints (n+1)).map _
    rw [show ints (n+1)=ints n++[(n:Int)] by simp [ints,List.range_succ],List.map_append,← hq];rfl
   ·show (stIn (st.getD ((Ad (st,ps)).getD (i:Int).toNat (Ab (.int .i64))).toNat (Ab tSt))).toNat - (n+1) < (stIn (st.getD ((Ad (st,ps)).getD (i:Int).toNat (Ab (.int .i64))).toNat (Ab tSt))).toNat - n
    omega
  ·simp only [eta] at u0 u2
   have e1:=hA u0
   subst u2
   have hne:(Az (st.getD ((Ad (st,ps)).getD (i:Int).toNat (Ab (.int .i64))).toNat (Ab tSt)) ins).2≠0:=fun h=>by
    have u3:(!decide ((Az (st.getD ((Ad (st,ps)).getD (i:Int).toNat (Ab (.int .i64))).toNat (Ab tSt)) ins).2=0))=true:=u3
    rw [h] at u3;cases u3
   have e3:Gy (st,ps)=([],(Az (st.getD ((Ad (st,ps)).getD (i:Int).toNat (Ab (.int .i64))).toNat (Ab tSt)) ins).2):=by
    rw [hm,hcons,P0,← e1]
    exact if_pos hne
   show ((Gy (st,ps)).1,(Gy (st,ps)).2,())=_
   rw [e3]
  ·simp only [eta] at u0 u2
   have e1:=hA u0
   subst u2
   have hz0:(Az (st.getD ((Ad (st,ps)).getD (i:Int).toNat (Ab (.int .i64))).toNat (Ab tSt)) ins).2=0:=of_decide_eq_true (Bw u3)
   have hml:((Az (st.getD ((Ad (st,ps)).getD (i:Int).toNat (Ab (.int .i64))).toNat (Ab tSt)) ins).1.length:Int)=stOut (st.getD ((Ad (st,ps)).getD (i:Int).toNat (Ab (.int .i64))).toNat (Ab tSt)):=Ah2 hz0
   have hil:(ins.length:Int)=stIn (st.getD ((Ad (st,ps)).getD (i:Int).toNat (Ab (.int .i64))).toNat (Ab tSt)):=Aj7 hz0
   have hme:Gy (st,ps)=P0 (st,ps) ((Ad (st,ps)).drop (i+1)) (Amx (st,ps) ((Ad (st,ps)).getD (i:Int).toNat (Ab (.int .i64))) (Az (st.getD ((Ad (st,ps)).getD (i:Int).toNat (Ab (.int .i64))).toNat (Ab tSt)) ins).1 S) (Aj5 (st,ps) ((Ad (st,ps)).getD (i:Int).toNat (Ab (.int .i64))) (ins.getD 0 []) K):=by
    rw [hm,hcons,P0,← e1,if_neg (fun h=>h hz0)];rfl
   have hsk:decide ((st.getD ((Ad (st,ps)).getD (i:Int).toNat (Ab (.int .i64))).toNat (Ab tSt)).1=10)=true→(0:Int)≤0∧(0:Int) < (ins.length:Int):=fun h=>by
    have hst:An (st.getD ((Ad (st,ps)).getD (i:Int).toNat (Ab (.int .i64))).toNat (Ab tSt))=0:=(Vo hz0).1
    rw [hil,Abo hst,of_decide_eq_true h]
    decide
   clear u0 u3 hm
   refine ex4 _ (fun v:Nat × List (List Int)=>⟨[.any,.ptr 0 0,.any,.any,.any,.own 1,.own 2,.any,.int .i64 ((Ad (st,ps)).getD (↑i:Int).toNat (Ab (.int .i64))),.own 3,.any,.sl (.sl (.int .i64))   (Az       ((st.getD ((Ad (st,ps)).getD (↑i:Int).toNat (Ab (.int .i64))).toNat (Ab tSt)).1,         (st.getD ((Ad (st,ps)).getD (↑i:Int).toNat (Ab (.int .i64))).toNat (Ab tSt)).2.1,         (st.getD ((Ad (st,ps)).getD (↑i:Int).toNat (Ab (.int .i64))).toNat (Ab tSt)).2.2.1,         (st.getD ((Ad (st,ps)).getD (↑i:Int).toNat (Ab (.int .i64))).toNat (Ab tSt)).2.2.2)       ins).1,.int .i64   (Az       ((st.getD ((Ad (st,ps)).getD (↑i:Int).toNat (Ab (.int .i64))).toNat (Ab tSt)).1,         (st.getD ((Ad (st,ps)).getD (↑i:Int).toNat (Ab (.int .i64))).toNat (Ab tSt)).2.1,         (st.getD ((Ad (st,ps)).getD (↑i:Int).toNat (Ab (.int .i64))).toNat (Ab tSt)).2.2.1,         (st.getD ((Ad (st,ps)).getD (↑i:Int).toNat (Ab (.int .i64))).toNat (Ab tSt)).2.2.2)       ins).2,.any,.any,.any,.any,.any,.any,.any,.any,.any,.any,.any,.any,.any,.any,.any,.any,.any,.any,.agg [.sl tSt st,.sl A3 ps],.sl (.int .i64) (Ad (st,ps)),.int .i64 (↑(Ad (st,ps)).length:Int),.int .i64 (↑i:Int),.bool (decide ((↑i:Int) < (↑(Ad (st,ps)).length:Int))),.eptr [PV.int .i64 ((Ad (st,ps)).getD (↑i:Int).toNat (Ab (.int .i64)))],.int .i64 ((Ad (st,ps)).getD (↑i:Int).toNat (Ab (.int .i64))),.ptr 0 0,.sl tSt st,.int .i64 ((Ad (st,ps)).getD (↑i:Int).toNat (Ab (.int .i64))),.eptr   [PV.int .i64       (st.getD ((Ad (st,ps)).getD (↑i:Int).toNat (Ab (.int .i64))).toNat (Ab tSt)).1,     PV.int .i64       (st.getD ((Ad (st,ps)).getD (↑i:Int).toNat (Ab (.int .i64))).toNat (Ab tSt)).2.1,     PV.int .i64       (st.getD ((Ad (st,ps)).getD (↑i:Int).toNat (Ab (.int .i64))).toNat (Ab tSt)).2.2.1.kind,     PV.int .i64       (st.getD ((Ad (st,ps)).getD (↑i:Int).toNat (Ab (.int .i64))).toNat (Ab tSt)).2.2.1.op,     PV.str (st.getD ((Ad (st,ps)).getD (↑i:Int).toNat (Ab (.int .i64))).toNat (Ab tSt)).2.2.1.name,     PV.int .i64       (st.getD ((Ad (st,ps)).getD (↑i:Int).toNat (Ab (.int .i64))).toNat (Ab tSt)).2.2.1.value,     PV.sl .expr       (st.getD ((Ad (st,ps)).getD (↑i:Int).toNat (Ab (.int .i64))).toNat (Ab tSt)).2.2.1.args,     PV.sl (.int .i64)       (st.getD ((Ad (st,ps)).getD (↑i:Int).toNat (Ab (.int .i64))).toNat (Ab tSt)).2.2.2],.agg   [.int .i64       (st.getD ((Ad (st,ps)).getD (↑i:Int).toNat (Ab (.int .i64))).toNat (Ab tSt)).1,     .int .i64       (st.getD ((Ad (st,ps)).getD (↑i:Int).toNat (Ab (.int .i64))).toNat (Ab tSt)).2.1,     .int .i64       (st.getD ((Ad (st,ps)).getD (↑i:Int).toNat (Ab (.int .i64))).toNat (Ab tSt)).2.2.1.kind,     .int .i64       (st.getD ((Ad (st,ps)).getD (↑i:Int).toNat (Ab (.int .i64))).toNat (Ab tSt)).2.2.1.op,     .str (st.getD ((Ad (st,ps)).getD (↑i:Int).toNat (Ab (.int .i64))).toNat (Ab tSt)).2.2.1.name,     .int .i64       (st.getD ((Ad (st,ps)).getD (↑i:Int).toNat (Ab (.int .i64))).toNat (Ab tSt)).2.2.1.value,     .sl .expr       (st.getD ((Ad (st,ps)).getD (↑i:Int).toNat (Ab (.int .i64))).toNat (Ab tSt)).2.2.1.args,     .sl (.int .i64)       (st.getD ((Ad (st,ps)).getD (↑i:Int).toNat (Ab (.int .i64))).toNat (Ab tSt)).2.2.2],.int .i64   (stIn     ((st.getD ((Ad (st,ps)).getD (↑i:Int).toNat (Ab (.int .i64))).toNat (Ab tSt)).1,       (st.getD ((Ad (st,ps)).getD (↑i:Int).toNat (Ab (.int .i64))).toNat (Ab tSt)).2.1,       ExprT.mk         (st.getD ((Ad (st,ps)).getD (↑i:Int).toNat (Ab (.int .i64))).toNat (Ab tSt)).2.2.1.kind         (st.getD ((Ad (st,ps)).getD (↑i:Int).toNat (Ab (.int .i64))).toNat (Ab tSt)).2.2.1.op         (st.getD ((Ad (st,ps)).getD (↑i:Int).toNat (Ab (.int .i64))).toNat (Ab tSt)).2.2.1.name         (st.getD ((Ad (st,ps)).getD (↑i:Int).toNat (Ab (.int .i64))).toNat (Ab tSt)).2.2.1.value         (st.getD ((Ad (st,ps)).getD (↑i:Int).toNat (Ab (.int .i64))).toNat (Ab tSt)).2.2.1.args,       (st.getD ((Ad (st,ps)).getD (↑i:Int).toNat (Ab (.int .i64))).toNat (Ab tSt)).2.2.2)),.int .i64 (↑n:Int),.bool   (decide     ((↑n:Int) <       stIn         ((st.getD ((Ad (st,ps)).getD (↑i:Int).toNat (Ab (.int .i64))).toNat (Ab tSt)).1,           (st.getD ((Ad (st,ps)).getD (↑i:Int).toNat (Ab (.int .i64))).toNat (Ab tSt)).2.1,           ExprT.mk             (st.getD ((Ad (st,ps)).getD (↑i:Int).toNat (Ab (.int .i64))).toNat (Ab tSt)).2.2.1.kind             (st.getD ((Ad (st,ps)).getD (↑i:Int).toNat (Ab (.int .i64))).toNat (Ab tSt)).2.2.1.op             (st.getD ((Ad (st,ps)).getD (↑i:Int).toNat (Ab (.int .i64))).toNat (Ab tSt)).2.2.1.name             (st.getD ((Ad (st,ps)).getD (↑i:Int).toNat (Ab (.int .i64))).toNat (Ab tSt)).2.2.1.value             (st.getD ((Ad (st,ps)).getD (↑i:Int).toNat (Ab (.int .i64))).toNat (Ab tSt)).2.2.1.args,           (st.getD ((Ad (st,ps)).getD (↑i:Int).toNat (Ab (.int .i64))).toNat (Ab tSt)).2.2.2))),.any,.any,.any,.any,.any,.any,.any,.any,.any,.any,.any,.any,.tup   [.sl (.sl (.int .i64))       (Az           ((st.getD ((Ad (st,ps)).getD (↑i:Int).toNat (Ab (.int .i64))).toNat (Ab tSt)).1,             (st.getD ((Ad (st,ps)).getD (↑i:Int).toNat (Ab (.int .i64))).toNat (Ab tSt)).2.1,             (st.getD ((Ad (st,ps)).getD (↑i:Int).toNat (Ab (.int .i64))).toNat (Ab tSt)).2.2.1,             (st.getD ((Ad (st,ps)).getD (↑i:Int).toNat (Ab (.int .i64))).toNat (Ab tSt)).2.2.2)           ins).1,     .int .i64       (Az           ((st.getD ((Ad (st,ps)).getD (↑i:Int).toNat (Ab (.int .i64))).toNat (Ab tSt)).1,             (st.getD ((Ad (st,ps)).getD (↑i:Int).toNat (Ab (.int .i64))).toNat (Ab tSt)).2.1,             (st.getD ((Ad (st,ps)).getD (↑i:Int).toNat (Ab (.int .i64))).toNat (Ab tSt)).2.2.1,             (st.getD ((Ad (st,ps)).getD (↑i:Int).toNat (Ab (.int .i64))).toNat (Ab tSt)).2.2.2)           ins).2],.ptr 0 0,.sl tSt st,.int .i64 ((Ad (st,ps)).getD (↑i:Int).toNat (Ab (.int .i64))),.eptr   [PV.int .i64       (st.getD ((Ad (st,ps)).getD (↑i:Int).toNat (Ab (.int .i64))).toNat (Ab tSt)).1,     PV.int .i64       (st.getD ((Ad (st,ps)).getD (↑i:Int).toNat (Ab (.int .i64))).toNat (Ab tSt)).2.1,     PV.int .i64       (ExprT.kind         (st.getD ((Ad (st,ps)).getD (↑i:Int).toNat (Ab (.int .i64))).toNat (Ab tSt)).2.2.1),     PV.int .i64       (ExprT.op (st.getD ((Ad (st,ps)).getD (↑i:Int).toNat (Ab (.int .i64))).toNat (Ab tSt)).2.2.1),     PV.str       (ExprT.name         (st.getD ((Ad (st,ps)).getD (↑i:Int).toNat (Ab (.int .i64))).toNat (Ab tSt)).2.2.1),     PV.int .i64       (ExprT.value         (st.getD ((Ad (st,ps)).getD (↑i:Int).toNat (Ab (.int .i64))).toNat (Ab tSt)).2.2.1),     PV.sl .expr       (ExprT.args         (st.getD ((Ad (st,ps)).getD (↑i:Int).toNat (Ab (.int .i64))).toNat (Ab tSt)).2.2.1),     PV.sl (.int .i64)       (st.getD ((Ad (st,ps)).getD (↑i:Int).toNat (Ab (.int .i64))).toNat (Ab tSt)).2.2.2],.agg   [.int .i64       (st.getD ((Ad (st,ps)).getD (↑i:Int).toNat (Ab (.int .i64))).toNat (Ab tSt)).1,     .int .i64       (st.getD ((Ad (st,ps)).getD (↑i:Int).toNat (Ab (.int .i64))).toNat (Ab tSt)).2.1,     .int .i64       (ExprT.kind         (st.getD ((Ad (st,ps)).getD (↑i:Int).toNat (Ab (.int .i64))).toNat (Ab tSt)).2.2.1),     .int .i64       (ExprT.op (st.getD ((Ad (st,ps)).getD (↑i:Int).toNat (Ab (.int .i64))).toNat (Ab tSt)).2.2.1),     .str       (ExprT.name         (st.getD ((Ad (st,ps)).getD (↑i:Int).toNat (Ab (.int .i64))).toNat (Ab tSt)).2.2.1),     .int .i64       (ExprT.value         (st.getD ((Ad (st,ps)).getD (↑i:Int).toNat (Ab (.int .i64))).toNat (Ab tSt)).2.2.1),     .sl .expr       (ExprT.args         (st.getD ((Ad (st,ps)).getD (↑i:Int).toNat (Ab (.int .i64))).toNat (Ab tSt)).2.2.1),     .sl (.int .i64)       (st.getD ((Ad (st,ps)).getD (↑i:Int).toNat (Ab (.int .i64))).toNat (Ab tSt)).2.2.2],.own 3,.tup   [.sl (.sl (.int .i64))       (Az           ((st.getD ((Ad (st,ps)).getD (↑i:Int).toNat (Ab (.int .i64))).toNat (Ab tSt)).1,             (st.getD ((Ad (st,ps)).getD (↑i:Int).toNat (Ab (.int .i64))).toNat (Ab tSt)).2.1,             (st.getD ((Ad (st,ps)).getD (↑i:Int).toNat (Ab (.int .i64))).toNat (Ab tSt)).2.2.1,             (st.getD ((Ad (st,ps)).getD (↑i:Int).toNat (Ab (.int .i64))).toNat (Ab tSt)).2.2.2)           ins).1,     .int .i64       (Az           ((st.getD ((Ad (st,ps)).getD (↑i:Int).toNat (Ab (.int .i64))).toNat (Ab tSt)).1,             (st.getD ((Ad (st,ps)).getD (↑i:Int).toNat (Ab (.int .i64))).toNat (Ab tSt)).2.1,             (st.getD ((Ad (st,ps)).getD (↑i:Int).toNat (Ab (.int .i64))).toNat (Ab tSt)).2.2.1,             (st.getD ((Ad (st,ps)).getD (↑i:Int).toNat (Ab (.int .i64))).toNat (Ab tSt)).2.2.2)           ins).2],.sl (.sl (.int .i64))   (Az       ((st.getD ((Ad (st,ps)).getD (↑i:Int).toNat (Ab (.int .i64))).toNat (Ab tSt)).1,         (st.getD ((Ad (st,ps)).getD (↑i:Int).toNat (Ab (.int .i64))).toNat (Ab tSt)).2.1,         (st.getD ((Ad (st,ps)).getD (↑i:Int).toNat (Ab (.int .i64))).toNat (Ab tSt)).2.2.1,         (st.getD ((Ad (st,ps)).getD (↑i:Int).toNat (Ab (.int .i64))).toNat (Ab tSt)).2.2.2)       ins).1,.int .i64   (Az       ((st.getD ((Ad (st,ps)).getD (↑i:Int).toNat (Ab (.int .i64))).toNat (Ab tSt)).1,         (st.getD ((Ad (st,ps)).getD (↑i:Int).toNat (Ab (.int .i64))).toNat (Ab tSt)).2.1,         (st.getD ((Ad (st,ps)).getD (↑i:Int).toNat (Ab (.int .i64))).toNat (Ab tSt)).2.2.1,         (st.getD ((Ad (st,ps)).getD (↑i:Int).toNat (Ab (.int .i64))).toNat (Ab tSt)).2.2.2)       ins).2,.int .i64   (Az       ((st.getD ((Ad (st,ps)).getD (↑i:Int).toNat (Ab (.int .i64))).toNat (Ab tSt)).1,         (st.getD ((Ad (st,ps)).getD (↑i:Int).toNat (Ab (.int .i64))).toNat (Ab tSt)).2.1,         (st.getD ((Ad (st,ps)).getD (↑i:Int).toNat (Ab (.int .i64))).toNat (Ab tSt)).2.2.1,         (st.getD ((Ad (st,ps)).getD (↑i:Int).toNat (Ab (.int .i64))).toNat (Ab tSt)).2.2.2)       ins).2,.bool   !decide       ((Az             ((st.getD ((Ad (st,ps)).getD (↑i:Int).toNat (Ab (.int .i64))).toNat (Ab tSt)).1,               (st.getD ((Ad (st,ps)).getD (↑i:Int).toNat (Ab (.int .i64))).toNat (Ab tSt)).2.1,               (st.getD ((Ad (st,ps)).getD (↑i:Int).toNat (Ab (.int .i64))).toNat (Ab tSt)).2.2.1,               (st.getD ((Ad (st,ps)).getD (↑i:Int).toNat (Ab (.int .i64))).toNat (Ab tSt)).2.2.2)             ins).2 =         0),.any,.sl (.sl (.int .i64))   (Az       ((st.getD ((Ad (st,ps)).getD (↑i:Int).toNat (Ab (.int .i64))).toNat (Ab tSt)).1,         (st.getD ((Ad (st,ps)).getD (↑i:Int).toNat (Ab (.int .i64))).toNat (Ab tSt)).2.1,         (st.getD ((Ad (st,ps)).getD (↑i:Int).toNat (Ab (.int .i64))).toNat (Ab tSt)).2.2.1,         (st.getD ((Ad (st,ps)).getD (↑i:Int).toNat (Ab (.int .i64))).toNat (Ab tSt)).2.2.2)       ins).1,.int .i64   (↑(Az             ((st.getD ((Ad (st,ps)).getD (↑i:Int).toNat (Ab (.int .i64))).toNat (Ab tSt)).1,               (st.getD ((Ad (st,ps)).getD (↑i:Int).toNat (Ab (.int .i64))).toNat (Ab tSt)).2.1,               (st.getD ((Ad (st,ps)).getD (↑i:Int).toNat (Ab (.int .i64))).toNat (Ab tSt)).2.2.1,               (st.getD ((Ad (st,ps)).getD (↑i:Int).toNat (Ab (.int .i64))).toNat (Ab tSt)).2.2.2)             ins).1.length :     Int),.int .i64 (v.1:Int)]++nA 46,[.cells [.sl tSt st,.sl A3 ps],.rows tIs v.2,.rows tIs K,.froz tIs ins],4⟩) (fun v=>v.1≤(Az (st.getD ((Ad (st,ps)).getD (i:Int).toNat (Ab (.int .i64))).toNat (Ab tSt)) ins).1.length∧v.2=(List.range v.1).foldl (Ah0 (st,ps) ((Ad (st,ps)).getD (i:Int).toNat (Ab (.int .i64))) (Az (st.getD ((Ad (st,ps)).getD (i:Int).toNat (Ab (.int .i64))).toNat (Ab tSt)) ins).1) S) (fun v=>(Az (st.getD ((Ad (st,ps)).getD (i:Int).toNat (Ab (.int .i64))).toNat (Ab tSt)) ins).1.length - v.1) (aI (eI ((0,S)) (eI ([some 0,some 1,some 2,some 3]) (aI ?_ (aB (aI (aI (aA (by rfl)) (aB (aA tT))) (by rfl)))))) ?_)
   ·exact ⟨Nat.zero_le _,rfl⟩
   rintro ⟨j,R⟩ ⟨hj,hR⟩
   replace hj:j≤(Az (st.getD ((Ad (st,ps)).getD (i:Int).toNat (Ab (.int .i64))).toNat (Ab tSt)) ins).1.length:=hj
   replace hR:R=(List.range j).foldl (Ah0 (st,ps) ((Ad (st,ps)).getD (i:Int).toNat (Ab (.int .i64))) (Az (st.getD ((Ad (st,ps)).getD (i:Int).toNat (Ab (.int .i64))).toNat (Ab tSt)) ins).1) S:=hR
   have hRl:R.length=ps.length:=by rw [hR,Aj8,hSl]
   have hout:decide ((j:Int) < ((Az (st.getD ((Ad (st,ps)).getD (i:Int).toNat (Ab (.int .i64))).toNat (Ab tSt)) ins).1.length:Int))=true→j < (Az (st.getD ((Ad (st,ps)).getD (i:Int).toNat (Ab (.int .i64))).toNat (Ab tSt)) ins).1.length∧(0≤Cq (st,ps) ((Ad (st,ps)).getD (i:Int).toNat (Ab (.int .i64))) j∧Cq (st,ps) ((Ad (st,ps)).getD (i:Int).toNat (Ab (.int .i64))) j < R.length):=fun h=>by
    have h1:j < (Az (st.getD ((Ad (st,ps)).getD (i:Int).toNat (Ab (.int .i64))).toNat (Ab tSt)) ins).1.length:=by have:=of_decide_eq_true h;omega
    obtain ⟨q,q1,q2,_⟩:=w.outs t0 tN (Int.natCast_nonneg j) (show (j:Int) < stOut (st.getD ((Ad (st,ps)).getD (i:Int).toNat (Ab (.int .i64))).toNat (Ab tSt)) by omega)
    refine ⟨h1, ?_⟩
    rw [q2]
    have q1:q < ps.length:=q1
    omega
   have hend:decide ((j:Int) < ((Az (st.getD ((Ad (st,ps)).getD (i:Int).toNat (Ab (.int .i64))).toNat (Ab tSt)) ins).1.length:Int))=false→R=Amx (st,ps) ((Ad (st,ps)).getD (i:Int).toNat (Ab (.int .i64))) (Az (st.getD ((Ad (st,ps)).getD (i:Int).toNat (Ab (.int .i64))).toNat (Ab tSt)) ins).1 S:=fun h=>by
    have h1:¬ (j:Int) < ((Az (st.getD ((Ad (st,ps)).getD (i:Int).toNat (Ab (.int .i64))).toNat (Ab tSt)) ins).1.length:Int):=of_decide_eq_false h
    rw [hR,show j=(Az (st.getD ((Ad (st,ps)).getD (i:Int).toNat (Ab (.int .i64))).toNat (Ab tSt)) ins).1.length by omega];rfl
   refine (aI (fun v0=>(aO (aI tT (aI ?_ (aO ?_))))) (fun v0=>(aI (by omega) (aI (fun v1=>(aO (aI (by omega) (aO ?_)))) (fun v1=>(aO ?_))))))
   ·exact (hout v0).2
   ·obtain ⟨h1,-⟩:=hout v0
    clear v0 hout hend
    refine eI ((j+1,R.set (Cq (st,ps) ((Ad (st,ps)).getD (i:Int).toNat (Ab (.int .i64))) j).toNat ((Az (st.getD ((Ad (st,ps)).getD (i:Int).toNat (Ab (.int .i64))).toNat (Ab tSt)) ins).1.getD (j:Int).toNat (Ab tIs)))) (eI ([some 0,some 1,some 2,some 3]) (aI ?_ (aI ?_ (aB (aI (aI (aA (by rfl)) (aB (aA tT))) (by rfl))))))
    ·refine ⟨h1, ?_⟩
     show R.set _ _=(List.range (j+1)).foldl _ S
     rw [List.range_succ,List.foldl_append,← hR];rfl
    ·show (Az (st.getD ((Ad (st,ps)).getD (i:Int).toNat (Ab (.int .i64))).toNat (Ab tSt)) ins).1.length - (j+1) < (Az (st.getD ((Ad (st,ps)).getD (i:Int).toNat (Ab (.int .i64))).toNat (Ab tSt)) ins).1.length - j
     omega
   ·have h1:=hend v0
    have h10:(sg (st,ps) ((Ad (st,ps)).getD (i:Int).toNat (Ab (.int .i64)))).1=10:=of_decide_eq_true v1
    have e2:Aj5 (st,ps) ((Ad (st,ps)).getD (i:Int).toNat (Ab (.int .i64))) (ins.getD 0 []) K=K.set ((Ad (st,ps)).getD (i:Int).toNat (Ab (.int .i64))).toNat (ins.getD 0 []):=if_pos h10
    rw [e2,← h1] at hme
    clear v0 v1 hout hend hsk
    refine eI ((i+1,R,K.set ((Ad (st,ps)).getD (i:Int).toNat (Ab (.int .i64))).toNat (ins.getD (Int.toNat 0) (Ab tIs)))) (eI ([some 0,some 1,some 2]) (aI ?_ (aI ?_ (aB (aI (aI (aA (by rfl)) (aB tT)) (by rfl))))))
    ·exact ⟨hi',hRl,by show (K.set _ _).length=st.length;rw [List.length_set];exact hKl,hme⟩
    ·show (Ad (st,ps)).length - (i+1) < (Ad (st,ps)).length - i
     omega
   ·have h1:=hend v0
    have h10:¬ (sg (st,ps) ((Ad (st,ps)).getD (i:Int).toNat (Ab (.int .i64)))).1=10:=of_decide_eq_false v1
    have e2:Aj5 (st,ps) ((Ad (st,ps)).getD (i:Int).toNat (Ab (.int .i64))) (ins.getD 0 []) K=K:=if_neg h10
    rw [e2,← h1] at hme
    clear v0 v1 hout hend hsk
    refine eI ((i+1,R,K)) (eI ([some 0,some 1,some 2]) (aI ?_ (aI ?_ (aB (aI (aI (aA (by rfl)) (aB tT)) (by rfl))))))
    ·exact ⟨hi',hRl,hKl,hme⟩
    ·show (Ad (st,ps)).length - (i+1) < (Ad (st,ps)).length - i
     omega
 ·have hi2:i=(Ad (st,ps)).length:=by
   have:¬ (i:Int) < ((Ad (st,ps)).length:Int):=of_decide_eq_false k0
   omega
  have hm2:Gy (st,ps)=(Aob st K,0):=by
   rw [hm,List.drop_of_length_le (by omega)];rfl
  clear hlt k0 hm hM
  refine ex4 _ (fun q:Nat × List (List Int)=>⟨[.any,.ptr 0 0,.any,.any,.any,.any,.own 2,.any,.any,.any,.any,.any,.any,.any,.any,.own 3,.any,.any,.any,.any,.any,.any,.any,.any,.any,.any,.any,.any,.any,.any,.any,.any,.any,.any,.any,.any,.any,.any,.any,.any,.any,.any,.any,.any,.any,.any,.any,.any,.any,.any,.any,.any,.any,.any,.any,.any,.any,.any,.any,.any,.any,.any,.any,.any,.any,.any,.any,.any,.any,.any,.any,.any,.any,.any,.any,.any,.any,.any,.any,.any,.any,.any,.any,.any,.any,.any,.any,.any,.any,.any,.any,.any,.any,.any,.any,.any,.any,.any,.any,.any,.ptr 0 0,.sl tSt st,.int .i64 (↑st.length:Int),.int .i64 (q.1:Int)]++nA 16,[.cells [.sl tSt st,.sl A3 ps],.rows tIs S,.rows tIs K,.rows tIs q.2],4⟩) (fun q=>q.1≤st.length∧q.2=((List.range q.1).filter fun i=>isSink (st.getD i zStg)).map fun i=>K.getD i []) (fun q=>st.length - q.1) (aI (eI ((0,[])) (eI ([some 0,some 1,some 2,none]) (aI ?_ (aB (aI (aI (aA (by rfl)) (aB (aA tT))) (by rfl)))))) ?_)
  ·exact ⟨Nat.zero_le _,rfl⟩
  rintro ⟨a,out⟩ ⟨ha,ho⟩
  replace ha:a≤st.length:=ha
  replace ho:out=((List.range a).filter fun i=>isSink (st.getD i zStg)).map fun i=>K.getD i []:=ho
  have hol:out.length≤16:=by
   rw [ho,List.length_map]
   have:=List.length_filter_le (fun i=>isSink (st.getD i zStg)) (List.range a)
   rw [List.length_range] at this
   omega
  have hla:decide ((a:Int) < (st.length:Int))=true→a < st.length:=fun h=>by have:=of_decide_eq_true h;omega
  have hs:((List.range (a+1)).filter fun i=>isSink (st.getD i zStg)).map (fun i=>K.getD i [])=out++if isSink (st.getD a zStg)=true then [K.getD a []] else []:=by
   rw [List.range_succ,List.filter_append,List.map_append,← ho]
   by_cases h:isSink (st.getD a zStg)=true
   ·rw [if_pos h,List.filter_cons,if_pos h];rfl
   ·rw [if_neg h,List.filter_cons,if_neg h];rfl
  refine (aI (fun y0=>(aO (aI (fun y1=>(aO (aO (aO ?_)))) (fun y1=>(aO ?_))))) (fun y0=>(Aa rfl ?_)))
  ·have h1:=hla y0
   have h2:=hs.trans (congrArg _ (if_pos (show isSink (st.getD a zStg)=true from y1)))
   clear y0 y1 hs hla
   refine eI ((a+1,out++[K.getD (a:Int).toNat (Ab tIs)])) (eI ([some 0,some 1,some 2,some 6]) (aI ?_ (aI ?_ (aB (aI (aI (aA (by rfl)) (aB (aA tT))) (by rfl))))))
   ·exact ⟨h1,h2.symm⟩
   ·show st.length - (a+1) < st.length - a
    omega
  ·have h1:=hla y0
   have h2:=hs.trans (congrArg _ (if_neg (fun h=>Bool.false_ne_true ((show isSink (st.getD a zStg)=false from y1).symm.trans h))))
   rw [List.append_nil] at h2
   clear y0 y1 hs hla
   refine eI ((a+1,out)) (eI ([some 0,some 1,some 2,some 3]) (aI ?_ (aI ?_ (aB (aI (aI (aA (by rfl)) (aB (aA tT))) (by rfl))))))
   ·exact ⟨h1,h2.symm⟩
   ·show st.length - (a+1) < st.length - a
    omega
  ·have h1:¬ (a:Int) < (st.length:Int):=of_decide_eq_false y0
   show ((Gy (st,ps)).1,(Gy (st,ps)).2,())=_
   rw [hm2,ho,show a=st.length by omega];rfl
end Go.Proofs.YtckpldpombdkgaaGreat
