/- Pipelines. -/
import Derived.Test.YtckpldpombdkgaaGreatCG4
set_option linter.unusedSimpArgs false
set_option linter.unusedVariables false
set_option maxRecDepth 100000
namespace Go.Proofs.YtckpldpombdkgaaGreat
open Go.Sx
def Ak1:List (TypeId × Ty):=(53,tSt) :: (30,tFs) :: (31,tIs) :: O7
theorem Am2:Ah Tryz.prog ⟨Ak1,[]⟩:=fun _ _ _ h=>by simp [Gp] at h
def cClT:Ctr:=fnO [.dat false (.sl tSt)] tSt (fun y=>y.1.length≤1000) (fun y=>y.1)
theorem Ap2:GoodC Tryz.prog 57 cClT:=by
 refine goodO Am2 3 _ _ _ _ ⟨_,Tryz.func57,rfl,rfl⟩ fun ⟨xs,_⟩ hlen=>?_
 simp only at hlen
 refine (aF (fun h0=>(fun h1=>(aI (fun h2=>(I8 (by simp_all))) (fun h2=>(aO (Lq rfl (by simp_all))))))))
def cxqX:Ctx:=⟨Ak1,[(41,([],cDVal)),(57,([],cClT)),(58,([],cMean))]⟩
theorem Aea:Ah Tryz.prog cxqX:=C7 (Ae Ahr (Ae Ap2 (Ae Aog Ag)))
def cExp:Ctr:=fnC [dPl,dFs] T4 (fun y=>Cv y.1 y.2.1=0→okO y.1) (fun y=>((Vw y.1 y.2.1).1,(Vw y.1 y.2.1).2,()))
theorem Am3 (l:List StT) (s:List SST):L5 l s 0=l:=by
 unfold L5
 refine List.ext_getElem (by rw [List.length_map,List.length_range]) fun i h1 h2=>?_
 rw [List.getElem_map,List.getElem_range,if_neg (by omega),Bt h2]
theorem Sn (l:List StT) (s:List SST) (n i:Nat) (h:i < l.length):(L5 l s n).getD i zStg=if i < n then Ah1 (l.getD i zStg) (s.getD i ([],0,false)).2.1 else l.getD i zStg:=by
 unfold L5
 rw [Bt (by rw [List.length_map,List.length_range];exact h),List.getElem_map,List.getElem_range]
theorem Yb (l:List StT) (s:List SST) (n:Nat) (h:n < l.length):(L5 l s n).set n (Ah1 (l.getD n zStg) (s.getD n ([],0,false)).2.1)=L5 l s (n+1):=by
 refine List.ext_getElem (by rw [List.length_set,L5,L5,List.length_map,List.length_map]) fun i h1 h2=>?_
 have hi:i < l.length:=by rw [List.length_set,L5,List.length_map,List.length_range] at h1;exact h1
 rw [← Bt (d:=zStg) h1,← Bt (d:=zStg) h2,Ii,Sn _ _ _ _ hi,Sn _ _ _ _ hi]
 by_cases hn:n=i
 ·subst hn
  rw [if_pos ⟨rfl,by rw [L5,List.length_map,List.length_range];exact hi⟩,if_pos (by omega)]
 ·rw [if_neg (fun h=>hn h.1)]
  by_cases h3:i < n
  ·rw [if_pos h3,if_pos (by omega)]
  ·rw [if_neg h3,if_neg (by omega)]
set_option maxHeartbeats 8000000 in
theorem Ap3:GoodC Tryz.prog 27 cExp:=by
 refine Ap Aea 4 _ _ _ _ ⟨_,Tryz.func27,rfl,rfl⟩ fun (⟨⟨st,ps⟩,⟨ss,cs,os,dr⟩,_⟩ : PlT × FsT × Unit) hg=>?_
 replace hg:Cv (st,ps) (ss,cs,os,dr)=0→okO (st,ps):=hg
 have hN:(!decide (Cv (st,ps) (ss,cs,os,dr)=0))=false→okO (st,ps)∧st.length≤1000∧ss.length=st.length:=fun h=>by
  have h0:=of_decide_eq_true (Bw h)
  obtain ⟨w,v⟩:=Cg.1 h0
  have h1:st.length≤16:=w.n16
  exact ⟨hg h0,by omega,v.ls⟩
 refine (aF (aI tT (aI (fun h0=>(Aa rfl ?_)) (fun h0=>(aO (fun h1=>?_))))))
 ·have hc:Cv (st,ps) (ss,cs,os,dr)≠0:=fun h=>by
   have h0:(!decide (Cv (st,ps) (ss,cs,os,dr)=0))=true:=h0
   rw [h] at h0;cases h0
  show ((Vw (st,ps) (ss,cs,os,dr)).1,(Vw (st,ps) (ss,cs,os,dr)).2,())=_
  rw [show Vw (st,ps) (ss,cs,os,dr)=([],1) from if_pos hc]
 have hz:Cv (st,ps) (ss,cs,os,dr)=0:=of_decide_eq_true (Bw h0)
 obtain ⟨hO,hl,hsl⟩:=hN h0
 have v:=(Cg.1 hz).2
 have hX:Vw (st,ps) (ss,cs,os,dr)=Gy (Aj6 (st,ps) (ss,cs,os,dr)):=if_neg (fun h=>h hz)
 clear h0 hN hg
 refine ex4 _ (fun p:Nat × List StT=>⟨[.any,.any,.ptr 0 0,.ptr 1 0,.any,.any,.any,.any,.any,.any,.any,.any,.any,.any,.any,.any,.ptr 0 0,.own 2,.int .i64 (↑st.length:Int),.int .i64 (p.1:Int)]++nA 26,[.cells [.own 2,.sl A3 ps],.cells [.sl tSS ss,.sl A8 cs,.sl (.sl (.int .i64)) os,.bool dr],.rows tSt p.2],3⟩) (fun p=>p.1≤st.length∧p.2=L5 st ss p.1) (fun p=>st.length - p.1) (aI (eI ((0,st)) (eI ([some 0,some 1,some 2]) (aI ?_ (aB (aI (aI (aA (by rfl)) (aI (aA (by rfl)) (aA tT))) (by rfl)))))) ?_)
 ·exact ⟨Nat.zero_le _,(Am3 st ss).symm⟩
 rintro ⟨i,R⟩ ⟨hi,hR⟩
 replace hi:i≤st.length:=hi
 replace hR:R=L5 st ss i:=hR
 have hRl:R.length=st.length:=by rw [hR,L5,List.length_map,List.length_range]
 have hlt:decide ((i:Int) < (st.length:Int))=true→i < st.length:=fun h=>by have:=of_decide_eq_true h;omega
 have hRg:i < st.length→R.getD (i:Int).toNat (Ab tSt)=st.getD i zStg:=fun h=>by
  rw [hR,Int.toNat_natCast]
  exact (Sn st ss i i h).trans (if_neg (Nat.lt_irrefl i))
 have hcn:i < st.length→(R.getD (i:Int).toNat (Ab tSt)).1=1→0≤(ss.getD (i:Int).toNat (Ab tSS)).2.1∧(ss.getD (i:Int).toNat (Ab tSS)).2.1≤(List.length (R.getD (i:Int).toNat (Ab tSt)).2.2.2:Int):=fun h h1=>by
  rw [hRg h] at h1 ⊢
  exact Am1 v (Int.natCast_nonneg i) (show (i:Int) < (st.length:Int) by omega) h1
 refine (aI (fun k0=>(aO (aI (fun k1=>(aF (aO (aO (aO (aO ?_)))))) (fun k1=>(aO ?_))))) (fun k0=>(aI (fun k2=>?_) (fun (k3:List (List Int) × Int × PUnit)=>(fun k4=>(Aa rfl ?_))))))
 ·have h1:=hlt k0
  have h2:=hRg h1
  have h3:(R.getD (i:Int).toNat (Ab tSt)).1=1:=of_decide_eq_true k1
  clear k0 k1
  refine eI ((i+1,R.set (i:Int).toNat ((R.getD (i:Int).toNat (Ab tSt)).1,(R.getD (i:Int).toNat (Ab tSt)).2.1,ExprT.mk (ExprT.kind (R.getD (i:Int).toNat (Ab tSt)).2.2.1) (ExprT.op (R.getD (i:Int).toNat (Ab tSt)).2.2.1) (ExprT.name (R.getD (i:Int).toNat (Ab tSt)).2.2.1) (ExprT.value (R.getD (i:Int).toNat (Ab tSt)).2.2.1) (ExprT.args (R.getD (i:Int).toNat (Ab tSt)).2.2.1),List.take (Int.toNat (ss.getD (i:Int).toNat (Ab tSS)).2.1) (R.getD (i:Int).toNat (Ab tSt)).2.2.2))) (eI ([some 0,some 1,some 2]) (aI ?_ (aI ?_ (aB (aI (aI (aA (by rfl)) (aI (aA (by rfl)) (aA tT))) (by rfl))))))
  ·refine ⟨h1, ?_⟩
   simp only [eta]
   show R.set (i:Int).toNat _=L5 st ss (i+1)
   rw [h2] at h3 ⊢
   rw [← Yb st ss i h1,← hR,Int.toNat_natCast]
   unfold Ah1
   rw [if_pos h3]
  ·show st.length - (i+1) < st.length - i
   omega
 ·have h1:=hlt k0
  have h2:=hRg h1
  have h3:¬ (R.getD (i:Int).toNat (Ab tSt)).1=1:=of_decide_eq_false k1
  clear k0 k1
  refine eI ((i+1,R)) (eI ([some 0,some 1,some 2]) (aI ?_ (aI ?_ (aB (aI (aI (aA (by rfl)) (aI (aA (by rfl)) (aA tT))) (by rfl))))))
  ·refine ⟨h1, ?_⟩
   show R=L5 st ss (i+1)
   rw [h2] at h3
   rw [← Yb st ss i h1,← hR]
   unfold Ah1
   rw [if_neg h3]
   have h4:i < R.length:=by omega
   rw [Int.toNat_natCast] at h2
   rw [← h2]
   rw [Bt h4]
   exact (List.set_getElem_self h4).symm
  ·show st.length - (i+1) < st.length - i
   omega
 ·have h1:(R,ps)=Aj6 (st,ps) (ss,cs,os,dr):=by
   have:¬ (i:Int) < (st.length:Int):=of_decide_eq_false k0
   rw [hR,show i=st.length by omega];rfl
  have h2:Hb (R,ps)=Hb (st,ps):=rfl
  show ps.length≤12∧okD ((R.length:Nat):Int) (B4 (Hb (R,ps)))
  rw [hRl,h2]
  exact hO
 ·have h1:(R,ps)=Aj6 (st,ps) (ss,cs,os,dr):=by
   have:¬ (i:Int) < (st.length:Int):=of_decide_eq_false k0
   rw [hR,show i=st.length by omega];rfl
  rw [k4]
  show ((Vw (st,ps) (ss,cs,os,dr)).1,(Vw (st,ps) (ss,cs,os,dr)).2,())=((Gy (R,ps)).1,(Gy (R,ps)).2,())
  rw [h1,hX]
end Go.Proofs.YtckpldpombdkgaaGreat
