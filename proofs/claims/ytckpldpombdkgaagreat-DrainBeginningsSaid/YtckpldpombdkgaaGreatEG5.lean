/- Pipelines. -/
import Derived.Test.YtckpldpombdkgaaGreatEG4
set_option linter.unusedSimpArgs false
set_option linter.unusedVariables false
set_option maxRecDepth 100000
namespace Go.Proofs.YtckpldpombdkgaaGreat
open Go.Sx
def Apz:List (TypeId×Ty):=(53,tSt)::(30,tFs)::(31,tIs)::Mm
theorem Arz:Aj Tryz.prog ⟨Apz,[]⟩:=λ_ _ _ h=>by simp[Gg]at h
def cClT:Ctr:=fnO [.dat false (.sl tSt)] tSt (λy=>y.1.length<=1000) (λy=>y.1)
theorem Avp:GoodC Tryz.prog 57 cClT:=by
 refine goodO Arz 3 _ _ _ _ ⟨_,Tryz.func57,rfl,rfl⟩ λ⟨xs,_⟩ hlen=>?_
 simp only at hlen;refine(aF (λh0=>(λh1=>(aI (λh2=>(Kf (by simp_all))) (λh2=>(aO (Nc rfl (by simp_all))))))))
def cxqX:Ctx:=⟨Apz,[(41,([],cDVal)),(57,([],cClT)),(58,([],cMean))]⟩
theorem Aio:Aj Tryz.prog cxqX:=C0 (Ad Af8 (Ad Avp (Ad Atv Ah)))
def cExp:Ctr:=fnC [dPl,dFs] Wx (λy=>Cl y.1 y.2.1=0->okO y.1) (λy=>((G3 y.1 y.2.1).1,(G3 y.1 y.2.1).2,()))
theorem Ar0(l:List StT)(s:List SST):L1 l s 0=l:=by
 unfold L1;refine iE (by rw[bM,dT]) λi h1 h2=>?_
 rw[eL,gD,aL (by omega),A1 h2]
theorem Vb(l:List StT)(s:List SST)(n i:Nat)(h:i<l.length):(L1 l s n).getD i zStg=if i<n then R8 (l.getD i zStg) (s.getD i ([],0,false)).2.1 else l.getD i zStg:=by
 unfold L1;rw[A1 (by rw[bM,dT];exact h),eL,gD]
theorem Abt(l:List StT)(s:List SST)(n:Nat)(h:n<l.length):(L1 l s n).set n (R8 (l.getD n zStg) (s.getD n ([],0,false)).2.1)=L1 l s (n+1):=by
 refine iE (by rw[cG,L1,L1,bM,bM]) λi h1 h2=>?_
 have hi:i<l.length:=by rw[cG,L1,bM,dT]at h1;exact h1
 rw[<-A1 (d:=zStg) h1,<-A1 (d:=zStg) h2,Cn,Vb _ _ _ _ hi,Vb _ _ _ _ hi];by_cases hn:n=i
 ·subst hn;rw[aN ⟨rfl,by rw[L1,bM,dT];exact hi⟩,aN (by omega)]
 ·rw[aL (λh=>hn h.1)];by_cases h3:i<n
  ·rw[aN h3,aN (by omega)]
  ·rw[aL h3,aL (by omega)]
set_option maxHeartbeats 8000000 in
theorem Ar1:GoodC Tryz.prog 27 cExp:=by
 refine As Aio 4 _ _ _ _ ⟨_,Tryz.func27,rfl,rfl⟩ λ(⟨⟨st,ps⟩,⟨ss,cs,os,dr⟩,_⟩:PlT×FsT×Unit) hg=>?_
 replace hg:Cl (st,ps) (ss,cs,os,dr)=0->okO (st,ps):=hg;have hN:(!decide (Cl (st,ps) (ss,cs,os,dr)=0))=false->okO (st,ps)/\st.length<=1000/\ss.length=st.length:=λh=>by
  have h0:=aM (Bw h);obtain⟨w,v⟩:=Bh.1 h0;have h1:st.length<=16:=w.n16;exact⟨hg h0,by omega,v.ls⟩
 refine(aF (aI tT (aI (λh0=>(Aa rfl ?_)) (λh0=>(aO (λh1=>?_))))))
 ·have hc:Cl (st,ps) (ss,cs,os,dr)≠0:=λh=>by
   have h0:(!decide (Cl (st,ps) (ss,cs,os,dr)=0))=true:=h0;rw[h]at h0;cases h0
  show((G3 (st,ps) (ss,cs,os,dr)).1,(G3 (st,ps) (ss,cs,os,dr)).2,())=_;rw[show G3 (st,ps) (ss,cs,os,dr)=([],1)from aN hc]
 have hz:Cl (st,ps) (ss,cs,os,dr)=0:=aM (Bw h0);obtain⟨hO,hl,hsl⟩:=hN h0;have v:=(Bh.1 hz).2;have hX:G3 (st,ps) (ss,cs,os,dr)=Fv (Bz (st,ps) (ss,cs,os,dr)):=aL (λh=>h hz);clear h0 hN hg;refine ex4 _ (λp:Nat×List StT=>⟨[.any,.any,.ptr 0 0,.ptr 1 0,.any,.any,.any,.any,.any,.any,.any,.any,.any,.any,.any,.any,.ptr 0 0,.own 2,.int .i64 (↑st.length:Int),.int .i64 (p.1:Int)]++nA 26,[.cells [.own 2,.sl A7 ps],.cells [.sl tSS ss,.sl C4 cs,.sl (.sl (.int .i64)) os,.bool dr],.rows tSt p.2],3⟩) (λp=>p.1<=st.length/\p.2=L1 st ss p.1) (λp=>st.length-p.1) (aI (eI ((0,st)) (eI ([some 0,some 1,some 2]) (aI ?_ (aB (aI (aH (aA tT)) (by rfl)))))) ?_)
 ·exact⟨aV _,(Ar0 st ss).symm⟩
 rintro⟨i,R⟩ ⟨hi,hR⟩;replace hi:i<=st.length:=hi;replace hR:R=L1 st ss i:=hR;have hRl:R.length=st.length:=by rw[hR,L1,bM,dT]
 have hlt:decide ((i:Int)<(st.length:Int))=true->i<st.length:=λh=>by have:=aM h;omega
 have hRg:i<st.length->R.getD (i:Int).toNat (Ab tSt)=st.getD i zStg:=λh=>by
  rw[hR,bE];exact(Vb st ss i i h).trans (aL (gM i))
 have hcn:i<st.length->(R.getD (i:Int).toNat (Ab tSt)).1=1->0<=(ss.getD (i:Int).toNat (Ab tSS)).2.1/\(ss.getD (i:Int).toNat (Ab tSS)).2.1<=(List.length (R.getD (i:Int).toNat (Ab tSt)).2.2.2:Int):=λh h1=>by
  rw[hRg h]at h1 ⊢;exact Q5 v (dQ i) (show(i:Int)<(st.length:Int) by omega) h1
 refine(aI (λk0=>(aO (aI (λk1=>(aF (aO (aO (aO (aO ?_)))))) (λk1=>(aO ?_))))) (λk0=>(aI (λk2=>?_) (λ(k3:List (List Int)×Int×PUnit)=>(λk4=>(Aa rfl ?_))))))
 ·have h1:=hlt k0;have h2:=hRg h1;have h3:(R.getD (i:Int).toNat (Ab tSt)).1=1:=aM k1;clear k0 k1;refine eI ((i+1,R.set (i:Int).toNat ((R.getD (i:Int).toNat (Ab tSt)).1,(R.getD (i:Int).toNat (Ab tSt)).2.1,ExprT.mk (ExprT.kind (R.getD (i:Int).toNat (Ab tSt)).2.2.1) (ExprT.op (R.getD (i:Int).toNat (Ab tSt)).2.2.1) (ExprT.name (R.getD (i:Int).toNat (Ab tSt)).2.2.1) (ExprT.value (R.getD (i:Int).toNat (Ab tSt)).2.2.1) (ExprT.args (R.getD (i:Int).toNat (Ab tSt)).2.2.1),List.take (Int.toNat (ss.getD (i:Int).toNat (Ab tSS)).2.1) (R.getD (i:Int).toNat (Ab tSt)).2.2.2))) (eI ([some 0,some 1,some 2]) (aI ?_ (aI ?_ (aB (aI (aH (aA tT)) (by rfl))))))
  ·refine⟨h1, ?_⟩;simp only[eta];show R.set (i:Int).toNat _=L1 st ss (i+1);rw[h2]at h3 ⊢;rw[<-Abt st ss i h1,<-hR,bE];unfold R8;rw[aN h3]
  ·show st.length-(i+1)<st.length-i;omega
 ·have h1:=hlt k0;have h2:=hRg h1;have h3:¬(R.getD (i:Int).toNat (Ab tSt)).1=1:=aP k1;clear k0 k1;refine eI ((i+1,R)) (eI ([some 0,some 1,some 2]) (aI ?_ (aI ?_ (aB (aI (aH (aA tT)) (by rfl))))))
  ·refine⟨h1, ?_⟩;show R=L1 st ss (i+1);rw[h2]at h3;rw[<-Abt st ss i h1,<-hR];unfold R8;rw[aL h3];have h4:i<R.length:=by omega
   rw[bE]at h2;rw[<-h2];rw[A1 h4];exact(List.set_getElem_self h4).symm
  ·show st.length-(i+1)<st.length-i;omega
 ·have h1:(R,ps)=Bz (st,ps) (ss,cs,os,dr):=by
   have:¬(i:Int)<(st.length:Int):=aP k0;rw[hR,show i=st.length by omega];rfl
  have h2:Dc (R,ps)=Dc (st,ps):=rfl;show ps.length<=12/\okD ((R.length:Nat):Int) (Bu (Dc (R,ps)));rw[hRl,h2];exact hO
 ·have h1:(R,ps)=Bz (st,ps) (ss,cs,os,dr):=by
   have:¬(i:Int)<(st.length:Int):=aP k0;rw[hR,show i=st.length by omega];rfl
  rw[k4];show((G3 (st,ps) (ss,cs,os,dr)).1,(G3 (st,ps) (ss,cs,os,dr)).2,())=((Fv (R,ps)).1,(Fv (R,ps)).2,());rw[h1,hX]
end Go.Proofs.YtckpldpombdkgaaGreat
