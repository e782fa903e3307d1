/- Pipelines. -/
import Derived.Test.YtpabcdbaffjcdaaGreatJG5
import Derived.Test.YtpabcdbaffjcdaaGreatJQ3
import Derived.Test.YtpabcdbaffjcdaaGreatJK2
set_option linter.unusedSimpArgs false
set_option linter.unusedVariables false
set_option maxRecDepth 100000
namespace Go.Proofs.YtpabcdbaffjcdaaGreat
open Go.Sx
def cClF:Ctr:=fnC [dIs] [(false,tIs)] (λy=>y.1.length<=1000000) (λy=>(y.1,()))
theorem Avu:GoodC Tryz.prog 56 cClF:=by
 refine Au M8 3 _ _ _ _ ⟨_,Tryz.func56,rfl,rfl⟩ λ(⟨xs,_⟩:List Int×Unit) hlen=>?_
 simp only at hlen;refine(aF (λh0=>(λh1=>(aI (λh2=>(Aa rfl (by simp_all))) (λh2=>(aO (Aa rfl (by simp_all))))))))
def G2(l:List StT)(s:List SST)(n:Nat):List StT:=(List.range l.length).map λi=>if i<n then Rr l s i else l.getD i zStg
theorem Ks(l:List StT)(s:List SST)(n:Nat):(G2 l s n).length=l.length:=by rw[G2,bN,dU]
theorem Apa(l:List StT)(s:List SST):G2 l s 0=l:=by
 unfold G2;refine gO (by rw[bN,dU]) λi h1 h2=>?_
 rw[eS,fL,aL (by omega),A1 h2]
theorem Q0(l:List StT)(s:List SST)(n i:Nat)(h:i<l.length):(G2 l s n).getD i zStg=if i<n then Rr l s i else l.getD i zStg:=by
 unfold G2;rw[A1 (by rw[bN,dU];exact h),eS,fL]
theorem Aiu(l:List StT)(s:List SST)(n:Nat)(h:n<l.length):(G2 l s n).set n (Rr l s n)=G2 l s (n+1):=by
 refine gO (by rw[cE,Ks,Ks]) λi h1 h2=>?_
 have hi:i<l.length:=by rw[cE,Ks]at h1;exact h1
 rw[<-A1 (d:=zStg) h1,<-A1 (d:=zStg) h2,Cc,Q0 _ _ _ _ hi,Q0 _ _ _ _ hi];by_cases hn:n=i
 ·subst hn;rw[aP ⟨rfl,by rw[Ks];exact hi⟩,aP (by omega)]
 ·rw[aL (λh=>hn h.1)];by_cases h3:i<n
  ·rw[aP h3,aP (by omega)]
  ·rw[aL h3,aL (by omega)]
theorem Ad7(l:List StT)(s:List SST)(n:Nat)(h:Rr l s n=l.getD n zStg):G2 l s (n+1)=G2 l s n:=by
 unfold G2;refine eJ λi _=>?_
 by_cases h1:i<n
 ·rw[aP h1,aP (by omega)]
 ·rw[aL h1];by_cases h2:i=n
  ·subst h2;rw[aP (by omega),h]
  ·rw[aL (by omega)]
theorem Ab1(y:StT)(s:List SST)(i:Nat):Abz y s i=(bif (bif (bif decide (y.1=1)then decide ((i:Int)<(s.length:Int))else false)then decide (0<=(s.getD i ([],0,false)).2.1)else false)then decide ((s.getD i ([],0,false)).2.1<=(y.2.2.2.length:Int))else false):=by
 unfold Abz;rw[show decide ((i:Int)<(s.length:Int))=decide (i<s.length)from decide_eq_decide.2 Int.ofNat_lt];cases decide (y.1=1)<;>cases decide (i<s.length)<;>cases decide (0<=(s.getD i ([],0,false)).2.1)<;>rfl
theorem Amt{x:PlT}{s:FsT}{n:Nat}(h:n=x.1.length):El x s=(G2 x.1 s.1 n,x.2):=by
 subst h;unfold El G2
 congr 1
 exact eJ λi hi=>(aP (cZ.1 hi)).symm
@[reducible] def rPl:List (Bool×Ty):=[(true,tPl)]
def cxRb:Ctx:=⟨Amf,[(55,([],cClT)),(56,([],cClF))]⟩
theorem Aiv:Ai Tryz.prog cxRb:=Dl (Ae Avp (Ae Avu Ah))
def cRest:Ctr:=fnC [dPl,dFs] rPl (λy=>Df y.1 y.2.1=0) (λy=>(El y.1 y.2.1,()))
set_option maxHeartbeats 8000000 in
theorem At7:GoodC Tryz.prog 21 cRest:=by
 refine Au Aiv 4 _ _ _ _ ⟨_,Tryz.func21,rfl,rfl⟩ λ(⟨⟨st,ps⟩,⟨ss,cs,os,dr⟩,_⟩:PlT×FsT×Unit) hg=>?_
 replace hg:Df (st,ps) (ss,cs,os,dr)=0:=hg;obtain⟨w,v⟩:=Bz.1 hg;have h16:st.length<=16:=w.n16;have hl:st.length<=1000:=by omega
 have hsl:ss.length=st.length:=v.ls;have hit:∀i<st.length,(st.getD i zStg).2.2.2.length<=200:=λi hi=>(Hm (w.st i hi)).1
 refine(aF (aI (by omega) (λh0=>?_)));refine ex4 _ (λi:Nat=>⟨[.any,.any,.ptr 0 0,.ptr 1 0,.ptr 2 0,.any,.any,.any,.any,.any,.any,.ptr 0 0,.own 3,.int .i64 (↑st.length:Int),.int .i64 (i:Int)]++nA 52,[.cells [.own 3,.sl A6 ps],.cells [.sl tSS ss,.sl Dn cs,.sl (.sl (.int .i64)) os,.bool dr],.cells [.cap0,.cap0],.rows tSt (G2 st ss i)],4⟩) (λi=>i<=st.length) (λi=>st.length-i) (aI (eI (0) (eI ([some 0,some 1,some 2,some 3]) (aI ?_ (aB (aI (aH (aG (aI ?_ tT))) (by rfl)))))) ?_)
 ·exact aV _
 ·show Ob.rows tSt st=_;rw[Apa]
 rintro i hi;replace hi:i<=st.length:=hi;have hrl:(G2 st ss i).length=st.length:=Ks st ss i;have hlt:decide ((i:Int)<(st.length:Int))=true->i<st.length/\(G2 st ss i).getD (i:Int).toNat (Ab tSt)=st.getD i zStg:=λh=>by
  have h1:i<st.length:=by have:=aM h;omega
  refine⟨h1, ?_⟩;rw[bH];show(G2 st ss i).getD i zStg=_;rw[Q0 _ _ _ _ h1,aL (by omega)]
 refine(aI (λk0=>(aO (aF (aI (λk1 k2=>(by intros;(try subst_vars);(try simp only[nB]at *);(try simp only[inK,big,lim,nL]at *);omega)) (aI (λk3 k4=>(by intros;(try subst_vars);(try simp only[nB]at *);(try simp only[inK,big,lim,nL]at *);omega)) (λk5=>(λk6=>(aI (λk7=>(aF (aO (aO (aI ?_ (aO (aO ?_))))))) (λk7=>(aO ?_)))))))))) (λk0=>(Aa rfl ?_)))
 ·obtain⟨h1,h2⟩:=hlt k0;rw[h2];have h3:=hit i h1;exact cP (by rw[cI];exact Nat.sub_le _ _) (cP h3 (by decide))
 ·obtain⟨h1,h2⟩:=hlt k0;rw[h2]at k7;have he:Rr st ss i=Aby (st.getD i zStg) (ss.getD i ([],0,false)).2.1:=aP ((Ab1 _ _ _).trans k7);clear k0 k5 k6 k7 hlt;refine eI (i+1) (eI ([some 0,some 1,some 2,some 3]) (aI ?_ (aI ?_ (aB (aI (aH (aG (aI ?_ tT))) (by rfl))))))
  ·exact h1
  ·show st.length-(i+1)<st.length-i;omega
  ·simp only[eta];rw[h2,<-Aiu st ss i h1,he];rfl
 ·obtain⟨h1,h2⟩:=hlt k0;rw[h2]at k7;have he:Rr st ss i=st.getD i zStg:=aL λh=>aY (k7.symm.trans ((Ab1 _ _ _).symm.trans h))
  clear k0 k5 k6 k7 hlt;refine eI (i+1) (eI ([some 0,some 1,some 2,some 3]) (aI ?_ (aI ?_ (aB (aI (aH (aG (aI ?_ tT))) (by rfl))))))
  ·exact h1
  ·show st.length-(i+1)<st.length-i;omega
  ·show Ob.rows tSt (G2 st ss i)=Ob.rows tSt (G2 st ss (i+1));rw[Ad7 st ss i he]
 ·have h1:i=st.length:=by
   have:¬(i:Int)<(st.length:Int):=aQ k0;omega
  show(El (st,ps) (ss,cs,os,dr),())=_;rw[Amt h1]
end Go.Proofs.YtpabcdbaffjcdaaGreat
