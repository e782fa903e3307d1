/- Pipelines. -/
import Derived.Test.YtpabcdbaffjcdaaGreatJL1
import Derived.Test.YtpabcdbaffjcdaaGreatJL4
import Derived.Test.YtpabcdbaffjcdaaGreatJH
import Derived.Test.YtpabcdbaffjcdaaGreatJK2
set_option linter.unusedSimpArgs false
set_option linter.unusedVariables false
set_option maxRecDepth 100000
namespace Go.Proofs.YtpabcdbaffjcdaaGreat
open Go.Sx
def Aub:List (TypeId×Ty):=(26,tIs)::Qt
def cxRe:Ctx:=⟨Aub,[(4,([],cFine)),(5,([],cAwakeR)),(6,([],cMean)),(7,([],cSplit)),(9,([],cCat)),(8,([],cEq))]⟩
theorem Aiy:Ai Tryz.prog cxRe:=Dl (Ae At6 (Ae Apc (Ae Aty (Ae Amw (Ae Avr (Ae gEq Ah))))))
theorem Apd{x:PlT}{ms:List (List Int)}(h:Px x ms=true):x.1.length<=12/\Fa x=0:=by
 unfold Px at h;split at h
 ·cases h
 ·split at h
  ·cases h
  ·rename_i h1 h2
   revert h
   cases hb:(bif (bif !grP x then decide (Ab0 x.1<=40)else false)then decide ((x.1.length:Int)<=12)else false)
   ·intro h;cases h
   ·intro h;refine⟨?_,aM h⟩
    revert hb
    cases(bif !grP x then decide (Ab0 x.1<=40)else false)
    ·intro h;cases h
    ·intro h;have:=aM h;omega
set_option maxHeartbeats 8000000 in
theorem Auc:Apm Tryz.prog 3 [tPl,tIs,tIs,.int .u8] [true,false,false,false]:=by
 refine⟨cxRe,3,Aiy,λ(⟨⟨st,ps⟩,l,m,k,_⟩:PlT×List Int×List Int×Int×Unit) fine=>?_⟩;have fk:0<=k/\k<=255:=fine.2.2.2.1;refine(aF (aI tT (aI (λh0=>(aI tT (Aa rfl ?_))) (λh0=>(λh1=>?_)))))
 ·rfl
 obtain⟨hx,hc⟩:=Apd (B5 h0);clear h0;refine ex4 _ (λi:Nat=>⟨[.any,.sl (.int .i64) l,.sl (.int .i64) m,.int .u8 k,.ptr 0 0,.any,.any,.any,.any,.any,.any,.any,.any,.any,.any,.any,.any,.any,.any,.any,.any,.any,.any,.any,.ptr 0 0,.sl tSt st,.int .i64 (↑st.length:Int),.int .i64 (i:Int)]++nA 69,[.cells [.sl tSt st,.sl A6 ps],.rows tIs [l,m]],2⟩) (λi=>i<=st.length/\∀j<i,Rq (st.getD j zStg)) (λi=>st.length-i) (aI (eI (0) (eI ([some 0,some 1]) (aI ?_ (aB (aI (aG (aA tT)) (by rfl)))))) ?_)
 ·exact⟨aV _,λj hj=>aT hj (eE j)⟩
 rintro i ⟨hi,hm⟩;replace hi:i<=st.length:=hi;replace hm:∀j<i,Rq (st.getD j zStg):=hm;have hlt:decide ((i:Int)<(st.length:Int))=true->i<st.length:=λh=>by have:=aM h;omega
 have hN:decide ((i:Int)<(st.length:Int))=false->(B7 (st,ps)).2=0->Agg (st,ps) k:=λh he=>by
  have h1:¬(i:Int)<(st.length:Int):=aQ h;refine⟨hx,he,λa a0 aN=>hm a.toNat ?_,fk.1,by omega⟩;have aN:a<(st.length:Int):=aN;omega
 refine(aI (λk0=>(aO (aI (λk1=>(aI (λk2=>(aI tT (Aa rfl ?_))) (λk2=>aT (Eq.trans (Eq.symm k1) k2) (by decide)))) (λk1=>(aI (λk3=>(aI (λk4=>(aI tT (Aa rfl ?_))) (λk4=>aT (Eq.trans (Eq.symm k3) k4) (by decide)))) (λk3=>(aI (λk5=>(aI (λk6=>(aI tT (Aa rfl ?_))) (λk6=>aT (Eq.trans (Eq.symm k5) k6) (by decide)))) (λk5=>(aI (λk7=>(aI tT (Aa rfl ?_))) (λk7=>(aO ?_))))))))))) (λk0=>(aI (λk8=>?_) (λ(k9:List (List Int)×Int×PUnit)=>(λk10=>(aI (λk11=>(aI tT (Aa rfl ?_))) (λk11=>(aO (aI ?_ (λ(k12:List (List Int)×List (List Int)×Bool×PUnit)=>(λk13=>(λk14=>(λk15=>(λk16=>(λk17=>(aI (λk18=>(Aa rfl ?_)) (λk18=>(λk19=>?_))))))))))))))))))
 iterate 4
  ·rfl
 ·have h1:=hlt k0;clear hlt hN;refine eI (i+1) (eI ([some 0,some 1]) (aI ?_ (aI ?_ (aB (aI (aG (aA tT)) (by rfl))))))
  ·refine⟨h1,λj hj=>?_⟩;by_cases h:j<i
   ·exact hm j h
   ·rw[show j=i by omega];exact⟨aQ k1,aQ k3,aQ k5,aQ k7⟩
  ·show st.length-(i+1)<st.length-i;omega
 ·exact Asm (Cz.1 k8) hx
 ·rfl
 ·subst k10;exact hN k0 (aM (B5 k11))
 all_goals
  have c:Cat k9.1 k12.1 k12.2.1/\k12.2.2.1=true/\∀j,(k9.1.getD j []).length<=200:=by
   subst k10 k13;have he:(B7 (st,ps)).2=0:=aM (B5 k11);obtain⟨n1,n2,n3,n4,n5⟩:=hN k0 he;exact⟨(again n1 n2 n3 l m n4 n5).ct,rfl,Amr he⟩
  obtain⟨c,cb,cm⟩:=c
 ·exfalso;rw[cb,c.1,c.2.1]at k18;simp at k18
 have l1:=c.1;have l2:=c.2.1;clear k0 k10 k11 k13 k14 k15 k16 k17 k18 hN hlt hm;refine ex4 _ (λj:Nat=>⟨[.any,.any,.any,.any,.any,.any,.any,.any,.any,.any,.any,.sl (.sl (.int .i64)) k9.1,.any,.sl (.sl (.int .i64)) k12.1,.sl (.sl (.int .i64)) k12.2.1,.any,.any,.any,.any,.any,.any,.any,.any,.any,.any,.any,.any,.any,.any,.any,.any,.any,.any,.any,.any,.any,.any,.any,.any,.any,.any,.any,.any,.any,.any,.any,.any,.any,.any,.any,.any,.any,.any,.any,.any,.any,.any,.any,.any,.any,.any,.any,.any,.any,.any,.any,.any,.any,.any,.any,.any,.any,.any,.any,.sl (.sl (.int .i64)) k9.1,.int .i64 (↑k9.1.length:Int),.int .i64 (j:Int)]++nA 20,[.cells [.sl tSt st,.sl A6 ps],.rows tIs [l,m]],2⟩) (λj=>j<=k9.1.length) (λj=>k9.1.length-j) (aI (eI (0) (eI ([some 0,some 1]) (aI ?_ (aB (aI (aG (aA tT)) (by rfl)))))) ?_)
 ·exact aV _
 rintro j hj;replace hj:j<=k9.1.length:=hj;have hlj:decide ((j:Int)<(k9.1.length:Int))=true->j<k9.1.length:=λh=>by have:=aM h;omega
 have hf:[k12.1.getD (j:Int).toNat (Ab tIs),k12.2.1.getD (j:Int).toNat (Ab tIs)].flatten=k9.1.getD (j:Int).toNat (Ab tIs):=by
  rw[bH];show(k12.1.getD j [])++((k12.2.1.getD j [])++[])=k9.1.getD j [];rw[cC];exact(c.2.2 j).symm
 refine(aI (λq0=>(aF (aO (aO (aI ?_ (aO (aI tT (aI (λq1=>(Aa rfl ?_)) (λq1=>(aO ?_)))))))))) (λq0=>(aI tT (Aa rfl ?_))))
 ·show[k12.1.getD (j:Int).toNat (Ab tIs),k12.2.1.getD (j:Int).toNat (Ab tIs)].flatten.length<=1000;rw[hf,bH];exact cP (cm j) (by decide)
 ·exfalso;have q1:(!decide ([k12.1.getD (j:Int).toNat (Ab tIs),k12.2.1.getD (j:Int).toNat (Ab tIs)].flatten=k9.1.getD (j:Int).toNat (Ab tIs)))=true:=q1;rw[hf,aX rfl]at q1;cases q1
 ·have h1:=hlj q0;clear q0 q1 hlj hf;refine eI (j+1) (eI ([some 0,some 1]) (aI ?_ (aI ?_ (aB (aI (aG (aA tT)) (by rfl))))))
  ·exact h1
  ·show k9.1.length-(j+1)<k9.1.length-j;omega
 ·rfl
end Go.Proofs.YtpabcdbaffjcdaaGreat
