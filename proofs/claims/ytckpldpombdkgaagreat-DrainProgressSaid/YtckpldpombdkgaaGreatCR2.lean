/- Pipelines. -/
import Derived.Test.YtckpldpombdkgaaGreatCY
import Derived.Test.YtckpldpombdkgaaGreatCH
import Derived.Test.YtckpldpombdkgaaGreatCR1
set_option linter.unusedSimpArgs false
set_option linter.unusedVariables false
set_option maxRecDepth 100000
namespace Go.Proofs.YtckpldpombdkgaaGreat
open Go.Sx
def rep4(s:StT):Bool:=bif decide (s.1=5)then decide (4<s.2.1)else false
def smSum(l:List StT):Int:=l.foldl (λn s=>n+((s.2.2.2.length:Int)+1)) 0
def smallG(x:PlT):Bool:=bif x.1.any rep4 then false else(bif decide (smSum x.1<=50)then decide ((x.1.length:Int)<=12)else false)
theorem cxhG_good:Ah Tryz.prog ⟨O7,[]⟩:=λ_ _ _ h=>by simp[Gp]at h
def cSmall:Ctr:=fnC [dPl] rB (λy=>It y.1=0) (λy=>(smallG y.1,()))
set_option maxHeartbeats 4000000 in
theorem gSmall:GoodC Tryz.prog 52 cSmall:=by
 refine Ap cxhG_good 3 _ _ _ _ ⟨_,Tryz.func52,rfl,rfl⟩ λ(⟨⟨st,ps⟩,_⟩:PlT×Unit) hz=>?_
 have w:=Kz.1 (show It (st,ps)=0 from hz);have n16:st.length<=16:=w.n16;have hit:∀i<st.length,(st.getD i zStg).2.2.2.length<=200:=λi hi=>(O1 (w.st i hi)).1
 refine(aF (λh0=>?_));refine ex4 _ (λp:Nat×Int=>⟨[.any,.ptr 0 0,.any,.int .i64 p.2,.any,.any,.ptr 0 0,.sl tSt st,.int .i64 (↑st.length:Int),.int .i64 (p.1:Int)]++nA 26,[.cells [.sl tSt st,.sl A3 ps]],1⟩) (λp=>p.1<=st.length/\p.2=smSum (st.take p.1)/\(st.take p.1).any rep4=false/\0<=p.2/\p.2<=201*(p.1:Int)) (λp=>st.length-p.1) (aI (eI ((0,0)) (eI ([some 0]) (aI ?_ (aB (aI (aI (aA (by rfl)) tT) (by rfl)))))) ?_)
 ·exact⟨Nat.zero_le _,rfl,rfl,Int.le_refl 0,Int.le_refl 0⟩
 rintro⟨i,z⟩ ⟨hi,hz1,hz2,hz3,hz4⟩;replace hi:i<=st.length:=hi;replace hz1:z=smSum (st.take i):=hz1;replace hz2:(st.take i).any rep4=false:=hz2;replace hz3:0<=z:=hz3;replace hz4:z<=201*(i:Int):=hz4;have hlt:decide ((i:Int)<(st.length:Int))=true->i<st.length/\((st.getD (i:Int).toNat (Ab tSt)).2.2.2.length<=200)/\smSum (st.take (i+1))=z+(((st.getD (i:Int).toNat (Ab tSt)).2.2.2.length:Int)+1):=λh=>by
  have h1:i<st.length:=by have:=of_decide_eq_true h;omega
  refine⟨h1,hit i h1, ?_⟩;unfold smSum at hz1 ⊢;rw[List.take_succ_eq_append_getElem h1,List.foldl_append,<-hz1,Int.toNat_natCast,Bt h1];rfl
 refine(aI (λk0=>(aO (λk1=>(aO (aO (aI (λk2=>(Aa rfl ?_)) (λk2=>(aO ?_)))))))) (λk0=>(λk3=>(Aa rfl ?_))))
 ·show(smallG (st,ps),())=_;unfold smallG;rw[Aka (d:=Ab tSt) (hlt k0).1 (show rep4 (st.getD (i:Int).toNat (Ab tSt))=true from k2)];rfl
 ·obtain⟨h1,h2,h3⟩:=hlt k0;have h4:=Akb (d:=Ab tSt) h1 hz2 (show rep4 (st.getD (i:Int).toNat (Ab tSt))=false from k2);clear k0 k1 k2 hlt;refine eI ((i+1,z+(((st.getD (i:Int).toNat (Ab tSt)).2.2.2.length:Int)+1))) (eI ([some 0]) (aI ?_ (aI ?_ (aB (aI (aI (aA (by rfl)) tT) (by rfl))))))
  ·refine⟨h1,h3.symm,h4, ?_, ?_⟩
   ·show 0<=z+(((st.getD (i:Int).toNat (Ab tSt)).2.2.2.length:Int)+1);omega
   ·show z+(((st.getD (i:Int).toNat (Ab tSt)).2.2.2.length:Int)+1)<=201*((i+1:Nat):Int);omega
  ·show st.length-(i+1)<st.length-i;omega
 ·have h1:¬(i:Int)<(st.length:Int):=of_decide_eq_false k0;rw[List.take_of_length_le (by omega)]at hz1 hz2;show(smallG (st,ps),())=_;unfold smallG;rw[hz2,<-hz1];rfl
theorem small_12{x:PlT}(h:smallG x=true):x.1.length<=12:=by
 unfold smallG at h;cases h1:x.1.any rep4
 ·rw[h1]at h;by_cases h2:smSum x.1<=50
  ·rw[decide_eq_true h2]at h;have:=of_decide_eq_true (show decide ((x.1.length:Int)<=12)=true from h);omega
  ·rw[decide_eq_false h2]at h;cases h
 ·rw[h1]at h;cases h
theorem rc_t{g sm:Bool}{p q:Prop}[Decidable p][Decidable q](h:(bif (bif (bif g then true else !decide p)then true else !sm)then true else decide q)=true):g=true\/¬p\/sm=false\/q:=by
 cases g
 ·by_cases hp:p
  ·cases sm
   ·exact .inr (.inr (.inl rfl))
   ·rw[decide_eq_true hp]at h;exact .inr (.inr (.inr (of_decide_eq_true h)))
  ·exact .inr (.inl hp)
 ·exact .inl rfl
theorem rc_f{g sm:Bool}{p q:Prop}[Decidable p][Decidable q](h:(bif (bif (bif g then true else !decide p)then true else !sm)then true else decide q)=false):¬(g=true\/¬p\/sm=false\/q):=by
 rintro(rfl|hp|rfl|hq)
 ·cases h
 ·rw[decide_eq_false hp]at h;cases g <;> cases h
 ·cases g <;> cases hd:decide p <;> rw[hd]at h <;> cases h
 ·rw[decide_eq_true hq]at h;cases g <;> cases hd:decide p <;> rw[hd]at h <;> cases sm <;> cases h
def reachG(x:PlT)(l:List Int)(m:Int):FsT×List (List Int)×Bool :=
 if grP x=true\/It x≠0\/smallG x=false\/60<(l.length:Int)then(zFs,[],false)
 else((Sg x (Ag8 x).1 l m).1,(Vw x (Sg x (Ag8 x).1 l m).1).1,bif (bif decide ((Ag8 x).2=0)then decide ((Sg x (Ag8 x).1 l m).2.2=0)else false)then decide ((Vw x (Sg x (Ag8 x).1 l m).1).2=0)else false)
def tysR:List (TypeId×Ty):=(30,tFs)::(31,tIs)::O7
def cxhR:Ctx:=⟨tysR,[(37,([],cGrP)),(51,([],cPChk)),(52,([],cSmall)),(40,([],cPNew)),(17,([],cRun)),(27,([],cExp))]⟩
theorem cxhR_good:Ah Tryz.prog cxhR:=C7 (Ae Ap4 (Ae Aho (Ae gSmall (Ae An7 (Ae Aps (Ae Ap3 Ag))))))
def cReach:Ctr:=fnC [dPl,dIs,dI] [(true,tFs),(false,Xh),(false,.bool)] (λ_=>True) (λy=>((reachG y.1 y.2.1 y.2.2.1).1,(reachG y.1 y.2.1 y.2.2.1).2.1,(reachG y.1 y.2.1 y.2.2.1).2.2,()))
set_option maxHeartbeats 8000000 in
theorem gReach:GoodC Tryz.prog 21 cReach:=by
 refine Ap cxhR_good 3 _ _ _ _ ⟨_,Tryz.func21,rfl,rfl⟩ λ(⟨⟨st,ps⟩,l,m,_⟩:PlT×List Int×Int×Unit) _=>?_
 refine(aF (aI tT (aI (λh0=>tT) (aI (λh1=>(by intros;(try subst_vars);(try simp only[nB]at *);(try simp only[inK,big,lim,nL]at *);omega)) (λh2=>(aI (λh3=>(Aa rfl ?_)) (λh3=>(aI tT (λ(h4:(List (List Int×Int×Bool)×List (Int×Int×Int×Int×List Int×Bool)×List (List Int)×Bool)×Int×PUnit)=>(λh5=>(aI tT (λ(h6:(List (List Int×Int×Bool)×List (Int×Int×Int×Int×List Int×Bool)×List (List Int)×Bool) ×   List Int×Int×PUnit)=>(λh7=>(aI (λh8=>?_) (λ(h9:List (List Int)×Int×PUnit)=>(λh10=>(Aa rfl ?_)))))))))))))))))
 ·have e:reachG (st,ps) l m=(zFs,[],false):=if_pos (rc_t h3);show((reachG (st,ps) l m).1,(reachG (st,ps) l m).2.1,(reachG (st,ps) l m).2.2,())=_;rw[e]
 ·have hn:=rc_f h3;have hz:It (st,ps)=0:=Classical.byContradiction λh=>hn (.inr (.inl h))
  have hs:smallG (st,ps)=true:=by
   cases hb:smallG (st,ps)
   ·exact absurd (.inr (.inr (.inl hb))) hn
   ·rfl
  exact okO_of (Kz.1 hz) (small_12 hs)
 ·have e:reachG (st,ps) l m=_:=if_neg (rc_f h3);show((reachG (st,ps) l m).1,(reachG (st,ps) l m).2.1,(reachG (st,ps) l m).2.2,())=_;rw[e];subst h5 h7 h10;rfl
end Go.Proofs.YtckpldpombdkgaaGreat
