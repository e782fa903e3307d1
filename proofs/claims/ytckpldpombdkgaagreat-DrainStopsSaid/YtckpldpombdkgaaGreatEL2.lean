/- Pipelines. -/
import Derived.Test.YtckpldpombdkgaaGreatEH
import Derived.Test.YtckpldpombdkgaaGreatEL1
set_option linter.unusedSimpArgs false
set_option linter.unusedVariables false
set_option maxRecDepth 100000
namespace Go.Proofs.YtckpldpombdkgaaGreat
open Go.Sx
def Aiw(s:StT):Bool:=bif decide (s.1=5)then decide (4<s.2.1)else false
def Xf(l:List StT):Int:=l.foldl (λn s=>n+((s.2.2.2.length:Int)+1)) 0
def G2(x:PlT):Bool:=bif x.1.any Aiw then false else(bif decide (Xf x.1<=50)then decide ((x.1.length:Int)<=12)else false)
theorem Aix:Aj Tryz.prog ⟨Mm,[]⟩:=λ_ _ _ h=>by simp[Gg]at h
def cSmall:Ctr:=fnC [dPl] rB (λy=>Gf y.1=0) (λy=>(G2 y.1,()))
set_option maxHeartbeats 4000000 in
theorem Asi:GoodC Tryz.prog 52 cSmall:=by
 refine As Aix 3 _ _ _ _ ⟨_,Tryz.func52,rfl,rfl⟩ λ(⟨⟨st,ps⟩,_⟩:PlT×Unit) hz=>?_
 have w:=Ez.1 (show Gf (st,ps)=0 from hz);have n16:st.length<=16:=w.n16;have hit:∀i<st.length,(st.getD i zStg).2.2.2.length<=200:=λi hi=>(Ip (w.st i hi)).1
 refine(aF (λh0=>?_));refine ex4 _ (λp:Nat×Int=>⟨[.any,.ptr 0 0,.any,.int .i64 p.2,.any,.any,.ptr 0 0,.sl tSt st,.int .i64 (↑st.length:Int),.int .i64 (p.1:Int)]++nA 26,[.cells [.sl tSt st,.sl A7 ps]],1⟩) (λp=>p.1<=st.length/\p.2=Xf (st.take p.1)/\(st.take p.1).any Aiw=false/\0<=p.2/\p.2<=201*(p.1:Int)) (λp=>st.length-p.1) (aI (eI ((0,0)) (eI ([some 0]) (aI ?_ (aB (aI (aG tT) (by rfl)))))) ?_)
 ·exact⟨aV _,rfl,rfl,cJ 0,cJ 0⟩
 rintro⟨i,z⟩ ⟨hi,hz1,hz2,hz3,hz4⟩;replace hi:i<=st.length:=hi;replace hz1:z=Xf (st.take i):=hz1;replace hz2:(st.take i).any Aiw=false:=hz2;replace hz3:0<=z:=hz3;replace hz4:z<=201*(i:Int):=hz4;have hlt:decide ((i:Int)<(st.length:Int))=true->i<st.length/\((st.getD (i:Int).toNat (Ab tSt)).2.2.2.length<=200)/\Xf (st.take (i+1))=z+(((st.getD (i:Int).toNat (Ab tSt)).2.2.2.length:Int)+1):=λh=>by
  have h1:i<st.length:=by have:=aM h;omega
  refine⟨h1,hit i h1, ?_⟩;unfold Xf at hz1 ⊢;rw[bS h1,dK,<-hz1,bE,A1 h1];rfl
 refine(aI (λk0=>(aO (λk1=>(aO (aO (aI (λk2=>(Aa rfl ?_)) (λk2=>(aO ?_)))))))) (λk0=>(λk3=>(Aa rfl ?_))))
 ·show(G2 (st,ps),())=_;unfold G2;rw[Atw (d:=Ab tSt) (hlt k0).1 (show Aiw (st.getD (i:Int).toNat (Ab tSt))=true from k2)];rfl
 ·obtain⟨h1,h2,h3⟩:=hlt k0;have h4:=Atx (d:=Ab tSt) h1 hz2 (show Aiw (st.getD (i:Int).toNat (Ab tSt))=false from k2);clear k0 k1 k2 hlt;refine eI ((i+1,z+(((st.getD (i:Int).toNat (Ab tSt)).2.2.2.length:Int)+1))) (eI ([some 0]) (aI ?_ (aI ?_ (aB (aI (aG tT) (by rfl))))))
  ·refine⟨h1,h3.symm,h4, ?_, ?_⟩
   ·show 0<=z+(((st.getD (i:Int).toNat (Ab tSt)).2.2.2.length:Int)+1);omega
   ·show z+(((st.getD (i:Int).toNat (Ab tSt)).2.2.2.length:Int)+1)<=201*((i+1:Nat):Int);omega
  ·show st.length-(i+1)<st.length-i;omega
 ·have h1:¬(i:Int)<(st.length:Int):=aP k0;rw[bL (by omega)]at hz1 hz2;show(G2 (st,ps),())=_;unfold G2;rw[hz2,<-hz1];rfl
theorem Vf{x:PlT}(h:G2 x=true):x.1.length<=12:=by
 unfold G2 at h;cases h1:x.1.any Aiw
 ·rw[h1]at h;by_cases h2:Xf x.1<=50
  ·rw[aW h2]at h;have:=aM (show decide ((x.1.length:Int)<=12)=true from h);omega
  ·rw[aZ h2]at h;cases h
 ·rw[h1]at h;cases h
theorem Avs{g sm:Bool}{p q:Prop}[Decidable p][Decidable q](h:(bif (bif (bif g then true else !decide p)then true else !sm)then true else decide q)=true):g=true\/¬p\/sm=false\/q:=by
 cases g
 ·by_cases hp:p
  ·cases sm
   ·exact .inr (.inr (.inl rfl))
   ·rw[aW hp]at h;exact .inr (.inr (.inr (aM h)))
  ·exact .inr (.inl hp)
 ·exact .inl rfl
theorem Aud{g sm:Bool}{p q:Prop}[Decidable p][Decidable q](h:(bif (bif (bif g then true else !decide p)then true else !sm)then true else decide q)=false):¬(g=true\/¬p\/sm=false\/q):=by
 rintro(rfl|hp|rfl|hq)
 ·cases h
 ·rw[aZ hp]at h;cases g<;>cases h
 ·cases g<;>cases hd:decide p<;>rw[hd]at h<;>cases h
 ·rw[aW hq]at h;cases g<;>cases hd:decide p<;>rw[hd]at h<;>cases sm<;>cases h
def Af(x:PlT)(l:List Int)(m:Int):FsT×List (List Int)×Bool:=
 if grP x=true\/Gf x≠0\/G2 x=false\/60<(l.length:Int)then(zFs,[],false)
 else((Bm x (F8 x).1 l m).1,(G3 x (Bm x (F8 x).1 l m).1).1,bif (bif decide ((F8 x).2=0)then decide ((Bm x (F8 x).1 l m).2.2=0)else false)then decide ((G3 x (Bm x (F8 x).1 l m).1).2=0)else false)
def Avt:List (TypeId×Ty):=(30,tFs)::(31,tIs)::Mm
def cxhR:Ctx:=⟨Avt,[(37,([],cGrP)),(51,([],cPChk)),(52,([],cSmall)),(40,([],cPNew)),(17,([],cRun)),(27,([],cExp))]⟩
theorem Aiy:Aj Tryz.prog cxhR:=C0 (Ad Avq (Ad Af5 (Ad Asi (Ad Apx (Ad Amj (Ad Ar1 Ah))))))
def cReach:Ctr:=fnC [dPl,dIs,dI] [(true,tFs),(false,X7),(false,.bool)] (λ_=>True) (λy=>((Af y.1 y.2.1 y.2.2.1).1,(Af y.1 y.2.1 y.2.2.1).2.1,(Af y.1 y.2.1 y.2.2.1).2.2,()))
set_option maxHeartbeats 8000000 in
theorem Za:GoodC Tryz.prog 21 cReach:=by
 refine As Aiy 3 _ _ _ _ ⟨_,Tryz.func21,rfl,rfl⟩ λ(⟨⟨st,ps⟩,l,m,_⟩:PlT×List Int×Int×Unit) _=>?_
 refine(aF (aI tT (aI (λh0=>tT) (aI (λh1=>(by intros;(try subst_vars);(try simp only[nB]at *);(try simp only[inK,big,lim,nL]at *);omega)) (λh2=>(aI (λh3=>(Aa rfl ?_)) (λh3=>(aI tT (λ(h4:(List (List Int×Int×Bool)×List (Int×Int×Int×Int×List Int×Bool)×List (List Int)×Bool)×Int×PUnit)=>(λh5=>(aI tT (λ(h6:(List (List Int×Int×Bool)×List (Int×Int×Int×Int×List Int×Bool)×List (List Int)×Bool) ×   List Int×Int×PUnit)=>(λh7=>(aI (λh8=>?_) (λ(h9:List (List Int)×Int×PUnit)=>(λh10=>(Aa rfl ?_)))))))))))))))))
 ·have e:Af (st,ps) l m=(zFs,[],false):=aN (Avs h3);show((Af (st,ps) l m).1,(Af (st,ps) l m).2.1,(Af (st,ps) l m).2.2,())=_;rw[e]
 ·have hn:=Aud h3;have hz:Gf (st,ps)=0:=Classical.byContradiction λh=>hn (.inr (.inl h))
  have hs:G2 (st,ps)=true:=by
   cases hb:G2 (st,ps)
   ·exact aS (.inr (.inr (.inl hb))) hn
   ·rfl
  exact Amy (Ez.1 hz) (Vf hs)
 ·have e:Af (st,ps) l m=_:=aL (Aud h3);show((Af (st,ps) l m).1,(Af (st,ps) l m).2.1,(Af (st,ps) l m).2.2,())=_;rw[e];subst h5 h7 h10;rfl
end Go.Proofs.YtckpldpombdkgaaGreat
