/- Pipelines. -/
import Derived.Test.YtpabcdbaffjcdaaGreatJQ3
import Derived.Test.YtpabcdbaffjcdaaGreatJZ7
set_option linter.unusedSimpArgs false
set_option linter.unusedVariables false
set_option maxRecDepth 100000
namespace Go.Proofs.YtpabcdbaffjcdaaGreat
open Go.Sx
def grS(y:StT):Bool:=bif Aez y then true else(bif decide (20<(y.2.2.2.length:Int))then decide ((y.2.2.2.length:Int)<=200)else false)
def grP(x:PlT):Bool:=bif (bif decide (18<(x.1.length:Int))then true else decide (36<(x.2.length:Int)))then true else x.1.any grS
def cxhA:Ctx:=⟨Al3,[(24,([],c29))]⟩
theorem Ail:Ai Tryz.prog cxhA:=Dl (Ae Aqp Ah)
theorem Ar6{α:Type}{p:α->Bool}{d:α}{l:List α}{i:Nat}(h:i<l.length)(h1:p (l.getD i d)=true):l.any p=true:=by
 rw[A1 h]at h1;exact fH.2 ⟨_,cJ h,h1⟩
theorem Ar7{α:Type}{p:α->Bool}{d:α}{l:List α}{i:Nat}(h:i<l.length)(h0:(l.take i).any p=false)(h1:p (l.getD i d)=false):(l.take (i+1)).any p=false:=by
 rw[bS h,eR,h0];rw[A1 h]at h1;simp[h1]
def cGrP:Ctr:=fnC [dPl] rB (λ_=>True) (λy=>(grP y.1,()))
theorem Avq:GoodC Tryz.prog 10 cGrP:=by
 refine Au Ail 3 _ _ _ _ ⟨_,Tryz.func10,rfl,rfl⟩ λ(⟨⟨st,ps⟩,_⟩:PlT×Unit) _=>?_
 refine(aF (λh0=>(λh1=>(aI (λh2=>(Aa rfl ?_)) (λh2=>?_)))))
 ·show(grP (st,ps),())=_;unfold grP;rw[h2];rfl
 have hb:(bif decide (18<(st.length:Int))then true else decide (36<(ps.length:Int)))=false:=h2;have hG:grP (st,ps)=st.any grS:=by unfold grP;rw[hb];rfl
 clear h0 h1 h2 hb;refine ex4 _ (λi:Nat=>⟨[.any,.ptr 0 0,.any,.int .i64 (i:Int)]++nA 43,[.cells [.sl tSt st,.sl A6 ps]],1⟩) (λi=>i<=st.length/\(st.take i).any grS=false) (λi=>st.length-i) (aI (eI (0) (eI ([some 0]) (aI ?_ (aB (aI (aG tT) (by rfl)))))) ?_)
 ·exact⟨aV _,by simp⟩
 rintro i ⟨hi,ha⟩;replace hi:i<=st.length:=hi;replace ha:(st.take i).any grS=false:=ha;have hlt:decide ((i:Int)<(st.length:Int))=true->i<st.length:=λh=>by have:=aM h;omega
 refine(λk0=>(aI (λk1=>(aO (aI tT (aI (λk2=>(by intros;(try subst_vars);(try simp only[nB]at *);(try simp only[inK,big,lim,nL]at *);omega)) (λk3=>(aI (λk4=>(by intros;(try subst_vars);(try simp only[nB]at *);(try simp only[inK,big,lim,nL]at *);omega)) (λk5=>(aI (λk6=>(Aa rfl ?_)) (λk6=>(aO ?_)))))))))) (λk1=>(Aa rfl ?_))))
 ·simp only[eta]at k6;show(grP (st,ps),())=_;rw[hG,Ar6 (d:=Ab tSt) (hlt k1) (show grS (st.getD (i:Int).toNat (Ab tSt))=true from k6)]
 ·simp only[eta]at k6;have h1:=hlt k1;have h2:=Ar7 (d:=Ab tSt) h1 ha (show grS (st.getD (i:Int).toNat (Ab tSt))=false from k6);clear k0 k1 k3 k5 k6;refine eI (i+1) (eI ([some 0]) (aI ?_ (aI ?_ (aB (aI (aG tT) (by rfl))))))
  ·exact⟨h1,h2⟩
  ·show st.length-(i+1)<st.length-i;omega
 ·have h1:¬(i:Int)<(st.length:Int):=aQ k1;show(grP (st,ps),())=_;rw[hG];rw[bL (by omega)]at ha;rw[ha]
def cEq:Ctr:=fnC [dIs,dIs] rB (λ_=>True) (λy=>(decide (y.1=y.2.1),()))
theorem gEq:GoodC Tryz.prog 8 cEq:=by
 refine Au Ah 3 _ _ _ _ ⟨_,Tryz.func8,rfl,rfl⟩ λ(⟨xs,ys,_⟩:List Int×List Int×Unit) _=>?_
 refine(aF (λh0=>(λh1=>(aI (λh2=>(Aa rfl ?_)) (λh2=>(λh3=>?_))))))
 ·have hl:xs≠ys:=λe=>by
   have h:(!decide ((xs.length:Int)=(ys.length:Int)))=true:=h2;rw[e]at h;simp at h
  show(decide (xs=ys),())=(false,());rw[bE hl]
 have hl:xs.length=ys.length:=by
  have h:(!decide ((xs.length:Int)=(ys.length:Int)))=false:=h2;have:(xs.length:Int)=ys.length:=by simpa using h
  omega
 clear h0 h1 h2;refine ex4 _ (λi:Nat=>⟨[.sl (.int .i64) xs,.sl (.int .i64) ys,.any,.any,.any,.any,.any,.any,.any,.any,.any,.sl (.int .i64) xs,.int .i64 (↑xs.length:Int),.int .i64 (i:Int)]++nA 12,[],0⟩) (λi=>i<=xs.length/\xs.take i=ys.take i) (λi=>xs.length-i) (aI (eI (0) (eI ([]) (aI ?_ (aB (aI tT (by rfl)))))) ?_)
 ·exact⟨aV _,by simp⟩
 rintro i ⟨hi,ht⟩;replace hi:i<=xs.length:=hi;replace ht:xs.take i=ys.take i:=ht;refine(aI (λk0=>(aF (aO (aO (aI (λk1=>(Aa rfl ?_)) (λk1=>(aO ?_))))))) (λk0=>(Aa rfl ?_)))
 ·have hk:¬xs.getD (i:Int).toNat (Ab tI)=ys.getD (i:Int).toNat (Ab tI):=by have h:(!decide (xs.getD (i:Int).toNat (Ab tI)=ys.getD (i:Int).toNat (Ab tI)))=true:=k1;simpa using h
  have hne:xs≠ys:=λe=>hk (by rw[e])
  show(decide (xs=ys),())=(false,());rw[bE hne]
 ·have hi':i<xs.length:=by have:=aM k0;omega
  have hk:xs.getD i 0=ys.getD i 0:=by have h:(!decide (xs.getD (i:Int).toNat (Ab tI)=ys.getD (i:Int).toNat (Ab tI)))=false:=k1;exact aM (B5 h)
  clear k0 k1;refine eI (i+1) (eI ([]) (aI ?_ (aI ?_ (aB (aI tT (by rfl))))))
  ·exact⟨hi',Vc hi' (hl ▸ hi') ht hk⟩
  ·show xs.length-(i+1)<xs.length-i;omega
 ·have hi':¬(i:Int)<(xs.length:Int):=aQ k0;have he:xs=ys:=by
   rw[bL (by omega),bL (by omega)]at ht;exact ht
  show(decide (xs=ys),())=(true,());rw[aX he]
def Je(ll:List (List Int))(i:Nat):List Int:=(ll.take i).flatten
def Atz:List (TypeId×Ty):=(26,tIs)::Dk
theorem Aim:Ai Tryz.prog ⟨Atz,[]⟩:=λ_ _ _ h=>by simp[G3]at h
theorem Gi{ll:List (List Int)}{i:Nat}(h:i<ll.length):Je ll (i+1)=Je ll i++ll.getD i []:=by
 rw[Je,List.take_add_one,List.flatten_append,aZ,aR h];simp[Je]
theorem Kr(ll:List (List Int))(i:Nat):(Je ll i).length<=ll.flatten.length:=by
 have h:ll.flatten.length=(Je ll i).length+((ll.drop i).flatten).length:=by
  rw[Je,<-bD,<-List.flatten_append,gR]
 omega
theorem Abo{ll:List (List Int)}{i:Nat}(h:¬i<ll.length):Je ll i=ll.flatten:=by
 rw[Je,bL (by omega)]
def cCat:Ctr:=fnC [.dat false (.sl tIs)] [(false,tIs)] (λy=>y.1.flatten.length<=1000) (λy=>(y.1.flatten,()))
theorem Avr:GoodC Tryz.prog 9 cCat:=by
 refine Au Aim 3 _ _ _ _ ⟨_,Tryz.func9,rfl,rfl⟩ λ(⟨ll,_⟩:List (List Int)×Unit) hlen=>?_
 replace hlen:ll.flatten.length<=1000:=hlen;refine(aF (λh0=>?_));refine ex4 _ (λp:Nat×Int=>⟨[.sl tIs ll,.any,.any,.int .i64 p.2,.any,.any,.any,.any,.any,.sl tIs ll,.int .i64 (↑ll.length:Int),.int .i64 (p.1:Int)]++nA 24,[],0⟩) (λp=>p.1<=ll.length/\p.2=((Je ll p.1).length:Int)) (λp=>ll.length-p.1) (aI (eI ((0,0)) (eI ([]) (aI ?_ (aB (aI tT (by rfl)))))) ?_)
 ·exact⟨aV _,rfl⟩
 rintro⟨i,z⟩ ⟨hi,hz⟩;simp only at hi hz;have hc:=Kr ll i;refine(aI (λk0=>(aO (λk1=>(aI ?_ (aI (λ(k2:decide (z+(↑(List.length (ll.getD (↑i:Int).toNat (Ab tIs))):Int)<(0:Int))=true)=>aT (aM k2) (by omega)) (λk2=>(aO ?_))))))) (λk0=>(aF (aI (λ(k3:decide (z<(0:Int))=true)=>aT (aM k3) (by omega)) (λk3=>(aO (aO (aI (λk4=>(aE (aO (aI (by omega) (λk5=>?_))))) (λk4=>(λk6=>?_))))))))))
 ·have hi':i<ll.length:=by simpa using k0
  have hn:=Gi hi';have hc2:=Kr ll (i+1);rw[hn,bD]at hc2;show -9223372036854775808<=z+((ll.getD i []).length:Int)/\z+((ll.getD i []).length:Int)<=9223372036854775807;omega
 ·have hi':i<ll.length:=by simpa using k0
  have hn:=Gi hi';have e:((Je ll (i+1)).length:Int)=((Je ll i).length:Int)+((ll.getD i []).length:Int):=by rw[hn,bD];rfl
  refine eI ((i+1,z+((ll.getD i []).length:Int))) (eI ([]) (aI ?_ (aI ?_ (aB (aI tT (by rfl))))))
  ·exact⟨hi',by rw[e,hz]⟩
  ·show ll.length-(i+1)<ll.length-i;omega
 ·have hi':¬i<ll.length:=by simpa using k0
  refine ex4 _ (λj:Nat=>⟨[.sl tIs ll,.any,.any,.any,.any,.any,(match j with|0=>.ownp 0 1 0 0|_+1=>.own 0),.any,.any,.any,.any,.any,.any,.any,.any,.any,.any,.any,.any,.any,.any,.any,.any,.any,.any,.sl tIs ll,.int .i64 (↑ll.length:Int),.int .i64 (j:Int),.any,.any,.any,.any,.any,.any,.any,.any],[.rows tI (match j with|0=>List.replicate (z-(0-0)).toNat 0|m+1=>Je ll (m+1))],1⟩) (λj=>j<=ll.length) (λj=>ll.length-j) (aI (eI (0) (eI ([some 0]) (aI ?_ (aB (aI (aA tT) (by rfl)))))) ?_)
  ·exact aV _
  rintro j hj;have hcj:=Kr ll j;have hcj2:=Kr ll (j+1);cases j with
  |zero=>
   refine(aI (λm0=>(aO (aI ?_ (aO ?_)))) (λm0=>(Aa rfl ?_)))
   ·have hj':0<ll.length:=by simpa using m0
    rw[Gi hj',bD]at hcj2;show(0+(ll.getD 0 []).length)*8<=lim;unfold lim;omega
   ·have hj':0<ll.length:=by simpa using m0
    refine eI 1 (eI [some 1] (aI ?_ (aI ?_ (aB (aI (aI ?_ tT) (by rfl))))))
    ·exact hj'
    ·show ll.length-1<ll.length-0;omega
    ·show Ob.rows tI (ll.getD 0 [])=Ob.rows tI (Je ll 1);rw[Gi hj'];rfl
   ·exfalso;have hj':¬0<ll.length:=by simpa using m0
    have e:ll=[]:=List.length_eq_zero_iff.1 (by omega);have hz0:z=0:=by rw[hz,e];simp[Je]
    have hk:0<z-(0-0):=by simpa using k4
    omega
  |succ j=>
   refine(aI (λm0=>(aO (aI ?_ (aO ?_)))) (λm0=>(Aa rfl ?_)))
   ·have hj':j+1<ll.length:=Int.ofNat_lt.1 (aM m0);rw[Gi hj',bD]at hcj2;show((Je ll (j+1)).length+(ll.getD (j+1) []).length)*8<=lim;unfold lim;omega
   ·have hj':j+1<ll.length:=Int.ofNat_lt.1 (aM m0);refine eI (j+1+1) (eI [some 1] (aI ?_ (aI ?_ (aB (aI (aI ?_ tT) (by rfl))))))
    ·exact hj'
    ·show ll.length-(j+1+1)<ll.length-(j+1);omega
    ·show Ob.rows tI (Je ll (j+1)++ll.getD (j+1) [])=Ob.rows tI (Je ll (j+1+1));rw[Gi hj']
   ·have hj':¬j+1<ll.length:=λhh=>aQ m0 (Int.ofNat_lt.2 hh)
    exact bI (λb=>(b,())) (Abo hj').symm
 ·have hi':¬i<ll.length:=by simpa using k0
  refine ex4 _ (λj:Nat=>⟨[.sl tIs ll,.any,.any,.any,.any,.any,.own 0,.any,.any,.any,.any,.any,.any,.any,.any,.any,.any,.any,.any,.any,.any,.any,.any,.any,.any,.sl tIs ll,.int .i64 (↑ll.length:Int),.int .i64 (j:Int),.any,.any,.any,.any,.any,.any,.any,.any],[.rows tI (Je ll j)],1⟩) (λj=>j<=ll.length) (λj=>ll.length-j) (aI (eI (0) (eI ([none]) (aI ?_ (aB (aI (aA tT) (by rfl)))))) ?_)
  ·exact aV _
  rintro j hj;have hcj:=Kr ll j;have hcj2:=Kr ll (j+1);refine(aI (λm0=>(aO (aI ?_ (aO ?_)))) (λm0=>(Aa rfl ?_)))
  ·have hj':j<ll.length:=by simpa using m0
   rw[Gi hj',bD]at hcj2;show((Je ll j).length+(ll.getD j []).length)*8<=lim;unfold lim;omega
  ·have hj':j<ll.length:=by simpa using m0
   refine eI (j+1) (eI ([some 1]) (aI ?_ (aI ?_ (aB (aI (aI ?_ tT) (by rfl))))))
   ·exact hj'
   ·show ll.length-(j+1)<ll.length-j;omega
   ·show Ob.rows tI (Je ll j++ll.getD j [])=Ob.rows tI (Je ll (j+1));rw[Gi hj']
  ·have hj':¬j<ll.length:=by simpa using m0
   exact bI (λb=>(b,())) (Abo hj').symm
end Go.Proofs.YtpabcdbaffjcdaaGreat
