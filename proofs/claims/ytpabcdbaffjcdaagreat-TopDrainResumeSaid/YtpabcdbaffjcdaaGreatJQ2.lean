/- Pipelines. -/
import Derived.Test.YtpabcdbaffjcdaaGreatJQ1
import Derived.Test.YtpabcdbaffjcdaaGreatJZ9
import Derived.Test.YtpabcdbaffjcdaaGreatJB6
set_option linter.unusedSimpArgs false
set_option linter.unusedVariables false
set_option maxRecDepth 100000
namespace Go.Proofs.YtpabcdbaffjcdaaGreat
open Go.Sx
@[reducible] def tMv:Ty:=.pair tSS (.pair Va (.pair .bool (.pair .bool (.pair tI (.pair tI tI)))))
@[reducible] def dMv:AK:=.dat true tMv
@[reducible] def rMv:List (Bool×Ty):=[(true,tMv),(false,.bool)]
def Ah8:List (TypeId×Ty):=(165,tMv)::Qt
theorem Aut{b:Bool}{p:Prop}[Decidable p](h:(bif b then true else decide p)=true):b=true\/p:=by
 cases b
 ·exact .inr (aM h)
 ·exact .inl rfl
theorem Auu{b:Bool}{p:Prop}[Decidable p](h:(bif b then true else decide p)=false):¬(b=true\/p):=by
 cases b
 ·exactλh'=>h'.elim (λh=>by cases h) (aQ h)
 ·cases h
def okI(x:PlT)(s:FsT)(i:Int):Prop:=WF x/\VS x s/\0<=i/\i<x.1.length
def cxqH:Ctx:=⟨Ah8,[(147,([],c31)),(169,([],c30)),(168,([],c32)),(167,([],cFEnd)),(15,([],cIn))]⟩
theorem Ah9:Ai Tryz.prog cxqH:=Dl (Ae Ug (Ae Ari (Ae Arj (Ae Apt (Ae gIn Ah)))))
def cNext:Ctr:=fnC [dPl,dFs,dI] rMv (λy=>okI y.1 y.2.1 y.2.2.1) (λy=>((A3 y.1 y.2.1 y.2.2.1).1,(A3 y.1 y.2.1 y.2.2.1).2,()))
section
variable {x:PlT}{s:FsT}{i:Int}
theorem Auv(h:(Ay s i).2.2=true):A3 x s i=(zMv,false):=aP h
theorem Auw(h:(Ay s i).2.2=false)(h1:(sg x i).1=1)(h2:s.2.2.2=true\/(Ay s i).2.1=(sg x i).2.2.2.length):A3 x s i=(Me (sg x i) (Ay s i) (-1),true):=
 (aL (λh'=>aY (h.symm.trans h'))).trans ((aP h1).trans (aP h2))
theorem Aux(h:(Ay s i).2.2=false)(h1:(sg x i).1=1)(h2:¬(s.2.2.2=true\/(Ay s i).2.1=(sg x i).2.2.2.length)):A3 x s i=(Gz (sg x i) (Ay s i) false (-1) 0,true):=
 (aL (λh'=>aY (h.symm.trans h'))).trans ((aP h1).trans (aL h2))
variable {k:Int}(h:(Ay s i).2.2=false)(h1:(sg x i).1≠1)(hk:(Am (sg x i) (Ay s i)).1=[k])
include h h1 hk
theorem Art:A3 x s i=if 0<(Co s (pIn x i k)).2.2.2.2.1.length then(Gz (sg x i) (Ay s i) true k ((Co s (pIn x i k)).2.2.2.2.1.getD 0 0),true)
 else if Cr (Co s (pIn x i k))=true then(Me (sg x i) (Ay s i) k,true)else(zMv,false):=by
 unfold A3;rw[aL (λh'=>aY (h.symm.trans h')),aL h1,hk];rfl
theorem Auy(h2:0<(Co s (pIn x i k)).2.2.2.2.1.length):A3 x s i=(Gz (sg x i) (Ay s i) true k ((Co s (pIn x i k)).2.2.2.2.1.getD 0 0),true):=(Art h h1 hk).trans (aP h2)
theorem Auz(h2:¬0<(Co s (pIn x i k)).2.2.2.2.1.length)(h3:Cr (Co s (pIn x i k))=true):A3 x s i=(Me (sg x i) (Ay s i) k,true):=(Art h h1 hk).trans ((aL h2).trans (aP h3))
theorem Au0(h2:¬0<(Co s (pIn x i k)).2.2.2.2.1.length)(h3:¬Cr (Co s (pIn x i k))=true):A3 x s i=(zMv,false):=(Art h h1 hk).trans ((aL h2).trans (aL h3))
end
set_option maxHeartbeats 8000000 in
theorem Ati:GoodC Tryz.prog 150 cNext:=by
 refine Au Ah9 3 _ _ _ _ ⟨_,Tryz.func150,rfl,rfl⟩ λ(⟨⟨st,ps⟩,⟨ss,cs,os,dr⟩,i,_⟩:PlT×FsT×Int×Unit) hk=>?_
 replace hk:okI (st,ps) (ss,cs,os,dr) i:=hk;obtain⟨w,v,i0,iN⟩:=hk;replace iN:i<st.length:=iN;have hls:ss.length=st.length:=v.ls;have hlc:cs.length=ps.length:=v.lc;have hnd:(Am (st.getD i.toNat (Ab tSt)) (ss.getD i.toNat (Ab tSS))).2=0:=by have:=v.nd i.toNat (show i.toNat<st.length by omega);rwa [show((i.toNat:Nat):Int)=i by omega]at this
 have hin:∀k,0<=k->k<stIn (st.getD i.toNat (Ab tSt))->0<=pIn (st,ps) i k/\pIn (st,ps) i k<cs.length:=λk a b=>by
  obtain⟨q,q1,q2,_⟩:=w.ins i0 iN a b;rw[q2];have q1:q<ps.length:=q1;omega
 have T:∀{m:MvT×Bool},A3 (st,ps) (ss,cs,os,dr) i=m->((A3 (st,ps) (ss,cs,os,dr) i).1,(A3 (st,ps) (ss,cs,os,dr) i).2,())=(m.1,m.2,()):=λh=>by rw[h]
 refine(aF (aF (aO (aO (aI (λh0=>(Aa rfl ?_)) (λh0=>(aI (λh1=>(λh2=>(aI (λh3=>(aI tT (λ(h4:(List Int×Int×Bool)×List (List Int)×Bool×Int×PUnit)=>(λh5=>(Aa rfl ?_))))) (λh3=>(aI tT (λ(h6:(List Int×Int×Bool)×List (List Int)×Int×PUnit)=>(λh7=>(Aa rfl ?_)))))))) (λh1=>(aI tT (λ(h8:List Int×Int×PUnit)=>(λh9=>(aI ?_ (aF (aI tT (aI ?_ (λh10=>(aI (λh11=>(aK (aO (aB (aO (aC (aB (aO (aB (aI (λh12=>nG h12) (λh12=>(aI tT (λ(h13:(List Int×Int×Bool)×List (List Int)×Int×PUnit)=>(λh14=>(Aa rfl ?_))))))))))))))) (λh11=>(aI tT (aI (λh15=>(aI (λh16=>(aI tT (λ(h17:(List Int×Int×Bool)×List (List Int)×Bool×Int×PUnit)=>(λh18=>(Aa rfl ?_))))) (λh16=>False.elim (aY (Eq.symm (Eq.trans (by kernel_rfl) h16)))))) (λh15=>(Aa rfl ?_))))))))))))))))))))))
 ·exact T (Auv h0)
 ·simp only[eta]at h5;subst h5;exact T (Auw (x:=(st,ps)) (s:=(ss,cs,os,dr)) h0 (aM h1) (Aut h3))
 ·simp only[eta]at h7;subst h7;exact T (Aux (x:=(st,ps)) (s:=(ss,cs,os,dr)) h0 (aM h1) (Auu h3))
 all_goals
  simp only[eta]at h9;have hk1:(st.getD i.toNat (Ab tSt)).1≠1:=aQ h1;obtain⟨k,k1,k2,k3⟩:=Pl hnd hk1 h0;have e8:h8.1=[k]:=by rw[h9];exact k1
 ·rw[e8];exact⟨cO 0,show(0:Int)<((1:Nat):Int) by decide⟩
 ·rw[e8];exact hin k k2 k3
 all_goals
  have eg:h8.1.getD (Int.toNat 0) (Ab (.int .i64))=k:=by rw[e8];rfl
 ·rw[eg]at h11 h14 ⊢;simp only[eta]at h14;subst h14;exact T (Auy (x:=(st,ps)) (s:=(ss,cs,os,dr)) h0 hk1 k1 (Int.ofNat_lt.1 (aM h11)))
 ·rw[eg]at h11 h15 h18 ⊢;simp only[eta]at h18;subst h18;exact T (Auz (x:=(st,ps)) (s:=(ss,cs,os,dr)) h0 hk1 k1 (λh=>aQ h11 (Int.ofNat_lt.2 h)) h15)
 ·rw[eg]at h11 h15;exact T (Au0 (x:=(st,ps)) (s:=(ss,cs,os,dr)) h0 hk1 k1 (λh=>aQ h11 (Int.ofNat_lt.2 h)) (λh=>aY (h15.symm.trans h)))
def cxqI:Ctx:=⟨Ah8,[(170,([],cFRoom)),(17,([],cOut))]⟩
theorem Aia:Ai Tryz.prog cxqI:=Dl (Ae Arp (Ae Aom Ah))
def cFits:Ctr:=fnC [dPl,dFs,dI,dMv] rB (λy=>okI y.1 y.2.1 y.2.2.1/\(y.2.2.2.1.2.1.length:Int)<=stOut (sg y.1 y.2.2.1)) (λy=>(Ea y.1 y.2.1 y.2.2.1 y.2.2.2.1.2.1,()))
set_option maxHeartbeats 8000000 in
theorem Atj:GoodC Tryz.prog 151 cFits:=by
 refine Au Aia 3 _ _ _ _ ⟨_,Tryz.func151,rfl,rfl⟩ λ(⟨⟨st,ps⟩,⟨ss,cs,os,dr⟩,i,⟨t,o,b1,b2,m1,m2,m3⟩,_⟩:PlT×FsT×Int×MvT×Unit) hk=>?_
 replace hk:okI (st,ps) (ss,cs,os,dr) i/\(o.length:Int)<=stOut (sg (st,ps) i):=hk;refine(aF (λh0=>?_));refine ex4 _ (λn:Nat=>⟨[.any,.any,.int .i64 i,.any,.ptr 0 0,.ptr 1 0,.any,.ptr 2 0,.any,.any,.any,.ptr 2 3,.sl (.sl (.int .i64)) o,.int .i64 (↑o.length:Int),.int .i64 (n:Int)]++nA 17,[.cells [.sl tSt st,.sl A6 ps],.cells [.sl tSS ss,.sl Dn cs,.sl (.sl (.int .i64)) os,.bool dr],.cells   [.sl (.int .i64) t.1,.int .i64 t.2.1,.bool t.2.2,.sl (.sl (.int .i64)) o,.bool b1,     .bool b2,.int .i64 m1,.int .i64 m2,.int .i64 m3]],3⟩) (λn=>n<=o.length/\(List.range n).any (λn=>decide (Jl (Co (ss,cs,os,dr) (pOut (st,ps) i n))<((o.getD n []).length:Int)))=false) (λn=>o.length-n) (aI (eI (0) (eI ([some 0,some 1,some 2]) (aI ?_ (aB (aI (aH (aG tT)) (by rfl)))))) ?_)
 ·exact⟨aV _,rfl⟩
 rintro n ⟨hn,hc⟩;have hlt:decide ((n:Int)<(o.length:Int))=true->n<o.length:=λh=>by have:=aM h;omega
 have hin:n<o.length->0<=pOut (st,ps) i n/\pOut (st,ps) i n<cs.length:=λh=>by
  obtain⟨k,k1,k2,_⟩:=hk.1.1.outs hk.1.2.2.1 hk.1.2.2.2 (eB n) (show(n:Int)<stOut (sg (st,ps) i) by have:=hk.2;omega);rw[k2];have k1:k<ps.length:=k1;have:cs.length=ps.length:=hk.1.2.1.lc;omega
 have hF:n<o.length->decide (Jl (Co (ss,cs,os,dr) (pOut (st,ps) i n))<((o.getD n []).length:Int))=true->Ea (st,ps) (ss,cs,os,dr) i o=false:=λh1 h2=>by
  unfold Ea;exact bI (λb=>!b) (Sl h1 h2)
 refine(aI (λk0=>(aO (aF (aI tT (aO (aI tT (λk1=>(aI (λk2=>(Aa rfl ?_)) (λk2=>(aO ?_)))))))))) (λk0=>(Aa rfl ?_)))
 ·exact bI (λb=>(b,())) (hF (hlt k0) k2)
 ·have hn1:=hlt k0;have hc1:(List.range (n+1)).any (λn=>decide (Jl (Co (ss,cs,os,dr) (pOut (st,ps) i n))<((o.getD n []).length:Int)))=false:=Sm hc k2;clear k0 k1 k2;refine eI (n+1) (eI ([some 0,some 1,some 2]) (aI ?_ (aI ?_ (aB (aI (aH (aG tT)) (by rfl))))))
  ·exact⟨hn1,hc1⟩
  ·show o.length-(n+1)<o.length-n;omega
 ·have hn1:n=o.length:=by
   have:¬(n:Int)<(o.length:Int):=aQ k0;omega
  unfold Ea;rw[<-hn1,hc];rfl
theorem Aop(a b c:Bool):(a&&(b||c))=(bif a then bif b then true else c else false):=by cases a<;>cases b<;>rfl
def cxqI2:Ctx:=⟨Ah8,[(150,([],cNext)),(151,([],cFits))]⟩
theorem Adv:Ai Tryz.prog cxqI2:=Dl (Ae Ati (Ae Atj Ah))
def cEnab:Ctr:=fnC [dPl,dFs,dI] rMv (λy=>okI y.1 y.2.1 y.2.2.1) (λy=>((Be y.1 y.2.1 y.2.2.1).1,(Be y.1 y.2.1 y.2.2.1).2,()))
set_option maxHeartbeats 8000000 in
theorem Apw:GoodC Tryz.prog 123 cEnab:=by
 refine Au Adv 3 _ _ _ _ ⟨_,Tryz.func123,rfl,rfl⟩ λ(⟨⟨st,ps⟩,⟨ss,cs,os,dr⟩,i,_⟩:PlT×FsT×Int×Unit) hk=>?_
 replace hk:okI (st,ps) (ss,cs,os,dr) i:=hk;refine(aF (aI (by omega) (λ(h0:((List Int×Int×Bool)×List (List Int)×Bool×Bool×Int×Int×Int)×Bool×PUnit)=>(λh1=>(aF (aI (λh2=>?_) (Aa rfl ?_)))))))
 ·refine⟨hk, ?_⟩;rw[h1]at h2 ⊢;have m:=Pn (x:=(st,ps)) (s:=(ss,cs,os,dr)) (i:=i) hk.2.1 hk.2.2.1 hk.2.2.2 h2.1 (aM (B5 h2.2));exact Int.le_of_eq m.len
 ·rw[h1];unfold Be;rw[Aop]
def cxqI3:Ctx:=⟨Ah8,[(78,([],cVal)),(123,([],cEnab))]⟩
theorem Adw:Ai Tryz.prog cxqI3:=Dl (Ae Ars (Ae Apw Ah))
def cEnabled:Ctr:=fnC [dPl,dFs] Ada (λ_=>True) (λy=>((Ak y.1 y.2.1).1,(Ak y.1 y.2.1).2,()))
set_option maxHeartbeats 8000000 in
theorem Al7:GoodC Tryz.prog 81 cEnabled:=by
 refine Au Adw 3 _ _ _ _ ⟨_,Tryz.func81,rfl,rfl⟩ λ(⟨⟨st,ps⟩,⟨ss,cs,os,dr⟩,_⟩:PlT×FsT×Unit) _=>?_
 refine(aF (aI tT (aI (λh0=>(Aa rfl ?_)) (λh0=>(λh1=>?_)))))
 ·have h:Df (st,ps) (ss,cs,os,dr)≠0:=λh=>by
   have h0:(!decide (Df (st,ps) (ss,cs,os,dr)=0))=true:=h0;rw[h]at h0;cases h0
  unfold Ak;rw[aP h]
 have hz:Df (st,ps) (ss,cs,os,dr)=0:=aM (B5 h0);obtain⟨w,v⟩:=Bz.1 hz;refine ex4 _ (λp:Nat×List Int=>⟨[.any,.any,.ptr 0 0,.ptr 1 0,.any,.any,.any,.own 2,.any,.any,.any,.any,.any,.any,.any,.any,.any,.ptr 0 0,.sl tSt st,.int .i64 (↑st.length:Int),.int .i64 (p.1:Int)]++nA 16,[.cells [.sl tSt st,.sl A6 ps],.cells [.sl tSS ss,.sl Dn cs,.sl (.sl (.int .i64)) os,.bool dr],.rows tI p.2],3⟩) (λp=>p.1<=st.length/\p.2=(ints p.1).filter (λi=>(Be (st,ps) (ss,cs,os,dr) i).2)) (λp=>st.length-p.1) (aI (eI ((0,[])) (eI ([some 0,some 1,none]) (aI ?_ (aB (aI (aH (aA tT)) (by rfl)))))) ?_)
 ·exact⟨aV _,rfl⟩
 rintro⟨i,l⟩ ⟨hi,hl⟩;replace hi:i<=st.length:=hi;replace hl:l=(ints i).filter (λi=>(Be (st,ps) (ss,cs,os,dr) i).2):=hl;have hlt:decide ((i:Int)<(st.length:Int))=true->i<st.length:=λh=>by have:=aM h;omega
 have hs:(ints (i+1)).filter (λi=>(Be (st,ps) (ss,cs,os,dr) i).2)=l++if(Be (st,ps) (ss,cs,os,dr) (i:Int)).2=true then[(i:Int)]else[]:=by
  rw[show ints (i+1)=ints i++[(i:Int)] by simp[ints,dL],eC,hl];cases h:(Be (st,ps) (ss,cs,os,dr) (i:Int)).2<;>simp[h]
 have hn:st.length<=16:=w.n16;have hle:l.length<=16:=by
  rw[hl];exact cP (fA _ _) (by rw[Ej];omega)
 refine(aI (λk0=>(aI ?_ (λ(k1:((List Int×Int×Bool)×List (List Int)×Bool×Bool×Int×Int×Int)×Bool×PUnit)=>(λk2=>(aI (λk3=>(aO (aO ?_))) (λk3=>(aO ?_))))))) (λk0=>(Aa rfl ?_)))
 ·exact⟨w,v,eB i,show(i:Int)<(st.length:Int)from aM k0⟩
 ·have hi1:=hlt k0;rw[k2]at k3;have hs1:=hs.trans (bI _ (aP k3));refine eI ((i+1,l++[(i:Int)])) (eI ([some 0,some 1,some 5]) (aI ?_ (aI ?_ (aB (aI (aH (aA tT)) (by rfl))))))
  ·exact⟨hi1,hs1.symm⟩
  ·show st.length-(i+1)<st.length-i;omega
 ·have hi1:=hlt k0;rw[k2]at k3;have hs1:=hs.trans (bI _ (aL (λh=>aY (k3.symm.trans h))));rw[cC]at hs1;refine eI ((i+1,l)) (eI ([some 0,some 1,some 2]) (aI ?_ (aI ?_ (aB (aI (aH (aA tT)) (by rfl))))))
  ·exact⟨hi1,hs1.symm⟩
  ·show st.length-(i+1)<st.length-i;omega
 ·have hi1:i=st.length:=by
   have:¬(i:Int)<(st.length:Int):=aQ k0;omega
  unfold Ak;rw[aL (by rw[hz];simp),hl,hi1]
def Adx(x:PlT):AV:=.agg [.sl tSt x.1,.sl A6 x.2]
def Ady(m:MvT):AV:=.agg [.sl (.int .i64) m.1.1,.int .i64 m.1.2.1,.bool m.1.2.2,.sl tIs m.2.1,.bool m.2.2.1,.bool m.2.2.2.1,.int .i64 m.2.2.2.2.1,.int .i64 m.2.2.2.2.2.1,.int .i64 m.2.2.2.2.2.2]
def stB(ss:List SST)(cs:List Cred)(os:List (List Int))(dr:Bool):List Ob:=[.cells [.own 1,.own 2,.own 3,.bool dr],.rows tSS ss,.rows Dn cs,.rows tIs os]
def cxqL:Ctx:=⟨Ah8,[(15,([],cIn)),(17,([],cOut)),(152,([],cFTake)),(50,([],cFReq)),(153,([],cFSend)),(154,([],cFClose)),(27,([],c21))]⟩
theorem Wv:Ai Tryz.prog cxqL:=Dl (Ae gIn (Ae Aom (Ae Aro (Ae Aps (Ae Arn (Ae Aoo (Ae Ac9 Ah)))))))
theorem Abi{α:Type}{l:List α}{k:Nat}{d:α}(h:k<l.length):l.set k (l.getD k d)=l:=by
 rw[aZ,aR h];exact List.set_getElem_self h
theorem Al8{α:Type}{l:List α}{k:Nat}{a d:α}(h:k<l.length):(l.set k a).getD k d=a:=by
 rw[Cc,aP ⟨rfl,h⟩]
theorem Adz(c:Cred)(l:List Int)(v:Int):Kj c (l++[v])=(E9 (Kj c l) v).1:=by
 unfold Kj;rw[dO];rfl
theorem Ww{x:PlT}{i:Int}{o:List (List Int)}{b:Bool}{c:List Cred}{n:Nat}(h:o.length<=n):Gh x i o b c n=c.set (pOut x i n).toNat (Aa9 b (c.getD (pOut x i n).toNat zCred)):=by
 unfold Gh;rw[show o.getD ((n:Int)).toNat []=[] by rw[bH,aZ,dW h];rfl];rfl
def okM(x:PlT)(i:Int)(cs:List Cred)(o:List (List Int)):Prop:=WF x/\(0<=i/\i<x.1.length)/\cs.length=x.2.length/\o.length<=1000
set_option maxHeartbeats 8000000 in
theorem Al9(st:List StT)(ps:List PipeT)(i:Int)(t:SST)(o:List (List Int))(b1 b2:Bool)(m1 m2 m3:Int)(ss:List SST)(cs:List Cred)(os:List (List Int))(dr:Bool)(hk:okM (st,ps) i cs o):
 Ba cxqL Tryz.prog (Ba cxqL Tryz.prog noS) 128 [Adx (st,ps),.ptr 0 0,.int .i64 i,Ady (t,o,b1,b2,m1,m2,m3)] (stB ss cs os dr) 4
  (λx T' n'=>∃σ,J1 4 σ [noW x] T' n' ⟨[.tup []],stB ss (Kk (st,ps) i o b1 cs) os dr,4⟩):=by
 obtain⟨w,⟨i0,iN⟩,hlc,hol⟩:=hk;replace iN:i<st.length:=iN;replace hlc:cs.length=ps.length:=hlc;refine(aF (aO (aI tT ?_)));have S0:0<=stOut (st.getD i.toNat (Ab tSt))/\stOut (st.getD i.toNat (Ab tSt))<=2:=⟨(Pr _).2.2.1,(Pr _).2.2.2⟩;have hF:∀n:Nat,(n:Int)<=stOut (st.getD i.toNat (Ab tSt))->((ints n).foldl (Gh (st,ps) i o b1) cs).length=cs.length:=λn h=>(Qq w i0 iN o b1 cs hlc n h).1
 have hin:∀n:Nat,(n:Int)<stOut (st.getD i.toNat (Ab tSt))->0<=pOut (st,ps) i n/\pOut (st,ps) i n<cs.length:=λn h=>by
  obtain⟨k,k1,k2,_⟩:=w.outs i0 iN (eB n) h;rw[k2];have k1:k<ps.length:=k1;omega
 refine ex4 _ (λp:Nat×List Cred=>⟨[.any,.ptr 0 0,.int .i64 i,.any,.ptr 4 0,.any,.any,.ptr 5 0,.any,.any,.any,.any,.any,.any,.any,.any,.any,.int .i64   (stOut     ((st.getD i.toNat (Ab tSt)).1,(st.getD i.toNat (Ab tSt)).2.1,       ExprT.mk (ExprT.kind (st.getD i.toNat (Ab tSt)).2.2.1) (ExprT.op (st.getD i.toNat (Ab tSt)).2.2.1)         (ExprT.name (st.getD i.toNat (Ab tSt)).2.2.1) (ExprT.value (st.getD i.toNat (Ab tSt)).2.2.1)         (ExprT.args (st.getD i.toNat (Ab tSt)).2.2.1),       (st.getD i.toNat (Ab tSt)).2.2.2)),.int .i64 (p.1:Int)]++nA 60,[.cells [.own 1,.own 2,.own 3,.bool dr],.rows tSS ss,.rows Dn p.2,.rows tIs os,.cells [.sl tSt st,.sl A6 ps],.cells   [.sl (.int .i64) t.1,.int .i64 t.2.1,.bool t.2.2,.sl tIs o,.bool b1,.bool b2,     .int .i64 m1,.int .i64 m2,.int .i64 m3]],6⟩) (λp=>(p.1:Int)<=stOut (st.getD i.toNat (Ab tSt))/\p.2=(ints p.1).foldl (Gh (st,ps) i o b1) cs) (λp=>(stOut (st.getD i.toNat (Ab tSt))).toNat-p.1) (aI (eI ((0,cs)) (eI ([some 0,some 1,some 2,some 3,some 4,some 5]) (aI ?_ (aB (aI (aG (aB (aA (aH tT)))) (by rfl)))))) ?_)
 ·exact⟨S0.1,rfl⟩
 rintro⟨n,c⟩ ⟨hn,hc⟩;replace hn:(n:Int)<=stOut (st.getD i.toNat (Ab tSt)):=hn;replace hc:c=(ints n).foldl (Gh (st,ps) i o b1) cs:=hc;have hcl:c.length=cs.length:=by rw[hc];exact hF n hn
 have hk0:(n:Int)<stOut (st.getD i.toNat (Ab tSt))->(0<=pOut (st,ps) i n/\pOut (st,ps) i n<c.length)/\(pOut (st,ps) i n).toNat<c.length/\(ints (n+1)).foldl (Gh (st,ps) i o b1) cs=Gh (st,ps) i o b1 c n/\((n+1:Nat):Int)<=stOut (st.getD i.toNat (Ab tSt)):=λh=>by
  have h1:=hin n h;refine⟨by omega,by omega, ?_,by omega⟩;rw[show ints (n+1)=ints n++[(n:Int)] by simp[ints,dL],dO,<-hc];rfl
 have hme:(n:Int)<stOut (st.getD i.toNat (Ab tSt))->(stOut (st.getD i.toNat (Ab tSt))).toNat-(n+1)<(stOut (st.getD i.toNat (Ab tSt))).toNat-n:=λh=>by omega
 refine(aI (λk0=>(aI tT (λk1=>(aI (λk2=>(aO (λk3=>?_))) (λk2=>(aI (λk4=>(aF (aI ?_ (aI tT (aI ?_ (aO ?_)))))) (λk4=>(aO ?_)))))))) (λk0=>?_))
 ·simp only[eta]at k0;have hn1:(n:Int)<stOut (st.getD i.toNat (Ab tSt)):=aM k0;obtain⟨q1,q2,q3,q4⟩:=hk0 hn1;have hme:=hme hn1;clear k0 hk0;refine ex4 _ (λq:Nat×List Cred=>⟨[.any,.ptr 0 0,.int .i64 i,.any,.ptr 4 0,.any,.any,.ptr 5 0,.int .i64 (↑n:Int),.int .i64 (pOut (st,ps) i ↑n),.any,.any,.any,.any,.any,.any,.any,.int .i64 (stOut ((st.getD i.toNat (Ab tSt)).1,(st.getD i.toNat (Ab tSt)).2.1,ExprT.mk (ExprT.kind (st.getD i.toNat (Ab tSt)).2.2.1) (ExprT.op (st.getD i.toNat (Ab tSt)).2.2.1) (ExprT.name (st.getD i.toNat (Ab tSt)).2.2.1) (ExprT.value (st.getD i.toNat (Ab tSt)).2.2.1) (ExprT.args (st.getD i.toNat (Ab tSt)).2.2.1),(st.getD i.toNat (Ab tSt)).2.2.2)),.int .i64 (↑n:Int),.any,.int .i64 (↑n:Int),.agg [.sl tSt st,.sl A6 ps],.int .i64 i,.int .i64 (↑n:Int),.int .i64 (pOut (st,ps) i ↑n),.int .i64 (↑n:Int),.ptr 5 3,.sl tIs o,.int .i64 (↑o.length:Int),.bool (decide ((↑n:Int)<(↑o.length:Int))),.ptr 5 3,.sl tIs o,.int .i64 (↑n:Int),.eptr [PV.sl (.int .i64) (o.getD (↑n:Int).toNat (Ab tIs))],.sl (.int .i64) (o.getD (↑n:Int).toNat (Ab tIs)),.int .i64 (↑(List.length (o.getD (↑n:Int).toNat (Ab tIs))):Int),.int .i64 (q.1:Int)]++nA 42,[.cells [.own 1,.own 2,.own 3,.bool dr],.rows tSS ss,.rows Dn q.2,.rows tIs os,.cells [.sl tSt st,.sl A6 ps],.cells   [.sl (.int .i64) t.1,.int .i64 t.2.1,.bool t.2.2,.sl tIs o,.bool b1,.bool b2,     .int .i64 m1,.int .i64 m2,.int .i64 m3]],6⟩) (λq=>q.1<=(o.getD (n:Int).toNat (Ab tIs)).length/\q.2=c.set (pOut (st,ps) i n).toNat (Kj (c.getD (pOut (st,ps) i n).toNat zCred) ((o.getD (n:Int).toNat (Ab tIs)).take q.1))) (λq=>(o.getD (n:Int).toNat (Ab tIs)).length-q.1) (aI (eI ((0,c)) (eI ([some 0,some 1,some 2,some 3,some 4,some 5]) (aI ?_ (aB (aI (aG (aB (aA (aH tT)))) (by rfl)))))) ?_)
  ·exact⟨aV _,(Abi q2).symm⟩
  rintro⟨j,e⟩ ⟨hj,he⟩;replace hj:j<=(o.getD (n:Int).toNat (Ab tIs)).length:=hj;replace he:e=c.set (pOut (st,ps) i n).toNat (Kj (c.getD (pOut (st,ps) i n).toNat zCred) ((o.getD (n:Int).toNat (Ab tIs)).take j)):=he;have hel:e.length=c.length:=by rw[he,cE]
  have q1e:0<=pOut (st,ps) i n/\pOut (st,ps) i n<e.length:=by omega
  have hjl:decide ((j:Int)<((o.getD (n:Int).toNat (Ab tIs)).length:Int))=true->j<(o.getD (n:Int).toNat (Ab tIs)).length:=λh=>by have:=aM h;omega
  have hjn:decide ((j:Int)<((o.getD (n:Int).toNat (Ab tIs)).length:Int))=false->e=c.set (pOut (st,ps) i n).toNat (Kj (c.getD (pOut (st,ps) i n).toNat zCred) (o.getD (n:Int).toNat [])):=λh=>by
   have:¬(j:Int)<((o.getD (n:Int).toNat (Ab tIs)).length:Int):=aQ h;rw[he,bL (by omega)]
  refine(aI (λu0=>(aO (aF (aI (by omega) (aI tT (aI (by omega) (aO ?_))))))) (λu0=>(aI (λu1=>(aF (aI (by omega) (aI tT (aI (by omega) (aO ?_)))))) (λu1=>(aO ?_)))))
  ·have hj1:=hjl u0;clear u0;refine eI ((j+1,e.set (pOut (st,ps) i n).toNat (E9 (e.getD (pOut (st,ps) i n).toNat zCred) ((o.getD (n:Int).toNat (Ab tIs)).getD j 0)).1)) (eI ([some 0,some 1,some 2,some 3,some 4,some 5]) (aI ?_ (aI ?_ (aB (aI (aG (aB (aA (aH tT)))) (by rfl))))))
   ·refine⟨hj1, ?_⟩;show e.set _ _=c.set _ (Kj _ ((o.getD (n:Int).toNat (Ab tIs)).take (j+1)));rw[bS hj1,Adz,<-A1 (d:=0) hj1,he,List.set_set,Al8 q2]
   ·show(o.getD (n:Int).toNat (Ab tIs)).length-(j+1)<(o.getD (n:Int).toNat (Ab tIs)).length-j;omega
  ·have he2:=hjn u0;have q5:(ints (n+1)).foldl (Gh (st,ps) i o b1) cs=e.set (pOut (st,ps) i n).toNat (Ee (e.getD (pOut (st,ps) i n).toNat zCred)).1:=by
    rw[q3,he2,List.set_set,Al8 q2];unfold Gh Aa9;rw[aP u1]
   clear u0;refine eI ((n+1,e.set (pOut (st,ps) i n).toNat (Ee (e.getD (pOut (st,ps) i n).toNat zCred)).1)) (eI ([some 0,some 1,some 2,some 3,some 4,some 5]) (aI ?_ (aI ?_ (aB (aI (aG (aB (aA (aH tT)))) (by rfl))))))
   ·exact⟨q4,q5.symm⟩
   ·exact hme
  ·have he2:=hjn u0;have q5:(ints (n+1)).foldl (Gh (st,ps) i o b1) cs=e:=by
    rw[q3,he2];unfold Gh Aa9;rw[aL (λh=>aY (u1.symm.trans h))]
   clear u0;refine eI ((n+1,e)) (eI ([some 0,some 1,some 2,some 3,some 4,some 5]) (aI ?_ (aI ?_ (aB (aI (aG (aB (aA (aH tT)))) (by rfl))))))
   ·exact⟨q4,q5.symm⟩
   ·exact hme
 ·simp only[eta]at k0;exact(hk0 (aM k0)).1
 ·simp only[eta]at k0;exact(hk0 (aM k0)).1
 ·simp only[eta]at k0;have hn1:(n:Int)<stOut (st.getD i.toNat (Ab tSt)):=aM k0;obtain⟨q1,q2,q3,q4⟩:=hk0 hn1;have hme:=hme hn1;have hno:o.length<=n:=by have:¬(n:Int)<(o.length:Int):=aQ k2;omega
  have q5:(ints (n+1)).foldl (Gh (st,ps) i o b1) cs=c.set (pOut (st,ps) i n).toNat (Ee (c.getD (pOut (st,ps) i n).toNat zCred)).1:=q3.trans ((Ww hno).trans (by rw[k4];rfl));clear k0 k1 k2 hk0;refine eI ((n+1,c.set (pOut (st,ps) i n).toNat (Ee (c.getD (pOut (st,ps) i n).toNat zCred)).1)) (eI ([some 0,some 1,some 2,some 3,some 4,some 5]) (aI ?_ (aI ?_ (aB (aI (aG (aB (aA (aH tT)))) (by rfl))))))
  ·exact⟨q4,q5.symm⟩
  ·exact hme
 ·simp only[eta]at k0;have hn1:(n:Int)<stOut (st.getD i.toNat (Ab tSt)):=aM k0;obtain⟨q1,q2,q3,q4⟩:=hk0 hn1;have hme:=hme hn1;have hno:o.length<=n:=by have:¬(n:Int)<(o.length:Int):=aQ k2;omega
  have q5:(ints (n+1)).foldl (Gh (st,ps) i o b1) cs=c:=q3.trans ((Ww hno).trans (by rw[k4];exact Abi q2));clear k0 k1 k2 hk0;refine eI ((n+1,c)) (eI ([some 0,some 1,some 2,some 3,some 4,some 5]) (aI ?_ (aI ?_ (aB (aI (aG (aB (aA (aH tT)))) (by rfl))))))
  ·exact⟨q4,q5.symm⟩
  ·exact hme
 ·simp only[eta]at k0;have hn2:¬(n:Int)<stOut (st.getD i.toNat (Ab tSt)):=aQ k0;have hc2:Kk (st,ps) i o b1 cs=c:=by
   rw[hc];unfold Kk;rw[show(stOut (sg (st,ps) i)).toNat=n by show(stOut (st.getD i.toNat (Ab tSt))).toNat=n;omega]
  rw[hc2];exact⟨[some 0,some 1,some 2,some 3],by rfl,by rfl,⟨⟨by rfl,by rfl⟩,by rfl,by rfl,by rfl,trivial⟩,by rfl⟩
set_option maxHeartbeats 8000000 in
theorem Ama(st:List StT)(ps:List PipeT)(i:Int)(t:SST)(o:List (List Int))(b1 b2:Bool)(m1 m2 m3:Int)(ss:List SST)(cs:List Cred)(os:List (List Int))(dr:Bool)(hk:okM (st,ps) i cs o)(hb2:b2=true->0<=m1/\m1<stIn (sg (st,ps) i)):
 Ba cxqL Tryz.prog (Ba cxqL Tryz.prog noS) 127 [Adx (st,ps),.ptr 0 0,.int .i64 i,Ady (t,o,b1,b2,m1,m2,m3)] (stB ss cs os dr) 4
  (λx T' n'=>∃σ,J1 4 σ [noW x] T' n' ⟨[.int .i64 (Cp (st,ps) cs i (t,o,b1,b2,m1,m2,m3)).2],stB ss (Cp (st,ps) cs i (t,o,b1,b2,m1,m2,m3)).1 os dr,4⟩):=by
 obtain⟨w,⟨i0,iN⟩,hlc,hol⟩:=hk;replace iN:i<st.length:=iN;replace hlc:cs.length=ps.length:=hlc;have hin:b2=true->0<=pIn (st,ps) i m1/\pIn (st,ps) i m1<cs.length:=λh=>by
  obtain⟨k,k1,k2,_⟩:=w.ins i0 iN (hb2 h).1 (hb2 h).2;rw[k2];have k1:k<ps.length:=k1;omega
 have hT:b2=true->Cp (st,ps) cs i (t,o,b1,b2,m1,m2,m3)=(cs.set (pIn (st,ps) i m1).toNat (G7 (cs.getD (pIn (st,ps) i m1).toNat zCred)).1,(G7 (cs.getD (pIn (st,ps) i m1).toNat zCred)).2):=λh=>by
  subst h;rfl
 refine(aF (aI (λh0=>?_) (λh0=>(aI tT (aI ?_ (aI tT (λ(h1:(Int×Int×Int×Int×List Int×Bool)×Int×Int×PUnit)=>(λh2=>(aI (λh3=>(aI tT (λ(h4:(Int×Int×Int×Int×List Int×Bool)×Int×PUnit)=>(λh5=>(aF (aI ?_ ?_)))))) (λh3=>(aF (aI ?_ ?_))))))))))))
 ·have hb:b2=false:=by cases b2<;>simp_all
  subst hb;exact⟨[some 0,some 1,some 2,some 3],by rfl,by rfl,⟨⟨by rfl,by rfl⟩,by rfl,by rfl,by rfl,trivial⟩,by rfl⟩
 ·exact hin (B5 h0)
 ·exact hin (B5 h0)
 ·have hb:=B5 h0;rw[h2]at h3 h5;have e:G7 (cs.getD (pIn (st,ps) i m1).toNat zCred)=(h4.1,h4.2.1):=by
   unfold G7;have h3:=Yk h3;rw[aP ⟨aM h3.1,by have h:=h3.2;simpa using h⟩,h5]
  rw[hT hb,e];exact⟨[some 0,some 1,some 2,some 3],by rfl,by rfl,⟨⟨by rfl,by rfl⟩,by rfl,by rfl,by rfl,trivial⟩,by rfl⟩
 ·exact hin (B5 h0)
 ·have hb:=B5 h0;have e:G7 (cs.getD (pIn (st,ps) i m1).toNat zCred)=(h1.1,h1.2.2.1):=by
   rw[h2]at h3 ⊢;unfold G7;rw[aL];rintro⟨a,b⟩;have h3:(bif decide ((Er (cs.getD (pIn (st,ps) i m1).toNat zCred)).2.2=0)then !(Er (cs.getD (pIn (st,ps) i m1).toNat zCred)).1.2.2.2.2.2 else false)=false:=h3;rw[aX a,b]at h3;cases h3
  rw[hT hb,e];exact⟨[some 0,some 1,some 2,some 3],by rfl,by rfl,⟨⟨by rfl,by rfl⟩,by rfl,by rfl,by rfl,trivial⟩,by rfl⟩
end Go.Proofs.YtpabcdbaffjcdaaGreat
