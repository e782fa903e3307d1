/- Pipelines. -/
import Derived.Test.YtpabcdbaffjcdaaGreatJK1
import Derived.Test.YtpabcdbaffjcdaaGreatJG3
set_option linter.unusedSimpArgs false
set_option linter.unusedVariables false
set_option maxRecDepth 100000
namespace Go.Proofs.YtpabcdbaffjcdaaGreat
open Go.Sx
theorem Du{α:Type}{n k:Nat}{a:α}:(List.replicate n a).getD k a=a:=by
 rw[aZ,eP];split<;>rfl
theorem Jo{α β:Type}{f:α->β}{l:List α}{k:Nat}{d:α}{e:β}(h:k<l.length):(l.map f).getD k e=f (l.getD k d):=by
 rw[A1 (by rw[bN];exact h),eS,A1 h]
theorem Yz{y:PipeT}(h1:1<=y.2.2.2.2)(h2:y.2.2.2.2<=100):newC y=(y.2.2.2.2,y.2.2.2.2,0,0,[],false)/\A8 (newC y)=0:=by
 have hb:inR y.2.2.2.2 1 100=true:=Lk.2 ⟨h1,h2⟩;have e1:Vd y.2.2.2.2=((y.2.2.2.2,0,0,0,[],false),0):=aL (by rw[hb];decide);have h3:=(Aog (n:=y.2.2.2.2) (by rw[e1])).1;unfold newC;rw[e1]at h3 ⊢;have e2:=Aa8 (n:=y.2.2.2.2) h3 h1 rfl (by show y.2.2.2.2<=0+y.2.2.2.2-0;omega) (by show 0+y.2.2.2.2<=1099511627776;omega);have h4:=(Afq (c:=(y.2.2.2.2,0,0,0,[],false)) (n:=y.2.2.2.2) (by rw[e2])).2.1;refine⟨?_,h4⟩;rw[e2];show(y.2.2.2.2,0+y.2.2.2.2,0,0,[],false)=_;rw[Int.zero_add]
theorem Ig{x:PlT}(w:WF x):Ca x=((List.replicate x.1.length ([],0,false),x.2.map newC,List.replicate (Bm x.1).toNat [],false),0):=aL (λh=>h (Cz.2 w))
theorem U6{x:PlT}(w:WF x)(i:Int):Ay (Ca x).1 i=([],0,false):=by
 rw[Ig w];exact Du
theorem Ad5{x:PlT}(w:WF x):VS x (Ca x).1:=by
 have hss:=U6 w;rw[Ig w]at hss ⊢;refine⟨bZ,bN _, ?_,λi hi=>?_,λl hl=>?_,λk hk=>?_,λi hi n hn=>?_⟩
 ·show((List.replicate (Bm x.1).toNat ([]:List Int)).length:Int)=_;rw[bZ];unfold Bm;omega
 ·rw[hss];have h0:Al (sg x (i:Int))=0:=w.st i hi;have hz:=Ax h0;exact B0.2 ⟨h0,Jn hz.1 hz.2.2⟩
 ·have:=List.eq_of_mem_replicate hl;rw[this];rfl
 ·have q:=w.pipe hk;obtain⟨e1,e2⟩:=Yz q.c1 q.c100;show Uq _ _ ((x.2.map newC).getD k zCred)=false;rw[Jo (d:=Ag) hk,D2,hss];refine⟨e2,by rw[e1],by rw[e1],λ_=>by rw[e1];show(x.2.getD k Ag).2.2.2.2=0+(x.2.getD k Ag).2.2.2.2;omega⟩
 ·rw[hss]at hn;exfalso;unfold Bu at hn;split at hn
  ·exact dB hn
  ·split at hn
   ·exact dB hn
   ·rw[aL (by rintro⟨-,h⟩;cases h)]at hn;exact dB hn
theorem Of(x:PlT)(s:FsT)(i:Int):sg (C3 x s) i=Abl (sg x i) (Ay s i).2.1:=by
 unfold sg C3 Ar1 Ay;show((List.range x.1.length).map _).getD i.toNat zStg=_;by_cases h:i.toNat<x.1.length
 ·rw[Jo (d:=0) (by rw[dU];exact h),A1 (by rw[dU];exact h),fL,aP h]
 ·rw[D3 (by rw[bN,dU];omega),D3 (by omega)];unfold Abl;rw[aL (by decide)]
theorem Y0(x:PlT)(s:FsT):(C3 x s).1.length=x.1.length:=by
 unfold C3 Ar1;rw[bN,dU]
theorem Abw(x:PlT)(s:FsT)(i:Int):(sg (C3 x s) i).1=(sg x i).1:=by
 rw[Of];unfold Abl;split<;>rfl
theorem At2{x:PlT}{l:List Int}{m:Int}{s0:FsT}(h:(B2 x s0 l m).2.2=0):Df x s0=0/\B2 x s0 l m=Dg x l m.toNat 0 s0 []:=by
 unfold B2 at h ⊢;by_cases h1:Df x s0=0
 ·rw[aL (λh=>h h1)]at h ⊢;by_cases h2:m<0\/10000<m
  ·rw[aP h2]at h;exact aT h (by decide)
  ·rw[aL h2];exact⟨h1,rfl⟩
 ·rw[aP h1]at h;exact aT h (by decide)
theorem At3{x:PlT}{s:FsT}(h:(Abm x s).2=0):Df x s=0/\Abm x s=B7 (C3 x s):=by
 unfold Abm at h ⊢;by_cases h1:Df x s=0
 ·rw[aL (λh=>h h1)];exact⟨h1,rfl⟩
 ·rw[aP h1]at h;exact aT h (by decide)
theorem Aml{x:StT}{ins:List (List Int)}(h:(Ar x ins).2=0):tot x ins<=402:=by
 obtain⟨h0,h1,h2,-⟩:=Hq h;unfold tot;split
 ·have:=(Hm h0).1;omega
 ·have hb:ins.length<=2:=by
   have:(Ap x.1).1<=2:=by
    unfold Ap
    repeat' split
    all_goals decide
   omega
  have hg:∀i<ins.length,(ins.getD i []).length<=200:=λi hi=>(Bi h2 hi).1
  match ins,hb,hg with
  |[],_,_=>decide
  |[a],_,hg=>
   have:=hg 0 (by simp);replace this:a.length<=200:=this;simp;omega
  |[a,b],_,hg=>
   have h1:=hg 0 (by simp);have h2:=hg 1 (by simp);replace h1:a.length<=200:=h1;replace h2:b.length<=200:=h2;simp;omega
structure Way(x:PlT)(s:FsT)(S:List (List Int))(J:Int->Nat->RT->Prop)(r:Int->Nat)(T:Int->List Int)(O:Int->List (List Int)):Prop where
 p:Kp x (C3 x s) S J
 n:Kn x (C3 x s) S J s r T O
 v:VS x s
 dr:s.2.2.2=false
 out:(Abm x s).1=G9 (C3 x s) S
 cn:∀i:Int,0<=i->i<x.1.length->(sg x i).1=1->((sg (C3 x s) i).2.2.2.length:Int)=(Ay s i).2.1
 tt:Oe x r<=402*x.1.length
theorem Ad6{f:Int->Nat}:∀n:Nat,(∀i:Int,0<=i->i<n->f i<=402)->((List.range n).map λi:Nat=>f (i:Int)).sum<=402*n
 |0,_=>by simp
 |n+1,h=>by
  rw[dL,eL,List.sum_append];simp only[eD,List.map_nil,hY,List.sum_nil,dH];have:=Ad6 n λi a b=>h i a (by omega)
  have:=h (n:Int) (by omega) (by omega);omega
theorem Avs{x:PlT}(h0:Fa x=0){l:List Int}{m:Int}{s:FsT}(hs:(B2 x (Ca x).1 l m).1=s)(hr:(B2 x (Ca x).1 l m).2.2=0)(he:(Abm x s).2=0):∃S J r T O,Way x s S J r T O:=by
 have w:=Cz.1 h0;obtain⟨hv,hrun⟩:=At2 hr;rw[hrun]at hs hr;obtain⟨hvs,hexp⟩:=At3 he;have v:=(Bz.1 hvs).2;rw[hexp]at he;obtain⟨w',S,sol,hS⟩:=U4 he;have hl:=Y0 x s;have hok:∀i:Int,0<=i->i<x.1.length->(Ar (sg (C3 x s) i) (Bj (C3 x s) S i)).2=0:=λi i0 iN=>sol.ok i i0 (by rw[hl];exact iN)
 have hst:∀i:Int,0<=i->i<x.1.length->stOut (sg (C3 x s) i)=stOut (sg x i):=λi i0 iN=>by
  have h1:=(Hq (hok i i0 iN)).1;have h2:Al (sg x i)=0:=w.st i.toNat (by omega);rw[Ll h1,Ll h2,Abw]
 have hruns:∀i:Int,∃J:Nat->RT->Prop,0<=i->i<x.1.length->(∀r t,J r t->Rnd (sg (C3 x s) i) (Bj (C3 x s) S i) J r t)/\J (tot (sg (C3 x s) i) (Bj (C3 x s) S i)) (start (sg (C3 x s) i) (Bj (C3 x s) S i)):=λi=>by
  by_cases h:0<=i/\i<x.1.length
  ·obtain⟨J,hJ⟩:=Af7 (hok i h.1 h.2);exact⟨J,λ_ _=>hJ⟩
  ·exact⟨λ_ _=>True,λa b=>aT ⟨a,b⟩ h⟩
 have hcn:∀i:Int,0<=i->i<x.1.length->(sg x i).1=1->((sg (C3 x s) i).2.2.2.length:Int)=(Ay s i).2.1:=λi i0 iN h1=>by
  have hb:=Qy v i0 iN h1;rw[Of];unfold Abl;rw[aP h1];show(((sg x i).2.2.2.take (Ay s i).2.1.toNat).length:Int)=_;rw[bP];omega
 let J:Int->Nat->RT->Prop:=λi=>(hruns i).choose
 have hJ:∀i:Int,0<=i->i<x.1.length->(∀r t,J i r t->Rnd (sg (C3 x s) i) (Bj (C3 x s) S i) (J i) r t)/\J i (tot (sg (C3 x s) i) (Bj (C3 x s) S i)) (start (sg (C3 x s) i) (Bj (C3 x s) S i)):=λi=>(hruns i).choose_spec
 have p:Kp x (C3 x s) S J:=by
  refine⟨w,λi h=>?_,λi h=>?_,rfl,λi i0 iN=>(Hq (hok i i0 iN)).1,λi o i0 iN o0 oN=>?_,λi i0 iN=>(hJ i i0 iN).1,λk hk=>?_⟩
  ·rw[Of];exact aL h
  ·rw[Of];unfold Abl;rw[aP h];by_cases hc:(Ay s i).2.1.toNat<=(sg x i).2.2.2.length
   ·exact⟨_,hc,rfl⟩
   ·refine⟨_,bA _, ?_⟩;rw[bL (by omega),bL (bA _)]
  ·exact sol.out i i0 (by rw[hl];exact iN) o o0 (by rw[hst i i0 iN];exact oN)
  ·have q:=w.pipe hk;have h1:=sol.out (x.2.getD k Ag).1 q.f0 (by rw[hl];exact q.fn) (x.2.getD k Ag).2.1 q.o0 (by rw[hst _ q.f0 q.fn];exact q.on);rw[show pOut (C3 x s) (x.2.getD k Ag).1 (x.2.getD k Ag).2.1=(k:Int)from q.out,bH]at h1;rw[h1];obtain⟨-,-,-,-,hb⟩:=Cy.1 (hok _ q.f0 q.fn);by_cases hlt:(x.2.getD k Ag).2.1.toNat<(E8 (sg (C3 x s) (x.2.getD k Ag).1) (Bj (C3 x s) S (x.2.getD k Ag).1)).length
   ·have:=dA.1 hb _ (cJ hlt);rw[A1 hlt];have h10:=aQ (p:=200<(((E8 (sg (C3 x s) (x.2.getD k Ag).1) (Bj (C3 x s) S (x.2.getD k Ag).1))[(x.2.getD k Ag).2.1.toNat].length:Nat):Int)) (fM.2 this);omega
   ·rw[D3 (by omega)];exact aV _
 have n0:Kn x (C3 x s) S J (Ca x).1 (λi=>tot (sg (C3 x s) i) (Bj (C3 x s) S i)) (λi=>List.replicate (Bj (C3 x s) S i).length 0) (λi=>List.replicate (Ap (sg (C3 x s) i).1).2.1.toNat []):=by
  have hcr:∀k<x.2.length,((Ca x).1.2.1.getD k zCred).2.2.2.2.1=[]/\((Ca x).1.2.1.getD k zCred).2.2.2.1=0:=λk hk=>by
   have q:=w.pipe hk;rw[Ig w];show((x.2.map newC).getD k zCred).2.2.2.2.1=[]/\((x.2.map newC).getD k zCred).2.2.2.1=0;rw[Jo (d:=Ag) hk,(Yz q.c1 q.c100).1];exact⟨rfl,rfl⟩
  refine⟨λi i0 iN=>?_,λk hk=>?_,λk hk=>?_,λk hk=>?_,λi i0 iN _=>?_,λi i0 iN _ h=>?_⟩
  ·rw[U6 w];exact(hJ i i0 iN).2
  ·rw[(hcr k hk).1,Du,Du,hU]
  ·rw[(hcr k hk).2,Du]
  ·rw[Du,Du];exact cO 0
  ·rw[Ig w,Du,Du];rfl
  ·rw[U6 w]at h;cases h
 obtain⟨r,T,O,n,v',hd,ht⟩:=Amj p (l:=l) m.toNat 0 (Ca x).1 [] _ _ _ n0 (Ad5 w) (by rw[Ig w]) hr (by rw[hs];exact hcn);rw[hs]at n v' hd;refine⟨S,J,r,T,O,p,n,v',hd,by rw[hexp];exact hS,hcn,cP ht ?_⟩;exact Ad6 x.1.length λi i0 iN=>Aml (hok i i0 iN)
theorem Pw(q:Nat->Bool):∀n j,j<((List.range n).filter q).length->∃i,i<n/\q i=true/\((List.range n).filter q).getD j 0=i/\((List.range i).filter q).length=j
 |0,j,h=>by simp at h
 |n+1,j,h=>by
  rw[dL,eC]at h ⊢;by_cases hj:j<((List.range n).filter q).length
  ·obtain⟨i,a,b,c,d⟩:=Pw q n j hj;refine⟨i,by omega,b, ?_,d⟩;rw[A1 (by rw[bD];omega),List.getElem_append_left hj,<-A1,c]
  ·by_cases hq:q n=true
   ·have e:[n].filter q=[n]:=by rw[dN,aP hq];rfl
    rw[e]at h ⊢;rw[bD,eG]at h;have hjj:j=((List.range n).filter q).length:=by omega
    refine⟨n,by omega,hq, ?_,hjj.symm⟩;rw[A1 (by rw[bD,eG];omega),List.getElem_append_right (by omega)];simp[hjj]
   ·have e:[n].filter q=[]:=by rw[dN,aL hq];rfl
    rw[e,cC]at h;omega
theorem Nc{α:Type}(p:α->Bool)(d:α)(l:List α):∀i,i<=l.length->(l.take i).countP p=((List.range i).filter λk=>p (l.getD k d)).length
 |0,_=>by simp
 |i+1,h=>by
  rw[bS h,List.countP_append,Nc p d l i (by omega),dL,eC,bD]
  congr 1
  rw[A1 (d:=d) h |>.symm];by_cases hp:p (l.getD i d)=true
  ·rw[dY,aP hp,dN,aP hp];rfl
  ·rw[dY,aL hp,dN,aL hp];rfl
theorem Amm(x:PlT){i:Nat}(h:i<=x.1.length):Fy x (i:Int)=((List.range i).filter λk=>isSink (x.1.getD k zStg)).length:=by
 unfold Fy Bm;rw[bH,bH,Nc isSink zStg x.1 i h]
section
variable {x:PlT}{s:FsT}{S:List (List Int)}{J:Int->Nat->RT->Prop}{r:Int->Nat}{T:Int->List Int}{O:Int->List (List Int)}{y:FsT}
theorem Rp(x:PlT)(y:FsT):((List.range (C3 x y).1.length).filter λi=>isSink ((C3 x y).1.getD i zStg))=(List.range x.1.length).filter λi=>isSink (x.1.getD i zStg):=by
 rw[Y0];refine iA λi hi=>?_
 have:=Abw x y (i:Int);unfold isSink;rw[show(C3 x y).1.getD i zStg=sg (C3 x y) (i:Int)from rfl,this];rfl
theorem Aio(v:VS x s):(G9 (C3 x y) S).length=s.2.2.1.length:=by
 have hlo:=v.lo;unfold G9;rw[bN,Rp];have h:=Nc isSink zStg x.1 x.1.length (bA _);rw[dD]at h;unfold Bm at hlo;omega
theorem Ao2{j:Nat}(h:j<(G9 (C3 x y) S).length):∃i:Int,0<=i/\i<x.1.length/\(sg x i).1=10/\Fy x i=j/\(G9 (C3 x y) S).getD j []=(Bj (C3 x y) S i).getD 0 []:=by
 unfold G9 at h ⊢;rw[bN]at h;rw[Jo (d:=0) h];rw[Rp]at h ⊢;obtain⟨i,a,b,c,d⟩:=Pw _ _ j h;refine⟨(i:Int),by omega,by omega,aM b, ?_,by rw[c]⟩;rw[Amm x (by omega),d]
theorem Asi(n:Kn x (C3 x y) S J s r T O)(v:VS x s)(he:∀i:Int,0<=i->i<x.1.length->(Ay s i).2.2=true):s.2.2.1=G9 (C3 x y) S:=by
 refine gO (Aio v).symm λj h1 h2=>?_
 obtain⟨i,i0,iN,ik,h3,h4⟩:=Ao2 (x:=x) (y:=y) (S:=S) h2;rw[<-A1 (d:=[]) h1,<-A1 (d:=[]) h2,h4,<-h3,n.ou i i0 iN ik,n.en i i0 iN ik (he i i0 iN),bH,dD]
end
def drS(s:FsT):FsT:=(s.1,s.2.1,s.2.2.1,true)
theorem Ap4{x:PlT}{s:FsT}(v:VS x s):VS x (drS s):=⟨v.ls,v.lc,v.lo,v.nd,v.os,v.cr,v.no⟩
section
variable {x:PlT}{s:FsT}{S:List (List Int)}{J:Int->Nat->RT->Prop}{r:Int->Nat}{T:Int->List Int}{O:Int->List (List Int)}
theorem Kn.draining{x':PlT}(n:Kn x x' S J s r T O):Kn x x' S J (drS s) r T O:=⟨n.st,n.se,n.tk,n.le,n.ou,n.en⟩
theorem Way.beg(h:Way x s S J r T O):Jw x s=(drS s,0):=by
 unfold Jw;rw[aL (λh'=>h' (Bz.2 ⟨h.p.w,h.v⟩)),aL (by rw[h.dr];decide)];rfl
structure Ran(x:PlT)(s:FsT)(r:Int->Nat)(m:Nat)(R:FsT×List Int×Int):Prop where
 e0:R.2.2=0
 v:VS x R.1
 dr:R.1.2.2.2=true
 cn:∀i:Int,0<=i->i<x.1.length->(sg x i).1=1->(Ay R.1 i).2.1=(Ay s i).2.1
 ou:Oe x r<m->R.1.2.2.1=(Abm x s).1/\R.2.1.length=Oe x r/\(∀i:Int,0<=i->i<x.1.length->(Ay R.1 i).2.2=true)
theorem W6{t:FsT}(w:WF x)(v:VS x t)(h:G8 x t):∀i:Int,0<=i->i<x.1.length->(Ay t i).2.2=true:=λi i0 iN=>by
 refine Classical.byContradiction λhne=>?_
 obtain⟨j,j0,jN,hj⟩:=Al0 w v i0 iN (by simpa using hne);have he:Ak x t=((ints x.1.length).filter (λi=>(Be x t i).2),0):=by
  unfold Ak;rw[aL (λh=>h (Bz.2 ⟨w,v⟩))]
 unfold G8 at h;rw[he]at h;rcases h with h|h
 ·exact h rfl
 ·have:j∈(ints x.1.length).filter (λi=>(Be x t i).2):=cW.2 ⟨Dm.2 ⟨j0,jN⟩,hj⟩;exact dB (show j∈([]:List Int)from h ▸ this)
theorem Way.run(h:Way x s S J r T O)(l:List Int){m:Int}(m0:0<=m)(mN:m<=10000):Ran x s r m.toNat (B2 x (drS s) l m):=by
 have e:B2 x (drS s) l m=Dg x l m.toNat 0 (drS s) []:=by
  unfold B2;rw[aL (λh'=>h' (Bz.2 ⟨h.p.w,Ap4 h.v⟩)),aL (by omega)]
 rw[e];obtain⟨a0,r',T',O',n',v',a1,a2,a3,a4⟩:=Amk h.p (l:=l) m.toNat 0 (drS s) [] r T O h.n.draining (Ap4 h.v) rfl h.cn;rw[List.length_nil,dF]at a3 a4;refine⟨a0,v',a1,a2,λhm=>?_⟩;have hst:G8 x (Dg x l m.toNat 0 (drS s) []).1:=by
  rcases a4 with a4|a4
  ·omega
  ·exact a4
 have hall:=W6 h.p.w v' hst;have hz:Oe x r'=0:=by
  unfold Oe;have:∀a∈(List.range x.1.length).map (λi:Nat=>r' (i:Int)),a=0:=λa ha=>by
   obtain⟨i,hi,rfl⟩:=cU.1 ha;have hi:=cZ.1 hi;have he:=hall (i:Int) (by omega) (by omega);obtain⟨-,-,-,⟨-,-,-,h1⟩|⟨k,q,-,-,h1,-⟩|⟨-,h1,-⟩⟩:=h.p.jr (i:Int) (by omega) (by omega) _ _ (n'.st (i:Int) (by omega) (by omega))
   ·exact h1
   ·exact aT (he.symm.trans h1) (by decide)
   ·exact aT (he.symm.trans h1) (by decide)
  have hs:∀l:List Nat,(∀a∈l,a=0)->l.sum=0:=by
   intro l
   induction l with
   |nil=>intro _;rfl
   |cons a l ih=>
    intro h;rw[hY,h a dK,ih λb hb=>h b (dQ a hb)]
  exact hs _ this
 exact⟨by rw[Asi n' v' hall,h.out],by omega,hall⟩
end
theorem Ao3{n:Int}{e:ExprT}{l l':List Int}(h:Al (1,n,e,l)=0)(hs:l'.Sublist l):Al (1,n,e,l')=0:=by
 have hi:=Hm h;have i1:l.length<=200:=hi.1;have i2:l.any Aj=false:=hi.2;rw[Mc (show(1:Int)<=1 by decide) (show(1:Int)<=10 by decide)]at h ⊢;unfold Gb at h ⊢;have f3:ck3 ((1,n,e,l):StT)=false:=bE (by show ¬(200:Int)<(l.length:Int);omega);have e3:ck3 ((1,n,e,l'):StT)=false:=bE (by have:=hs.length_le;show ¬(200:Int)<(l'.length:Int);omega);have e4:(((1,n,e,l'):StT).2.2.2.any Aj)=false:=by
  rw[dA]at i2 ⊢
  exactλa ha=>i2 a (hs.subset ha)
 rw[f3,show(((1,n,e,l):StT).2.2.2.any Aj)=false from i2]at h;rw[e3,e4];exact h
structure Like(x y:PlT):Prop where
 ps:y.2=x.2
 ln:y.1.length=x.1.length
 ot:∀i:Int,(sg x i).1≠1->sg y i=sg x i
 sr:∀i:Int,(sg x i).1=1->∃l,l.Sublist (sg x i).2.2.2/\sg y i=(1,(sg x i).2.1,(sg x i).2.2.1,l)
theorem Like.kd{x y:PlT}(h:Like x y)(i:Int):(sg y i).1=(sg x i).1/\(sg y i).2.1=(sg x i).2.1/\(sg y i).2.2.1=(sg x i).2.2.1:=by
 by_cases h1:(sg x i).1=1
 ·obtain⟨l,-,e⟩:=h.sr i h1;rw[e];exact⟨h1.symm,rfl,rfl⟩
 ·rw[h.ot i h1];exact⟨rfl,rfl,rfl⟩
theorem Amn{x:PlT}{i:Int}(h:x.1.length<=i.toNat):sg x i=zStg:=by
 unfold sg;exact D3 h
theorem Like.ck{x y:PlT}(h:Like x y)(w:WF x)(i:Int):Al (sg y i)=Al (sg x i):=by
 by_cases hi:i.toNat<x.1.length
 ·have hx:Al (sg x i)=0:=w.st i.toNat hi;rw[hx];by_cases h1:(sg x i).1=1
  ·obtain⟨l,hl,e⟩:=h.sr i h1;rw[e];have e2:sg x i=(1,(sg x i).2.1,(sg x i).2.2.1,(sg x i).2.2.2):=by rw[<-h1]
   rw[e2]at hx;exact Ao3 hx hl
  ·rw[h.ot i h1];exact hx
 ·rw[Amn (x:=x) (by omega),Amn (x:=y) (by rw[h.ln];omega)]
theorem Like.io{x y:PlT}(h:Like x y)(w:WF x)(i:Int):stIn (sg y i)=stIn (sg x i)/\stOut (sg y i)=stOut (sg x i):=by
 unfold stIn stOut;rw[h.ck w i,(h.kd i).1];exact⟨rfl,rfl⟩
theorem Ao4{l l':List StT}(hl:l'.length=l.length)(h:∀i:Nat,stIn (l'.getD i zStg)=stIn (l.getD i zStg)/\stOut (l'.getD i zStg)=stOut (l.getD i zStg)):Es l'=Es l:=by
 unfold Es;have:∀(l l':List StT)(a:Int),l'.length=l.length->(∀i:Nat,stIn (l'.getD i zStg)=stIn (l.getD i zStg)/\stOut (l'.getD i zStg)=stOut (l.getD i zStg))->l'.foldl (λa s=>a+(stIn s+stOut s)) a=l.foldl (λa s=>a+(stIn s+stOut s)) a:=by
  intro l
  induction l with
  |nil=>intro l' a hl _;rw[cV hl]
  |cons b l ih=>
   intro l' a hl h;cases l' with
   |nil=>cases hl
   |cons c l'=>
    have h0:=h 0;replace h0:stIn c=stIn b/\stOut c=stOut b:=h0;rw[cM,cM,h0.1,h0.2];exact ih l' _ (Nat.succ.inj hl) λi=>h (i+1)
 exact this l l' 0 hl h
theorem Like.wf{x y:PlT}(h:Like x y)(w:WF x):WF y:=by
 have hg:∀i:Nat,x.1.getD i zStg=sg x (i:Int):=λi=>rfl
 have hg':∀i:Nat,y.1.getD i zStg=sg y (i:Int):=λi=>rfl
 refine⟨by rw[h.ln];exact w.n1,by rw[h.ln];exact w.n16,λi hi=>?_,by rw[h.ps];exact w.p32,λk hk=>?_, ?_, ?_⟩
 ·rw[hg',h.ck w];exact w.st i (by rw[<-h.ln];exact hi)
 ·rw[h.ps]at hk ⊢;have hp:=w.pp k hk;unfold H7 at hp ⊢;have e1:Hr y (x.2.getD k Ag)=Hr x (x.2.getD k Ag):=by
   unfold Hr;rw[h.ln,(h.io w _).1,(h.io w _).2]
  have e2:∀i n,pOut y i n=pOut x i n:=λi n=>by unfold pOut;rw[h.ps]
  have e3:∀i n,pIn y i n=pIn x i n:=λi n=>by unfold pIn;rw[h.ps]
  rw[e1,e2,e3,(h.kd _).1,(h.kd _).2.1];exact hp
 ·rw[h.ps,Ao4 h.ln λi=>by rw[hg,hg'];exact h.io w i];exact w.ends
 ·rw[h.ps,h.ln];exact w.tree
theorem Like.ord{x y:PlT}(h:Like x y):Ad y=Ad x:=by
 unfold Ad Dt;rw[h.ln,h.ps]
def Cat(A B C:List (List Int)):Prop:=B.length=A.length/\C.length=A.length/\∀j,A.getD j []=B.getD j []++C.getD j []
theorem Aga{p q r:List Int}(h:p=q++r):Cat [p] [q] [r]:=⟨rfl,rfl,λj=>by
 cases j with
 |zero=>exact h
 |succ j=>rw[D3 (by simp),D3 (by simp),D3 (by simp)];rfl⟩
theorem At4{p q r p' q' r':List Int}(h:p=q++r)(h':p'=q'++r'):Cat [p,p'] [q,q'] [r,r']:=⟨rfl,rfl,λj=>by
 cases j with
 |zero=>exact h
 |succ j=>
  cases j with
  |zero=>exact h'
  |succ j=>rw[D3 (by simp),D3 (by simp),D3 (by simp)];rfl⟩
theorem Ap5:Cat [] [] []:=⟨rfl,rfl,λj=>by rw[D3 (aV j)];rfl⟩
theorem Cat.set{A B C:List (List Int)}{p q r:List Int}(h:Cat A B C)(k:Nat)(e:p=q++r):Cat (A.set k p) (B.set k q) (C.set k r):=by
 refine⟨by rw[cE,cE,h.1],by rw[cE,cE,h.2.1],λj=>?_⟩;rw[Cc,Cc,Cc,h.1,h.2.1];split
 ·exact e
 ·exact h.2.2 j
theorem Cat.map{α:Type}{f g k:α->List Int}(h:∀a,f a=g a++k a):∀l:List α,Cat (l.map f) (l.map g) (l.map k)
 |[]=>Ap5
 |a::l=>by
  have ih:=Cat.map h l;refine⟨by rw[bN,bN],by rw[bN,bN],λj=>?_⟩;cases j with
  |zero=>exact h a
  |succ j=>exact ih.2.2 j
def Rq(y:StT):Prop:=y.1≠4/\y.1≠6/\y.1≠8/\y.1≠9
theorem Asj{k:Int}(hk:1<=k/\k<=10)(h:k≠4/\k≠6/\k≠8/\k≠9):k=1\/k=2\/k=3\/k=5\/k=7\/k=10:=by omega
theorem Ao5{y z u:StT}{a b c:List (List Int)}(hk:1<=y.1/\y.1<=10)(hm:Rq y)(hz:z.1=y.1/\z.2.1=y.2.1/\z.2.2.1=y.2.2.1)(hu:u.1=y.1/\u.2.1=y.2.1/\u.2.2.1=y.2.2.1)
 (hs:y.1=1->y.2.2.2=z.2.2.2++u.2.2.2)(h:a.getD 0 []=b.getD 0 []++c.getD 0 []):Cat (E8 y a) (E8 z b) (E8 u c):=by
 obtain⟨k,n,e,l⟩:=y;obtain⟨k1,n1,e1,l1⟩:=z;obtain⟨k2,n2,e2,l2⟩:=u;obtain⟨q1,q2,q3⟩:=hz;obtain⟨p1,p2,p3⟩:=hu;replace q1:k1=k:=q1;replace q2:n1=n:=q2;replace q3:e1=e:=q3;replace p1:k2=k:=p1;replace p2:n2=n:=p2;replace p3:e2=e:=p3;subst q1;subst q2;subst q3;subst p1;subst p2;subst p3;rcases Asj hk hm with rfl|rfl|rfl|rfl|rfl|rfl
 ·exact Aga (hs rfl)
 ·exact Aga (show(a.getD 0 []).map _=_ by rw[h,eL])
 ·exact Aga (show(a.getD 0 []).filter _=_ by rw[h,eC])
 ·exact Aga (show(a.getD 0 []).flatMap _=_ by rw[h,List.flatMap_append])
 ·exact At4 (show(a.getD 0 []).filter _=_ by rw[h,eC]) (show(a.getD 0 []).filter _=_ by rw[h,eC])
 ·exact Ap5
theorem Agb:∀{xs:List (List Int)},(∀a∈xs,a.length<=200/\a.any Aj=false)->Bc xs=0
 |[],_=>rfl
 |a::l,h=>by
  obtain⟨h1,h2⟩:=h a dK;rw[Bc,aL (by unfold A5;rw[bE (by omega)];decide),aL (by rw[h2];decide)];exact Agb λb hb=>h b (dQ a hb)
theorem Abx{xs:List (List Int)}(h:Bc xs=0):∀i,(xs.getD i []).length<=200/\(xs.getD i []).any Aj=false:=λi=>by
 by_cases hi:i<xs.length
 ·exact Bi h hi
 ·rw[D3 (by omega)];exact⟨by simp,rfl⟩
theorem Amo{α:Type}{xs:List α}{a d:α}(h:a∈xs):∃i,xs.getD i d=a:=by
 obtain⟨i,hi,rfl⟩:=dM.1 h;exact⟨i,A1 hi⟩
theorem W7{y z:StT}{a b:List (List Int)}(hk:Rq y)(hz:z.1=y.1/\z.2.1=y.2.1/\z.2.2.1=y.2.2.1)(hc:Al z=0)(hl:b.length=a.length)(hb:∀j,(b.getD j []).Sublist (a.getD j []))
 (ho:∀j,((E8 z b).getD j []).length<=((E8 y a).getD j []).length)(h:(Ar y a).2=0):(Ar z b).2=0:=by
 obtain⟨-,h1,h2,h3,h4⟩:=Cy.1 h;obtain⟨m4,m6,m8,m9⟩:=hk;refine Cy.2 ⟨hc,by rw[hl,hz.1];exact h1,Agb λc hcm=>?_,⟨λhk c hcm=>?_,λh9=>aT (hz.1.symm.trans h9) m9,λh9=>aT (hz.1.symm.trans h9) m4⟩, ?_⟩
 ·obtain⟨i,rfl⟩:=Amo (d:=[]) hcm;obtain⟨g1,g2⟩:=Abx h2 i;refine⟨cP (hb i).length_le g1, ?_⟩;rw[dA]at g2 ⊢
  exactλv hv=>g2 v ((hb i).subset hv)
 ·rw[hz.1]at hk;rw[hz.2.2];exact h3.1 hk c ((hb 0).subset hcm)
 ·rw[dA]at h4 ⊢;intro c hcm;obtain⟨i,rfl⟩:=Amo (d:=[]) hcm;have h5:=ho i;have h6:((E8 y a).getD i []).length<=200:=by
   by_cases hi:i<(E8 y a).length
   ·have:=h4 _ (cJ hi);rw[A1 hi];have:=aQ (p:=200<(((E8 y a)[i].length:Nat):Int)) (fM.2 this);omega
   ·rw[D3 (by omega)];exact aV _
  unfold A5;rw[bE (by omega)];decide
section
variable {x y z:PlT}
theorem Like.pOut(h:Like x y)(i n:Int):pOut y i n=pOut x i n:=by unfold Go.Proofs.YtpabcdbaffjcdaaGreat.pOut;rw[h.ps]
theorem Like.pIn(h:Like x y)(i n:Int):pIn y i n=pIn x i n:=by unfold Go.Proofs.YtpabcdbaffjcdaaGreat.pIn;rw[h.ps]
theorem Like.ins(h:Like x y)(w:WF x)(S:List (List Int))(i:Int):Bj y S i=Bj x S i:=by
 unfold Bj;rw[(h.io w i).1];exact eJ λn _=>by rw[h.pIn]
theorem Ao6{S A B:List (List Int)}(c:Cat S A B)(i:Int):Cat (Bj x S i) (Bj x A i) (Bj x B i):=Cat.map (λn=>c.2.2 _) _
theorem Ao7(hy:Like x y)(hz:Like x z)(i:Int){o p q S A B:List (List Int)}(co:Cat o p q)(c:Cat S A B):Cat (Qw x i o S) (Qw y i p A) (Qw z i q B):=by
 unfold Qw;rw[co.1,co.2.1];generalize List.range o.length=l
 induction l generalizing S A B with
 |nil=>exact c
 |cons n l ih=>
  rw[cM,cM,cM];refine ih ?_;unfold Qv;rw[hy.pOut,hz.pOut];exact c.set _ (co.2.2 n)
theorem So{A B C:List (List Int)}(c:Cat A B C)(j:Nat):(B.getD j []).length<=(A.getD j []).length/\(C.getD j []).length<=(A.getD j []).length/\(B.getD j []).Sublist (A.getD j [])/\(C.getD j []).Sublist (A.getD j []):=by
 rw[c.2.2 j];exact⟨by simp,by simp,List.sublist_append_left _ _,List.sublist_append_right _ _⟩
theorem W8(w:WF x)(hy:Like x y)(hz:Like x z)(hm:∀i:Int,0<=i->i<x.1.length->Rq (sg x i))(hs:∀i:Int,(sg x i).1=1->(sg x i).2.2.2=(sg y i).2.2.2++(sg z i).2.2.2):
 ∀(l:List Int)(S A B K L M:List (List Int)),(∀i∈l,0<=i/\i<x.1.length)->Cat S A B->Cat K L M->(F1 x l S K).2=0->(F1 y l A L).2=0/\(F1 z l B M).2=0/\Cat (F1 x l S K).1 (F1 y l A L).1 (F1 z l B M).1
 |[],S,A,B,K,L,M,_,_,c,_=>by
  refine⟨rfl,rfl, ?_⟩;have e:∀{v:PlT},Like x v->((List.range v.1.length).filter λi=>isSink (v.1.getD i zStg))=(List.range x.1.length).filter λi=>isSink (x.1.getD i zStg):=λ{v} hv=>by
   rw[hv.ln];refine iA λi _=>?_
   show decide ((sg v (i:Int)).1=10)=decide ((sg x (i:Int)).1=10);rw[(hv.kd _).1]
  show Cat (Abk x.1 K) (Abk y.1 L) (Abk z.1 M);unfold Abk;rw[e hy,e hz];exact Cat.map (λi=>c.2.2 i) _
 |i::l,S,A,B,K,L,M,hr,c,d,h=>by
  obtain⟨i0,iN⟩:=hr i dK;rw[F1]at h;by_cases h0:(Ar (sg x i) (Bj x S i)).2=0
  ·rw[aL (λh=>h h0)]at h;obtain⟨h1,-⟩:=Cy.1 h0;have ci:=Ao6 (x:=x) c i;have co:Cat (E8 (sg x i) (Bj x S i)) (E8 (sg y i) (Bj x A i)) (E8 (sg z i) (Bj x B i)):=Ao5 (B1 h1) (hm i i0 iN) (hy.kd i) (hz.kd i) (hs i) (ci.2.2 0);have my:(Ar (sg y i) (Bj y A i)).2=0:=by
    rw[hy.ins w];exact W7 (hm i i0 iN) (hy.kd i) (by rw[hy.ck w];exact h1) ci.1 (λj=>(So ci j).2.2.1) (λj=>(So co j).1) h0
   have mz:(Ar (sg z i) (Bj z B i)).2=0:=by
    rw[hz.ins w];exact W7 (hm i i0 iN) (hz.kd i) (by rw[hz.ck w];exact h1) ci.2.1 (λj=>(So ci j).2.2.2) (λj=>(So co j).2.1) h0
   rw[F1,F1,F1,aL (dT.2 h0),aL (dT.2 my),aL (dT.2 mz)];refine W8 w hy hz hm hs l _ _ _ _ _ _ (λj hj=>hr j (dQ i hj)) ?_ ?_ h
   ·rw[Sk h0,Sk my,Sk mz,hy.ins w,hz.ins w];exact Ao7 hy hz i co c
   ·unfold Ym;rw[(hy.kd i).1,(hz.kd i).1,hy.ins w,hz.ins w];split
    ·exact d.set _ (ci.2.2 0)
    ·exact d
  ·rw[aP h0]at h;exact aT h h0
theorem Aip(hy:Like x y)(hz:Like x z)(hm:∀i:Int,0<=i->i<x.1.length->Rq (sg x i))(hs:∀i:Int,(sg x i).1=1->(sg x i).2.2.2=(sg y i).2.2.2++(sg z i).2.2.2)(h:(B7 x).2=0):
 Fa y=0/\Fa z=0/\(B7 y).2=0/\(B7 z).2=0/\Cat (B7 x).1 (B7 y).1 (B7 z).1:=by
 have h0:Fa x=0:=Classical.byContradiction λhn=>by
  unfold B7 at h;rw[aP hn]at h;exact hn h
 have w:=Cz.1 h0;have hy0:=Cz.2 (hy.wf w);have hz0:=Cz.2 (hz.wf w);unfold B7 at h ⊢;rw[aL (λh=>h h0)]at h;rw[aL (dT.2 h0),aL (dT.2 hy0),aL (dT.2 hz0),hy.ord,hz.ord,hy.ps,hz.ps,hy.ln,hz.ln];have tp:=U1 w;have cr:∀n:Nat,Cat (List.replicate n []) (List.replicate n []) (List.replicate n []):=λn=>⟨rfl,rfl,λj=>by rw[Du];rfl⟩
 exact⟨hy0,hz0,W8 w hy hz hm hs _ _ _ _ _ _ _ (λi hi=>(tp.all i).1 hi) (cr _) (cr _) h⟩
end
theorem Ask{x x':PlT}(h0:Fa x=0)(ct:∀i:Int,(sg x i).1≠1->sg x' i=sg x i)(cs:∀i:Int,(sg x i).1=1->∃n:Nat,n<=(sg x i).2.2.2.length/\sg x' i=((sg x i).1,(sg x i).2.1,(sg x i).2.2.1,(sg x i).2.2.2.take n))
 (ps:x'.2=x.2)(hl:x'.1.length=x.1.length)(he:(B7 x').2=0):∃S J r T O,Kp x x' S J/\Kn x x' S J (Ca x).1 r T O/\(B7 x').1=G9 x' S/\Oe x r<=402*x.1.length:=by
 have w:=Cz.1 h0;obtain⟨w',S,sol,hS⟩:=U4 he;have hkd:∀i:Int,(sg x' i).1=(sg x i).1:=λi=>by
  by_cases h:(sg x i).1=1
  ·obtain⟨n,-,e⟩:=cs i h;rw[e]
  ·rw[ct i h]
 have hpo:∀i n:Int,pOut x' i n=pOut x i n:=λi n=>by unfold pOut;rw[ps]
 have hok:∀i:Int,0<=i->i<x.1.length->(Ar (sg x' i) (Bj x' S i)).2=0:=λi i0 iN=>sol.ok i i0 (by rw[hl];exact iN)
 have hst:∀i:Int,0<=i->i<x.1.length->stOut (sg x' i)=stOut (sg x i):=λi i0 iN=>by
  have h1:=(Hq (hok i i0 iN)).1;have h2:Al (sg x i)=0:=w.st i.toNat (by omega);rw[Ll h1,Ll h2,hkd]
 have hruns:∀i:Int,∃J:Nat->RT->Prop,0<=i->i<x.1.length->(∀r t,J r t->Rnd (sg x' i) (Bj x' S i) J r t)/\J (tot (sg x' i) (Bj x' S i)) (start (sg x' i) (Bj x' S i)):=λi=>by
  by_cases h:0<=i/\i<x.1.length
  ·obtain⟨J,hJ⟩:=Af7 (hok i h.1 h.2);exact⟨J,λ_ _=>hJ⟩
  ·exact⟨λ_ _=>True,λa b=>aT ⟨a,b⟩ h⟩
 let J:Int->Nat->RT->Prop:=λi=>(hruns i).choose
 have hJ:∀i:Int,0<=i->i<x.1.length->(∀r t,J i r t->Rnd (sg x' i) (Bj x' S i) (J i) r t)/\J i (tot (sg x' i) (Bj x' S i)) (start (sg x' i) (Bj x' S i)):=λi=>(hruns i).choose_spec
 have p:Kp x x' S J:=by
  refine⟨w,λi h=>?_,λi h=>?_,ps,λi i0 iN=>(Hq (hok i i0 iN)).1,λi o i0 iN o0 oN=>?_,λi i0 iN=>(hJ i i0 iN).1,λk hk=>?_⟩
  ·exact ct i h
  ·exact cs i h
  ·rw[<-hpo];exact sol.out i i0 (by rw[hl];exact iN) o o0 (by rw[hst i i0 iN];exact oN)
  ·have q:=w.pipe hk;have h1:=sol.out (x.2.getD k Ag).1 q.f0 (by rw[hl];exact q.fn) (x.2.getD k Ag).2.1 q.o0 (by rw[hst _ q.f0 q.fn];exact q.on);rw[hpo,show pOut x (x.2.getD k Ag).1 (x.2.getD k Ag).2.1=(k:Int)from q.out,bH]at h1;rw[h1];obtain⟨-,-,-,-,hb⟩:=Cy.1 (hok _ q.f0 q.fn);by_cases hlt:(x.2.getD k Ag).2.1.toNat<(E8 (sg x' (x.2.getD k Ag).1) (Bj x' S (x.2.getD k Ag).1)).length
   ·have:=dA.1 hb _ (cJ hlt);rw[A1 hlt];have h10:=aQ (p:=200<(((E8 (sg x' (x.2.getD k Ag).1) (Bj x' S (x.2.getD k Ag).1))[(x.2.getD k Ag).2.1.toNat].length:Nat):Int)) (fM.2 this);omega
   ·rw[D3 (by omega)];exact aV _
 have n0:Kn x x' S J (Ca x).1 (λi=>tot (sg x' i) (Bj x' S i)) (λi=>List.replicate (Bj x' S i).length 0) (λi=>List.replicate (Ap (sg x' i).1).2.1.toNat []):=by
  have hcr:∀k<x.2.length,((Ca x).1.2.1.getD k zCred).2.2.2.2.1=[]/\((Ca x).1.2.1.getD k zCred).2.2.2.1=0:=λk hk=>by
   have q:=w.pipe hk;rw[Ig w];show((x.2.map newC).getD k zCred).2.2.2.2.1=[]/\((x.2.map newC).getD k zCred).2.2.2.1=0;rw[Jo (d:=Ag) hk,(Yz q.c1 q.c100).1];exact⟨rfl,rfl⟩
  refine⟨λi i0 iN=>?_,λk hk=>?_,λk hk=>?_,λk hk=>?_,λi i0 iN _=>?_,λi i0 iN _ h=>?_⟩
  ·rw[U6 w];exact(hJ i i0 iN).2
  ·rw[(hcr k hk).1,Du,Du,hU]
  ·rw[(hcr k hk).2,Du]
  ·rw[Du,Du];exact cO 0
  ·rw[Ig w,Du,Du];rfl
  ·rw[U6 w]at h;cases h
 exact⟨S,J,_,_,_,p,n0,hS,Ad6 x.1.length λi i0 iN=>Aml (hok i i0 iN)⟩
section
variable {x:PlT}{S:List (List Int)}{J:Int->Nat->RT->Prop}
theorem Amp(p:Kp x x S J){l:List Int}:∀(m k:Nat)(s:FsT)(o:List Int)(r:Int->Nat)(T:Int->List Int)(O:Int->List (List Int)),Kn x x S J s r T O->VS x s->s.2.2.2=false->
 (Dg x l m k s o).2.2=0/\∃r' T' O',Kn x x S J (Dg x l m k s o).1 r' T' O'/\VS x (Dg x l m k s o).1/\(Dg x l m k s o).1.2.2.2=false/\(Dg x l m k s o).2.1.length+Oe x r'=o.length+Oe x r/\((Dg x l m k s o).2.1.length=o.length+m\/G8 x (Dg x l m k s o).1)
 |0,k,s,o,r,T,O,n,v,hd=>⟨rfl,r,T,O,n,v,hd,rfl,.inl rfl⟩
 |m+1,k,s,o,r,T,O,n,v,hd=>by
  by_cases hs:G8 x s
  ·rw[Km hs];exact⟨rfl,r,T,O,n,v,hd,rfl,.inr hs⟩
  ·obtain⟨hv,i0,iN,hen⟩:=Yy (l:=l) (k:=k) hs;obtain⟨he,r',T',O',n',hr1,hr2⟩:=n.step p v i0 iN hen λh1=>⟨λh=>h.resolve_left (by rw[hd];decide),λh=>.inr h⟩
   rw[Pp hs he];have rs:=Po he;obtain⟨a0,r2,T2,O2,a1,a2,a3,a5,a6⟩:=Amp p (l:=l) m (k+1) _ (o++[Ek x l k s]) r' T' O' n' rs.vs (by rw[rs.dr,hd]);have ht:=U5 i0 iN hr1 hr2;rw[bD,eG]at a5 a6;refine⟨a0,r2,T2,O2,a1,a2,a3,by omega, ?_⟩;rcases a6 with a6|a6
   ·exact .inl (by omega)
   ·exact .inr a6
theorem Asl{s:FsT}{r:Int->Nat}{T:Int->List Int}{O:Int->List (List Int)}(n:Kn x x S J s r T O)(v:VS x s)(he:∀i:Int,0<=i->i<x.1.length->(Ay s i).2.2=true):s.2.2.1=G9 x S:=by
 have hc:=Nc isSink zStg x.1 x.1.length (bA _);rw[dD]at hc;have hlo:=v.lo;have hln:(G9 x S).length=s.2.2.1.length:=by
  unfold G9;rw[bN];unfold Bm at hlo;omega
 refine gO hln.symm λj h1 h2=>?_
 have h3:=h2;unfold G9 at h3;rw[bN]at h3;obtain⟨i,a,b,c,d⟩:=Pw _ _ j h3;have ik:(sg x (i:Int)).1=10:=aM b;have e1:Fy x (i:Int)=j:=by rw[Amm x (by omega),d]
 have e2:(G9 x S).getD j []=(Bj x S (i:Int)).getD 0 []:=by
  unfold G9;rw[Jo (d:=0) h3,c]
 have e3:=n.ou i (by omega) (by omega) ik;rw[e1]at e3;rw[<-A1 (d:=[]) h1,<-A1 (d:=[]) h2,e2,e3,n.en i (by omega) (by omega) ik (he i (by omega) (by omega)),bH,dD]
end
theorem Agc{x:PlT}{s:FsT}(w:WF x)(v:VS x s)(h:∀i:Int,0<=i->i<x.1.length->(Ay s i).2.2=true):Rx x s=true:=by
 unfold Rx;rw[aX (Bz.2 ⟨w,v⟩),fV,bV];intro t ht;obtain⟨i,hi,rfl⟩:=dM.1 ht;have hil:i<x.1.length:=by have:=v.ls;omega
 have:=h (i:Int) (by omega) (by omega);unfold Ay at this;rw[bH,A1 hi]at this;exact this
structure Whole(x:PlT)(l:List Int)(m:Int)(R:FsT×List Int×Int):Prop where
 e0:R.2.2=0
 v:VS x R.1
 dr:R.1.2.2.2=false
 fi:402*x.1.length<m.toNat->Rx x R.1=true/\R.1.2.2.1=(B7 x).1
theorem Amq{x:PlT}(he:(B7 x).2=0)(l:List Int){m:Int}(m0:0<=m)(mN:m<=10000):Whole x l m (B2 x (Ca x).1 l m):=by
 have h0:Fa x=0:=Classical.byContradiction λhn=>by
  unfold B7 at he;rw[aP hn]at he;exact hn he
 have w:=Cz.1 h0;obtain⟨S,J,r,T,O,p,n,hS,ht⟩:=Ask h0 (x':=x) (λ_ _=>rfl) (λi h=>⟨_,bA _,by rw[dD]⟩) rfl rfl he;have e:B2 x (Ca x).1 l m=Dg x l m.toNat 0 (Ca x).1 []:=by
  unfold B2;rw[aL (λh'=>h' (Bz.2 ⟨w,Ad5 w⟩)),aL (by omega)]
 rw[e];obtain⟨a0,r',T',O',n',v',hd,a3,a4⟩:=Amp p (l:=l) m.toNat 0 (Ca x).1 [] r T O n (Ad5 w) (by rw[Ig w]);rw[List.length_nil,dF]at a3 a4;refine⟨a0,v',hd,λhm=>?_⟩;have hst:G8 x (Dg x l m.toNat 0 (Ca x).1 []).1:=by
  rcases a4 with a4|a4
  ·omega
  ·exact a4
 have hall:=W6 w v' hst;exact⟨Agc w v' hall,by rw[Asl n' v' hall,hS]⟩
def Aby(y:StT)(n:Int):StT:=(y.1,y.2.1,y.2.2.1,y.2.2.2.drop n.toNat)
def Abz(y:StT)(s:List SST)(i:Nat):Bool:=decide (y.1=1)&&(decide (i<s.length)&&(decide (0<=(s.getD i ([],0,false)).2.1)&&decide ((s.getD i ([],0,false)).2.1<=(y.2.2.2.length:Int))))
def Rr(l:List StT)(s:List SST)(i:Nat):StT:=if Abz (l.getD i zStg) s i=true then Aby (l.getD i zStg) (s.getD i ([],0,false)).2.1 else l.getD i zStg
def El(x:PlT)(s:FsT):PlT:=((List.range x.1.length).map (Rr x.1 s.1),x.2)
theorem Y1{x:PlT}{s:FsT}(v:VS x s)(i:Int):sg (El x s) i=if(sg x i).1=1 then Aby (sg x i) (Ay s i).2.1 else sg x i:=by
 unfold sg El;show((List.range x.1.length).map _).getD i.toNat zStg=_;by_cases h:i.toNat<x.1.length
 ·rw[Jo (d:=0) (by rw[dU];exact h),A1 (by rw[dU];exact h),fL];unfold Rr;have hs:i.toNat<s.1.length:=by have:=v.ls;omega
  by_cases h1:(x.1.getD i.toNat zStg).1=1
  ·have hb:0<=(s.1.getD i.toNat ([],0,false)).2.1/\(s.1.getD i.toNat ([],0,false)).2.1<=((x.1.getD i.toNat zStg).2.2.2.length:Int):=Qy v (i:=(i.toNat:Int)) (by omega) (by omega) h1;rw[aP h1,aP]
   ·rfl
   ·unfold Abz;rw[aX h1,aX hs,aX hb.1,aX hb.2];rfl
  ·rw[aL h1,aL];unfold Abz;rw[bE h1,Bool.false_and]
   decide
 ·have e:x.1.getD i.toNat zStg=zStg:=D3 (by omega);rw[D3 (by rw[bN,dU];omega),e,aL (by decide)]
theorem Amr{x:PlT}(h:(B7 x).2=0)(j:Nat):((B7 x).1.getD j []).length<=200:=by
 obtain⟨w,S,sol,hS⟩:=U4 h;rw[hS];by_cases hj:j<(G9 x S).length
 ·unfold G9 at hj ⊢;rw[bN]at hj;rw[Jo (d:=0) hj];obtain⟨i,a,b,c,d⟩:=Pw _ _ j hj;rw[c];exact(Abx (Cy.1 (sol.ok (i:Int) (by omega) (by omega))).2.2.1 0).1
 ·rw[D3 (by omega)];exact aV _
structure Again(x:PlT)(l m:List Int)(k:Int):Prop where
 e1:(B2 x (Ca x).1 l k).2.2=0
 bg:Jw x (B2 x (Ca x).1 l k).1=(drS (B2 x (Ca x).1 l k).1,0)
 e2:(B2 x (drS (B2 x (Ca x).1 l k).1) m 5000).2.2=0
 f2:Rx x (B2 x (drS (B2 x (Ca x).1 l k).1) m 5000).1=true
 c3:Fa (El x (B2 x (Ca x).1 l k).1)=0
 e3:(B2 (El x (B2 x (Ca x).1 l k).1) (Ca (El x (B2 x (Ca x).1 l k).1)).1 l 5000).2.2=0
 f3:Rx (El x (B2 x (Ca x).1 l k).1) (B2 (El x (B2 x (Ca x).1 l k).1) (Ca (El x (B2 x (Ca x).1 l k).1)).1 l 5000).1=true
 ct:Cat (B7 x).1 (B2 x (drS (B2 x (Ca x).1 l k).1) m 5000).1.2.2.1 (B2 (El x (B2 x (Ca x).1 l k).1) (Ca (El x (B2 x (Ca x).1 l k).1)).1 l 5000).1.2.2.1
theorem again{x:PlT}(h12:x.1.length<=12)(he:(B7 x).2=0)(hm:∀i:Int,0<=i->i<x.1.length->Rq (sg x i))(l m:List Int){k:Int}(k0:0<=k)(kN:k<=10000):Again x l m k:=by
 have h0:Fa x=0:=Classical.byContradiction λhn=>by
  unfold B7 at he;rw[aP hn]at he;exact hn he
 have w:=Cz.1 h0;have W1:=Amq he l k0 kN;obtain⟨s,hs⟩:∃s,(B2 x (Ca x).1 l k).1=s:=⟨_,rfl⟩;have v:VS x s:=hs ▸ W1.v;have lc:Like x (C3 x s):=⟨rfl,Y0 x s,λi h=>by rw[Of];exact aL h,λi h=>⟨_,List.take_sublist (Ay s i).2.1.toNat _,by rw[Of];unfold Abl;rw[aP h,h]⟩⟩;have lr:Like x (El x s):=⟨rfl,by unfold El;rw[bN,dU],λi h=>by rw[Y1 v];exact aL h,λi h=>⟨_,List.drop_sublist (Ay s i).2.1.toNat _,by rw[Y1 v,aP h];unfold Aby;rw[h]⟩⟩;obtain⟨-,c3,m1,m2,ct⟩:=Aip lc lr hm (λi h=>by
  rw[Of,Y1 v,aP h];unfold Abl Aby;rw[aP h];exact(gR _ _).symm) he
 have hx:Abm x s=B7 (C3 x s):=by
  unfold Abm;rw[aL (λh=>h (Bz.2 ⟨w,v⟩))]
 obtain⟨S,J,r,T,O,wy⟩:=Avs h0 hs W1.e0 (by rw[hx];exact m1);have t5:Oe x r<(5000:Int).toNat:=by
  have h1:=wy.tt;have h2:(5000:Int).toNat=5000:=rfl;omega
 have R:=wy.run m (m:=5000) (by decide) (by decide);obtain⟨o1,-,o3⟩:=R.ou t5;have W2:=Amq m2 l (m:=5000) (by decide) (by decide);obtain⟨f3,o4⟩:=W2.fi (by
  have h1:(El x s).1.length=x.1.length:=lr.ln;have h2:(5000:Int).toNat=5000:=rfl;omega)
 refine⟨W1.e0,by rw[hs];exact wy.beg,by rw[hs];exact R.e0,by rw[hs];exact Agc w R.v o3,by rw[hs];exact c3,by rw[hs];exact W2.e0,by rw[hs];exact f3, ?_⟩;rw[hs,o1,o4,hx];exact ct
theorem Ao8{c:Int}{l:List Int}(h:c≠0):I8 (c::l)=c:=aP h
theorem At5{l:List Int}:I8 (0::l)=I8 l:=aL (λh=>h rfl)
theorem Agd{a b:EdgT}:Ry a b<0<->(a.1<b.1\/a.1=b.1/\a.2<b.2):=by
 unfold Ry Aoq;rcases iC a.1 b.1 with h|h|h
 ·rw[aP h,Ao8 (by decide)];exact⟨λ_=>.inl h,λ_=>by decide⟩
 ·rw[aL (by omega),aL (by omega),At5];rcases iC a.2 b.2 with g|g|g
  ·rw[aP g,Ao8 (by decide)];exact⟨λ_=>.inr ⟨h,g⟩,λ_=>by decide⟩
  ·rw[aL (by omega),aL (by omega),At5];exact⟨λk=>aT k (by decide),λk=>by omega⟩
  ·rw[aL (by omega),aP g,Ao8 (by decide)];exact⟨λk=>aT k (by decide),λk=>by omega⟩
 ·rw[aL (by omega),aP h,Ao8 (by decide)];exact⟨λk=>aT k (by decide),λk=>by omega⟩
def leE(a b:EdgT):Prop:=¬Ry b a<0
def QI(i j:Nat)(d:List EdgT):Prop:=(∀k,k+1<=i->k+1≠j->leE (d.getD k (0,0)) (d.getD (k+1) (0,0)))/\(1<=j->j+1<=i->leE (d.getD (j-1) (0,0)) (d.getD (j+1) (0,0)))
theorem Age{i:Nat}:∀(j:Nat)(d:List EdgT),j<=i->i<d.length->QI i j d->(Ko j d).length=d.length/\∀k,k+1<=i->leE ((Ko j d).getD k (0,0)) ((Ko j d).getD (k+1) (0,0))
 |0,d,_,_,h=>⟨rfl,λk hk=>h.1 k hk (by omega)⟩
 |j+1,d,hj,hi,h=>by
  unfold Ko;by_cases hc:Ry (d.getD (j+1) (0,0)) (d.getD j (0,0))<0
  ·rw[aP hc];have hg:∀k,((d.set (j+1) (d.getD j (0,0))).set j (d.getD (j+1) (0,0))).getD k (0,0)=if k=j then d.getD (j+1) (0,0)else if k=j+1 then d.getD j (0,0)else d.getD k (0,0):=λk=>by
    rw[Cc,Cc,cE];by_cases h1:k=j
    ·subst h1;rw[aP ⟨rfl,by omega⟩,aP rfl]
    ·rw[aL (by omega),aL h1];by_cases h2:k=j+1
     ·subst h2;rw[aP ⟨rfl,by omega⟩,aP rfl]
     ·rw[aL (by omega),aL h2]
   have hq:QI i j ((d.set (j+1) (d.getD j (0,0))).set j (d.getD (j+1) (0,0))):=by
    refine⟨λk hk hkj=>?_,λh1 h2=>?_⟩
    ·rw[hg,hg];by_cases e1:k=j
     ·subst e1;rw[aP rfl,aL (by omega),aP rfl];unfold leE;rw[Agd]at hc ⊢;omega
     ·rw[aL e1];by_cases e2:k=j+1
      ·subst e2;rw[aP rfl,aL (by omega),aL (by omega)];have:=h.2 (by omega) hk
       rwa [Nat.add_sub_cancel]at this
      ·rw[aL e2,aL (by omega),aL (by omega)];exact h.1 k hk (by omega)
    ·rw[hg,hg,aL (by omega),aL (by omega),aL (by omega),aP rfl];have:=h.1 (j-1) (by omega) (by omega)
     rwa [show j-1+1=j by omega]at this
   obtain⟨r1,r2⟩:=Age j _ (by omega) (by rw[cE,cE];exact hi) hq;exact⟨by rw[r1,cE,cE],r2⟩
  ·rw[aL hc];refine⟨rfl,λk hk=>?_⟩;by_cases e:k+1=j+1
   ·have e:k=j:=by omega
    subst e;exact hc
   ·exact h.1 k hk e
theorem Agf:∀(k i:Nat)(d:List EdgT),i+k=d.length->(∀a,a+1<i->leE (d.getD a (0,0)) (d.getD (a+1) (0,0)))->∀a,a+1<d.length->leE ((Rz k i d).getD a (0,0)) ((Rz k i d).getD (a+1) (0,0))
 |0,i,d,h,hs=>λa ha=>hs a (by omega)
 |k+1,i,d,h,hs=>by
  obtain⟨r1,r2⟩:=Age (i:=i) i d (bA _) (by omega) ⟨λa ha hne=>hs a (by omega),λh1 h2=>by omega⟩;intro a ha;exact Agf k (i+1) (Ko i d) (by rw[r1];omega) (λb hb=>r2 b (by omega)) a (by rw[r1];exact ha)
theorem Ao9(d:List EdgT):∀a,a+1<(Bt d).length->leE ((Bt d).getD a (0,0)) ((Bt d).getD (a+1) (0,0)):=λa ha=>by
 have hl:=(Kq d).length_eq;exact Agf (d.length-1) 1 d (by omega) (λb hb=>by omega) a (by omega)
theorem Aiq{α:Type}{p:α->Bool}{l:List α}{i j:Nat}{d:α}(hij:i<j)(hj:j<l.length)(h1:p (l.getD i d)=true)(h2:p (l.getD j d)=true):2<=l.countP p:=by
 have a:=Ip p l j d hj h2;have hi:i<(l.take j).length:=by rw[bP];omega
 have b:0<(l.take j).countP p:=gU.2 ⟨(l.take j)[i],cJ hi,by rw[iB,<-A1 (d:=d)];exact h1⟩;omega
theorem Air{x:PlT}(w:WF x):(Dt x).Nodup:=by
 unfold Dt;rw[List.Nodup,List.pairwise_map,gA];intro i j hi hj hij e;have e1:=(Prod.mk.inj e).1;have e2:=(Prod.mk.inj e).2;have q:=w.pipe hi;have hb:∀{k:Nat}(hk:k<x.2.length),(x.2.getD k Ag).1=(x.2.getD i Ag).1->(x.2.getD k Ag).2.2.1=(x.2.getD i Ag).2.2.1->Gd [(x.2.getD i Ag).1,(x.2.getD i Ag).2.2.1] (x.2.getD k Ag)=true:=λhk h1 h2=>by
  unfold Gd;rw[h1,h2];simp
 have h2:=Aiq (p:=Gd [(x.2.getD i Ag).1,(x.2.getD i Ag).2.2.1]) hij hj (hb hi rfl rfl) (hb hj (by rw[A1 hi,A1 hj];exact e1.symm) (by rw[A1 hi,A1 hj];exact e2.symm));have h3:=Us (B:=[(x.2.getD i Ag).1,(x.2.getD i Ag).2.2.1]) (l:=x.2) (n:=x.1.length) (by simp) (λv hv=>by
  rcases cT.1 hv with rfl|hv
  ·exact⟨q.f0,q.fn⟩
  ·rw[bT.1 hv];exact⟨q.t0,q.tn⟩) w.tree
 simp only[List.length_cons,List.length_nil]at h3;omega
theorem Ams{x:PlT}(w:WF x):x.2.length<x.1.length:=by
 have hn:=w.n1;have h:=Us (B:=ints x.1.length) (l:=x.2) (n:=x.1.length) (λh=>by
  have:=bI List.length h;rw[Ej,List.length_nil]at this;omega) (λv hv=>Dm.1 hv) w.tree
 rw[Ej]at h;have hc:x.2.countP (Gd (ints x.1.length))=x.2.length:=by
  rw[List.countP_eq_length];intro y hy;obtain⟨k,hk,rfl⟩:=dM.1 hy;have q:=w.pipe hk;rw[A1 hk]at q;unfold Gd;rw[aX (Dm.2 ⟨q.f0,q.fn⟩),aX (Dm.2 ⟨q.t0,q.tn⟩)];rfl
 omega
theorem Asm{x:PlT}(w:WF x)(h:x.1.length<=12):okO x:=by
 have hp:=Ams w;have hn:=w.n1;have hm:∀e,e∈Bt (Dt x)<->e∈Dt x:=λe=>(Kq _).mem_iff
 have hlen:(Bt (Dt x)).length=x.2.length:=by rw[(Kq _).length_eq];unfold Dt;rw[bN]
 have hk:∀e∈Bt (Dt x),(0<=e.1/\e.1<x.1.length)/\(0<=e.2/\e.2<x.1.length)/\e.1≠e.2:=λe he=>by
  obtain⟨y,hy,rfl⟩:=cU.1 ((hm e).1 he);obtain⟨k,hk,rfl⟩:=dM.1 hy;have q:=w.pipe hk;have ne:=w.ne hk;rw[A1 hk]at q ne;exact⟨⟨q.f0,q.fn⟩,⟨q.t0,q.tn⟩,ne⟩
 have hd:(Bt (Dt x)).Nodup:=(Kq _).nodup_iff.2 (Air w);refine⟨by omega,⟨⟨⟨by omega,by omega,by omega⟩,λk hkl=>?_,λk hkl=>?_⟩,by omega,by omega⟩,λe he=>(hk e he).2.2⟩
 ·have:=hk _ (cJ hkl);rw[A1 hkl];exact⟨this.1,this.2.1⟩
 ·have h1:=Ao9 (Dt x) k hkl;unfold leE at h1;rw[Agd]at h1;have h2:(Bt (Dt x)).getD k (0,0)≠(Bt (Dt x)).getD (k+1) (0,0):=by
   rw[A1 (by omega),A1 hkl];intro e;have:=(gA.1 hd) k (k+1) (by omega) hkl (by omega);exact this e
  have h3:¬(((Bt (Dt x)).getD k (0,0)).1=((Bt (Dt x)).getD (k+1) (0,0)).1/\((Bt (Dt x)).getD k (0,0)).2=((Bt (Dt x)).getD (k+1) (0,0)).2):=λ⟨a,b⟩=>h2 (Prod.ext a b)
  omega
end Go.Proofs.YtpabcdbaffjcdaaGreat
