/- Pipelines. -/
import Derived.Test.YtckpldpombdkgaaGreatEK1
set_option linter.unusedSimpArgs false
set_option linter.unusedVariables false
set_option maxRecDepth 100000
namespace Go.Proofs.YtckpldpombdkgaaGreat
open Go.Sx
theorem Js{α:Type}{n k:Nat}{a:α}:(List.replicate n a).getD k a=a:=by
 rw[aY,eO];split<;>rfl
theorem S4{α β:Type}{f:α->β}{l:List α}{k:Nat}{d:α}{e:β}(h:k<l.length):(l.map f).getD k e=f (l.getD k d):=by
 rw[A1 (by rw[bM];exact h),eL,A1 h]
theorem Agg{y:PipeT}(h1:1<=y.2.2.2.2)(h2:y.2.2.2.2<=100):newC y=(y.2.2.2.2,y.2.2.2.2,0,0,[],false)/\A8 (newC y)=0:=by
 have hb:inR y.2.2.2.2 1 100=true:=Lo.2 ⟨h1,h2⟩;have e1:Vn y.2.2.2.2=((y.2.2.2.2,0,0,0,[],false),0):=aL (by rw[hb];decide);have h3:=(Aok (n:=y.2.2.2.2) (by rw[e1])).1;unfold newC;rw[e1]at h3 ⊢;have e2:=Abf (n:=y.2.2.2.2) h3 h1 rfl (by show y.2.2.2.2<=0+y.2.2.2.2-0;omega) (by show 0+y.2.2.2.2<=1099511627776;omega);have h4:=(Afw (c:=(y.2.2.2.2,0,0,0,[],false)) (n:=y.2.2.2.2) (by rw[e2])).2.1;refine⟨?_,h4⟩;rw[e2];show(y.2.2.2.2,0+y.2.2.2.2,0,0,[],false)=_;rw[Int.zero_add]
theorem P4{x:PlT}(w:WF x):F8 x=((List.replicate x.1.length ([],0,false),x.2.map newC,List.replicate (Bp x.1).toNat [],false),0):=aL (λh=>h (Ez.2 w))
theorem Ad6{x:PlT}(w:WF x)(i:Int):Az (F8 x).1 i=([],0,false):=by
 rw[P4 w];exact Js
theorem Asc{x:PlT}(w:WF x):VS x (F8 x).1:=by
 have hss:=Ad6 w;rw[P4 w]at hss ⊢;refine⟨bY,bM _, ?_,λi hi=>?_,λl hl=>?_,λk hk=>?_,λi hi n hn=>?_⟩
 ·show((List.replicate (Bp x.1).toNat ([]:List Int)).length:Int)=_;rw[bY];unfold Bp;omega
 ·rw[hss];have h0:Ap (sg x (i:Int))=0:=w.st i hi;have hz:=Ay h0;exact B3.2 ⟨h0,Jr hz.1 hz.2.2⟩
 ·have:=List.eq_of_mem_replicate hl;rw[this];rfl
 ·have q:=w.pipe hk;obtain⟨e1,e2⟩:=Agg q.c1 q.c100;show U1 _ _ ((x.2.map newC).getD k zCred)=false;rw[S4 (d:=Ai) hk,D1,hss];refine⟨e2,by rw[e1],by rw[e1],λ_=>by rw[e1];show(x.2.getD k Ai).2.2.2.2=0+(x.2.getD k Ai).2.2.2.2;omega⟩
 ·rw[hss]at hn;exfalso;unfold By at hn;split at hn
  ·exact cY hn
  ·split at hn
   ·exact cY hn
   ·rw[aL (by rintro⟨-,h⟩;cases h)]at hn;exact cY hn
theorem Mo(x:PlT)(s:FsT)(i:Int):sg (Bz x s) i=R8 (sg x i) (Az s i).2.1:=by
 unfold sg Bz L1 Az;show((List.range x.1.length).map _).getD i.toNat zStg=_;by_cases h:i.toNat<x.1.length
 ·rw[S4 (d:=0) (by rw[dT];exact h),A1 (by rw[dT];exact h),gD,aN h]
 ·rw[Je (by rw[bM,dT];omega),Je (by omega)];unfold R8;rw[aL (by decide)]
theorem Jt(x:PlT)(s:FsT):(Bz x s).1.length=x.1.length:=by
 unfold Bz L1;rw[bM,dT]
theorem G1(x:PlT)(s:FsT)(i:Int):(sg (Bz x s) i).1=(sg x i).1:=by
 rw[Mo];unfold R8;split<;>rfl
theorem Ams{x:PlT}{l:List Int}{m:Int}{s0:FsT}(h:(Bm x s0 l m).2.2=0):Cl x s0=0/\Bm x s0 l m=Ds x l m.toNat 0 s0 []:=by
 unfold Bm at h ⊢;by_cases h1:Cl x s0=0
 ·rw[aL (λh=>h h1)]at h ⊢;by_cases h2:m<0\/10000<m
  ·rw[aN h2]at h;exact aS h (by decide)
  ·rw[aL h2];exact⟨h1,rfl⟩
 ·rw[aN h1]at h;exact aS h (by decide)
theorem Amt{x:PlT}{s:FsT}(h:(G3 x s).2=0):Cl x s=0/\G3 x s=Fv (Bz x s):=by
 unfold G3 at h ⊢;by_cases h1:Cl x s=0
 ·rw[aL (λh=>h h1)];exact⟨h1,rfl⟩
 ·rw[aN h1]at h;exact aS h (by decide)
theorem Asd{x:StT}{ins:List (List Int)}(h:(Av x ins).2=0):tot x ins<=402:=by
 obtain⟨h0,h1,h2,-⟩:=Gw h;unfold tot;split
 ·have:=(Ip h0).1;omega
 ·have hb:ins.length<=2:=by
   have:(Aq x.1).1<=2:=by
    unfold Aq
    repeat' split
    all_goals decide
   omega
  have hg:∀i<ins.length,(ins.getD i []).length<=200:=λi hi=>(Bn h2 hi).1
  match ins,hb,hg with
  |[],_,_=>decide
  |[a],_,hg=>
   have:=hg 0 (by simp);replace this:a.length<=200:=this;simp;omega
  |[a,b],_,hg=>
   have h1:=hg 0 (by simp);have h2:=hg 1 (by simp);replace h1:a.length<=200:=h1;replace h2:b.length<=200:=h2;simp;omega
structure Way(x:PlT)(s:FsT)(S:List (List Int))(J:Int->Nat->RT->Prop)(r:Int->Nat)(T:Int->List Int)(O:Int->List (List Int)):Prop where
 p:Kp x (Bz x s) S J
 n:Kn x (Bz x s) S J s r T O
 v:VS x s
 dr:s.2.2.2=false
 out:(G3 x s).1=Ly (Bz x s) S
 cn:∀i:Int,0<=i->i<x.1.length->(sg x i).1=1->((sg (Bz x s) i).2.2.2.length:Int)=(Az s i).2.1
 tt:Q6 x r<=402*x.1.length
theorem Amu{f:Int->Nat}:∀n:Nat,(∀i:Int,0<=i->i<n->f i<=402)->((List.range n).map λi:Nat=>f (i:Int)).sum<=402*n
 |0,_=>by simp
 |n+1,h=>by
  rw[dA,eG,List.sum_append];simp only[eB,List.map_nil,hU,List.sum_nil,dG];have:=Amu n λi a b=>h i a (by omega)
  have:=h (n:Int) (by omega) (by omega);omega
theorem Avr{x:PlT}(h0:Gf x=0){l:List Int}{m:Int}{s:FsT}(hs:(Bm x (F8 x).1 l m).1=s)(hr:(Bm x (F8 x).1 l m).2.2=0)(he:(G3 x s).2=0):∃S J r T O,Way x s S J r T O:=by
 have w:=Ez.1 h0;obtain⟨hv,hrun⟩:=Ams hr;rw[hrun]at hs hr;obtain⟨hvs,hexp⟩:=Amt he;have v:=(Bh.1 hvs).2;rw[hexp]at he;obtain⟨w',S,sol,hS⟩:=Ve he;have hl:=Jt x s;have hok:∀i:Int,0<=i->i<x.1.length->(Av (sg (Bz x s) i) (B5 (Bz x s) S i)).2=0:=λi i0 iN=>sol.ok i i0 (by rw[hl];exact iN)
 have hst:∀i:Int,0<=i->i<x.1.length->stOut (sg (Bz x s) i)=stOut (sg x i):=λi i0 iN=>by
  have h1:=(Gw (hok i i0 iN)).1;have h2:Ap (sg x i)=0:=w.st i.toNat (by omega);rw[Ja h1,Ja h2,G1]
 have hruns:∀i:Int,∃J:Nat->RT->Prop,0<=i->i<x.1.length->(∀r t,J r t->Rnd (sg (Bz x s) i) (B5 (Bz x s) S i) J r t)/\J (tot (sg (Bz x s) i) (B5 (Bz x s) S i)) (start (sg (Bz x s) i) (B5 (Bz x s) S i)):=λi=>by
  by_cases h:0<=i/\i<x.1.length
  ·obtain⟨J,hJ⟩:=Ao5 (hok i h.1 h.2);exact⟨J,λ_ _=>hJ⟩
  ·exact⟨λ_ _=>True,λa b=>aS ⟨a,b⟩ h⟩
 have hcn:∀i:Int,0<=i->i<x.1.length->(sg x i).1=1->((sg (Bz x s) i).2.2.2.length:Int)=(Az s i).2.1:=λi i0 iN h1=>by
  have hb:=Q5 v i0 iN h1;rw[Mo];unfold R8;rw[aN h1];show(((sg x i).2.2.2.take (Az s i).2.1.toNat).length:Int)=_;rw[bO];omega
 let J:Int->Nat->RT->Prop:=λi=>(hruns i).choose
 have hJ:∀i:Int,0<=i->i<x.1.length->(∀r t,J i r t->Rnd (sg (Bz x s) i) (B5 (Bz x s) S i) (J i) r t)/\J i (tot (sg (Bz x s) i) (B5 (Bz x s) S i)) (start (sg (Bz x s) i) (B5 (Bz x s) S i)):=λi=>(hruns i).choose_spec
 have p:Kp x (Bz x s) S J:=by
  refine⟨w,λi h=>?_,λi h=>?_,rfl,λi i0 iN=>(Gw (hok i i0 iN)).1,λi o i0 iN o0 oN=>?_,λi i0 iN=>(hJ i i0 iN).1,λk hk=>?_⟩
  ·rw[Mo];exact aL h
  ·rw[Mo];unfold R8;rw[aN h];by_cases hc:(Az s i).2.1.toNat<=(sg x i).2.2.2.length
   ·exact⟨_,hc,rfl⟩
   ·refine⟨_,bB _, ?_⟩;rw[bL (by omega),bL (bB _)]
  ·exact sol.out i i0 (by rw[hl];exact iN) o o0 (by rw[hst i i0 iN];exact oN)
  ·have q:=w.pipe hk;have h1:=sol.out (x.2.getD k Ai).1 q.f0 (by rw[hl];exact q.fn) (x.2.getD k Ai).2.1 q.o0 (by rw[hst _ q.f0 q.fn];exact q.on);rw[show B8 (Bz x s) (x.2.getD k Ai).1 (x.2.getD k Ai).2.1=(k:Int)from q.out,bE]at h1;rw[h1];obtain⟨-,-,-,-,hb⟩:=Eg.1 (hok _ q.f0 q.fn);by_cases hlt:(x.2.getD k Ai).2.1.toNat<(Id (sg (Bz x s) (x.2.getD k Ai).1) (B5 (Bz x s) S (x.2.getD k Ai).1)).length
   ·have:=dJ.1 hb _ (cI hlt);rw[A1 hlt];have h10:=aP (p:=200<(((Id (sg (Bz x s) (x.2.getD k Ai).1) (B5 (Bz x s) S (x.2.getD k Ai).1))[(x.2.getD k Ai).2.1.toNat].length:Nat):Int)) (hY.2 this);omega
   ·rw[Je (by omega)];exact aV _
 have n0:Kn x (Bz x s) S J (F8 x).1 (λi=>tot (sg (Bz x s) i) (B5 (Bz x s) S i)) (λi=>List.replicate (B5 (Bz x s) S i).length 0) (λi=>List.replicate (Aq (sg (Bz x s) i).1).2.1.toNat []):=by
  have hcr:∀k<x.2.length,((F8 x).1.2.1.getD k zCred).2.2.2.2.1=[]/\((F8 x).1.2.1.getD k zCred).2.2.2.1=0:=λk hk=>by
   have q:=w.pipe hk;rw[P4 w];show((x.2.map newC).getD k zCred).2.2.2.2.1=[]/\((x.2.map newC).getD k zCred).2.2.2.1=0;rw[S4 (d:=Ai) hk,(Agg q.c1 q.c100).1];exact⟨rfl,rfl⟩
  refine⟨λi i0 iN=>?_,λk hk=>?_,λk hk=>?_,λk hk=>?_,λi i0 iN _=>?_,λi i0 iN _ h=>?_⟩
  ·rw[Ad6 w];exact(hJ i i0 iN).2
  ·rw[(hcr k hk).1,Js,Js,List.drop_nil]
  ·rw[(hcr k hk).2,Js]
  ·rw[Js,Js];exact cJ 0
  ·rw[P4 w,Js,Js];rfl
  ·rw[Ad6 w]at h;cases h
 obtain⟨r,T,O,n,v',hd,ht⟩:=Amq p (l:=l) m.toNat 0 (F8 x).1 [] _ _ _ n0 (Asc w) (by rw[P4 w]) hr (by rw[hs];exact hcn);rw[hs]at n v' hd;refine⟨S,J,r,T,O,p,n,v',hd,by rw[hexp];exact hS,hcn,cO ht ?_⟩;exact Amu x.1.length λi i0 iN=>Asd (hok i i0 iN)
theorem Ab2(q:Nat->Bool):∀n j,j<((List.range n).filter q).length->∃i,i<n/\q i=true/\((List.range n).filter q).getD j 0=i/\((List.range i).filter q).length=j
 |0,j,h=>by simp at h
 |n+1,j,h=>by
  rw[dA,eA]at h ⊢;by_cases hj:j<((List.range n).filter q).length
  ·obtain⟨i,a,b,c,d⟩:=Ab2 q n j hj;refine⟨i,by omega,b, ?_,d⟩;rw[A1 (by rw[bD];omega),gF hj,<-A1,c]
  ·by_cases hq:q n=true
   ·have e:[n].filter q=[n]:=by rw[cU,aN hq];rfl
    rw[e]at h ⊢;rw[bD,eD]at h;have hjj:j=((List.range n).filter q).length:=by omega
    refine⟨n,by omega,hq, ?_,hjj.symm⟩;rw[A1 (by rw[bD,eD];omega),List.getElem_append_right (by omega)];simp[hjj]
   ·have e:[n].filter q=[]:=by rw[cU,aL hq];rfl
    rw[e,cB]at h;omega
theorem Q7{α:Type}(p:α->Bool)(d:α)(l:List α):∀i,i<=l.length->(l.take i).countP p=((List.range i).filter λk=>p (l.getD k d)).length
 |0,_=>by simp
 |i+1,h=>by
  rw[bS h,List.countP_append,Q7 p d l i (by omega),dA,eA,bD]
  congr 1
  rw[A1 (d:=d) h |>.symm];by_cases hp:p (l.getD i d)=true
  ·rw[dV,aN hp,cU,aN hp];rfl
  ·rw[dV,aL hp,cU,aL hp];rfl
theorem Ase(x:PlT){i:Nat}(h:i<=x.1.length):Fu x (i:Int)=((List.range i).filter λk=>isSink (x.1.getD k zStg)).length:=by
 unfold Fu Bp;rw[bE,bE,Q7 isSink zStg x.1 i h]
section
variable {x:PlT}{s:FsT}{S:List (List Int)}{J:Int->Nat->RT->Prop}{r:Int->Nat}{T:Int->List Int}{O:Int->List (List Int)}{y:FsT}
theorem Ry(x:PlT)(y:FsT):((List.range (Bz x y).1.length).filter λi=>isSink ((Bz x y).1.getD i zStg))=(List.range x.1.length).filter λi=>isSink (x.1.getD i zStg):=by
 rw[Jt];refine List.filter_congr λi hi=>?_
 have:=G1 x y (i:Int);unfold isSink;rw[show(Bz x y).1.getD i zStg=sg (Bz x y) (i:Int)from rfl,this];rfl
theorem Kv(v:VS x s):(Ly (Bz x y) S).length=s.2.2.1.length:=by
 have hlo:=v.lo;unfold Ly;rw[bM,Ry];have h:=Q7 isSink zStg x.1 x.1.length (bB _);rw[dM]at h;unfold Bp at hlo;omega
theorem S5{j:Nat}(h:j<(Ly (Bz x y) S).length):∃i:Int,0<=i/\i<x.1.length/\(sg x i).1=10/\Fu x i=j/\(Ly (Bz x y) S).getD j []=(B5 (Bz x y) S i).getD 0 []:=by
 unfold Ly at h ⊢;rw[bM]at h;rw[S4 (d:=0) h];rw[Ry]at h ⊢;obtain⟨i,a,b,c,d⟩:=Ab2 _ _ j h;refine⟨(i:Int),by omega,by omega,aM b, ?_,by rw[c]⟩;rw[Ase x (by omega),d]
theorem Asf(n:Kn x (Bz x y) S J s r T O)(v:VS x s){j:Nat}(h:j<s.2.2.1.length):s.2.2.1.getD j [] <+: (Ly (Bz x y) S).getD j []:=by
 obtain⟨i,i0,iN,ik,h1,h2⟩:=S5 (x:=x) (y:=y) (S:=S) (by rw[Kv v];exact h);rw[h2,<-h1,n.ou i i0 iN ik];exact List.take_prefix _ _
theorem Asg(n:Kn x (Bz x y) S J s r T O)(v:VS x s)(he:∀i:Int,0<=i->i<x.1.length->(Az s i).2.2=true):s.2.2.1=Ly (Bz x y) S:=by
 refine iE (Kv v).symm λj h1 h2=>?_
 obtain⟨i,i0,iN,ik,h3,h4⟩:=S5 (x:=x) (y:=y) (S:=S) h2;rw[<-A1 (d:=[]) h1,<-A1 (d:=[]) h2,h4,<-h3,n.ou i i0 iN ik,n.en i i0 iN ik (he i i0 iN),bE,dM]
end
def drS(s:FsT):FsT:=(s.1,s.2.1,s.2.2.1,true)
theorem Ap2{x:PlT}{s:FsT}(v:VS x s):VS x (drS s):=⟨v.ls,v.lc,v.lo,v.nd,v.os,v.cr,v.no⟩
section
variable {x:PlT}{s:FsT}{S:List (List Int)}{J:Int->Nat->RT->Prop}{r:Int->Nat}{T:Int->List Int}{O:Int->List (List Int)}
theorem Kn.draining{x':PlT}(n:Kn x x' S J s r T O):Kn x x' S J (drS s) r T O:=⟨n.st,n.se,n.tk,n.le,n.ou,n.en⟩
theorem Way.beg(h:Way x s S J r T O):Hl x s=(drS s,0):=by
 unfold Hl;rw[aL (λh'=>h' (Bh.2 ⟨h.p.w,h.v⟩)),aL (by rw[h.dr];decide)];rfl
structure Ran(x:PlT)(s:FsT)(r:Int->Nat)(m:Nat)(R:FsT×List Int×Int):Prop where
 e0:R.2.2=0
 v:VS x R.1
 dr:R.1.2.2.2=true
 cn:∀i:Int,0<=i->i<x.1.length->(sg x i).1=1->(Az R.1 i).2.1=(Az s i).2.1
 ou:Q6 x r<m->R.1.2.2.1=(G3 x s).1/\R.2.1.length=Q6 x r/\(∀i:Int,0<=i->i<x.1.length->(Az R.1 i).2.2=true)
theorem Ait{t:FsT}(w:WF x)(v:VS x t)(h:G8 x t):∀i:Int,0<=i->i<x.1.length->(Az t i).2.2=true:=λi i0 iN=>by
 refine Classical.byContradiction λhne=>?_
 obtain⟨j,j0,jN,hj⟩:=Al6 w v i0 iN (by simpa using hne);have he:Al x t=((ints x.1.length).filter (λi=>(Be x t i).2),0):=by
  unfold Al;rw[aL (λh=>h (Bh.2 ⟨w,v⟩))]
 unfold G8 at h;rw[he]at h;rcases h with h|h
 ·exact h rfl
 ·have:j∈(ints x.1.length).filter (λi=>(Be x t i).2):=cS.2 ⟨Dl.2 ⟨j0,jN⟩,hj⟩;exact cY (show j∈([]:List Int)from h ▸ this)
theorem Way.run(h:Way x s S J r T O)(l:List Int){m:Int}(m0:0<=m)(mN:m<=10000):Ran x s r m.toNat (Bm x (drS s) l m):=by
 have e:Bm x (drS s) l m=Ds x l m.toNat 0 (drS s) []:=by
  unfold Bm;rw[aL (λh'=>h' (Bh.2 ⟨h.p.w,Ap2 h.v⟩)),aL (by omega)]
 rw[e];obtain⟨a0,r',T',O',n',v',a1,a2,a3,a4⟩:=Amr h.p (l:=l) m.toNat 0 (drS s) [] r T O h.n.draining (Ap2 h.v) rfl h.cn;rw[List.length_nil,dF]at a3 a4;refine⟨a0,v',a1,a2,λhm=>?_⟩;have hst:G8 x (Ds x l m.toNat 0 (drS s) []).1:=by
  rcases a4 with a4|a4
  ·omega
  ·exact a4
 have hall:=Ait h.p.w v' hst;have hz:Q6 x r'=0:=by
  unfold Q6;have:∀a∈(List.range x.1.length).map (λi:Nat=>r' (i:Int)),a=0:=λa ha=>by
   obtain⟨i,hi,rfl⟩:=cR.1 ha;have hi:=cZ.1 hi;have he:=hall (i:Int) (by omega) (by omega);obtain⟨-,-,-,⟨-,-,-,h1⟩|⟨k,q,-,-,h1,-⟩|⟨-,h1,-⟩⟩:=h.p.jr (i:Int) (by omega) (by omega) _ _ (n'.st (i:Int) (by omega) (by omega))
   ·exact h1
   ·exact aS (he.symm.trans h1) (by decide)
   ·exact aS (he.symm.trans h1) (by decide)
  have hs:∀l:List Nat,(∀a∈l,a=0)->l.sum=0:=by
   intro l
   induction l with
   |nil=>intro _;rfl
   |cons a l ih=>
    intro h;rw[hU,h a dP,ih λb hb=>h b (dZ a hb)]
  exact hs _ this
 exact⟨by rw[Asg n' v' hall,h.out],by omega,hall⟩
end
theorem Amv{f:Int->List Int}{a b:List Int}(h:a <+: b):a.flatMap f <+: b.flatMap f:=by
 obtain⟨c,rfl⟩:=h;rw[List.flatMap_append];exact gE _ _
theorem Amw{a b:List Int}(h:a <+: b)(n:Nat):a.take n <+: b.take n:=by
 obtain⟨c,rfl⟩:=h;rw[List.take_append];exact gE _ _
theorem Ao7{y z:StT}{a b:List (List Int)}(hk:1<=y.1/\y.1<=10)(h4:y.1≠4/\y.1≠8/\y.1≠9)(h1:z.1=y.1/\z.2.1=y.2.1/\z.2.2.1=y.2.2.1)(hs:y.1=1->y.2.2.2 <+: z.2.2.2)(h:a.getD 0 [] <+: b.getD 0 []):
 ∀o,(Id y a).getD o [] <+: (Id z b).getD o []:=by
 obtain⟨k,n,e,l⟩:=y;obtain⟨k',n',e',l'⟩:=z;obtain⟨e1,e2,e3⟩:=h1;replace e1:k'=k:=e1;replace e2:n'=n:=e2;replace e3:e'=e:=e3;subst e1;subst e2;subst e3;replace hk:1<=k'/\k'<=10:=hk;replace h4:k'≠4/\k'≠8/\k'≠9:=h4;have one:∀{u v:List Int},u <+: v->∀o,([u]:List (List Int)).getD o [] <+: ([v]:List (List Int)).getD o []:=λ{u v} huv o=>by
  cases o with
  |zero=>exact huv
  |succ o=>rw[Je (by simp),Je (by simp)];exact eN _
 have hkk:k'=1\/k'=2\/k'=3\/k'=5\/k'=6\/k'=7\/k'=10:=by omega
 rcases hkk with rfl|rfl|rfl|rfl|rfl|rfl|rfl
 ·exact one (hs rfl)
 ·exact one (h.map _)
 ·exact one (h.filter _)
 ·exact one (Amv h)
 ·exact one (Amw h _)
 ·intro o;cases o with
  |zero=>exact h.filter _
  |succ o=>
   cases o with
   |zero=>exact h.filter _
   |succ o=>rw[Je (by show 2<=o+1+1;omega),Je (by show 2<=o+1+1;omega)];exact eN _
 ·intro o;exact eN _
section
variable {x:PlT}{s t:FsT}{S S':List (List Int)}
theorem Ao8(w:WF x)(hm:∀i:Int,0<=i->i<x.1.length->(sg x i).1≠4/\(sg x i).1≠8/\(sg x i).1≠9)(h1:Sol (Bz x s) S)(h2:Sol (Bz x t) S')
 (hc:srcN x s t):∀l a,Ae x=a++l->(∀i∈a,∀o:Int,0<=o->o<stOut (sg x i)->S.getD (B8 x i o).toNat [] <+: S'.getD (B8 x i o).toNat [])->
 ∀i:Int,0<=i->i<x.1.length->∀o:Int,0<=o->o<stOut (sg x i)->S.getD (B8 x i o).toNat [] <+: S'.getD (B8 x i o).toNat []:=by
 have tp:=Va w;intro l
 induction l with
 |nil=>
  intro a he ha i i0 iN;rw[cB]at he;exact ha i (he ▸ (tp.all i).2 ⟨i0,iN⟩)
 |cons j l ih=>
  intro a he ha;refine ih (a++[j]) (by rw[he];simp) λi hi o o0 oN=>?_
  rcases dD.1 hi with hi|hi
  ·exact ha i hi o o0 oN
  ·have hi:=bP.1 hi;subst hi;obtain⟨i0,iN⟩:=(tp.all i).1 (by rw[he];simp);have hst:Ap (sg x i)=0:=w.st i.toNat (by omega);have k1:=(Gw (h1.ok i i0 (by rw[Jt];exact iN))).1;have k2:=(Gw (h2.ok i i0 (by rw[Jt];exact iN))).1;have o1:stOut (sg (Bz x s) i)=stOut (sg x i):=by rw[Ja k1,Ja hst,G1]
   have o2:stOut (sg (Bz x t) i)=stOut (sg x i):=by rw[Ja k2,Ja hst,G1]
   have i1:stIn (sg (Bz x s) i)=stIn (sg x i):=by rw[Jb k1,Jb hst,G1]
   have i2:stIn (sg (Bz x t) i)=stIn (sg x i):=by rw[Jb k2,Jb hst,G1]
   have e1:=h1.out i i0 (by rw[Jt];exact iN) o o0 (by rw[o1];exact oN);have e2:=h2.out i i0 (by rw[Jt];exact iN) o o0 (by rw[o2];exact oN);rw[show B8 (Bz x s) i o=B8 x i o from rfl]at e1;rw[show B8 (Bz x t) i o=B8 x i o from rfl]at e2;rw[e1,e2];refine Ao7 (B4 k1) (by rw[G1];exact hm i i0 iN) ?_ (λhk=>?_) ?_ o.toNat
   ·rw[Mo,Mo];unfold R8;by_cases h:(sg x i).1=1
    ·rw[aN h,aN h];exact⟨rfl,rfl,rfl⟩
    ·rw[aL h,aL h];exact⟨rfl,rfl,rfl⟩
   ·rw[G1]at hk;have hcc:=(hc i i0 iN hk).1;rw[Mo,Mo];unfold R8;rw[aN hk,aN hk];show(sg x i).2.2.2.take (Az s i).2.1.toNat <+: (sg x i).2.2.2.take (Az t i).2.1.toNat
    exact List.take_prefix_take_left (by omega)
   ·by_cases hz:0<stIn (sg x i)
    ·obtain⟨z,z1,z2,z3,z4⟩:=w.ins i0 iN (cJ 0) hz;have q:=w.pipe z1;have hfrom:(x.2.getD z Ai).1∈a:=tp.pre a i l he ((x.2.getD z Ai).1,(x.2.getD z Ai).2.2.1) (by
      unfold Dc;exact cR.2 ⟨x.2.getD z Ai,by rw[A1 z1];exact cI z1,rfl⟩) z3
     have hp:=ha _ hfrom (x.2.getD z Ai).2.1 q.o0 q.on;rw[q.out,bE]at hp;have g:∀(u:FsT)(R:List (List Int)),stIn (sg (Bz x u) i)=stIn (sg x i)->(B5 (Bz x u) R i).getD 0 []=R.getD z []:=λu R hu=>by
      have hlt:0<(stIn (sg (Bz x u) i)).toNat:=by omega
      unfold B5;rw[A1 (by rw[bM,Dk];exact hlt),eL,<-A1 (d:=0),Pt hlt];show R.getD (pIn x i ((0:Nat):Int)).toNat []=_;rw[show pIn x i ((0:Nat):Int)=(z:Int)from z2,bE]
     rw[g s S i1,g t S' i2];exact hp
    ·have g:∀(u:FsT)(R:List (List Int)),stIn (sg (Bz x u) i)=stIn (sg x i)->(B5 (Bz x u) R i).getD 0 []=[]:=λu R hu=>by
      rw[Je (by rw[Yy];omega)]
     rw[g s S i1,g t S' i2];exact eN _
end
def Ash(s t:FsT):Prop:=s.2.2.1.length=t.2.2.1.length/\∀j,s.2.2.1.getD j [] <+: t.2.2.1.getD j []
theorem StepR.out{x:PlT}{s t:FsT}{i:Int}{m:MvT}(r:StepR x s i m t):Ash s t:=by
 unfold Ash;rw[r.ou];unfold Pr;by_cases h:R4 x i m=true
 ·rw[aN h];refine⟨(cG).symm,λj=>?_⟩;rw[Cn];by_cases hj:Fu x i=j/\j<s.2.2.1.length
  ·rw[aN hj,hj.1];exact gE _ _
  ·rw[aL hj];exact eN _
 ·rw[aL h];exact⟨rfl,λj=>eN _⟩
theorem Ab3{x:PlT}{l:List Int}:∀(m k:Nat)(s:FsT)(o:List Int),(Ds x l m k s o).2.2=0->Ash s (Ds x l m k s o).1
 |0,k,s,o,_=>⟨rfl,λj=>eN _⟩
 |m+1,k,s,o,h=>by
  by_cases hs:G8 x s
  ·rw[Hm hs];exact⟨rfl,λj=>eN _⟩
  ·by_cases he:(Ci x s (D2 x l k s)).2=0
   ·rw[Lr hs he]at h ⊢;have h1:=(Lq he).out;have h2:=Ab3 m (k+1) _ _ h;exact⟨h1.1.trans h2.1,λj=>(h1.2 j).trans (h2.2 j)⟩
   ·rw[Ks hs he]at h;exact aS h he
end Go.Proofs.YtckpldpombdkgaaGreat
