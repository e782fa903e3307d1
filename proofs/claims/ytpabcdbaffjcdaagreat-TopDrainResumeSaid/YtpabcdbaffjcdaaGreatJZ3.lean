/- Pipelines. -/
import Derived.Test.YtpabcdbaffjcdaaGreatJZ2
set_option linter.unusedSimpArgs false
set_option linter.unusedVariables false
set_option maxRecDepth 100000
namespace Go.Proofs.YtpabcdbaffjcdaaGreat
open Go.Sx
def one(b:Bool):Int:=if b=true then 1 else 0
def opF(o a b:Int):Int×Int:=
 if o=3 then(a+b,0)else if o=4 then(a-b,0)else if o=5 then Ch a b
 else if o=6 then(if b=0 then(0,24)else(a.tdiv b,0))else if o=7 then(if b=0 then(0,24)else(a.tmod b,0))
 else if o=8 then(one (decide (a=b)),0)else if o=9 then(one (!decide (a=b)),0)
 else if o=10 then(one (decide (a<b)),0)else if o=11 then(one (decide (a<=b)),0)
 else if o=12 then(one (decide (b<a)),0)else if o=13 then(one (decide (b<=a)),0)
 else if o=14 then(one (bif !decide (a=0)then !decide (b=0)else false),0)
 else(one (bif !decide (a=0)then true else !decide (b=0)),0)
def Qk(l:List Bd)(e:ExprT)(vs:List Int):Int×Int:=
 if e.kind=1 then(e.value,0)else if e.kind=2 then((C2 l e.name).1.2.2,0)
 else if e.kind=3 then(if e.op=2 then(1-vs.getD 0 0,0)else(0-vs.getD 0 0,0))
 else opF e.op (vs.getD 0 0) (vs.getD 1 0)
def Ga(r:Int×Int):Int×Int:=
 if r.2≠0 then(0,r.2)else if 1099511627776<De r.1 then(0,14)else r
mutual
def Fr(l:List Bd):ExprT->Int×Int
 |.mk k o nm v args=>if(Fw l args).2=0 then Ga (Qk l (.mk k o nm v args) (Fw l args).1)else(0,(Fw l args).2)
def Fw(l:List Bd):List ExprT->List Int×Int
 |[]=>([],0)
 |e::r=>if(Fr l e).2=0 then((Fr l e).1::(Fw l r).1,(Fw l r).2)else([],(Fr l e).2)
end
theorem Pf(l:List Bd)(e:ExprT):Fr l e=if(Fw l e.args).2=0 then Ga (Qk l e (Fw l e.args).1)else(0,(Fw l e.args).2):=by
 obtain⟨k,o,nm,v,args⟩:=e;rfl
theorem Wj(l:List Bd){args:List ExprT}{i:Nat}{e0:ExprT}(h:i<args.length):Fw l (args.drop i) =
 if(Fr l (args.getD i e0)).2=0 then((Fr l (args.getD i e0)).1::(Fw l (args.drop (i+1))).1,(Fw l (args.drop (i+1))).2)else([],(Fr l (args.getD i e0)).2):=by
 rw[cG h];simp[Fw,List.getD,h]
def inM(n:Int):Prop:=-1099511627776<=n/\n<=1099511627776
theorem Ae8(r:Int×Int):inM (Ga r).1:=by
 have z:inM 0:=⟨by decide,by decide⟩;unfold Ga;split
 ·exact z
 ·split
  ·exact z
  ·rename_i h;unfold inM;rcases Hh r.1 with⟨h1,h2⟩|⟨h1,h2⟩<;>omega
theorem An7(l:List Bd)(e:ExprT):inM (Fr l e).1:=by
 have z:inM 0:=⟨by decide,by decide⟩;rw[Pf];split
 ·exact Ae8 _
 ·exact z
theorem Pg{n:Int}(h:decide (1099511627776<De n)=true):Ga (n,0)=(0,14):=by
 unfold Ga;rw[aL (by simp),aP (aM h)]
theorem Ph{n:Int}(h:decide (1099511627776<De n)=false):Ga (n,0)=(n,0):=by
 unfold Ga;rw[aL (by simp),aL (aQ h)]
theorem An8{n f:Int}(h:f≠0):Ga (n,f)=(0,f):=by
 unfold Ga;rw[aP h]
theorem X8{vs:List Int}(h:∀v∈vs,inM v)(n:Nat):inM (vs.getD n 0):=by
 by_cases hn:n<vs.length
 ·rw[aZ,aR hn];exact h _ (cJ hn)
 ·rw[aZ,dW (by omega)];exact⟨by decide,by decide⟩
def Akk(l:List Bd):Prop:=∀b∈l,inM b.2.2
theorem An9{l:List Bd}(h:Akk l)(s:ByteArray):inM (C2 l s).1.2.2:=by
 unfold C2;split
 ·exact⟨by decide,by decide⟩
 ·rename_i h1;have h2:=N7 (Kg s) l 0 (cO _);have h3:0<=Ao (Kg s) l 0:=by simpa using h1
  have h4:(Ao (Kg s) l 0).toNat<l.length:=by omega
  refine h _ ?_;simp[aZ,aR h4]
theorem Akl(a b:Int):-1099511627776<=(Ch a b).1/\(Ch a b).1<=1099511627776:=by
 unfold Ch;split
 ·exact⟨by show _<=(0:Int);decide,by show(0:Int)<=_;decide⟩
 ·rename_i h;exact Rj (by simpa using h)
theorem Akm(a b:Int)(h:(Ch a b).2≠0):(Ch a b).1=0:=by
 unfold Ch at h ⊢;split
 ·rfl
 ·rename_i h1;rw[aL h1]at h;exact aT rfl h
theorem Ae9(a b:Int):(a.tdiv b).natAbs<=a.natAbs:=by
 rw[Int.natAbs_tdiv];exact Nat.div_le_self _ _
theorem Aoa(a b:Int):(a.tmod b).natAbs<=a.natAbs:=by
 rw[Int.natAbs_tmod];exact Nat.mod_le _ _
def As5(N:Nat):Ctr:=fnC [dX,Xx] rII (λy=>(Fg y.1=0/\Akk y.2.1)/\exW y.1<N) (λy=>((Fr y.2.1 y.1).1,(Fr y.2.1 y.1).2,()))
def As6(N:Nat):Ctx:=⟨Dk,[(145,([],As5 N)),(160,([],c134)),(163,([],c139)),(176,([],c145))]⟩
set_option maxHeartbeats 8000000 in
theorem Aaw:∀N,GoodC Tryz.prog 145 (As5 N)
 |0=>by
  refine Au Ah 3 _ _ _ _ ⟨_,Tryz.func145,rfl,rfl⟩ λy hn=>?_
  exact aT hn.2 (eE _)
 |N+1=>by
  refine Au (cx:=As6 N) (Ae (Aaw N) (Ae Ae3 (Ae Ae2 (Ae Anu Ah)))) 8 _ _ _ _ ⟨_,Tryz.func145,rfl,rfl⟩ λ(⟨e,l,_⟩:ExprT×List Bd×Unit) hn=>?_
  have hN:exW e<N+1:=hn.2;have hc:Fg e=0:=hn.1.1;have hb:Akk l:=hn.1.2;clear hn;obtain⟨hc1,hc2⟩:=Ud hc;obtain⟨hk,ha,hv,-,-,ho⟩:=X7 hc1;have hl2:=Ae7 ha;refine(aF (λh0=>?_));refine ex4 _ (λp:Nat×List Int=>⟨[.any,.sl tBd l,.ptr 0 0,.any,.any,.any,.own 1,.any,.any,.any,.any,.any,.any,.any,.any,.ptr 0 4,.sl .expr e.args,.int .i64 (↑e.args.length:Int),.int .i64 (p.1:Int)]++nA 73,[.cells   [.int .i64 e.kind,.int .i64 e.op,.str e.name,.int .i64 e.value,.sl .expr e.args],.rows tI p.2],2⟩) (λp=>p.1<=e.args.length/\(p.2.length=p.1/\∀v∈p.2,inM v)/\(Fw l (e.args.drop p.1)).2=(Fw l e.args).2/\((Fw l e.args).2=0->(Fw l e.args).1=p.2++(Fw l (e.args.drop p.1)).1)) (λp=>e.args.length-p.1) (aI (eI ((0,[])) (eI ([some 0,none]) (aI ?_ (aB (aI (aG (aA tT)) (by rfl)))))) ?_)
  ·exact⟨aV _,⟨rfl,by simp⟩,rfl,λ_=>rfl⟩
  rintro⟨i,vs⟩ ⟨hi,⟨hvl,hvi⟩,h2,h3⟩;replace hvl:vs.length=i:=hvl;replace hvi:∀v∈vs,inM v:=hvi;have room:(vs.length+1)*8<=lim:=by
   have:i<=e.args.length:=hi;simp only[lim];omega
  have hend:decide ((i:Int)<(e.args.length:Int))=false->vs.length=e.args.length/\Fr l e=Ga (Qk l e vs):=λh=>by
   have hi':¬i<e.args.length:=by simpa using h
   have hle:i<=e.args.length:=hi;have hnil:e.args.drop i=[]:=bK (by omega);have h2':(Fw l e.args).2=0:=by rw[<-h2];show(Fw l (e.args.drop i)).2=0;rw[hnil];rfl
   have h3':=h3 h2';have h4:(Fw l e.args).1=vs:=by rw[h3'];show vs++(Fw l (e.args.drop i)).1=vs;rw[hnil];simp[Fw]
   refine⟨by omega, ?_⟩;rw[Pf,aP h2',h4]
  have hargs:∀k:Int,e.kind=k->(e.args.length:Int)=[0,0,0,1,2].getD k.toNat 0:=λk h=>by rw[<-h];exact ha
  have v0:-1099511627776<=vs.getD 0 0/\vs.getD 0 0<=1099511627776:=X8 hvi 0;have v1:-1099511627776<=vs.getD 1 0/\vs.getD 1 0<=1099511627776:=X8 hvi 1;have len3:decide ((i:Int)<(e.args.length:Int))=false->decide (e.kind=3)=true->vs.length=1:=λh h'=>by
   have h4:=hargs _ (aM h');simp at h4;rw[(hend h).1];omega
  have len4:decide ((i:Int)<(e.args.length:Int))=false->decide (e.kind=1)=false->decide (e.kind=2)=false->decide (e.kind=3)=false->vs.length=2:=λh h1 h2 h3=>by
   have h1:=aQ h1;have h2:=aQ h2;have h3:=aQ h3;have h4:=hargs 4 (by omega);simp at h4;rw[(hend h).1];omega
  have ln:∀(a:Int)(n:Nat),vs.length=n->0<=a->a<n->0<=a/\a<(vs.length:Int):=λa n h h1 h2=>⟨h1,by omega⟩
  have fi:=An9 hb e.name;have x1:-9223372036854775808<=0-vs.getD 0 0/\0-vs.getD 0 0<=9223372036854775807:=by omega
  have x2:-9223372036854775807<=0-vs.getD 0 0/\0-vs.getD 0 0<=9223372036854775807:=by omega
  have x3:-9223372036854775808<=1-vs.getD 0 0/\1-vs.getD 0 0<=9223372036854775807:=by omega
  have x4:-9223372036854775807<=1-vs.getD 0 0/\1-vs.getD 0 0<=9223372036854775807:=by omega
  have xv:e.kind=1->-9223372036854775807<=e.value/\e.value<=9223372036854775807:=λh=>by
   have:=hv h;omega
  refine(aI (λk0=>(aI (by(intros;(try subst_vars);(try simp only[nB]at *);(try simp only[inK,big,lim,nL]at *);omega)) (aI ?_ (aI (λk1=>(Aa rfl ?_)) (λk1=>(aI (by omega) (aI (by(intros;(try subst_vars);(try simp only[nB]at *);(try simp only[inK,big,lim,nL]at *);omega)) ?_))))))) (λk0=>(aI (λk2=>(aI (λk3=>(xv (aM k2))) (aI (λk4=>(aI (λk5=>(Aa rfl ?_)) (λk5=>False.elim (aY (Eq.symm (Eq.trans (by kernel_rfl) k5)))))) (λk4=>(aI (λk6=>nG k6) (λk6=>(Aa rfl ?_))))))) (λk2=>(aI (λk7=>(aI tT (λ(k8:(ByteArray×Int×Int)×Bool×PUnit)=>(λk9=>(aI (λk10=>?_) (aI (λk11=>(aI (λk12=>(Aa rfl ?_)) (λk12=>False.elim (aY (Eq.symm (Eq.trans (by kernel_rfl) k12)))))) (λk11=>(aI (λk13=>nG k13) (λk13=>(Aa rfl ?_)))))))))) (λk7=>(aI (λk14=>(aI (ln _ _ (len3 k0 k14) (by decide) (by decide)) (aI (x1) (aI (λk15=>(aI (ln _ _ (len3 k0 k14) (by decide) (by decide)) (aI (x3) (aI (λk16=>(x4)) (aI (λk17=>(aI (λk18=>(Aa rfl ?_)) (λk18=>False.elim (aY (Eq.symm (Eq.trans (by kernel_rfl) k18)))))) (λk17=>(aI (λk19=>nG k19) (λk19=>(Aa rfl ?_))))))))) (λk15=>(aI (λk20=>(x2)) (aI (λk21=>(aI (λk22=>(Aa rfl ?_)) (λk22=>False.elim (aY (Eq.symm (Eq.trans (by kernel_rfl) k22)))))) (λk21=>(aI (λk23=>nG k23) (λk23=>(Aa rfl ?_))))))))))) (λk14=>(aK (aI (ln _ _ (len4 k0 k2 k7 k14) (by decide) (by decide)) (aI (ln _ _ (len4 k0 k2 k7 k14) (by decide) (by decide)) (aB (aA (aI (ln _ _ (len4 k0 k2 k7 k14) (by decide) (by decide)) (aB (aA (aI (ln _ _ (len4 k0 k2 k7 k14) (by decide) (by decide)) (aB (aF (aF (aF (aF (aF (aF (aF (aF (aF (aF (aF (aF (aF (aF (aF (aF (aF (aF (aF (aF (aF (aB (aA (aI (ln _ _ (len4 k0 k2 k7 k14) (by decide) (by decide)) (aB (aA (aI (ln _ _ (len4 k0 k2 k7 k14) (by decide) (by decide)) (aB ?_))))))))))))))))))))))))))))))))))))))))))))))
  ·have hi':i<e.args.length:=by simpa using k0
   rw[eta];exact⟨⟨Pe _ _ _ hi' hc2,hb⟩,cA (Le hi') (by omega)⟩
  ·have hi':i<e.args.length:=by simpa using k0
   have hk:(Fr l (e.args.getD i (Ab .expr))).2≠0:=by have h:=k1;simp only[eta]at h;simpa using h
   have hd:=Wj l (e0:=Ab .expr) hi';rw[aL hk]at hd;have h4:(Fw l e.args).2=(Fr l (e.args.getD i (Ab .expr))).2:=by rw[<-h2];show(Fw l (e.args.drop i)).2=_;rw[hd]
   simp only[eta];show((Fr l e).1,(Fr l e).2,())=(0,(Fr l (e.args.getD i (Ab .expr))).2,());rw[Pf,aL (by rw[h4];exact hk),h4]
  ·have hi':i<e.args.length:=by simpa using k0
   have hk:(Fr l (e.args.getD i (Ab .expr))).2=0:=by have h:=k1;simp only[eta]at h;simpa using h
   have hd:=Wj l (e0:=Ab .expr) hi';rw[aP hk]at hd;refine eI ((i+1,vs++[(Fr l (ExprT.mk (e.args.getD i (Ab .expr)).kind (e.args.getD i (Ab .expr)).op (e.args.getD i (Ab .expr)).name (e.args.getD i (Ab .expr)).value (e.args.getD i (Ab .expr)).args)).1])) (eI ([some 0,some 4]) (aI ?_ (aI ?_ (aB (aI (aG (aA tT)) (by rfl))))))
   ·rw[eta];refine⟨hi',⟨by show(vs++[_]).length=i+1;simp[hvl],λv hv=>?_⟩, ?_,λh=>?_⟩
    ·rcases dG.1 hv with h|h
     ·exact hvi v h
     ·rw[bT.1 h];exact An7 _ _
    ·rw[<-h2];show(Fw l (e.args.drop (i+1))).2=(Fw l (e.args.drop i)).2;rw[hd]
    ·rw[h3 h];show vs++(Fw l (e.args.drop i)).1=(vs++[_])++(Fw l (e.args.drop (i+1))).1;rw[hd];simp
   ·show e.args.length-(i+1)<e.args.length-i;omega
  ·obtain⟨-,he⟩:=hend k0;have h1:e.kind=1:=aM k2;rw[he,Qk,aP h1];show((Ga (e.value,0)).1,(Ga (e.value,0)).2,())=_;rw[Pg (show decide (1099511627776<De e.value)=true from k4)]
  ·obtain⟨-,he⟩:=hend k0;have h1:e.kind=1:=aM k2;rw[he,Qk,aP h1];show((Ga (e.value,0)).1,(Ga (e.value,0)).2,())=_;rw[Ph (show decide (1099511627776<De e.value)=false from k4)]
  ·have h9:k8.1.2.2=(C2 l e.name).1.2.2:=by rw[k9]
   have hf:-1099511627776<=(C2 l e.name).1.2.2/\(C2 l e.name).1.2.2<=1099511627776:=fi;rw[<-h9]at hf;exact⟨Int.le_trans (by decide) hf.1,Int.le_trans hf.2 (by decide)⟩
  ·obtain⟨-,he⟩:=hend k0;have h1:e.kind≠1:=aQ k2;have h2:e.kind=2:=aM k7;have h9:k8.1.2.2=(C2 l e.name).1.2.2:=by rw[k9]
   have h11:decide (1099511627776<De k8.1.2.2)=true:=k11;rw[h9]at h11;rw[he,Qk,aL h1,aP h2];show((Ga ((C2 l e.name).1.2.2,0)).1,(Ga ((C2 l e.name).1.2.2,0)).2,())=_;rw[Pg h11]
  ·obtain⟨-,he⟩:=hend k0;have h1:e.kind≠1:=aQ k2;have h2:e.kind=2:=aM k7;have h9:k8.1.2.2=(C2 l e.name).1.2.2:=by rw[k9]
   have h11:decide (1099511627776<De k8.1.2.2)=false:=k11;rw[h9]at h11;rw[he,Qk,aL h1,aP h2];show((Ga ((C2 l e.name).1.2.2,0)).1,(Ga ((C2 l e.name).1.2.2,0)).2,())=(k8.1.2.2,0,());rw[Ph h11,h9]
  ·obtain⟨-,he⟩:=hend k0;have h1:e.kind≠1:=aQ k2;have h2:e.kind≠2:=aQ k7;have h3:e.kind=3:=aM k14;have h4:e.op=2:=aM k15;rw[he,Qk,aL h1,aL h2,aP h3,aP h4];show((Ga (1-vs.getD 0 0,0)).1,(Ga (1-vs.getD 0 0,0)).2,())=_;rw[Pg (show decide (1099511627776<De (1-vs.getD 0 0))=true from k17)]
  ·obtain⟨-,he⟩:=hend k0;have h1:e.kind≠1:=aQ k2;have h2:e.kind≠2:=aQ k7;have h3:e.kind=3:=aM k14;have h4:e.op=2:=aM k15;rw[he,Qk,aL h1,aL h2,aP h3,aP h4];show((Ga (1-vs.getD 0 0,0)).1,(Ga (1-vs.getD 0 0,0)).2,())=_;rw[Ph (show decide (1099511627776<De (1-vs.getD 0 0))=false from k17)];rfl
  ·obtain⟨-,he⟩:=hend k0;have h1:e.kind≠1:=aQ k2;have h2:e.kind≠2:=aQ k7;have h3:e.kind=3:=aM k14;have h4:e.op≠2:=aQ k15;rw[he,Qk,aL h1,aL h2,aP h3,aL h4];show((Ga (0-vs.getD 0 0,0)).1,(Ga (0-vs.getD 0 0,0)).2,())=_;rw[Pg (show decide (1099511627776<De (0-vs.getD 0 0))=true from k21)]
  ·obtain⟨-,he⟩:=hend k0;have h1:e.kind≠1:=aQ k2;have h2:e.kind≠2:=aQ k7;have h3:e.kind=3:=aM k14;have h4:e.op≠2:=aQ k15;rw[he,Qk,aL h1,aL h2,aP h3,aL h4];show((Ga (0-vs.getD 0 0,0)).1,(Ga (0-vs.getD 0 0,0)).2,())=_;rw[Ph (show decide (1099511627776<De (0-vs.getD 0 0))=false from k21)];rfl
  obtain⟨-,he⟩:=hend k0;have g1:e.kind≠1:=aQ k2;have g2:e.kind≠2:=aQ k7;have g3:e.kind≠3:=aQ k14;rw[Qk,aL g1,aL g2,aL g3]at he;have hR:∀p:Int,decide (e.op=p)=true->Fr l e=Ga (opF p (vs.getD 0 0) (vs.getD 1 0)):=λp h=>by rw[he,aM h]
  have LA:∀p n:Int,decide (e.op=p)=true->opF p (vs.getD 0 0) (vs.getD 1 0)=(n,0)->decide (1099511627776<De n)=true->((Fr l e).1,(Fr l e).2,())=(0,14,()):=λp n h h' h''=>by rw[hR p h,h',Pg h'']
  have LB:∀p n:Int,decide (e.op=p)=true->opF p (vs.getD 0 0) (vs.getD 1 0)=(n,0)->decide (1099511627776<De n)=false->((Fr l e).1,(Fr l e).2,())=(n,0,()):=λp n h h' h''=>by rw[hR p h,h',Ph h'']
  have LC:∀p f:Int,decide (e.op=p)=true->opF p (vs.getD 0 0) (vs.getD 1 0)=(0,f)->f≠0->((Fr l e).1,(Fr l e).2,())=(0,f,()):=λp f h h' h''=>by rw[hR p h,h',An8 h'']
  have D6:decide (vs.getD 1 0=0)=false->opF 6 (vs.getD 0 0) (vs.getD 1 0)=((vs.getD 0 0).tdiv (vs.getD 1 0),0):=λh=>by
   show(if vs.getD 1 0=0 then(0,24)else((vs.getD 0 0).tdiv (vs.getD 1 0),0))=_;rw[aL (aQ h)]
  have Z6:decide (vs.getD 1 0=0)=true->opF 6 (vs.getD 0 0) (vs.getD 1 0)=(0,24):=λh=>by
   show(if vs.getD 1 0=0 then(0,24)else((vs.getD 0 0).tdiv (vs.getD 1 0),0))=_;rw[aP (aM h)]
  have D7:decide (vs.getD 1 0=0)=false->opF 7 (vs.getD 0 0) (vs.getD 1 0)=((vs.getD 0 0).tmod (vs.getD 1 0),0):=λh=>by
   show(if vs.getD 1 0=0 then(0,24)else((vs.getD 0 0).tmod (vs.getD 1 0),0))=_;rw[aL (aQ h)]
  have Z7:decide (vs.getD 1 0=0)=true->opF 7 (vs.getD 0 0) (vs.getD 1 0)=(0,24):=λh=>by
   show(if vs.getD 1 0=0 then(0,24)else((vs.getD 0 0).tmod (vs.getD 1 0),0))=_;rw[aP (aM h)]
  have w1:-9223372036854775808<=vs.getD 0 0+vs.getD 1 0/\vs.getD 0 0+vs.getD 1 0<=9223372036854775807:=by omega
  have w2:-9223372036854775807<=vs.getD 0 0+vs.getD 1 0/\vs.getD 0 0+vs.getD 1 0<=9223372036854775807:=by omega
  have w3:-9223372036854775808<=vs.getD 0 0-vs.getD 1 0/\vs.getD 0 0-vs.getD 1 0<=9223372036854775807:=by omega
  have w4:-9223372036854775807<=vs.getD 0 0-vs.getD 1 0/\vs.getD 0 0-vs.getD 1 0<=9223372036854775807:=by omega
  have w5:-9223372036854775807<=(Ch (vs.getD 0 0) (vs.getD 1 0)).1/\(Ch (vs.getD 0 0) (vs.getD 1 0)).1<=9223372036854775807:=by
   have:=Akl (vs.getD 0 0) (vs.getD 1 0);omega
  have w6:inK .i64 ((vs.getD 0 0).tdiv (vs.getD 1 0)):=by
   have:=Ae9 (vs.getD 0 0) (vs.getD 1 0);simp only[inK];omega
  have w7:-9223372036854775807<=(vs.getD 0 0).tdiv (vs.getD 1 0)/\(vs.getD 0 0).tdiv (vs.getD 1 0)<=9223372036854775807:=by
   have:=Ae9 (vs.getD 0 0) (vs.getD 1 0);omega
  have w8:-9223372036854775807<=(vs.getD 0 0).tmod (vs.getD 1 0)/\(vs.getD 0 0).tmod (vs.getD 1 0)<=9223372036854775807:=by
   have:=Aoa (vs.getD 0 0) (vs.getD 1 0);omega
  refine .inl ?_;refine(aI (λm0=>(aB (aI (by(intros;(try subst_vars);(try simp only[nB]at *);(try simp only[inK,big,lim,nL]at *);omega)) (aB (aA (aI (by(intros;(try subst_vars);(try simp only[nB]at *);(try simp only[inK,big,lim,nL]at *);omega)) (aB (aF (aF (aI (w1) (aC (aI (λm1=>(w2)) (aI (λm2=>(aI (λm3=>(Aa rfl (by exact LA 3 _ m0 rfl m2))) (λm3=>False.elim (aY (Eq.symm (Eq.trans (by kernel_rfl) m3)))))) (λm2=>(aI (λm4=>nG m4) (λm4=>(Aa rfl (by exact LB 3 _ m0 rfl m2)))))))))))))))))) (λm0=>(aI (λm5=>(aB (aI (by(intros;(try subst_vars);(try simp only[nB]at *);(try simp only[inK,big,lim,nL]at *);omega)) (aB (aA (aI (by(intros;(try subst_vars);(try simp only[nB]at *);(try simp only[inK,big,lim,nL]at *);omega)) (aB (aF (aF (aI (w3) (aC (aI (λm6=>(w4)) (aI (λm7=>(aI (λm8=>(Aa rfl (by exact LA 4 _ m5 rfl m7))) (λm8=>False.elim (aY (Eq.symm (Eq.trans (by kernel_rfl) m8)))))) (λm7=>(aI (λm9=>nG m9) (λm9=>(Aa rfl (by exact LB 4 _ m5 rfl m7)))))))))))))))))) (λm5=>(aI (λm10=>(aB (aI (by(intros;(try subst_vars);(try simp only[nB]at *);(try simp only[inK,big,lim,nL]at *);omega)) (aB (aA (aI (by(intros;(try subst_vars);(try simp only[nB]at *);(try simp only[inK,big,lim,nL]at *);omega)) (aB (aI (⟨v0,v1⟩) (aC (aI (λm11=>(w5)) (aI (λm12=>(aI (λm13=>(Aa rfl ?_)) (λm13=>False.elim (aY (Eq.symm (Eq.trans (by kernel_rfl) m13)))))) (λm12=>(aI (λm14=>(Aa rfl ?_)) (λm14=>(Aa rfl ?_))))))))))))))) (λm10=>(aI (λm15=>(aB (aI (by(intros;(try subst_vars);(try simp only[nB]at *);(try simp only[inK,big,lim,nL]at *);omega)) (aB (aA (aI (by(intros;(try subst_vars);(try simp only[nB]at *);(try simp only[inK,big,lim,nL]at *);omega)) (aB (aF (aI (λm16=>(aC (aI (λm17=>(by decide)) (aI (λm18=>nG m18) (λm18=>(aI (λm19=>(Aa rfl (by exact LC 6 24 m15 (Z6 m16) (by decide)))) (λm19=>False.elim (aY (Eq.symm (Eq.trans (by kernel_rfl) m19)))))))))) (λm16=>(aF (aI (⟨aQ m16,w6⟩) (aC (aI (λm20=>(w7)) (aI (λm21=>(aI (λm22=>(Aa rfl (by exact LA 6 _ m15 (D6 m16) m21))) (λm22=>False.elim (aY (Eq.symm (Eq.trans (by kernel_rfl) m22)))))) (λm21=>(aI (λm23=>nG m23) (λm23=>(Aa rfl (by exact LB 6 _ m15 (D6 m16) m21)))))))))))))))))))) (λm15=>(aI (λm24=>(aB (aI (by(intros;(try subst_vars);(try simp only[nB]at *);(try simp only[inK,big,lim,nL]at *);omega)) (aB (aA (aI (by(intros;(try subst_vars);(try simp only[nB]at *);(try simp only[inK,big,lim,nL]at *);omega)) (aB (aF (aI (λm25=>(aC (aI (λm26=>(by decide)) (aI (λm27=>nG m27) (λm27=>(aI (λm28=>(Aa rfl (by exact LC 7 24 m24 (Z7 m25) (by decide)))) (λm28=>False.elim (aY (Eq.symm (Eq.trans (by kernel_rfl) m28)))))))))) (λm25=>(aF (aI (aQ m25) (aC (aI (λm29=>(w8)) (aI (λm30=>(aI (λm31=>(Aa rfl (by exact LA 7 _ m24 (D7 m25) m30))) (λm31=>False.elim (aY (Eq.symm (Eq.trans (by kernel_rfl) m31)))))) (λm30=>(aI (λm32=>nG m32) (λm32=>(Aa rfl (by exact LB 7 _ m24 (D7 m25) m30)))))))))))))))))))) (λm24=>(aI (λm33=>(aB (aI (by(intros;(try subst_vars);(try simp only[nB]at *);(try simp only[inK,big,lim,nL]at *);omega)) (aB (aA (aI (by(intros;(try subst_vars);(try simp only[nB]at *);(try simp only[inK,big,lim,nL]at *);omega)) (aB (aF (aF (aF (aI (λm34=>(aC (aI (λm35=>(by decide)) (aI (λm36=>nG m36) (λm36=>(aI (λm37=>nG m37) (λm37=>(Aa rfl (by exact LB 8 1 m33 (bI (λc=>(one c,(0:Int))) m34) rfl))))))))) (λm34=>(aC (aI (λm38=>(by decide)) (aI (λm39=>nG m39) (λm39=>(aI (λm40=>nG m40) (λm40=>(Aa rfl (by exact LB 8 0 m33 (bI (λc=>(one c,(0:Int))) m34) rfl)))))))))))))))))))) (λm33=>(aI (λm41=>(aB (aI (by(intros;(try subst_vars);(try simp only[nB]at *);(try simp only[inK,big,lim,nL]at *);omega)) (aB (aA (aI (by(intros;(try subst_vars);(try simp only[nB]at *);(try simp only[inK,big,lim,nL]at *);omega)) (aB (aF (aF (aF (aI (λm42=>(aC (aI (λm43=>(by decide)) (aI (λm44=>nG m44) (λm44=>(aI (λm45=>nG m45) (λm45=>(Aa rfl (by exact LB 9 1 m41 (bI (λc=>(one c,(0:Int))) m42) rfl))))))))) (λm42=>(aC (aI (λm46=>(by decide)) (aI (λm47=>nG m47) (λm47=>(aI (λm48=>nG m48) (λm48=>(Aa rfl (by exact LB 9 0 m41 (bI (λc=>(one c,(0:Int))) m42) rfl)))))))))))))))))))) (λm41=>(aI (λm49=>(aB (aI (by(intros;(try subst_vars);(try simp only[nB]at *);(try simp only[inK,big,lim,nL]at *);omega)) (aB (aA (aI (by(intros;(try subst_vars);(try simp only[nB]at *);(try simp only[inK,big,lim,nL]at *);omega)) (aB (aF (aF (aF (aI (λm50=>(aC (aI (λm51=>(by decide)) (aI (λm52=>nG m52) (λm52=>(aI (λm53=>nG m53) (λm53=>(Aa rfl (by exact LB 10 1 m49 (bI (λc=>(one c,(0:Int))) m50) rfl))))))))) (λm50=>(aC (aI (λm54=>(by decide)) (aI (λm55=>nG m55) (λm55=>(aI (λm56=>nG m56) (λm56=>(Aa rfl (by exact LB 10 0 m49 (bI (λc=>(one c,(0:Int))) m50) rfl)))))))))))))))))))) (λm49=>(aI (λm57=>(aB (aI (by(intros;(try subst_vars);(try simp only[nB]at *);(try simp only[inK,big,lim,nL]at *);omega)) (aB (aA (aI (by(intros;(try subst_vars);(try simp only[nB]at *);(try simp only[inK,big,lim,nL]at *);omega)) (aB (aF (aF (aF (aI (λm58=>(aC (aI (λm59=>(by decide)) (aI (λm60=>nG m60) (λm60=>(aI (λm61=>nG m61) (λm61=>(Aa rfl (by exact LB 11 1 m57 (bI (λc=>(one c,(0:Int))) m58) rfl))))))))) (λm58=>(aC (aI (λm62=>(by decide)) (aI (λm63=>nG m63) (λm63=>(aI (λm64=>nG m64) (λm64=>(Aa rfl (by exact LB 11 0 m57 (bI (λc=>(one c,(0:Int))) m58) rfl)))))))))))))))))))) (λm57=>(aI (λm65=>(aB (aI (by(intros;(try subst_vars);(try simp only[nB]at *);(try simp only[inK,big,lim,nL]at *);omega)) (aB (aA (aI (by(intros;(try subst_vars);(try simp only[nB]at *);(try simp only[inK,big,lim,nL]at *);omega)) (aB (aF (aF (aF (aI (λm66=>(aC (aI (λm67=>(by decide)) (aI (λm68=>nG m68) (λm68=>(aI (λm69=>nG m69) (λm69=>(Aa rfl (by exact LB 12 1 m65 (bI (λc=>(one c,(0:Int))) m66) rfl))))))))) (λm66=>(aC (aI (λm70=>(by decide)) (aI (λm71=>nG m71) (λm71=>(aI (λm72=>nG m72) (λm72=>(Aa rfl (by exact LB 12 0 m65 (bI (λc=>(one c,(0:Int))) m66) rfl)))))))))))))))))))) (λm65=>(aI (λm73=>(aB (aI (by(intros;(try subst_vars);(try simp only[nB]at *);(try simp only[inK,big,lim,nL]at *);omega)) (aB (aA (aI (by(intros;(try subst_vars);(try simp only[nB]at *);(try simp only[inK,big,lim,nL]at *);omega)) (aB (aF (aF (aF (aI (λm74=>(aC (aI (λm75=>(by decide)) (aI (λm76=>nG m76) (λm76=>(aI (λm77=>nG m77) (λm77=>(Aa rfl (by exact LB 13 1 m73 (bI (λc=>(one c,(0:Int))) m74) rfl))))))))) (λm74=>(aC (aI (λm78=>(by decide)) (aI (λm79=>nG m79) (λm79=>(aI (λm80=>nG m80) (λm80=>(Aa rfl (by exact LB 13 0 m73 (bI (λc=>(one c,(0:Int))) m74) rfl)))))))))))))))))))) (λm73=>(aI (λm81=>(aB (aI (by(intros;(try subst_vars);(try simp only[nB]at *);(try simp only[inK,big,lim,nL]at *);omega)) (aB (aA (aI (by(intros;(try subst_vars);(try simp only[nB]at *);(try simp only[inK,big,lim,nL]at *);omega)) (aB (aF (aF (aF (aI (λm82=>(aC (aI (λm83=>(by decide)) (aI (λm84=>nG m84) (λm84=>(aI (λm85=>nG m85) (λm85=>(Aa rfl (by exact LB 14 1 m81 (bI (λc=>(one c,(0:Int))) m82) rfl))))))))) (λm82=>(aC (aI (λm86=>(by decide)) (aI (λm87=>nG m87) (λm87=>(aI (λm88=>nG m88) (λm88=>(Aa rfl (by exact LB 14 0 m81 (bI (λc=>(one c,(0:Int))) m82) rfl)))))))))))))))))))) (λm81=>(aI (λm89=>(aB (aI (by(intros;(try subst_vars);(try simp only[nB]at *);(try simp only[inK,big,lim,nL]at *);omega)) (aB (aA (aI (by(intros;(try subst_vars);(try simp only[nB]at *);(try simp only[inK,big,lim,nL]at *);omega)) (aB (aF (aF (aF (aI (λm90=>(aC (aI (λm91=>(by decide)) (aI (λm92=>nG m92) (λm92=>(aI (λm93=>nG m93) (λm93=>(Aa rfl (by exact LB 15 1 m89 (bI (λc=>(one c,(0:Int))) m90) rfl))))))))) (λm90=>(aC (aI (λm94=>(by decide)) (aI (λm95=>nG m95) (λm95=>(aI (λm96=>nG m96) (λm96=>(Aa rfl (by exact LB 15 0 m89 (bI (λc=>(one c,(0:Int))) m90) rfl)))))))))))))))))))) (λm89=>(aB (aI (by(intros;(try subst_vars);(try simp only[nB]at *);(try simp only[inK,big,lim,nL]at *);omega)) (aB (aA (aI (by(intros;(try subst_vars);(try simp only[nB]at *);(try simp only[inK,big,lim,nL]at *);omega)) (aB ?_))))))))))))))))))))))))))))))))
  ·obtain⟨f,hf⟩:∃f,(Ch (vs.getD 0 0) (vs.getD 1 0)).2=f:=⟨_,rfl⟩;have h:(bif decide ((Ch (vs.getD 0 0) (vs.getD 1 0)).2=0)then decide (1099511627776<De (Ch (vs.getD 0 0) (vs.getD 1 0)).1)else false)=true:=m12;rw[hf]at h;by_cases hz:f=0
   ·rw[aX hz]at h;subst hz;exact LA 5 (Ch (vs.getD 0 0) (vs.getD 1 0)).1 m10 (Prod.ext rfl hf) h
   ·rw[bE hz]at h;cases h
  ·have hf:(Ch (vs.getD 0 0) (vs.getD 1 0)).2≠0:=by
    have h:(!decide ((Ch (vs.getD 0 0) (vs.getD 1 0)).2=0))=true:=m14;simpa using h
   exact LC 5 (Ch (vs.getD 0 0) (vs.getD 1 0)).2 m10 (Prod.ext (Akm _ _ hf) rfl) hf
  ·have hf:(Ch (vs.getD 0 0) (vs.getD 1 0)).2=0:=by
    have h:(!decide ((Ch (vs.getD 0 0) (vs.getD 1 0)).2=0))=false:=m14;simpa using h
   have h:(bif decide ((Ch (vs.getD 0 0) (vs.getD 1 0)).2=0)then decide (1099511627776<De (Ch (vs.getD 0 0) (vs.getD 1 0)).1)else false)=false:=m12;rw[aX hf]at h;exact LB 5 (Ch (vs.getD 0 0) (vs.getD 1 0)).1 m10 (Prod.ext rfl hf) h
  ·exfalso;have h:=ho (by omega);have q:∀p:Int,decide (e.op=p)=false->¬e.op=p:=λp h=>aQ h
   unfold M2 at h;simp only[U7,T8,eD,List.map_nil,Nz,aL (q _ m0),aL (q _ m5),aL (q _ m10),aL (q _ m15),aL (q _ m24),aL (q _ m33),aL (q _ m41),aL (q _ m49),aL (q _ m57),aL (q _ m65),aL (q _ m73),aL (q _ m81),aL (q _ m89)]at h;cases h
def c125A:Ctr:=fnC [dX,Xx] rII (λy=>Fg y.1=0/\Akk y.2.1) (λy=>((Fr y.2.1 y.1).1,(Fr y.2.1 y.1).2,()))
theorem Aob:GoodC Tryz.prog 145 c125A:=O6 (λy=>exW y.1) Aaw
theorem Akn{l:List Bd}(h:Hi l=true):Akk l:=by
 intro b hb;obtain⟨i,hi,rfl⟩:=List.getElem_of_mem hb;have h1:(List.range l.length).any (G5 l)=false:=by
  unfold Hi at h;cases hc:(List.range l.length).any (G5 l)
  ·rfl
  ·rw[hc]at h;cases h
 have h2:G5 l i=false:=by
  have:=dA.1 h1 i (cZ.2 hi);simpa using this
 have e1:l.getD ((i:Int).toNat) (Ab tBd)=l[i]:=by
  rw[bH,aZ,aR hi];rfl
 have key:∀lo hi:Int,Rk lo hi l i=false->lo<=l[i].2.2/\l[i].2.2<=hi:=λlo hi h=>by
  unfold Rk at h;rw[e1]at h;have aux:∀q a b:Bool,(bif (bif q then true else a)then true else b)=false->a=false/\b=false:=by
   intro q a b;cases q<;>cases a<;>cases b<;>simp
  obtain⟨h3,h4⟩:=aux _ _ _ h;have h5:=aQ h3;have h6:=aQ h4;exact⟨fK.1 h5,fK.1 h6⟩
 unfold G5 at h2;cases hd:decide ((l.getD (i:Int).toNat (Ab tBd)).2.1=2)with
 |true=>
  rw[hd]at h2;have:=key _ _ h2;unfold inM;omega
 |false=>
  rw[hd]at h2;exact key _ _ h2
def I4(e:ExprT)(l:List Bd):Int×Int:=if(Bg e l).2≠0 then(0,(Bg e l).2)else Fr l e
theorem Ac5{e:ExprT}{l:List Bd}(h:(Bg e l).2=0):Bv e=0/\Hi l=true:=by
 unfold Bg at h;split at h
 ·rename_i h1;exact aT h h1
 ·rename_i h1;split at h
  ·rename_i h2;exact⟨by simpa using h1,h2⟩
  ·exact aT h (by decide)
def cxEv:Ctx:=⟨Dk,[(90,([],c82)),(145,([],c125A))]⟩
theorem Ahn:Ai Tryz.prog cxEv:=Ae Akj (Ae Aob Ah)
def c108:Ctr:=fnC [dX,Xx] rII (λ_=>True) (λy=>((I4 y.1 y.2.1).1,(I4 y.1 y.2.1).2,()))
theorem Afa:GoodC Tryz.prog 120 c108:=by
 refine Au Ahn 3 _ _ _ _ ⟨_,Tryz.func120,rfl,rfl⟩ λ(⟨e,l,_⟩:ExprT×List Bd×Unit) _=>?_
 refine(aF (aI tT (aI (λh0=>(Aa rfl ?_)) (λh0=>(aI ?_ (Aa rfl ?_))))))
 ·have hk:(Bg e l).2≠0:=by have h:=h0;simp only[eta]at h;simpa using h
  simp only[eta];show((I4 e l).1,(I4 e l).2,())=(0,(Bg e l).2,());rw[I4,aP hk]
 ·have hk:(Bg e l).2=0:=by have h:=h0;simp only[eta]at h;simpa using h
  simp only[eta];exact⟨Akh (Ac5 hk).1,Akn (Ac5 hk).2⟩
 ·have hk:¬(Bg e l).2≠0:=by have h:=h0;simp only[eta]at h;simpa using h
  simp only[eta];show((I4 e l).1,(I4 e l).2,())=((Fr l e).1,(Fr l e).2,());rw[I4,aL hk]
def isS(v:ByteArray)(x:ByteArray):Bool:=decide (v=x)
def isI(v:Int)(x:Int):Bool:=decide (v=x)
def c115:Ctr:=fnC [dSs,dS] rI (λ_=>True) (λy=>(Ao (isS y.2.1) y.1 0,()))
theorem Aoc:GoodC Tryz.prog 135 c115:=by
 refine Au Ah 3 _ _ _ _ ⟨_,Tryz.func135,rfl,rfl⟩ λ(⟨xs,s,_⟩:List ByteArray×ByteArray×Unit) _=>?_
 refine(aF (λh0=>?_));refine ex4 _ (λi:Nat=>⟨[.sl .str xs,.str s,.any,.any,.any,.any,.sl .str xs,.int .i64 (↑xs.length:Int),.int .i64 (i:Int),.any,.any,.any,.any,.any,.any,.any,.any,.any,.any],[],0⟩) (λi=>i<=xs.length/\Ao (isS s) xs 0=Ao (isS s) (xs.drop i) i) (λi=>xs.length-i) (aI (eI (0) (eI ([]) (aI ?_ (aB (aI tT (by rfl)))))) ?_)
 ·exact⟨aV _,rfl⟩
 rintro i ⟨hi,ht⟩;refine(aI (λk0=>(aO (aI (λk1=>(Aa rfl ?_)) (λk1=>(aO ?_))))) (λk0=>(Aa rfl ?_)))
 ·have hi':i<xs.length:=by simpa using k0
  have hk:isS s (xs.getD i (Ab .str))=true:=k1;rw[A2 _ (Ab .str) _ _ hi',aP hk]at ht;show(Ao (isS s) xs 0,())=(_,());rw[ht]
 ·have hi':i<xs.length:=by simpa using k0
  have hk:isS s (xs.getD i (Ab .str))=false:=k1;rw[A2 _ (Ab .str) _ _ hi',aL (by rw[hk];simp)]at ht;refine eI (i+1) (eI ([]) (aI ?_ (aI ?_ (aB (aI tT (by rfl))))))
  ·exact⟨hi',ht⟩
  ·show xs.length-(i+1)<xs.length-i;omega
 ·have hi':¬i<xs.length:=by simpa using k0
  rw[bK (by omega)]at ht;show(Ao (isS s) xs 0,())=(_,());rw[ht];rfl
def c81:Ctr:=fnC [dSs,dS] rB (λ_=>True) (λy=>(y.1.any (isS y.2.1),()))
def cxH1:Ctx:=⟨Dk,[(135,([],c115))]⟩
theorem Aho:Ai Tryz.prog cxH1:=Ae Aoc Ah
theorem Aq1:GoodC Tryz.prog 89 c81:=by
 refine Au Aho 3 _ _ _ _ ⟨_,Tryz.func89,rfl,rfl⟩ λ(⟨xs,s,_⟩:List ByteArray×ByteArray×Unit) _=>?_
 refine(aF (aI tT (Aa rfl ?_)));show(xs.any (isS s),())=_;rw[<-Ec (isS s) xs 0 (cO _)]
def c58:Ctr:=fnC [dIs,dI] rI (λ_=>True) (λy=>(Ao (isI y.2.1) y.1 0,()))
theorem Aq2:GoodC Tryz.prog 66 c58:=by
 refine Au Ah 3 _ _ _ _ ⟨_,Tryz.func66,rfl,rfl⟩ λ(⟨xs,s,_⟩:List Int×Int×Unit) _=>?_
 refine(aF (λh0=>?_));refine ex4 _ (λi:Nat=>⟨[.sl (.int .i64) xs,.int .i64 s,.any,.any,.any,.any,.sl (.int .i64) xs,.int .i64 (↑xs.length:Int),.int .i64 (i:Int),.any,.any,.any,.any,.any,.any,.any,.any,.any,.any],[],0⟩) (λi=>i<=xs.length/\Ao (isI s) xs 0=Ao (isI s) (xs.drop i) i) (λi=>xs.length-i) (aI (eI (0) (eI ([]) (aI ?_ (aB (aI tT (by rfl)))))) ?_)
 ·exact⟨aV _,rfl⟩
 rintro i ⟨hi,ht⟩;refine(aI (λk0=>(aO (aI (λk1=>(Aa rfl ?_)) (λk1=>(aO ?_))))) (λk0=>(Aa rfl ?_)))
 ·have hi':i<xs.length:=by simpa using k0
  have hk:isI s (xs.getD i (Ab tI))=true:=k1;rw[A2 _ (Ab tI) _ _ hi',aP hk]at ht;show(Ao (isI s) xs 0,())=(_,());rw[ht]
 ·have hi':i<xs.length:=by simpa using k0
  have hk:isI s (xs.getD i (Ab tI))=false:=k1;rw[A2 _ (Ab tI) _ _ hi',aL (by rw[hk];simp)]at ht;refine eI (i+1) (eI ([]) (aI ?_ (aI ?_ (aB (aI tT (by rfl))))))
  ·exact⟨hi',ht⟩
  ·show xs.length-(i+1)<xs.length-i;omega
 ·have hi':¬i<xs.length:=by simpa using k0
  rw[bK (by omega)]at ht;show(Ao (isI s) xs 0,())=(_,());rw[ht];rfl
def c25:Ctr:=fnC [dIs,dI] rB (λ_=>True) (λy=>(y.1.any (isI y.2.1),()))
def cxH2:Ctx:=⟨Dk,[(66,([],c58))]⟩
theorem Ahp:Ai Tryz.prog cxH2:=Ae Aq2 Ah
theorem Ac6:GoodC Tryz.prog 212 c25:=by
 refine Au Ahp 3 _ _ _ _ ⟨_,Tryz.func212,rfl,rfl⟩ λ(⟨xs,s,_⟩:List Int×Int×Unit) _=>?_
 refine(aF (aI tT (Aa rfl ?_)));show(xs.any (isI s),())=_;rw[<-Ec (isI s) xs 0 (cO _)]
def B6:List ByteArray->List Int->List Bd
 |n::ns,v::vs=>(n,1,v)::B6 ns vs
 |_,_=>[]
def c83:Ctr:=fnC [dSs,dIs] [(false,.sl tBd)] (λy=>y.1.length<=y.2.1.length/\y.1.length<=2) (λy=>(B6 y.1 y.2.1,()))
theorem Ac7:GoodC Tryz.prog 91 c83:=by
 refine Au Ah 3 _ _ _ _ ⟨_,Tryz.func91,rfl,rfl⟩ λ(⟨ns,vs,_⟩:List ByteArray×List Int×Unit) hn=>?_
 have hn1:ns.length<=vs.length:=hn.1;have hn2:ns.length<=2:=hn.2;clear hn;refine(aF (λh0=>?_));refine ex4 _ (λp:Nat×List Bd=>⟨[.sl .str ns,.sl (.int .i64) vs,.any,.any,.any,.own 0,.any,.any,.sl .str ns,.int .i64 (↑ns.length:Int),.int .i64 (p.1:Int)]++nA 15,[.rows tBd p.2],1⟩) (λp=>p.1<=ns.length/\p.2.length=p.1/\B6 ns vs=p.2++B6 (ns.drop p.1) (vs.drop p.1)) (λp=>ns.length-p.1) (aI (eI ((0,[])) (eI ([none]) (aI ?_ (aB (aI (aA tT) (by rfl)))))) ?_)
 ·exact⟨aV _,rfl,rfl⟩
 rintro⟨i,bs⟩ ⟨hi,hl,hb⟩;replace hl:bs.length=i:=hl;have room:(bs.length+1)*32<=lim:=by
  have:i<=ns.length:=hi;simp only[lim];omega
 refine(aI (λk0=>(aI (by first|exact room|(intros;(try subst_vars);(try simp only[nB]at *);(try simp only[inK,big,lim,nL]at *);omega)) (aI (by first|exact room|(intros;(try subst_vars);(try simp only[nB]at *);(try simp only[inK,big,lim,nL]at *);omega)) (aI (by first|exact room|(intros;(try subst_vars);(try simp only[nB]at *);(try simp only[inK,big,lim,nL]at *);omega)) (aI (by first|exact room|(intros;(try subst_vars);(try simp only[nB]at *);(try simp only[inK,big,lim,nL]at *);omega)) ?_))))) (λk0=>(Aa rfl ?_)))
 ·have hi':i<ns.length:=by simpa using k0
  refine eI ((i+1,bs++[(ns.getD i (Ab .str),1,vs.getD i (Ab tI))])) (eI ([some 2]) (aI ?_ (aI ?_ (aB (aI (aA tT) (by rfl))))))
  ·refine⟨hi',by show(bs++[_]).length=i+1;simp[hl], ?_⟩;have hv:i<vs.length:=by omega
   rw[hb];show bs++B6 (ns.drop i) (vs.drop i)=(bs++[_])++B6 (ns.drop (i+1)) (vs.drop (i+1));rw[cG hi',cG hv];simp[B6,aZ,hi',hv]
  ·show ns.length-(i+1)<ns.length-i;omega
 ·have hi':¬i<ns.length:=by simpa using k0
  show(B6 ns vs,())=(bs,());rw[hb];show(bs++B6 (ns.drop i) (vs.drop i),())=_;rw[bK (by omega)];simp[B6]
@[reducible] def tH:Ty:=.pair tI (.pair tI (.pair tI (.pair tI (.pair tI (.pair tSs (.pair .fn .fn))))))
@[reducible] def HdT:Type:=Int×Int×Int×Int×Int×List ByteArray×FnT×FnT
def hnd(i o l m k:Int)(ns:List ByteArray)(t e:FnT):HdT:=(i,o,l,m,k,ns,t,e)
def nmX:List ByteArray:=[⟨#[120]⟩]
def D8:List ByteArray:=[⟨#[120]⟩,⟨#[121]⟩]
def Ap(k:Int):HdT:=
 if k=1 then hnd 0 1 0 0 0 [] (.mk 106 []) (.mk 105 [])
 else if k=2 then hnd 1 1 0 0 1 nmX (.mk 107 []) (.mk 105 [])
 else if k=3 then hnd 1 1 0 0 2 nmX (.mk 108 []) (.mk 105 [])
 else if k=4 then hnd 1 1 1 100 0 [] (.mk 109 []) (.mk 110 [])
 else if k=5 then hnd 1 1 0 100 0 [] (.mk 112 []) (.mk 105 [])
 else if k=6 then hnd 1 1 0 200 0 [] (.mk 113 []) (.mk 105 [])
 else if k=7 then hnd 1 2 0 0 2 nmX (.mk 114 []) (.mk 105 [])
 else if k=8 then hnd 2 1 0 0 0 [] (.mk 116 [.mk 104 []]) (.mk 115 [])
 else if k=9 then hnd 2 1 0 0 1 D8 (.mk 117 []) (.mk 118 [])
 else if k=10 then hnd 1 0 0 0 0 [] (.mk 119 []) (.mk 105 [])
 else hnd 0 0 0 0 0 [] .nil .nil
def Oa(k:Int):Bool:=bif decide (k<1)then false else !decide (10<k)
def c40:Ctr:=fnC [dI] [(true,tH),(false,.bool)] (λ_=>True) (λy=>(Ap y.1,Oa y.1,()))
set_option maxHeartbeats 8000000 in
theorem Aq3:GoodC Tryz.prog 37 c40:=by
 refine Au Ah 4 _ _ _ _ ⟨_,Tryz.func37,rfl,rfl⟩ λ(⟨k,_⟩:Int×Unit) _=>?_
 by_cases hk:1<=k/\k<=10
 ·have h:k=1\/k=2\/k=3\/k=4\/k=5\/k=6\/k=7\/k=8\/k=9\/k=10:=by omega
  clear hk;rcases h with rfl|rfl|rfl|rfl|rfl|rfl|rfl|rfl|rfl|rfl
  ·refine(aF (aI (λh0=>nG h0) (λh0=>(aF (aO (Aa rfl (by rfl)))))))
  ·refine(aF (aI (λh0=>nG h0) (λh0=>(aF (aO (Aa rfl (by rfl)))))))
  ·refine(aF (aI (λh0=>nG h0) (λh0=>(aF (aO (Aa rfl (by rfl)))))))
  ·refine(aF (aI (λh0=>nG h0) (λh0=>(aF (aO (Aa rfl (by rfl)))))))
  ·refine(aF (aI (λh0=>nG h0) (λh0=>(aF (aO (Aa rfl (by rfl)))))))
  ·refine(aF (aI (λh0=>nG h0) (λh0=>(aF (aO (Aa rfl (by rfl)))))))
  ·refine(aF (aI (λh0=>nG h0) (λh0=>(aF (aO (Aa rfl (by rfl)))))))
  ·refine(aF (aI (λh0=>nG h0) (λh0=>(aF (aO (Aa rfl (by rfl)))))))
  ·refine(aF (aI (λh0=>nG h0) (λh0=>(aF (aO (Aa rfl (by rfl)))))))
  ·refine(aF (aI (λh0=>nG h0) (λh0=>(aF (aO (Aa rfl (by rfl)))))))
 ·refine(aF (aI (λh0=>(Aa rfl ?_)) (λh0=>(aF (aO ?_)))))
  ·have hB:Oa k=false:=by
    unfold Oa;by_cases h1:k<1
    ·rw[aX h1];rfl
    ·rw[bE h1,aX (show 10<k by omega)];rfl
   have hF:Ap k=hnd 0 0 0 0 0 [] .nil .nil:=by
    unfold Ap
    iterate 10 rw[aL (by omega)]
   show(Ap k,Oa k,())=_;rw[hF,hB];rfl
  ·exfalso;have h:(bif decide (k<1)then true else decide (10<k))=false:=h0;by_cases h1:k<1
   ·rw[aX h1]at h;cases h
   ·rw[aX (show 10<k by omega)]at h;cases hd:decide (k<1)<;>rw[hd]at h<;>cases h
def Aax(a:List AK)(r:List (Bool×Ty))(pick:AK.dens a->Nat)(tab:List (AK.dens a×Ib r)):Ctr:=λargs=>
 match Nq a args with
 |some y=>(match tab[pick y]? with
  |some p=>some ⟨⟨some (y=p.1),none,[],Fu r p.2⟩,λk=>k (Fu r p.2)⟩
  |none=>none)
 |none=>none
theorem Wk{P:Program}{g:FuncId}{a:List AK}{r:List (Bool×Ty)}{need:AK.dens a->Prop}{f:AK.dens a->Ib r}(h:GoodC P g (fnC a r need f))(pick:AK.dens a->Nat)(tab:List (AK.dens a×Ib r))
 (ht:∀p∈tab,need p.1/\f p.1=p.2):GoodC P g (Aax a r pick tab):=by
 refine⟨h.1,λargs cg hC k hk=>?_,λargs cr gen hC hn w F0 vs hF hsz hrd=>?_⟩
 ·unfold Aax at hC;split at hC
  ·split at hC
   ·cases hC;exact hk
   ·cases hC
  ·cases hC
 ·unfold Aax at hC;split at hC
  ·rename_i y hy;split at hC
   ·rename_i p hp;cases hC;have hn':y=p.1:=hn;obtain⟨h1,h2⟩:=ht p (cR hp);subst hn';have hC':fnC a r need f args=some ⟨⟨some (need p.1),none,[],Fu r (f p.1)⟩,if Aql r thenλk=>∀z,z=f p.1->k (Fu r z) elseλk=>k (Fu r (f p.1))⟩:=by
     unfold fnC;rw[hy]
    rw[h2]at hC';exact h.calls _ _ _ hC' h1 w F0 vs hF hsz hrd
   ·cases hC
  ·cases hC
theorem Wl{P:Program}{g:FuncId}(a:List AK)(r:List (Bool×Ty))(need:AK.dens a->Prop)(f:AK.dens a->Ib r)
 (hfn:∃fn,P.funcs[g]?=some fn/\fn.body.isSome=true/\(fn.name == "runtime.NumGoroutine")=false)
 (h:∀y,need y->∃call:CallSem,Bb P call/\call g (G4 a y) [] 0 (H0 ⟨none,none,[],Fu r (f y)⟩)):GoodC P g (fnC a r need f):=by
 refine⟨hfn,λargs cg hC k hk=>?_,λargs cr gen hC hn w F0 vs hF hsz hrd=>?_⟩
 ·unfold fnC at hC;split at hC
  ·rename_i y hy;cases hC;simp only at hk;split at hk
   ·exact hk _ rfl
   ·exact hk
  ·cases hC
 unfold fnC at hC;split at hC
 ·rename_i y hy;cases hC;obtain⟨call,hcall,hy'⟩:=h y hn;obtain⟨C,hgood,hCa⟩:=T6 hcall hfn _ _ hy';obtain⟨e,hall⟩:=Hx (E:=Env.base w F0) a args y hy;exact hgood.calls _ _ _ hCa trivial w F0 vs hF (hsz.trans e.symm) (λi v x hv hx=>hall hrd i v x hv hx vs.toList (λi u hu=>by simpa using hu) (by simpa using hsz))
 ·cases hC
def Aq4:List (AK.dens [dI]×Ib [(true,tH),(false,.bool)]):=
 [((1,()),((0,1,0,0,0,[],.mk 106 [],.mk 105 []),true,())),((2,()),((1,1,0,0,1,[⟨#[120]⟩],.mk 107 [],.mk 105 []),true,())),((3,()),((1,1,0,0,2,[⟨#[120]⟩],.mk 108 [],.mk 105 []),true,())),
  ((4,()),((1,1,1,100,0,[],.mk 109 [],.mk 110 []),true,())),((5,()),((1,1,0,100,0,[],.mk 112 [],.mk 105 []),true,())),((6,()),((1,1,0,200,0,[],.mk 113 [],.mk 105 []),true,())),
  ((7,()),((1,2,0,0,2,[⟨#[120]⟩],.mk 114 [],.mk 105 []),true,())),((8,()),((2,1,0,0,0,[],.mk 116 [.mk 104 []],.mk 115 []),true,())),((9,()),((2,1,0,0,1,[⟨#[120]⟩,⟨#[121]⟩],.mk 117 [],.mk 118 []),true,())),
  ((10,()),((1,0,0,0,0,[],.mk 119 [],.mk 105 []),true,()))]
def c40k:Ctr:=Aax [dI] [(true,tH),(false,.bool)] (λy=>y.1.toNat-1) Aq4
theorem Pi:GoodC Tryz.prog 37 c40k:=by
 refine Wk Aq3 _ Aq4 λp hp=>?_
 simp only[Aq4,cT,dB,or_false]at hp;rcases hp with rfl|rfl|rfl|rfl|rfl|rfl|rfl|rfl|rfl|rfl<;>exact⟨trivial,rfl⟩
end Go.Proofs.YtpabcdbaffjcdaaGreat
