/- Pipelines. -/
import Derived.Test.YtpabcdbaffjcdaaGreatJG1
import Derived.Test.YtpabcdbaffjcdaaGreatJP
import Derived.Test.YtpabcdbaffjcdaaGreatJZ7
import Derived.Test.YtpabcdbaffjcdaaGreatJG2
import Derived.Test.YtpabcdbaffjcdaaGreatJQ1
import Derived.Test.YtpabcdbaffjcdaaGreatJB6
set_option linter.unusedSimpArgs false
set_option linter.unusedVariables false
set_option maxRecDepth 100000
namespace Go.Proofs.YtpabcdbaffjcdaaGreat
open Go.Sx
theorem Uz:∀(l:List Int)(v:Int)(k:Nat),(Cb l v k<0/\v ∉ l)\/∃j:Nat,Cb l v k=((k+j:Nat):Int)/\j<l.length/\l.getD j 0=v
 |[],_,_=>.inl ⟨by unfold Cb;omega,dB⟩
 |a::l,v,k=>by
  unfold Cb;by_cases h:v=a
  ·rw[aP h];exact .inr ⟨0,rfl,by simp,h.symm⟩
  ·rw[aL h];rcases Uz l v (k+1)with⟨h1,h2⟩|⟨j,h1,h2,h3⟩
   ·exact .inl ⟨h1,by rw[cT];rintro(h'|h');exact h h';exact h2 h'⟩
   ·exact .inr ⟨j+1,by rw[h1];omega,by simpa using h2,by simpa using h3⟩
theorem Lo(v:Nat):∀(l:List EdgT)(o:List Int),(∀e∈l,0<=e.2)->v<o.length->(l.foldl Ni o).length=o.length/\(l.foldl Ni o).getD v 0=o.getD v 0+(l.countP (λe=>decide (e.2=(v:Int))):Nat)
 |[],o,_,_=>⟨rfl,by simp⟩
 |e::l,o,h,hv=>by
  have hl:(Ni o e).length=o.length:=by unfold Ni;rw[cE]
  obtain⟨h1,h2⟩:=Lo v l (Ni o e) (λa ha=>h a (dQ e ha)) (by omega);refine⟨by rw[cM,h1,hl], ?_⟩;rw[cM,h2,dY];unfold Ni;have he:=h e dK;rw[Cc];by_cases hev:e.2=(v:Int)
  ·rw[aP ⟨by omega,hv⟩,aP (aX hev),show e.2.toNat=v by omega]
   push_cast
   omega
  ·rw[aL (by omega),aL (by simpa using hev)];simp
theorem Pt(v:Nat):∀(l:List Int)(o:List Int),(∀e∈l,0<=e)->v<o.length->(l.foldl Ln o).length=o.length/\(l.foldl Ln o).getD v 0=o.getD v 0-(l.count (v:Int):Nat)
 |[],o,_,_=>⟨rfl,by simp⟩
 |e::l,o,h,hv=>by
  have hl:(Ln o e).length=o.length:=by unfold Ln;rw[cE]
  obtain⟨h1,h2⟩:=Pt v l (Ln o e) (λa ha=>h a (dQ e ha)) (by omega);refine⟨by rw[cM,h1,hl], ?_⟩;rw[cM,h2,List.count_cons];unfold Ln;have he:=h e dK;rw[Cc];by_cases hev:e=(v:Int)
  ·rw[aP ⟨by omega,hv⟩,aP (by simpa using hev),show e.toNat=v by omega]
   push_cast
   omega
  ·rw[aL (by omega),aL (by simpa using hev)];simp
def Jy(l:List EdgT)(out:List Int)(v:Nat):Nat:=l.countP λe=>decide (e.2=(v:Int)) && !decide (e.1∈out)
structure OI(n:Nat)(l:List EdgT)(o out:List Int):Prop where
 ol:o.length=n
 nd:out.Nodup
 rg:∀v∈out,0<=v/\v<n
 cl:∀e∈l,e.2∈out->e.1∈out
 op:∀v:Nat,v<n->o.getD v 0=if(v:Int)∈out then -1 else(Jy l out v:Int)
theorem Aii(l:List EdgT)(u v:Nat):(Bw l u).count (v:Int)=l.countP λe=>decide (e.1=(u:Int))&&decide (e.2=(v:Int)):=by
 unfold Bw
 induction l with
 |nil=>rfl
 |cons e l ih=>
  rw[dN,dY];by_cases h:e.1=(u:Int)
  ·rw[aP (by simpa using h),eD,List.count_cons,ih];by_cases h2:e.2=(v:Int)<;>simp[h,h2]
  ·rw[aL (by simpa using h),ih];simp[h]
theorem Abj(l:List EdgT)(out:List Int)(u v:Nat)(hu:(u:Int) ∉ out):Jy l out v=Jy l (out++[(u:Int)]) v+l.countP λe=>decide (e.1=(u:Int))&&decide (e.2=(v:Int)):=by
 unfold Jy
 induction l with
 |nil=>rfl
 |cons e l ih=>
  rw[dY,dY,dY,ih];by_cases h:e.1=(u:Int)
  ·by_cases h2:e.2=(v:Int)<;>simp[h,h2,hu]<;>omega
  ·by_cases h2:e.2=(v:Int)<;>by_cases h3:e.1∈out<;>simp[h,h2,h3]<;>omega
theorem OI.step{n:Nat}{l:List EdgT}{o out:List Int}(h:OI n l o out)(hl:∀e∈l,(0<=e.1/\e.1<n)/\(0<=e.2/\e.2<n)/\e.1≠e.2){u:Nat}(hu:u<n)(h0:o.getD u 0=0):
 OI n l ((Bw l u).foldl Ln (o.set u (-1))) (out++[(u:Int)])/\(u:Int) ∉ out/\(∀e∈l,e.2=(u:Int)->e.1∈out):=by
 have hop:=h.op u hu;rw[h0]at hop;have huo:(u:Int) ∉ out:=λhm=>by rw[aP hm]at hop;omega
 rw[aL huo]at hop;have hpre:∀e∈l,e.2=(u:Int)->e.1∈out:=λe he h2=>by
  refine Classical.byContradiction λh3=>?_
  have:0<Jy l out u:=gU.2 ⟨e,he,by simp[h2,h3]⟩;omega
 have hs0:∀e∈Bw l u,0<=e:=λe he=>by
  unfold Bw at he;obtain⟨a,ha,rfl⟩:=cU.1 he;exact(hl a (cW.1 ha).1).2.1.1
 have hsl:(o.set u (-1)).length=n:=by rw[cE,h.ol]
 refine⟨⟨?_, ?_, ?_, ?_, ?_⟩,huo,hpre⟩
 ·have h1:=(Pt u (Bw l u) (o.set u (-1)) hs0 (by rw[hsl];exact hu)).1;rw[h1,hsl]
 ·rw[List.nodup_append];refine⟨h.nd,by simp, ?_⟩;intro a ha b hb e;rw[bT]at hb;subst hb;subst e;exact huo ha
 ·intro v hv;rcases dG.1 hv with hv|hv
  ·exact h.rg v hv
  ·rw[bT.1 hv];omega
 ·intro e he hm;rcases dG.1 hm with hm|hm
  ·exact eU _ (h.cl e he hm)
  ·exact eU _ (hpre e he (bT.1 hm))
 ·intro v hv;obtain⟨h1,h2⟩:=Pt v (Bw l u) (o.set u (-1)) hs0 (by rw[hsl];exact hv);rw[h2,Aii,Cc];have h3:=h.op v hv;by_cases hvu:u=v
  ·subst hvu;rw[aP ⟨rfl,by rw[h.ol];exact hu⟩,aP (fQ _ (bT.2 rfl))];have:l.countP (λe=>decide (e.1=(u:Int))&&decide (e.2=(u:Int)))=0:=by
    rw[gV];intro e he;have:=(hl e he).2.2;simp only[aS,bO];omega
   rw[this];rfl
  ·rw[aL (by omega),h3];by_cases hm:(v:Int)∈out
   ·rw[aP hm,aP (eU _ hm)];have:l.countP (λe=>decide (e.1=(u:Int))&&decide (e.2=(v:Int)))=0:=by
     rw[gV];intro e he;simp only[aS,bO];rintro⟨e1,e2⟩;have:=h.cl e he (by rw[e2];exact hm);rw[e1]at this;exact huo this
    rw[this];rfl
   ·rw[aL hm,aL (by rw[dG,bT];rintro(h'|h');exact hm h';omega),Abj l out u v huo]
    push_cast
    omega
def Dt(x:PlT):List EdgT:=x.2.map λp=>(p.1,p.2.2.1)
def Ad(x:PlT):List Int:=(W3 x.1.length (Bt (Dt x))).1
def Bj(x:PlT)(S:List (List Int))(i:Int):List (List Int):=(ints (stIn (sg x i)).toNat).map λn=>S.getD (pIn x i n).toNat []
def Qv(x:PlT)(i:Int)(o:List (List Int))(S:List (List Int))(n:Nat):List (List Int):=S.set (pOut x i n).toNat (o.getD n [])
def Qw(x:PlT)(i:Int)(o:List (List Int))(S:List (List Int)):List (List Int):=(List.range o.length).foldl (Qv x i o) S
def Ym(x:PlT)(i:Int)(a:List Int)(K:List (List Int)):List (List Int):=if(sg x i).1=10 then K.set i.toNat a else K
def Abk(l:List StT)(K:List (List Int)):List (List Int):=((List.range l.length).filter λi=>isSink (l.getD i zStg)).map λi=>K.getD i []
def F1(x:PlT):List Int->List (List Int)->List (List Int)->List (List Int)×Int
 |[],_,K=>(Abk x.1 K,0)
 |i::l,S,K=>if(Ar (sg x i) (Bj x S i)).2≠0 then([],(Ar (sg x i) (Bj x S i)).2)
  else F1 x l (Qw x i (Ar (sg x i) (Bj x S i)).1 S) (Ym x i ((Bj x S i).getD 0 []) K)
def B7(x:PlT):List (List Int)×Int:=if Fa x≠0 then([],Fa x)else F1 x (Ad x) (List.replicate x.2.length []) (List.replicate x.1.length [])
def Abl(y:StT)(n:Int):StT:=if y.1=1 then(y.1,y.2.1,y.2.2.1,y.2.2.2.take n.toNat)else y
def Ar1(l:List StT)(s:List SST)(n:Nat):List StT:=(List.range l.length).map λi=>if i<n then Abl (l.getD i zStg) (s.getD i ([],0,false)).2.1 else l.getD i zStg
def C3(x:PlT)(s:FsT):PlT:=(Ar1 x.1 s.1 x.1.length,x.2)
def Abm(x:PlT)(s:FsT):List (List Int)×Int:=if Df x s≠0 then([],1)else B7 (C3 x s)
def Ar2:ExprT:=.mk 0 0 ⟨#[]⟩ 0 []
theorem Xi{x:StT}{ins:List (List Int)}(h:Al x=0):((Cj x ins).1.length:Int)=(Ap x.1).2.1:=by
 have hk:=G6 (B1 h);obtain⟨k,z,e,l⟩:=x;replace hk:k=1\/k=2\/k=3\/k=4\/k=5\/k=6\/k=7\/k=8\/k=9\/k=10:=hk;rcases hk with rfl|rfl|rfl|rfl|rfl|rfl|rfl|rfl|rfl|rfl<;>rfl
theorem Abn{x:StT}{ins:List (List Int)}(h:(Ar x ins).2=0):((Ar x ins).1.length:Int)=stOut x:=by
 obtain⟨h0,-,-,-,h1,-⟩:=Hq h;rw[h1,Xi h0,Ll h0]
theorem Aou{x:StT}{ins:List (List Int)}(h:(Ar x ins).2=0):(ins.length:Int)=stIn x:=by
 obtain⟨h0,h1,-⟩:=Hq h;rw[h1,Nt h0]
theorem Af2(x:PlT)(S:List (List Int))(i:Int):(Bj x S i).length=(stIn (sg x i)).toNat:=by rw[Bj,bN,Ej]
theorem Aov{x:PlT}{i:Int}{o S:List (List Int)}:∀(l:List Nat),(l.foldl (Qv x i o) S).length=S.length:=λl=>by
 induction l generalizing S with
 |nil=>rfl
 |cons a l ih=>rw[cM,ih,Qv,cE]
def okD(n:Int)(l:List EdgT):Prop:=(Wz n l/\1<=n/\n<=12)/\∀e∈l,e.1≠e.2
def cDgO:Ctr:=fnC [dI,.dat false (.sl tE)] [(false,tIs),(false,tI)] (λy=>okD y.1 y.2.1) (λy=>((W3 y.1.toNat y.2.1).1,(W3 y.1.toNat y.2.1).2,()))
def cxE7:Ctx:=⟨(122,tGr)::Aid,[(65,([],cBuild)),(66,([],cIndex))]⟩
theorem Aij:Ai Tryz.prog cxE7:=Dl (Ae Ar0 (Ae Arz En))
theorem Af3{l:List Int}{k:Nat}{d:Int}(h:l.length<=k):l.getD k d=d:=by
 rw[aZ,dW h];rfl
theorem Ar3{n:Int}{l:List EdgT}(h:okD n l):∀e∈l,(0<=e.1/\e.1<(n.toNat:Int))/\(0<=e.2/\e.2<(n.toNat:Int))/\e.1≠e.2:=λe he=>by
 obtain⟨k,hk,rfl⟩:=dM.1 he;have h1:=h.1.1.2.1 k hk;rw[A1 hk]at h1;have:=h.1.2.1;exact⟨by omega,by omega,h.2 _ he⟩
theorem Aow{n:Int}{l:List EdgT}{o:List Int}{i:Nat}(hin:∀e∈l,(0<=e.1/\e.1<(n.toNat:Int))/\(0<=e.2/\e.2<(n.toNat:Int))/\e.1≠e.2)(hl:l.length<=16)(ho:o=(l.take i).foldl Ni (List.replicate n.toNat 0))(hi:i<=l.length):
 o.length=n.toNat/\∀v:Nat,0<=o.getD v 0/\o.getD v 0<=16:=by
 have h0:∀e∈l.take i,0<=e.2:=λe he=>(hin e (fD he)).2.1.1
 have hlen:o.length=n.toNat:=by
  rw[ho];by_cases hn:0<n.toNat
  ·rw[(Lo 0 (l.take i) (List.replicate n.toNat 0) h0 (by rw[bZ];exact hn)).1,bZ]
  ·have:l.take i=[]:=by
    cases h:l.take i with
    |nil=>rfl
    |cons e r=>
     have:=(hin e (fD (by rw[h];exact dK))).2.1;omega
   rw[this];exact bZ
 refine⟨hlen,λv=>?_⟩;by_cases hv:v<n.toNat
 ·have h1:=(Lo v (l.take i) (List.replicate n.toNat 0) h0 (by rw[bZ];exact hv)).2;rw[<-ho]at h1;have h2:=eT (p:=λe:EdgT=>decide (e.2=(v:Int))) (l:=l.take i);rw[bP]at h2;rw[show(List.replicate n.toNat (0:Int)).getD v 0=0 by rw[aZ,eP,aP hv];rfl]at h1;omega
 ·rw[aZ,dW (by omega)];simp
theorem Avm{n:Int}{l:List EdgT}(hin:∀e∈l,(0<=e.1/\e.1<(n.toNat:Int))/\(0<=e.2/\e.2<(n.toNat:Int))/\e.1≠e.2):OI n.toNat l (l.foldl Ni (List.replicate n.toNat 0)) []:=by
 have h0:∀e∈l,0<=e.2:=λe he=>(hin e he).2.1.1
 refine⟨?_,List.nodup_nil,λv hv=>aT hv dB,λe _ h=>aT h dB,λv hv=>?_⟩
 ·by_cases hn:0<n.toNat
  ·rw[(Lo 0 l (List.replicate n.toNat 0) h0 (by rw[bZ];exact hn)).1,bZ]
  ·cases l with
   |nil=>exact bZ
   |cons e r=>
    have:=(hin e dK).2.1;omega
 ·rw[(Lo v l (List.replicate n.toNat 0) h0 (by rw[bZ];exact hv)).2,aL dB];unfold Jy;rw[show(List.replicate n.toNat (0:Int)).getD v 0=0 by rw[aZ,eP,aP hv];rfl];simp
theorem Avn{n j u:Nat}{l:List EdgT}{op out q L:List Int}(h:OI n l op out)(hl:l.length<=16)(hL:L.length<=16)(hr:∀v∈L,0<=v/\v<(n:Int))(hq:q=(L.take j).foldl Ln (op.set u (-1))):q.length=n/\∀v:Nat,-17<=q.getD v 0/\q.getD v 0<=16:=by
 have h0:∀v∈L.take j,0<=v:=λv hv=>(hr v (fD hv)).1
 have hsl:(op.set u (-1)).length=n:=by rw[cE,h.ol]
 by_cases hn:0<n
 ·have hlen:q.length=n:=by rw[hq,(Pt 0 (L.take j) (op.set u (-1)) h0 (by rw[hsl];exact hn)).1,hsl]
  refine⟨hlen,λv=>?_⟩;by_cases hv:v<n
  ·have h1:=(Pt v (L.take j) (op.set u (-1)) h0 (by rw[hsl];exact hv)).2;rw[<-hq,Cc]at h1;have h2:(L.take j).count (v:Int)<=16:=by
    have:=List.count_le_length (a:=(v:Int)) (l:=L.take j);rw[bP]at this;omega
   have h3:=h.op v hv;have h4:Jy l out v<=16:=cP eT hl;split at h1
   ·omega
   ·split at h3<;>omega
  ·rw[Af3 (by omega)];omega
 ·have hq0:L.take j=[]:=by
   cases h:L.take j with
   |nil=>rfl
   |cons a r=>
    have:=hr a (fD (by rw[h];exact dK));omega
  rw[hq0]at hq;have hlen:q.length=n:=by rw[hq];exact hsl
  refine⟨hlen,λv=>?_⟩;rw[Af3 (by omega)];omega
set_option maxHeartbeats 8000000 in
theorem Avo:GoodC Tryz.prog 35 cDgO:=by
 refine Au Aij 8 _ _ _ _ ⟨_,Tryz.func35,rfl,rfl⟩ λ(⟨n,l,()⟩:Int×List EdgT×Unit) hg=>?_
 replace hg:okD n l:=hg;have hin:=Ar3 hg;have hbu:=hg.1;have hn1:=hg.1.2.1;have hn2:=hg.1.2.2;have hl16:=hg.1.1.1.2.2;refine(aF (aI (by omega) (λ(h0:(Int×List (List Int))×Bool×PUnit)=>(λh1=>(aI (λh2=>(Aa rfl ?_)) (λh2=>(aO (λh3=>?_))))))))
 ·rw[h1]at h2;cases h2
 subst h1;clear h2;refine ex4 _ (λp:Nat×List Int=>⟨[.int .i64 n,.sl tE l,.any,.any,.any,.any,.ptr 0 0,.any,.ptr 2 0,.any,.any,.any,.any,.any,.any,.any,.any,.any,.any,.any,.any,.any,.any,.any,.sl tE l,.int .i64 (↑l.length:Int),.int .i64 (p.1:Int)]++nA 37,[.cells [.int .i64 n,.sl (.sl (.int .i64)) (List.map (Bw l) (List.range n.toNat))],.rows tI p.2,.cells [.own 1]],3⟩) (λp=>p.1<=l.length/\p.2=(l.take p.1).foldl Ni (List.replicate n.toNat 0)) (λp=>l.length-p.1) (aI (eI ((0,List.replicate n.toNat 0)) (eI ([some 0,some 1,some 2]) (aI ?_ (aB (aI (aG (aA (aG tT))) (by rfl)))))) ?_)
 ·exact⟨aV _,rfl⟩
 rintro⟨i,o⟩ ⟨hi,ho⟩;replace hi:i<=l.length:=hi;replace ho:o=(l.take i).foldl Ni (List.replicate n.toNat 0):=ho;obtain⟨hol,hov⟩:=Aow hin hl16 ho hi;have hlt:decide ((i:Int)<(l.length:Int))=true->i<l.length/\(0<=(l.getD (i:Int).toNat (Ab tE)).2/\(l.getD (i:Int).toNat (Ab tE)).2<(o.length:Int))/\Ni o (l.getD (i:Int).toNat (Ab tE))=(l.take (i+1)).foldl Ni (List.replicate n.toNat 0):=λh=>by
  have hi':i<l.length:=by have:=aM h;omega
  have e:l[i]=l.getD (i:Int).toNat (Ab tE):=by
   rw[bH,aZ,aR hi'];rfl
  have h1:=(hin _ (cJ hi')).2.1;rw[e]at h1;refine⟨hi',by omega, ?_⟩;rw[bS hi',dO,<-ho,e];rfl
 refine(aI (λk0=>(aO (aO (aI ?_ (aO (aO ?_)))))) (λk0=>?_))
 ·have:=hov (l.getD (i:Int).toNat (Ab tE)).2.toNat
  show -9223372036854775808<=o.getD (l.getD (i:Int).toNat (Ab tE)).2.toNat 0+1/\o.getD (l.getD (i:Int).toNat (Ab tE)).2.toNat 0+1<=9223372036854775807;omega
 ·obtain⟨h2,h3,h4⟩:=hlt k0;clear k0;refine eI ((i+1,Ni o (l.getD (i:Int).toNat (Ab tE)))) (eI ([some 0,some 1,some 2]) (aI ?_ (aI ?_ (aB (aI (aG (aA (aG tT))) (by rfl))))))
  ·exact⟨h2,h4⟩
  ·show l.length-(i+1)<l.length-i;omega
 have hi2:i=l.length:=by
  have:¬(i:Int)<(l.length:Int):=aQ k0;omega
 rw[hi2,dD]at ho;clear k0 hlt;have h00:=Avm hin;rw[<-ho]at h00;obtain⟨N,hN⟩:∃N:Nat,N=n.toNat:=⟨_,rfl⟩;have hnN:n=(N:Int):=by omega
 have hF:W3 n.toNat l=Nj l N o []:=by rw[hN,ho];rfl
 clear hov ho;refine ex4 _ (λp:Nat×List Int×List Int=>⟨[.int .i64 n,.any,.any,.any,.any,.any,.ptr 0 0,.any,.ptr 2 0,.any,.any,.own 3]++nA 52,[.cells [.int .i64 n,.sl (.sl (.int .i64)) (List.map (Bw l) (List.range n.toNat))],.rows tI p.2.1,.cells [.own 1],.rows tI p.2.2],4⟩) (λp=>p.2.2.length=p.1/\p.1<=N/\OI n.toNat l p.2.1 p.2.2/\Nj l N o []=Nj l (N-p.1) p.2.1 p.2.2) (λp=>N-p.1) (aI (eI ((0,o,[])) (eI ([some 0,some 1,some 2,none]) (aI ?_ (aB (aI (aG (aA (aG (aA tT)))) (by rfl)))))) ?_)
 ·exact⟨rfl,aV _,h00,rfl⟩
 rintro⟨k,op,out⟩ ⟨hk,hkN,hoi,hor⟩;replace hk:out.length=k:=hk;replace hkN:k<=N:=hkN;replace hoi:OI n.toNat l op out:=hoi;replace hor:Nj l N o []=Nj l (N-k) op out:=hor;have hlt:decide ((out.length:Int)<n)=true->N-k=(N-(k+1))+1/\k+1<=N/\k<=12:=λh=>by
  have:=aM h;omega
 have hix:decide (Cb op 0 0<0)=false->∃u:Nat,Cb op 0 0=(u:Int)/\u<N/\u<op.length/\op.getD u 0=0:=λh=>by
  rcases Uz op 0 0 with⟨h1,-⟩|⟨u,h1,h2,h3⟩
  ·exact aT h1 (aQ h)
  ·have:=hoi.ol;exact⟨u,by rw[h1,dF],by omega,h2,h3⟩
 have hrl:(List.map (Bw l) (List.range n.toNat)).length=N:=by rw[bN,dU,hN]
 refine(λm0=>(aI (λm1=>(aI tT (aI (λm2=>(Aa rfl ?_)) (λm2=>(aO (aF (aF (aF (aO (λm3=>?_)))))))))) (λm1=>(Aa rfl ?_))))
 ·show(_,_,())=_;rw[hF,hor,(hlt m1).1,Nj,aP (aM m2)]
 ·obtain⟨u,hu,huN,hul,hu0⟩:=hix m2;obtain⟨hs,-,-⟩:=hoi.step hin (by omega:u<n.toNat) hu0;have hstep:Nj l (N-k) op out=Nj l (N-(k+1)) ((Bw l u).foldl Ln (op.set u (-1))) (out++[(u:Int)]):=by
   rw[(hlt m1).1,Nj,hu,aL (by omega),bH]
  obtain⟨hlt1,hlt2,hlt3⟩:=hlt m1;have hR:(List.map (Bw l) (List.range n.toNat)).getD (Cb op 0 0).toNat (Ab tIs)=Bw l u:=by
   rw[hu,bH,A1 (by rw[hrl];exact huN),eS,fL]
  clear m0 m1 m2 hlt hix;refine ex4 _ (λq:Nat×List Int=>⟨[.yld 6,.any,.any,.any,.any,.any,.ptr 4 1,.any,.int .i64 (Cb op 0 0),.any,.sl (.int .i64)   ((List.map (Bw l) (List.range n.toNat)).getD (Cb op 0 0).toNat (Ab (.sl (.int .i64)))),.int .i64   (↑(List.length ((List.map (Bw l) (List.range n.toNat)).getD (Cb op 0 0).toNat (Ab (.sl (.int .i64))))) :     Int),.int .i64 (q.1:Int),.any,.any,.any,.any,.any,.any,.any,.any],[.cells [.int .i64 n,.sl (.sl (.int .i64)) (List.map (Bw l) (List.range n.toNat))],.rows tI q.2,.cells [.own 1],.rows tI out,.cells [.int .i64 n,.sl (.sl (.int .i64)) (List.map (Bw l) (List.range n.toNat))],.cells [.int .i64 (Cb op 0 0)],.loop .ready .no ([52]) _ _ [.int .i64 n,.any,.any,.any,.any,.any,.ptr 0 0,.any,.ptr 2 0,.any,.any,.own 3,.int .i64 (Cb op 0 0),.any,.any,.any,.any,.any,.any,.any,.any,.any,.any,.any,.any,.any,.any,.any,.any,.any,.any,.any,.any,.any,.any,.any,.any,.any,.own 3,.int .i64 (↑out.length:Int),.int .i64 n,.bool (decide ((↑out.length:Int)<n)),.own 1,.int .i64 (Cb op 0 0),.int .i64 (Cb op 0 0),.bool (decide (Cb op 0 0<0)),.own 1,.int .i64 (Cb op 0 0),.rptr 1 tI.size (Cb op 0 0).toNat 0,.agg [.int .i64 n,.sl (.sl (.int .i64)) (List.map (Bw l) (List.range n.toNat))],.int .i64 (Cb op 0 0),.fn (Fn.func 103) [] [.ptr 4 0,.ptr 5 0],.any,.any,.any,.any,.any,.any,.any,.any,.any,.any,.any,.any]],7⟩) (λq=>q.1<=(Bw l u).length/\q.2=((Bw l u).take q.1).foldl Ln (op.set (Cb op 0 0).toNat (-1))) (λq=>(Bw l u).length-q.1) (aI (eI ((0,op.set (Cb op 0 0).toNat (-1))) (eI ([some 0,some 1,some 2,some 3,some 4,some 5,some 6]) (aI ?_ (aB (aI (aG (aA (aG (aA (aH (aI (aI (aI rfl (aI rfl (aI rfl (aI rfl rfl)))) (aA (by rfl))) tT)))))) (by rfl)))))) ?_)
  ·exact⟨aV _,rfl⟩
  rintro⟨j,q⟩ ⟨hj,hq⟩;replace hj:j<=(Bw l u).length:=hj;replace hq:q=((Bw l u).take j).foldl Ln (op.set (Cb op 0 0).toNat (-1)):=hq;rw[<-hR]at hj hq;have hsl:((List.map (Bw l) (List.range n.toNat)).getD (Cb op 0 0).toNat (Ab tIs)).length<=16:=by
   rw[hR];unfold Bw;have h2:=fA (λe:EdgT=>e.1==(u:Int)) l;rw[bN];omega
  have hsr:∀v∈(List.map (Bw l) (List.range n.toNat)).getD (Cb op 0 0).toNat (Ab tIs),0<=v/\v<(n.toNat:Int):=λv hv=>by
   rw[hR]at hv;unfold Bw at hv;obtain⟨e,he,rfl⟩:=cU.1 hv;exact(hin e (cW.1 he).1).2.1
  have hR':=hR;clear hR;have hu1:(Cb op 0 0).toNat=u:=by rw[hu,bH]
  have hql:=Avn hoi hl16 (u:=(Cb op 0 0).toNat) hsl hsr hq;have hw:decide ((j:Int)<(((List.map (Bw l) (List.range n.toNat)).getD (Cb op 0 0).toNat (Ab (.sl (.int .i64)))).length:Int))=true->j<((List.map (Bw l) (List.range n.toNat)).getD (Cb op 0 0).toNat (Ab tIs)).length/\
   (0<=((List.map (Bw l) (List.range n.toNat)).getD (Cb op 0 0).toNat (Ab (.sl (.int .i64)))).getD (j:Int).toNat (Ab (.int .i64))/\((List.map (Bw l) (List.range n.toNat)).getD (Cb op 0 0).toNat (Ab (.sl (.int .i64)))).getD (j:Int).toNat (Ab (.int .i64))<(q.length:Int))/\
   Ln q (((List.map (Bw l) (List.range n.toNat)).getD (Cb op 0 0).toNat (Ab (.sl (.int .i64)))).getD (j:Int).toNat (Ab (.int .i64)))=(((List.map (Bw l) (List.range n.toNat)).getD (Cb op 0 0).toNat (Ab tIs)).take (j+1)).foldl Ln (op.set (Cb op 0 0).toNat (-1)):=λh=>by
   have hj':j<((List.map (Bw l) (List.range n.toNat)).getD (Cb op 0 0).toNat (Ab tIs)).length:=by have h1:(j:Int)<(((List.map (Bw l) (List.range n.toNat)).getD (Cb op 0 0).toNat (Ab tIs)).length:Int):=aM h;omega
   have e:((List.map (Bw l) (List.range n.toNat)).getD (Cb op 0 0).toNat (Ab tIs))[j]=((List.map (Bw l) (List.range n.toNat)).getD (Cb op 0 0).toNat (Ab (.sl (.int .i64)))).getD (j:Int).toNat (Ab (.int .i64)):=by
    rw[bH,aZ (l:=List.getD _ _ _),aR hj'];rfl
   have h1:=hsr _ (cJ hj');rw[e]at h1;refine⟨hj',by rw[hql.1];exact h1, ?_⟩;rw[bS hj',dO,<-hq,e];rfl
  have hwf:decide ((j:Int)<(((List.map (Bw l) (List.range n.toNat)).getD (Cb op 0 0).toNat (Ab (.sl (.int .i64)))).length:Int))=false->q=((List.map (Bw l) (List.range n.toNat)).getD (Cb op 0 0).toNat (Ab tIs)).foldl Ln (op.set (Cb op 0 0).toNat (-1)):=λh=>by
   have h1:¬(j:Int)<(((List.map (Bw l) (List.range n.toNat)).getD (Cb op 0 0).toNat (Ab tIs)).length:Int):=aQ h;rw[hq,bL (by omega)]
  clear hq;refine(aI (λw0=>(aO (aO (aI ?_ (aO (aI (λw1=>nG w1) (λw1=>(aO ?_)))))))) (λw0=>(aO ?_)))
  ·have:=hql.2 (((List.map (Bw l) (List.range n.toNat)).getD (Cb op 0 0).toNat (Ab (.sl (.int .i64)))).getD (j:Int).toNat (Ab (.int .i64))).toNat
   show -9223372036854775808<=q.getD (((List.map (Bw l) (List.range n.toNat)).getD (Cb op 0 0).toNat (Ab (.sl (.int .i64)))).getD (j:Int).toNat (Ab (.int .i64))).toNat 0-1/\q.getD (((List.map (Bw l) (List.range n.toNat)).getD (Cb op 0 0).toNat (Ab (.sl (.int .i64)))).getD (j:Int).toNat (Ab (.int .i64))).toNat 0-1<=9223372036854775807;omega
  ·obtain⟨h1,-,h3⟩:=hw w0;clear w0 w1 hw hwf;refine eI ((j+1,Ln q (((List.map (Bw l) (List.range n.toNat)).getD (Cb op 0 0).toNat (Ab (.sl (.int .i64)))).getD (j:Int).toNat (Ab (.int .i64))))) (eI ([some 0,some 1,some 2,some 3,some 4,some 5,some 6]) (aI ?_ (aI ?_ (aB (aI (aG (aA (aG (aA (aH (aI (aI (aI rfl (aI rfl (aI rfl (aI rfl rfl)))) (aA (by rfl))) tT)))))) (by rfl))))))
   ·exact⟨by show j+1<=(Bw l u).length;rw[<-hR'];exact h1,by show Ln _ _=((Bw l u).take (j+1)).foldl Ln _;rw[<-hR'];exact h3⟩
   ·show(Bw l u).length-(j+1)<(Bw l u).length-j;rw[<-hR'];omega
  ·have h1:=hwf w0;clear w0 hw hwf;have e:q=(Bw l u).foldl Ln (op.set u (-1)):=by rw[h1,hR',hu1]
   refine eI ((k+1,q,out++[Cb op 0 0])) (eI ([some 0,some 1,some 2,some 8]) (aI ?_ (aI ?_ (aB (aI (aG (aA (aG (aA tT)))) (by rfl))))))
   ·refine⟨by show(out++[_]).length=k+1;rw[bD,hk];rfl,hlt2, ?_, ?_⟩
    ·show OI n.toNat l q (out++[Cb op 0 0]);rw[hu,e];exact hs
    ·show Nj l N o []=Nj l (N-(k+1)) q (out++[Cb op 0 0]);rw[hor,hstep,hu,e]
   ·show N-(k+1)<N-k;omega
 ·show(_,_,())=_;rw[hF,hor,show N-k=0 by have:¬(out.length:Int)<n:=aQ m1;omega];rfl
theorem Atu{a b:Bool}(h:(bif a then b else false)=true):a=true/\b=true:=by cases a<;>simp_all
def Ap2:FuncId->List AV->List Ob->AV->List Ob->Prop:=λg args T x1 T1=>∃d:List EdgT,d.length<=12/\g=31/\args=[.own 0,.fn (.func 32) [] []]/\T=[.rows tE d]/\x1=.tup []/\T1=[.rows tE (Bt d)]
theorem Atv:∀g args T x1 T1,Ap2 g args T x1 T1->Nl cxE2 Tryz.prog 4 g args T T.length (λx T' n'=>∃σ,J1 T.length σ [noW x] T' n' ⟨[x1],T1,T1.length⟩):=by
 rintro g args T x1 T1 ⟨d,hd,rfl,rfl,rfl,rfl,rfl⟩;exact Amc d hd
theorem Ad1:Bb Tryz.prog (Gs Ap2):=Gt (Af M9 (Af M9 (Af M9 (Af M9 Bl)))) Atv
def Atw:List (TypeId×Ty):=(70,tE)::Dk
def cxGo:Ctx:=⟨Atw,[(35,([],cDgO))]⟩
theorem Qx:Ai Tryz.prog cxGo:=Dl (Ae Avo Ah)
def okO(x:PlT):Prop:=x.2.length<=12/\okD x.1.length (Bt (Dt x))
def cOrder:Ctr:=fnC [dPl] [(false,tIs)] (λy=>okO y.1) (λy=>(Ad y.1,()))
set_option maxHeartbeats 8000000 in
theorem Ar4:GoodC Tryz.prog 13 cOrder:=by
 refine Xw (Af Qx (Da (g0:=31) Ad1 (Af Qx (Af Qx Bl)))) _ _ _ _ ⟨_,Tryz.func13,rfl,rfl⟩ λ(⟨⟨st,ps⟩,_⟩:PlT×Unit) hg=>?_
 obtain⟨hl,hd⟩:okO (st,ps):=hg;have hge:=hd.1.1;have hN:=hd.1.2;replace hl:ps.length<=12:=hl;refine(aF (λh0=>?_));refine ex4 _ (λp:Nat×List EdgT=>⟨[.any,.ptr 0 0,.any,.own 1,.any,.any,.any,.any,.ptr 0 1,.sl A6 ps,.int .i64 (↑ps.length:Int),.int .i64 (p.1:Int)]++nA 24,[.cells [.sl tSt st,.sl A6 ps],.rows tE p.2],2⟩) (λp=>p.1<=ps.length/\p.2=(Dt (st,ps)).take p.1) (λp=>ps.length-p.1) (aI (eI ((0,[])) (eI ([some 0,none]) (aI ?_ (aB (aI (aG (aA tT)) (by rfl)))))) ?_)
 ·exact⟨aV _,rfl⟩
 rintro⟨i,d⟩ ⟨hi,hdd⟩;replace hi:i<=ps.length:=hi;replace hdd:d=(Dt (st,ps)).take i:=hdd;have hlt:decide ((i:Int)<(ps.length:Int))=true->i<ps.length/\d++[((ps.getD (i:Int).toNat (Ab A6)).1,(ps.getD (i:Int).toNat (Ab A6)).2.2.1)]=(Dt (st,ps)).take (i+1):=λh=>by
  have hi':i<ps.length:=by have:=aM h;omega
  refine⟨hi', ?_⟩;have hl2:i<(Dt (st,ps)).length:=by unfold Dt;rw[bN];exact hi'
  rw[bS hl2,<-hdd];have e:(Dt (st,ps))[i]=((ps.getD (i:Int).toNat (Ab A6)).1,(ps.getD (i:Int).toNat (Ab A6)).2.2.1):=by
   refine(eS (f:=λp:PipeT=>((p.1,p.2.2.1):EdgT)) (l:=ps) (h:=by rw[bN];exact hi')).trans ?_;rw[bH,A1 hi']
  rw[e]
 refine(aI (λk0=>(aO (aO (aO ?_)))) (λk0=>(aI tT ?_)))
 ·obtain⟨h1,h2⟩:=hlt k0;clear k0 hlt;refine eI ((i+1,d++[((ps.getD (i:Int).toNat (Ab A6)).1,(ps.getD (i:Int).toNat (Ab A6)).2.2.1)])) (eI ([some 0,some 4]) (aI ?_ (aI ?_ (aB (aI (aG (aA tT)) (by rfl))))))
  ·exact⟨h1,h2⟩
  ·show ps.length-(i+1)<ps.length-i;omega
 have hd2:d=Dt (st,ps):=by
  have:¬(i:Int)<(ps.length:Int):=aQ k0;rw[hdd,bL (by unfold Dt;rw[bN];show ps.length<=i;omega)]
 have hd12:d.length<=12:=by rw[hd2];unfold Dt;rw[bN];exact hl
 clear hlt k0 hdd;rw[<-hd2]at hd hge;refine eI [.own 0,.fn (.func 32) [] []] (eI [.rows tE d] (eI (.tup []) (eI [.rows tE (Bt d)] (eI [some 1]
  ⟨⟨d,hd12,rfl,rfl,rfl,rfl,rfl⟩,⟨by rfl,by rfl,⟨by rfl,trivial⟩,by rfl⟩,by rfl, ?_⟩))))
 dsimp only[Fq,Cx,E6,Db,Fv,B3,Aq,Ic,List.length_cons,List.length_nil,List.cons_append,List.nil_append,Nat.reduceAdd,Nat.reduceSub];have hF:∀{r:Ib [(false,tIs),(false,tI)]},r=((W3 ((st.length:Nat):Int).toNat (Bt d)).1,(W3 ((st.length:Nat):Int).toNat (Bt d)).2,())->(Ad (st,ps),())=(r.1,()):=λh=>by
  rw[h,hd2];rfl
 refine(aK (λw0=>(aC (aF (λw1=>(aI (λw2=>(aB (aA (aI (by omega) (λ(w3:List Int×Int×PUnit)=>(λw4=>(aC (Aa rfl ?_)))))))) (λw2=>?_)))))))
 ·exact hF w4
 have hS2:2<=(Bt d).length:=by
  have:¬((Bt d).length:Int)<2:=aQ w2;omega
 clear w0 w1 w2;refine ex4 _ (λk:Nat=>⟨[.own 1,.any,.any,.int .i64 ((k:Int)+1),.any,.any,.own 1]++nA 54,[.cells [.sl tSt st,.sl A6 ps],.rows tE (Bt d)],2⟩) (λk=>k+1<=(Bt d).length) (λk=>(Bt d).length-k) (aI (eI (0) (eI ([some 0,some 1]) (aI ?_ (aB (aI (aG (aA tT)) (by rfl)))))) ?_)
 ·show 0+1<=(Bt d).length;omega
 rintro k hk;replace hk:k+1<=(Bt d).length:=hk;have hno:decide ((k:Int)+1<((Bt d).length:Int))=true->(bif decide (((Bt d).getD ((k:Int)+1).toNat (Ab tE)).1=((Bt d).getD ((k:Int)+1-1).toNat (Ab tE)).1)then bif decide (((Bt d).getD ((k:Int)+1).toNat (Ab tE)).2=((Bt d).getD ((k:Int)+1-1).toNat (Ab tE)).2)then true else false else false)=true->False:=λh1 h2=>by
  have h3:k+1<(Bt d).length:=by have:=aM h1;omega
  have h4:=hge.2.2 k h3;rw[show((k:Int)+1).toNat=k+1 by omega,show((k:Int)+1-1).toNat=k by omega]at h2;have h5:=Atu h2;have h6:((Bt d).getD (k+1) (0,0)).1=((Bt d).getD k (0,0)).1:=aM h5.1;have h7:((Bt d).getD (k+1) (0,0)).2=((Bt d).getD k (0,0)).2:=aM (Atu h5.2).1;omega
 refine(λu0=>(aI (λu1=>(aF (aO (aO (aI (by omega) (aF (aI (λu2=>(aI (by omega) ?_)) (λu2=>(aO ?_))))))))) (λu1=>(aB (aA (aI (by omega) (λ(u3:List Int×Int×PUnit)=>(λu4=>(aC (Aa rfl ?_))))))))))
 ·exact(hno u1 u2).elim
 ·have h1:k+1<(Bt d).length:=by have:=aM u1;omega
  clear u0 u1 u2 hno;refine eI (k+1) (eI ([some 0,some 1]) (aI ?_ (aI ?_ (aB (aI (aG (aA tT)) (by rfl))))))
  ·exact h1
  ·show(Bt d).length-(k+1)<(Bt d).length-k;omega
 ·exact hF u4
theorem W4:∀(j:Nat)(d:List EdgT),j<d.length->(Ko j d).Perm d
 |0,d,_=>List.Perm.refl _
 |j+1,d,h=>by
  unfold Ko;split
  ·have hs:((d.set (j+1) (d.getD j (0,0))).set j (d.getD (j+1) (0,0))).Perm d:=by
    rw[A1 h,A1 (by omega:j<d.length)];exact List.set_set_perm h (by omega)
   exact(W4 j _ (by rw[cE,cE];omega)).trans hs
  ·exact List.Perm.refl _
theorem W5:∀(k i:Nat)(d:List EdgT),i+k<=d.length->(Rz k i d).Perm d
 |0,_,d,_=>List.Perm.refl _
 |k+1,i,d,h=>by
  unfold Rz;have h1:=W4 i d (by omega);exact(W5 k (i+1) (Ko i d) (by rw[h1.length_eq];omega)).trans h1
theorem Kq(d:List EdgT):(Bt d).Perm d:=by
 unfold Bt;by_cases h:d.length=0
 ·rw[h];exact List.Perm.refl _
 ·exact W5 _ _ _ (by omega)
structure Topo(n:Nat)(l:List EdgT)(w:List Int):Prop where
 nd:w.Nodup
 all:∀v:Int,v∈w<->0<=v/\v<n
 pre:∀a v b,w=a++v::b->∀e∈l,e.2=v->e.1∈a
theorem U0(n:Nat):(ints n).Nodup:=by
 unfold ints;exact List.Pairwise.map _ (λa b h e=>h (Int.ofNat_inj.1 e)) List.nodup_range
theorem Ame{n:Nat}{l:List EdgT}(hl:∀e∈l,(0<=e.1/\e.1<n)/\(0<=e.2/\e.2<n)/\e.1≠e.2)
 (hf:∀B:List Int,B≠[]->B.Nodup->(∀i∈B,0<=i/\i<n)->∃v∈B,∀e∈l,e.2=v->e.1 ∉ B):
 ∀(k:Nat)(o out:List Int),OI n l o out->out.length+k=n->(∀a v b,out=a++v::b->∀e∈l,e.2=v->e.1∈a)->(Nj l k o out).2=0/\Topo n l (Nj l k o out).1
 |0,o,out,h,hk,hp=>by
  refine⟨rfl,h.nd,λv=>⟨h.rg v,λhv=>?_⟩,hp⟩;exact Qp h.nd (m:=ints n) (λa ha=>Dm.2 (h.rg a ha)) (by rw[Ej];omega) v (Dm.2 hv)
 |k+1,o,out,h,hk,hp=>by
  have hex:∃u:Nat,u<n/\o.getD u 0=0:=by
   have hB:(ints n).filter (λv=>!decide (v∈out))≠[]:=λhe=>by
    have hall:∀a∈ints n,a∈out:=λa ha=>by
     refine Classical.byContradiction λhna=>?_
     have:a∈(ints n).filter (λv=>!decide (v∈out)):=cW.2 ⟨ha,by simpa using hna⟩;rw[he]at this;exact dB this
    have hnd:=U0 n;have:=G1 (ints n) out hnd hall;rw[Ej]at this;omega
   have hnd:((ints n).filter (λv=>!decide (v∈out))).Nodup:=by
    exact List.Pairwise.filter _ (U0 n)
   obtain⟨v,hv,hve⟩:=hf _ hB hnd (λi hi=>Dm.1 (cW.1 hi).1);obtain⟨hv1,hv2⟩:=cW.1 hv;have hv1:=Dm.1 hv1;have hv2:v ∉ out:=by simpa using hv2
   refine⟨v.toNat,by omega, ?_⟩;have hc:((v.toNat:Nat):Int)=v:=by omega
   rw[h.op v.toNat (by omega),hc,aL hv2];have:Jy l out v.toNat=0:=by
    unfold Jy;rw[gV];intro e he;rw[hc];simp only[aS,bO,bM,bF,not_and,dT];intro e2;refine Classical.byContradiction λh3=>?_
    have:=hve e he e2;exact this (cW.2 ⟨Dm.2 (hl e he).1,by simpa using h3⟩)
   rw[this];rfl
  obtain⟨u0,hu0,hu1⟩:=hex;unfold Nj;rcases Uz o 0 0 with⟨-,h2⟩|⟨u,h1,h2,h3⟩
  ·exfalso;apply h2;have hlt:u0<o.length:=by rw[h.ol];exact hu0
   rw[<-hu1,A1 hlt];exact cJ hlt
  ·rw[h1,dF,aL (by omega),bH];have hun:u<n:=by rw[<-h.ol];exact h2
   obtain⟨hs,hnm,hpre⟩:=h.step hl hun h3;refine Ame hl hf k _ _ hs (by rw[bD,eG];omega) ?_;intro a v b hab e he hev;rcases List.append_eq_append_iff.1 hab with⟨c,hc1,hc2⟩|⟨c,hc1,hc2⟩
   ·cases c with
    |nil=>
     rw[cC]at hc1;rw[List.nil_append]at hc2;have:v=(u:Int):=(List.cons.inj hc2).1.symm;rw[hc1];exact hpre e he (by rw[hev,this])
    |cons c0 c=>
     have:=bI List.length hc2;simp at this
   ·cases c with
    |nil=>
     rw[cC]at hc1;rw[List.nil_append]at hc2;have:v=(u:Int):=(List.cons.inj hc2).1;rw[<-hc1];exact hpre e he (by rw[hev,this])
    |cons c0 c=>
     obtain⟨e1,e2⟩:=List.cons.inj hc2;subst e1;exact hp a v c hc1 e he hev
theorem U1{x:PlT}(w:WF x):Topo x.1.length (Dt x) (Ad x):=by
 have hm:∀e,e∈Bt (Dt x)<->e∈Dt x:=λe=>(Kq _).mem_iff
 have hk:∀e∈Dt x,∃k,k<x.2.length/\e=((x.2.getD k Ag).1,(x.2.getD k Ag).2.2.1):=λe he=>by
  obtain⟨y,hy,rfl⟩:=cU.1 he;obtain⟨k,hk,rfl⟩:=dM.1 hy;exact⟨k,hk,by rw[A1 hk]⟩
 have hl:∀e∈Bt (Dt x),(0<=e.1/\e.1<x.1.length)/\(0<=e.2/\e.2<x.1.length)/\e.1≠e.2:=λe he=>by
  obtain⟨k,hk,rfl⟩:=hk e ((hm e).1 he);have q:=w.pipe hk;exact⟨⟨q.f0,q.fn⟩,⟨q.t0,q.tn⟩,w.ne hk⟩
 have hf:∀B:List Int,B≠[]->B.Nodup->(∀i∈B,0<=i/\i<x.1.length)->∃v∈B,∀e∈Bt (Dt x),e.2=v->e.1 ∉ B:=λB hB hnd hr=>by
  refine Classical.byContradiction λhno=>?_
  have hlt:=Us hB hr w.tree;have hall:∀v∈B,∃k,k<x.2.length/\(x.2.getD k Ag).2.2.1=v/\(x.2.getD k Ag).1∈B:=λv hv=>by
   refine Classical.byContradiction λhnk=>?_
   apply hno;refine⟨v,hv,λe he hev hm2=>hnk ?_⟩;obtain⟨k,hk,rfl⟩:=hk e ((hm e).1 he);exact⟨k,hk,hev,hm2⟩
  have h1:B.length<=((x.2.filter (Gd B)).map λy=>y.2.2.1).length:=G1 B _ hnd λv hv=>by
   obtain⟨k,k1,k2,k3⟩:=hall v hv;refine cU.2 ⟨x.2.getD k Ag,cW.2 ⟨by rw[A1 k1];exact cJ k1, ?_⟩,k2⟩;unfold Gd;rw[aX k3,k2,aX hv];rfl
  rw[bN,<-List.countP_eq_length_filter]at h1;omega
 have hs0:∀e∈Bt (Dt x),0<=e.2:=λe he=>(hl e he).2.1.1
 have hlen:((Bt (Dt x)).foldl Ni (List.replicate x.1.length 0)).length=x.1.length:=by
  have hn:=w.n1;rw[(Lo 0 _ (List.replicate x.1.length 0) hs0 (by rw[bZ];omega)).1,bZ]
 have ho:=(Ame hl hf x.1.length ((Bt (Dt x)).foldl Ni (List.replicate x.1.length 0)) [] ⟨hlen,List.nodup_nil,λv hv=>aT hv dB,λe _ h=>aT h dB,λv hv=>?_⟩ (by simp) (λa v b h=>by simp at h)).2
 ·exact⟨ho.nd,ho.all,λa v b h e he=>ho.pre a v b h e ((hm e).2 he)⟩
 ·rw[(Lo v _ (List.replicate x.1.length 0) hs0 (by rw[bZ];omega)).2,aL dB];unfold Jy;rw[aZ,eP,aP hv];simp
theorem Qy{x:PlT}{s:FsT}(v:VS x s){i:Int}(i0:0<=i)(iN:i<x.1.length)(h1:(sg x i).1=1):0<=(Ay s i).2.1/\(Ay s i).2.1<=((sg x i).2.2.2.length:Int):=by
 have hnd:(Am (sg x i) (Ay s i)).2=0:=by have:=v.nd i.toNat (by omega);rwa [show((i.toNat:Nat):Int)=i by omega]at this
 obtain⟨b1,b2,-⟩:=(As.1 (B0.1 hnd).2).1;unfold E7 at b2;rw[aP h1]at b2;exact⟨b1,b2⟩
end Go.Proofs.YtpabcdbaffjcdaaGreat
