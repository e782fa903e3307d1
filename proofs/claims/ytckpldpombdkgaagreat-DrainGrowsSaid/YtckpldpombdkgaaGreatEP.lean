/- Pipelines. -/
import Derived.Test.YtckpldpombdkgaaGreatEZ1
import Derived.Test.YtckpldpombdkgaaGreatEZ4
import Derived.Test.YtckpldpombdkgaaGreatEZ8
set_option linter.unusedSimpArgs false
set_option linter.unusedVariables false
set_option maxRecDepth 100000
namespace Go.Proofs.YtckpldpombdkgaaGreat
open Go.Sx
abbrev Cred:=Int×Int×Int×Int×List Int×Bool
def inR(n lo hi:Int):Bool:=decide (lo<=n)&&decide (n<=hi)
def A3(n:Int):Bool:=!inR n (-1099511627776) 1099511627776
def A8(c:Cred):Int:=
 if !inR c.1 1 100 then 2
 else if c.2.2.2.1<0\/c.2.2.1<c.2.2.2.1\/c.2.1<c.2.2.1\/1099511627776<c.2.1\/c.1<c.2.1-c.2.2.2.1\/(c.2.2.2.2.1.length:Int)≠c.2.2.1-c.2.2.2.1 then 1
 else if c.2.2.2.2.1.any A3 then 1 else 0
abbrev zCred:Cred:=(0,0,0,0,[],false)
def Vn(n:Int):Cred×Int:=if !inR n 1 100 then(zCred,2)else((n,0,0,0,[],false),0)
def Jh(c:Cred)(n:Int):Cred×Int:=
 if A8 c≠0 then(zCred,A8 c)else if n<1 then(zCred,2)else if c.2.2.2.2.2=true then(zCred,19)else if c.2.2.2.1+c.1-c.2.1<n then(zCred,18)
 else if 1099511627776<c.2.1+n then(zCred,4)else((c.1,c.2.1+n,c.2.2),0)
def Ey(c:Cred)(x:Int):Cred×Int:=
 if A8 c≠0 then(zCred,A8 c)else if A3 x=true then(zCred,2)else if c.2.2.2.2.2=true then(zCred,19)else if c.2.2.1=c.2.1 then(zCred,18)
 else((c.1,c.2.1,c.2.2.1+1,c.2.2.2.1,c.2.2.2.2.1++[x],c.2.2.2.2.2),0)
def Em(c:Cred):Cred×Int×Int:=
 if A8 c≠0 then(zCred,0,A8 c)else match c.2.2.2.2.1 with
 |[]=>if c.2.2.2.2.2=true then(zCred,0,19)else(zCred,0,23)
 |x::l=>((c.1,c.2.1,c.2.2.1,c.2.2.2.1+1,l,c.2.2.2.2.2),x,0)
def Ec(c:Cred):Cred×Int:=if A8 c≠0 then(zCred,A8 c)else if c.2.2.2.2.2=true then(zCred,19)else((c.1,c.2.1,c.2.2.1,c.2.2.2.1,c.2.2.2.2.1,true),0)
def Cv(c:Cred):Bool:=decide (A8 c=0)&&c.2.2.2.2.2&&decide ((c.2.2.2.2.1.length:Int)=0)
def Jp(c:Cred):Int:=if A8 c≠0\/c.2.2.2.2.2=true then 0 else c.2.1-c.2.2.1
theorem Fg{c:Cred}(h:A8 c=0):1<=c.1/\c.1<=100/\0<=c.2.2.2.1/\c.2.2.2.1<=c.2.2.1/\c.2.2.1<=c.2.1/\c.2.1<=1099511627776/\c.2.1-c.2.2.2.1<=c.1/\(c.2.2.2.2.1.length:Int)=c.2.2.1-c.2.2.2.1/\c.2.2.2.2.1.any A3=false:=by
 unfold A8 inR at h;split at h
 ·omega
 ·rename_i h1;simp only[bK,Bool.and_eq_false_iff,bF]at h1;split at h
  ·omega
  ·rename_i h2;split at h
   ·omega
   ·rename_i h3;simp only[fA]at h3;refine⟨by omega,by omega,by omega,by omega,by omega,by omega,by omega,by omega,h3⟩
theorem Ah2(c:Cred):A8 c=if c.1<1\/100<c.1 then 2 else if(((((c.2.2.2.1<0\/c.2.2.1<c.2.2.2.1)\/c.2.1<c.2.2.1)\/1099511627776<c.2.1)\/c.2.2.2.1+c.1<c.2.1)\/¬(c.2.2.2.2.1.length:Int)=c.2.2.1-c.2.2.2.1)then 1
 else if c.2.2.2.2.1.any A3=true then 1 else 0:=by
 unfold A8 inR;by_cases h:c.1<1\/100<c.1
 ·rw[aN h,aN (by simp;omega)]
 ·rw[aL h,aL (by simp;omega)];by_cases h2:(((((c.2.2.2.1<0\/c.2.2.1<c.2.2.2.1)\/c.2.1<c.2.2.1)\/1099511627776<c.2.1)\/c.2.2.2.1+c.1<c.2.1)\/¬(c.2.2.2.2.1.length:Int)=c.2.2.1-c.2.2.2.1)
  ·rw[aN h2,aN (by omega)]
  ·rw[aL h2,aL (by omega)]
theorem Ll(c:Cred):A8 c=0<->(1<=c.1/\c.1<=100/\0<=c.2.2.2.1/\c.2.2.2.1<=c.2.2.1/\c.2.2.1<=c.2.1/\c.2.1<=1099511627776/\c.2.1-c.2.2.2.1<=c.1/\(c.2.2.2.2.1.length:Int)=c.2.2.1-c.2.2.2.1/\c.2.2.2.2.1.any A3=false):=by
 refine⟨Fg,λh=>?_⟩;rw[Ah2,aL (by omega),aL (by omega),aL (by simp[h.2.2.2.2.2.2.2.2])]
theorem Aok{n:Int}(h:(Vn n).2=0):A8 (Vn n).1=0/\1<=n/\n<=100/\(Vn n).1=(n,0,0,0,[],false):=by
 unfold Vn at h ⊢;split at h
 ·simp at h
 ·rename_i hn;rw[aL hn];have h2:1<=n/\n<=100:=by simpa[inR]using hn
  refine⟨(Ll _).2 ?_,h2.1,h2.2,rfl⟩;simp;omega
theorem Afw{c:Cred}{n:Int}(h:(Jh c n).2=0):A8 c=0/\A8 (Jh c n).1=0/\1<=n/\c.2.2.2.2.2=false/\n<=c.2.2.2.1+c.1-c.2.1/\c.2.1+n<=1099511627776/\(Jh c n).1=(c.1,c.2.1+n,c.2.2):=by
 unfold Jh at h ⊢;by_cases h1:A8 c=0
 ·rw[aL (by simpa using h1)]at h ⊢;by_cases h2:n<1
  ·rw[aN h2]at h;simp at h
  ·rw[aL h2]at h ⊢;by_cases h3:c.2.2.2.2.2=true
   ·rw[aN h3]at h;simp at h
   ·rw[aL h3]at h ⊢;by_cases h4:c.2.2.2.1+c.1-c.2.1<n
    ·rw[aN h4]at h;simp at h
    ·rw[aL h4]at h ⊢;by_cases h5:1099511627776<c.2.1+n
     ·rw[aN h5]at h;simp at h
     ·rw[aL h5];have hb:=(Ll c).1 h1;refine⟨h1,(Ll _).2 ?_,by omega,by simpa using h3,by omega,by omega,rfl⟩;simp only;refine⟨hb.1,hb.2.1,hb.2.2.1,hb.2.2.2.1,by omega,by omega,by omega,hb.2.2.2.2.2.2.2.1,hb.2.2.2.2.2.2.2.2⟩
 ·rw[aN (by simpa using h1)]at h;exact aS h h1
theorem Alu{c:Cred}{x:Int}(h:(Ey c x).2=0):A8 c=0/\A8 (Ey c x).1=0/\A3 x=false/\c.2.2.2.2.2=false/\c.2.2.1<c.2.1/\(Ey c x).1=(c.1,c.2.1,c.2.2.1+1,c.2.2.2.1,c.2.2.2.2.1++[x],c.2.2.2.2.2):=by
 unfold Ey at h ⊢;by_cases h1:A8 c=0
 ·rw[aL (by simpa using h1)]at h ⊢;by_cases h2:A3 x=true
  ·rw[aN h2]at h;simp at h
  ·rw[aL h2]at h ⊢;by_cases h3:c.2.2.2.2.2=true
   ·rw[aN h3]at h;simp at h
   ·rw[aL h3]at h ⊢;by_cases h4:c.2.2.1=c.2.1
    ·rw[aN h4]at h;simp at h
    ·rw[aL h4];have hb:=(Ll c).1 h1;refine⟨h1,(Ll _).2 ?_,by simpa using h2,by simpa using h3,by omega,rfl⟩;simp only[bD,List.length_cons,List.length_nil,eR,eW,gT,gO];refine⟨hb.1,hb.2.1,hb.2.2.1,by omega,by omega,by omega,by omega,by omega, ?_⟩;rw[hb.2.2.2.2.2.2.2.2];simpa using h2
 ·rw[aN (by simpa using h1)]at h;exact aS h h1
theorem Abe{c:Cred}(h:(Em c).2.2=0):A8 c=0/\A8 (Em c).1=0/\∃x l,c.2.2.2.2.1=x::l/\Em c=((c.1,c.2.1,c.2.2.1,c.2.2.2.1+1,l,c.2.2.2.2.2),x,0):=by
 unfold Em at h ⊢;by_cases h1:A8 c=0
 ·rw[aL (by simpa using h1)]at h ⊢;cases hl:c.2.2.2.2.1 with
  |nil=>
   rw[hl]at h;simp only at h;split at h<;>simp at h
  |cons x l=>
   have hb:=(Ll c).1 h1;rw[hl]at hb;simp only[List.length_cons,eW,bJ]at hb;refine⟨h1,(Ll _).2 ?_,x,l,rfl,rfl⟩;simp only;refine⟨hb.1,hb.2.1,by omega,by omega,by omega,by omega,by omega,by omega,hb.2.2.2.2.2.2.2.2.2⟩
 ·rw[aN (by simpa using h1)]at h;exact aS h h1
theorem Ah3{c:Cred}(h:(Ec c).2=0):A8 c=0/\A8 (Ec c).1=0/\c.2.2.2.2.2=false/\(Ec c).1=(c.1,c.2.1,c.2.2.1,c.2.2.2.1,c.2.2.2.2.1,true):=by
 unfold Ec at h ⊢;by_cases h1:A8 c=0
 ·rw[aL (by simpa using h1)]at h ⊢;by_cases h3:c.2.2.2.2.2=true
  ·rw[aN h3]at h;simp at h
  ·rw[aL h3];have hb:=(Ll c).1 h1;exact⟨h1,(Ll _).2 hb,by simpa using h3,rfl⟩
 ·rw[aN (by simpa using h1)]at h;exact aS h h1
theorem Abf{c:Cred}{n:Int}(h1:A8 c=0)(h2:1<=n)(h3:c.2.2.2.2.2=false)(h4:n<=c.2.2.2.1+c.1-c.2.1)(h5:c.2.1+n<=1099511627776):Jh c n=((c.1,c.2.1+n,c.2.2),0):=by
 unfold Jh;rw[aL (by simpa using h1),aL (by omega),aL (by simp[h3]),aL (by omega),aL (by omega)]
theorem Ah4{c:Cred}{x:Int}(h1:A8 c=0)(h2:A3 x=false)(h3:c.2.2.2.2.2=false)(h4:c.2.2.1<c.2.1):
 Ey c x=((c.1,c.2.1,c.2.2.1+1,c.2.2.2.1,c.2.2.2.2.1++[x],c.2.2.2.2.2),0):=by
 unfold Ey;rw[aL (by simpa using h1),aL (by simp[h2]),aL (by simp[h3]),aL (by omega)]
theorem W1{c:Cred}{x:Int}{l:List Int}(h1:A8 c=0)(h2:c.2.2.2.2.1=x::l):Em c=((c.1,c.2.1,c.2.2.1,c.2.2.2.1+1,l,c.2.2.2.2.2),x,0):=by
 unfold Em;rw[aL (by simpa using h1),h2]
theorem Ado{c:Cred}(h1:A8 c=0)(h3:c.2.2.2.2.2=false):Ec c=((c.1,c.2.1,c.2.2.1,c.2.2.2.1,c.2.2.2.2.1,true),0):=by
 unfold Ec;rw[aL (by simpa using h1),aL (by simp[h3])]
abbrev PipeT:=Int×Int×Int×Int×Int
abbrev PlT:=List StT×List PipeT
abbrev FsT:=List SST×List Cred×List (List Int)×Bool
@[reducible] def Ai:PipeT:=(0,0,0,0,0)
@[reducible] def zStg:StT:=(0,0,.mk 0 0 ⟨#[]⟩ 0 [],[])
def sg(x:PlT)(i:Int):StT:=x.1.getD i.toNat zStg
def U0(i n:Int)(y:PipeT):Bool:=decide (y.1=i)&&decide (y.2.1=n)
def inB(i n:Int)(y:PipeT):Bool:=decide (y.2.2.1=i)&&decide (y.2.2.2.1=n)
def B8(x:PlT)(i n:Int):Int:=Am (U0 i n) x.2 0
def pIn(x:PlT)(i n:Int):Int:=Am (inB i n) x.2 0
def Lm(x:PlT)(y:PipeT):Bool:=!inR y.1 0 (x.1.length-1)||(!inR y.2.2.1 0 (x.1.length-1)||(!inR y.2.1 0 (stOut (sg x y.1)-1)||(!inR y.2.2.2.1 0 (stIn (sg x y.2.2.1)-1) || !inR y.2.2.2.2 1 100)))
def Ie(x:PlT)(k:Int)(y:PipeT):Int:=
 if Lm x y=true then 2 else if B8 x y.1 y.2.1<k\/pIn x y.2.2.1 y.2.2.2.1<k then 6 else if(sg x y.1).1=5/\y.2.2.2.2<(sg x y.1).2.1 then 2 else 0
def Cb:List Int->Int
 |[]=>0
 |e::l=>if e≠0 then e else Cb l
def Ji(y:PipeT)(g:List Int):List Int:=g.map (λv=>if v=g.getD y.2.2.1.toNat 0 then g.getD y.1.toNat 0 else v)
def Gx:List PipeT->List Int->Bool
 |[],_=>false
 |y::l,g=>if g.getD y.1.toNat 0=g.getD y.2.2.1.toNat 0 then true else Gx l (Ji y g)
def ints(n:Nat):List Int:=(List.range n).map (λi:Nat=>(i:Int))
def Ft(l:List StT):Int:=l.foldl (λa s=>a+(stIn s+stOut s)) 0
def Gf(x:PlT):Int:=
 if ¬(1<=x.1.length/\x.1.length<=16)then 4 else if Cb (x.1.map Ap)≠0 then Cb (x.1.map Ap)else if 32<x.2.length then 4
 else if Cb ((List.range x.2.length).map (λk:Nat=>Ie x k (x.2.getD k Ai)))≠0 then Cb ((List.range x.2.length).map (λk:Nat=>Ie x k (x.2.getD k Ai)))
 else if Ft x.1≠2*x.2.length then 10 else if Gx x.2 (ints x.1.length)=true then 21 else 0
def isSink(s:StT):Bool:=decide (s.1=10)
def Bp(l:List StT):Int:=(l.countP isSink:Nat)
def By(y:StT)(t:SST):List Int:=if y.1=8 then t.1 else if y.1=9 then([[],[0],[1],[0,1]]:List (List Int)).getD t.2.1.toNat []else if y.1≠1/\t.2.2=true then[0]else[]
def U1(s:FsT)(y:PipeT)(c:Cred):Bool:=!decide (A8 c=0)||(!decide (c.1=y.2.2.2.2)||(!decide (c.2.2.2.2.2=(s.1.getD y.1.toNat ([],0,false)).2.2)||(!c.2.2.2.2.2 && !decide (c.2.1=c.2.2.2.1+c.1))))
def Cq(s:FsT)(k:Int):Cred:=s.2.1.getD k.toNat zCred
def Pq(x:PlT)(s:FsT):Bool:=
 if(List.range s.2.1.length).any (λk=>U1 s (x.2.getD k Ai) (s.2.1.getD k zCred))=true then false
 else !(List.range s.1.length).any (λi=>(By (sg x i) (s.1.getD i ([],0,false))).any (λn=>!Cv (Cq s (pIn x i n))))
def I9(l:List Int):Bool:=decide (200<(l.length:Int))||l.any A3
def Ln(x:PlT)(s:FsT):Bool:=
 if s.1.length≠x.1.length\/s.2.1.length≠x.2.length\/(s.2.2.1.length:Int)≠Bp x.1 then false
 else if(List.range s.1.length).any (λi=>!decide ((An (sg x i) (s.1.getD i ([],0,false))).2=0))=true then false
 else if s.2.2.1.any I9=true then false else Pq x s
def Cl(x:PlT)(s:FsT):Int:=if Gf x≠0\/Ln x s=false then 1 else 0
@[reducible] def MvT:Type:=SST×List (List Int)×Bool×Bool×Int×Int×Int
@[reducible] def zMv:MvT:=(([],0,false),[],false,false,0,0,0)
@[reducible] def zFs:FsT:=([],[],[],false)
def Az(s:FsT)(i:Int):SST:=s.1.getD i.toNat ([],0,false)
def Ml(y:StT)(t:SST)(k:Int):MvT:=((Cg y t k).1,(Cg y t k).2.1,(Cg y t k).2.2.1,false,k,0,(Cg y t k).2.2.2)
def Gy(y:StT)(t:SST)(b:Bool)(k v:Int):MvT:=((Bs y t k v).1,(Bs y t k v).2.1,false,b,k,v,(Bs y t k v).2.2)
def A4(x:PlT)(s:FsT)(i:Int):MvT×Bool:=
 if(Az s i).2.2=true then(zMv,false)
 else if(sg x i).1=1 then(if s.2.2.2=true\/(Az s i).2.1=(sg x i).2.2.2.length then(Ml (sg x i) (Az s i) (-1),true)else(Gy (sg x i) (Az s i) false (-1) 0,true))
 else if 0<(Cq s (pIn x i ((An (sg x i) (Az s i)).1.getD 0 0))).2.2.2.2.1.length then
  (Gy (sg x i) (Az s i) true ((An (sg x i) (Az s i)).1.getD 0 0) ((Cq s (pIn x i ((An (sg x i) (Az s i)).1.getD 0 0))).2.2.2.2.1.getD 0 0),true)
 else if Cv (Cq s (pIn x i ((An (sg x i) (Az s i)).1.getD 0 0)))=true then(Ml (sg x i) (Az s i) ((An (sg x i) (Az s i)).1.getD 0 0),true)
 else(zMv,false)
def D9(x:PlT)(s:FsT)(i:Int)(o:List (List Int)):Bool:=!(List.range o.length).any (λn=>decide (Jp (Cq s (B8 x i n))<((o.getD n []).length:Int)))
def Be(x:PlT)(s:FsT)(i:Int):MvT×Bool:=((A4 x s i).1,(A4 x s i).2&&(!decide ((A4 x s i).1.2.2.2.2.2.2=0)||D9 x s i (A4 x s i).1.2.1))
def Al(x:PlT)(s:FsT):List Int×Int:=if Cl x s≠0 then([],Cl x s)else((ints x.1.length).filter (λi=>(Be x s i).2),0)
def G7(c:Cred):Cred×Int:=if(Em c).2.2=0/\(Em c).1.2.2.2.2.2=false then Jh (Em c).1 1 else((Em c).1,(Em c).2.2)
def Cr(x:PlT)(cr:List Cred)(i:Int)(m:MvT):List Cred×Int:=
 if m.2.2.2.1=false then(cr,0)else(cr.set (pIn x i m.2.2.2.2.1).toNat (G7 (cr.getD (pIn x i m.2.2.2.2.1).toNat zCred)).1,(G7 (cr.getD (pIn x i m.2.2.2.2.1).toNat zCred)).2)
def Ko(c:Cred)(l:List Int):Cred:=l.foldl (λc v=>(Ey c v).1) c
def Abg(b:Bool)(c:Cred):Cred:=if b=true then(Ec c).1 else c
def Gd(x:PlT)(i:Int)(o:List (List Int))(b:Bool)(cr:List Cred)(n:Int):List Cred:=
 cr.set (B8 x i n).toNat (Abg b (Ko (cr.getD (B8 x i n).toNat zCred) (o.getD n.toNat [])))
def Kq(x:PlT)(i:Int)(o:List (List Int))(b:Bool)(cr:List Cred):List Cred:=(ints (stOut (sg x i)).toNat).foldl (Gd x i o b) cr
def R4(x:PlT)(i:Int)(m:MvT):Bool:=decide ((sg x i).1=10)&&m.2.2.2.1
def Fu(x:PlT)(i:Int):Nat:=(Bp (x.1.take i.toNat)).toNat
def Pr(x:PlT)(i:Int)(m:MvT)(o:List (List Int)):List (List Int):=if R4 x i m=true then o.set (Fu x i) (o.getD (Fu x i) []++[m.2.2.2.2.2.1])else o
def Ci(x:PlT)(s:FsT)(i:Int):FsT×Int:=
 if Cl x s≠0 then(zFs,Cl x s)else if ¬(0<=i/\i<x.1.length)then(zFs,2)else if(Be x s i).2=false then(zFs,25)
 else if(Be x s i).1.2.2.2.2.2.2≠0 then(zFs,(Be x s i).1.2.2.2.2.2.2)
 else if R4 x i (Be x s i).1=true/\(s.2.2.1.getD (Fu x i) []).length=200 then(zFs,4)
 else if(Cr x s.2.1 i (Be x s i).1).2≠0 then(zFs,(Cr x s.2.1 i (Be x s i).1).2)
 else((s.1.set i.toNat (Be x s i).1.1,Kq x i (Be x s i).1.2.1 (Be x s i).1.2.2.1 (Cr x s.2.1 i (Be x s i).1).1,Pr x i (Be x s i).1 s.2.2.1,s.2.2.2),0)
def newC(y:PipeT):Cred:=(Jh (Vn y.2.2.2.2).1 y.2.2.2.2).1
def F8(x:PlT):FsT×Int:=if Gf x≠0 then(zFs,Gf x)else((List.replicate x.1.length ([],0,false),x.2.map newC,List.replicate (Bp x.1).toNat [],false),0)
def Ps(l:List Int)(k:Nat)(n:Int):Int:=if l.length=0 then 0 else((l.getD (k % l.length) 0).tmod n+n).tmod n
def Ds(x:PlT)(l:List Int):Nat->Nat->FsT->List Int->FsT×List Int×Int
 |0,_,s,o=>(s,o,0)
 |m+1,k,s,o=>
  if(Al x s).2≠0\/(Al x s).1=[]then(s,o,0)
  else if(Ci x s ((Al x s).1.getD (Ps l k (Al x s).1.length).toNat 0)).2≠0 then(zFs,[],(Ci x s ((Al x s).1.getD (Ps l k (Al x s).1.length).toNat 0)).2)
  else Ds x l m (k+1) (Ci x s ((Al x s).1.getD (Ps l k (Al x s).1.length).toNat 0)).1 (o++[(Al x s).1.getD (Ps l k (Al x s).1.length).toNat 0])
def Bm(x:PlT)(s:FsT)(l:List Int)(m:Int):FsT×List Int×Int:=
 if Cl x s≠0 then(zFs,[],1)else if m<0\/10000<m then(zFs,[],2)else Ds x l m.toNat 0 s []
def Hl(x:PlT)(s:FsT):FsT×Int:=if Cl x s≠0 then(zFs,1)else if s.2.2.2=true then(zFs,17)else((s.1,s.2.1,s.2.2.1,true),0)
def Abh(x:PlT)(s:FsT):Bool:=decide (Cl x s=0)&&s.1.all (λt=>t.2.2)
def nd:List Int->Nat
 |[]=>0
 |a::l=>if a∈l then nd l else nd l+1
theorem Vo(a:Int)(l:List Int):nd (a::l)=if a∈l then nd l else nd l+1:=rfl
theorem Apk:∀l:List Int,nd l<=l.length
 |[]=>bB 0
 |a::l=>by
  have h:=Apk l;rw[Vo];split<;>simp only[List.length_cons]<;>omega
theorem Alv:∀l:List Int,l≠[]->1<=nd l
 |[],h=>aS rfl h
 |a::l,_=>by
  rw[Vo];split
  ·exact Alv l (by rintro rfl;simp_all)
  ·omega
theorem Alw{a:Int}:∀l:List Int,a ∉ l->l.filter (λv=>!decide (v=a))=l
 |[],_=>rfl
 |b::l,h=>by
  simp only[cN,not_or]at h;rw[cU,aN (by simp;exactλe=>h.1 e.symm),Alw l h.2]
theorem Afx{a:Int}:∀l:List Int,a∈l->nd l=nd (l.filter (λv=>!decide (v=a)))+1
 |[],h=>by simp at h
 |b::l,h=>by
  by_cases hb:b=a
  ·subst hb;rw[cU,aL (by simp),Vo];by_cases hm:b∈l
   ·rw[aN hm];exact Afx l hm
   ·rw[aL hm,Alw l hm]
  ·have hm:a∈l:=by
    rcases cN.1 h with h|h
    ·exact aS h.symm hb
    ·exact h
   rw[cU,aN (by simpa using hb)];have ih:=Afx l hm;by_cases hbl:b∈l
   ·rw[Vo,aN hbl,Vo,aN (cS.2 ⟨hbl,by simpa using hb⟩),ih]
   ·rw[Vo,aL hbl,Vo,aL (λh=>hbl (cS.1 h).1),ih]
theorem Adp:∀(l m:List Int),(∀a∈l,a∈m)->nd l<=nd m
 |[],_,_=>aV _
 |a::l,m,h=>by
  rw[Vo];split
  ·exact Adp l m (λb hb=>h b (dZ a hb))
  ·rename_i ha;rw[Afx m (h a (dP))];have:=Adp l (m.filter (λv=>!decide (v=a))) (λb hb=>cS.2 ⟨h b (dZ a hb),by
    simp only[bK,bF];rintro rfl;exact ha hb⟩)
   omega
theorem Alx(f:Int->Int):∀l:List Int,nd (l.map f)<=nd l
 |[]=>bB 0
 |a::l=>by
  have ih:=Alx f l;rw[eB,Vo,Vo];by_cases ha:a∈l
  ·rw[aN ha,aN (cR.2 ⟨a,ha,rfl⟩)];exact ih
  ·rw[aL ha];split<;>omega
theorem Aol{a b:Int}{l:List Int}(ha:a∈l)(hb:b∈l)(hab:a≠b):nd (l.map (λv=>if v=b then a else v))+1<=nd l:=by
 rw[Afx l hb];have:=Adp (l.map (λv=>if v=b then a else v)) (l.filter (λv=>!decide (v=b))) (λc hc=>by
  obtain⟨v,hv,rfl⟩:=cR.1 hc;by_cases h:v=b
  ·rw[aN h];exact cS.2 ⟨ha,by simpa using hab⟩
  ·rw[aL h];exact cS.2 ⟨hv,by simpa using h⟩)
 omega
def F9(B:List Int)(y:PipeT):Bool:=decide (y.1∈B)&&decide (y.2.2.1∈B)
theorem Abi{B:List Int}(hB:B≠[]):∀(l:List PipeT)(g:List Int),(∀i∈B,i.toNat<g.length)->Gx l g=false->l.countP (F9 B)+1<=nd (B.map (λi=>g.getD i.toNat 0))
 |[],g,_,_=>Alv _ (by simpa using hB)
 |y::l,g,hg,h=>by
  rw[Gx]at h;split at h
  ·cases h
  ·rename_i hne;have ih:=Abi hB l (Ji y g) (λi hi=>by rw[Ji,bM];exact hg i hi) h;have e:B.map (λi=>(Ji y g).getD i.toNat 0)=(B.map (λi=>g.getD i.toNat 0)).map (λv=>if v=g.getD y.2.2.1.toNat 0 then g.getD y.1.toNat 0 else v):=by
    rw[List.map_map];refine eS λi hi=>?_
    simp[Ji,aY,aQ (hg i hi)]
   rw[e]at ih;rw[dV];by_cases hb:F9 B y=true
   ·rw[aN hb];simp only[F9,aR,bN]at hb;have:=Aol (l:=B.map (λi=>g.getD i.toNat 0)) (cR.2 ⟨_,hb.1,rfl⟩) (cR.2 ⟨_,hb.2,rfl⟩) hne;omega
   ·rw[aL hb];exact cO ih (Alx _ _)
theorem Dk(n:Nat):(ints n).length=n:=by simp[ints]
theorem Pt{n i:Nat}(h:i<n):(ints n).getD i 0=(i:Int):=by simp[ints,aY,h]
theorem Dl{n:Nat}{i:Int}:i∈ints n<->0<=i/\i<n:=by
 simp only[ints,cR,cZ];constructor
 ·rintro⟨k,hk,rfl⟩;omega
 ·intro h;exact⟨i.toNat,by omega,by omega⟩
theorem U2{B:List Int}{l:List PipeT}{n:Nat}(hB:B≠[])(hn:∀i∈B,0<=i/\i<n)(h:Gx l (ints n)=false):l.countP (F9 B)<B.length:=by
 have h1:=Abi hB l (ints n) (λi hi=>by rw[Dk];have:=hn i hi;omega) h;have e:B.map (λi=>(ints n).getD i.toNat 0)=B:=by
  refine(eS λi hi=>?_).trans (List.map_id _);have:=hn i hi;rw[Pt (by omega)];simp;omega
 rw[e]at h1;have:=Apk B;omega
theorem Aly{α:Type}{p:α->Bool}(d:α):∀(l:List α)(i:Int)(j:Nat),0<=i->j<l.length->p (l.getD j d)=true->0<=Am p l i/\Am p l i<=i+j
 |[],_,_,_,h,_=>by simp at h
 |x::l,i,j,hi,h,hp=>by
  unfold Am;split
  ·omega
  ·rename_i hx;cases j with
   |zero=>exact aS hp hx
   |succ j=>
    have:=Aly d l (i+1) j (by omega) (by simpa using h) (by simpa using hp);omega
theorem Yu:∀(l:List Int),Cb l=0->∀a∈l,a=0
 |[],_,_,h=>by simp at h
 |e::l,h,a,ha=>by
  unfold Cb at h;split at h
  ·contradiction
  ·rename_i he;rcases cN.1 ha with rfl|ha
   ·omega
   ·exact Yu l h a ha
structure WF(x:PlT):Prop where
 n1:1<=x.1.length
 n16:x.1.length<=16
 st:∀i<x.1.length,Ap (x.1.getD i zStg)=0
 p32:x.2.length<=32
 pp:∀k<x.2.length,Ie x k (x.2.getD k Ai)=0
 ends:Ft x.1=2*x.2.length
 tree:Gx x.2 (ints x.1.length)=false
theorem Ez{x:PlT}:Gf x=0<->WF x:=by
 unfold Gf;constructor
 ·intro h;split at h;· omega
  rename_i h1;split at h;· omega
  rename_i h2;split at h;· omega
  rename_i h3;split at h;· omega
  rename_i h4;split at h;· omega
  rename_i h5;split at h;· omega
  rename_i h6;refine⟨by omega,by omega,λi hi=>?_,by omega,λk hk=>?_,by omega,by simpa using h6⟩
  ·refine Yu (x.1.map Ap) (by omega) _ (cR.2 ⟨x.1.getD i zStg, ?_,rfl⟩);rw[aY,aQ hi];exact cI hi
  ·exact Yu ((List.range x.2.length).map (λk:Nat=>Ie x k (x.2.getD k Ai))) (by omega) _ (cR.2 ⟨k,cZ.2 hk,rfl⟩)
 ·rintro⟨h1,h2,h3,h4,h5,h6,h7⟩;have e1:∀l:List Int,(∀a∈l,a=0)->Cb l=0:=by
   intro l
   induction l with
   |nil=>intro _;rfl
   |cons a l ih=>
    intro h;unfold Cb;rw[aL (by simpa using h a dP)];exact ih λb hb=>h b (dZ a hb)
  have e2:Cb (x.1.map Ap)=0:=e1 _ λa ha=>by
   obtain⟨s,hs,rfl⟩:=cR.1 ha;obtain⟨i,hi,rfl⟩:=dN.1 hs;have:=h3 i hi
   rwa [aY,aQ hi]at this
  have e3:Cb ((List.range x.2.length).map (λk:Nat=>Ie x k (x.2.getD k Ai)))=0:=e1 _ λa ha=>by
   obtain⟨k,hk,rfl⟩:=cR.1 ha;exact h5 k (cZ.1 hk)
  rw[aL (by omega),e2,aL (by simp),aL (by omega),e3,aL (by simp),aL (by omega),aL (by simpa using h7)]
structure PP(x:PlT)(k:Nat)(y:PipeT):Prop where
 f0:0<=y.1
 fn:y.1<x.1.length
 o0:0<=y.2.1
 on:y.2.1<stOut (sg x y.1)
 t0:0<=y.2.2.1
 tn:y.2.2.1<x.1.length
 i0:0<=y.2.2.2.1
 iN:y.2.2.2.1<stIn (sg x y.2.2.1)
 c1:1<=y.2.2.2.2
 c100:y.2.2.2.2<=100
 out:B8 x y.1 y.2.1=k
 inp:pIn x y.2.2.1 y.2.2.2.1=k
 rep:(sg x y.1).1=5->(sg x y.1).2.1<=y.2.2.2.2
theorem Lo{n a b:Int}:inR n a b=true<->(a<=n/\n<=b):=by simp[inR]
theorem WF.pipe{x:PlT}(w:WF x){k:Nat}(hk:k<x.2.length):PP x k (x.2.getD k Ai):=by
 have h:=w.pp k hk;unfold Ie at h;split at h;· omega
 rename_i h1;split at h;· omega
 rename_i h2;split at h;· omega
 rename_i h3;simp only[Lm,bX,bK,not_or,fE,Lo]at h1;have g1:B8 x (x.2.getD k Ai).1 (x.2.getD k Ai).2.1<=k:=by
  have:=(Aly (p:=U0 (x.2.getD k Ai).1 (x.2.getD k Ai).2.1) Ai x.2 0 k (cJ 0) hk (by simp[U0])).2;simpa[B8]using this
 have g2:pIn x (x.2.getD k Ai).2.2.1 (x.2.getD k Ai).2.2.2.1<=k:=by
  have:=(Aly (p:=inB (x.2.getD k Ai).2.2.1 (x.2.getD k Ai).2.2.2.1) Ai x.2 0 k (cJ 0) hk (by simp[inB])).2;simpa[pIn]using this
 exact⟨by omega,by omega,by omega,by omega,by omega,by omega,by omega,by omega,by omega,by omega,by omega,by omega,λh5=>by omega⟩
theorem A1{α:Type}{l:List α}{k:Nat}{d:α}(h:k<l.length):l.getD k d=l[k]:=by
 rw[aY,aQ h];rfl
theorem Arg{v:Int}(h:inM v):A3 v=false:=by
 unfold A3 inR;rw[aW h.1,aW h.2];rfl
theorem Apl{e:ExprT}{ns:List ByteArray}{a b:Int}(h:(evX e ns a b).2=0):inM (evX e ns a b).1:=by
 unfold evX I6 at h ⊢;split
 ·exact⟨show(-1099511627776:Int)<=0 by decide,show(0:Int)<=1099511627776 by decide⟩
 ·rw[Pk];split
  ·exact Afg _
  ·exact⟨show(-1099511627776:Int)<=0 by decide,show(0:Int)<=1099511627776 by decide⟩
theorem Ja{y:StT}(h:Ap y=0):stOut y=(Aq y.1).2.1:=by unfold stOut;rw[aN h]
theorem Jb{y:StT}(h:Ap y=0):stIn y=(Aq y.1).1:=by unfold stIn;rw[aN h]
theorem Afy(k:Int):0<=(Aq k).1/\0<=(Aq k).2.1:=by
 unfold Aq
 repeat' split
 all_goals exact⟨by decide,by decide⟩
theorem U3(x:StT):0<=stIn x:=by
 unfold stIn;split
 ·exact(Afy _).1
 ·exact cJ 0
theorem Yv(x:StT):0<=stOut x:=by
 unfold stOut;split
 ·exact(Afy _).2
 ·exact cJ 0
theorem Afz:∀(d:List Int)(n f:Int),(d.foldl En (n,f)).2=0->f=0/\(inM n->inM (d.foldl En (n,f)).1)
 |[],n,f,h=>⟨h,λh=>h⟩
 |a::d,n,f,h=>by
  rw[cV]at h ⊢;obtain⟨h0,h1⟩:=Afz d _ _ h;by_cases hf:f=0
  ·refine⟨hf,λ_=>h1 ?_⟩;cases hb:Ki (n+a)with
   |true=>exact Afr hb
   |false=>
    rw[hb,hf]at h0;exact aS (show(14:Int)=0 from h0) (by decide)
  ·rw[aZ hf]at h0;exfalso;cases hb:Ki (n+a)<;>rw[hb]at h0<;>exact hf h0
theorem Af0{d:List Int}(h:(Fs (d,[],0)).2.2=0):∀x∈(Fs (d,[],0)).2.1,inM x:=by
 have h1:(d.foldl En (0,0)).2=0:=h;have h2:=(Afz d 0 0 h1).2 ⟨by decide,by decide⟩;intro x hx;have hx:x∈Jg (d.foldl En (0,0)).2 [] (d.foldl En (0,0)).1:=hx;rw[h1]at hx;have hx:x∈[(d.foldl En (0,0)).1]:=hx;rw[bP.1 hx];exact h2
theorem Gz{o:List Int}(h:∀a∈o,inM a):∀l∈[o],∀a∈l,A3 a=false:=λl hl a ha=>by
 rw[bP.1 hl]at ha;exact Arg (h a ha)
theorem Apm{b:Bool}{n:Int}(hn:inM n):∀a∈(if b=true then[n]else[]),inM a:=λa ha=>by
 cases b
 ·simp at ha
 ·rw[aN rfl]at ha;rw[bP.1 ha];exact hn
theorem Aom{y:StT}{t:SST}{k v:Int}(h0:Ap y=0)(hv:inM v)(h:(Dr y t k v).2.2=0):∀l∈(Dr y t k v).2.1,∀a∈l,A3 a=false:=by
 have hk:=G6 (B4 h0);obtain⟨q,z,e,l⟩:=y;obtain⟨hd,c,en⟩:=t;replace hk:q=1\/q=2\/q=3\/q=4\/q=5\/q=6\/q=7\/q=8\/q=9\/q=10:=hk;have s1:∀{w:Int},inM w->∀a∈[w],inM a:=λhw a ha=>by rw[bP.1 ha];exact hw
 rcases hk with rfl|rfl|rfl|rfl|rfl|rfl|rfl|rfl|rfl|rfl
 ·have hi:l.any Ak=false:=(Ip h0).2;refine Gz (s1 ?_);show inM (l.getD c.toNat 0);by_cases hc:c.toNat<l.length
  ·rw[A1 hc];exact Ala hi _ (cI hc)
  ·rw[aY,dU (by omega)];exact⟨by decide,by decide⟩
 ·exact Gz (s1 (Apl h))
 ·exact Gz (Apm hv)
 ·refine Gz ?_;show ∀a∈(Br z (hd,[],0) v).2.1,inM a;have h:(Br z (hd,[],0) v).2.2=0:=h;unfold Br at h ⊢;split
  ·rename_i hc;rw[aN hc]at h;exact Af0 h
  ·intro a ha;simp at ha
 ·exact Gz (λa ha=>by rw[List.eq_of_mem_replicate ha];exact hv)
 ·show ∀l'∈(if decide (c<z)=true then((hd,c+1,en),[[v]],(0:Int))else((hd,c,en),[[]],0):SST×List (List Int)×Int).2.1,_;split
  ·exact Gz (s1 hv)
  ·exact Gz (λa ha=>by simp at ha)
 ·intro o ho;rcases cN.1 ho with rfl|ho
  ·exact Gz (Apm hv) _ (bP.2 rfl)
  ·rw[bP.1 ho];cases decide ((evX e nmX v 0).1=1)
   ·exact Gz (s1 hv) _ (bP.2 rfl)
   ·exactλa ha=>by simp at ha
 ·exact Gz (s1 hv)
 ·have h9:Dr (9,z,e,l) (hd,c,en) k v=(if decide (k=0)=true then(if decide (C9 .i64 c 2=0)=true then(([v],c,en),[[]],0)else((hd,c,en),[[]],0))
   else if decide ((hd.length:Int)=1)=true then(([],c,en),[[(evX e D5 (hd.getD 0 0) v).1]],(evX e D5 (hd.getD 0 0) v).2)else((hd,c,en),[[]],0)):=rfl
  have e0:∀l∈([[]]:List (List Int)),∀a∈l,A3 a=false:=Gz (λa ha=>by simp at ha);rw[h9]at h ⊢;by_cases c1:decide (k=0)=true
  ·rw[aN c1];by_cases c2:decide (C9 .i64 c 2=0)=true
   ·rw[aN c2];exact e0
   ·rw[aL c2];exact e0
  ·rw[aL c1]at h ⊢;by_cases c2:decide ((hd.length:Int)=1)=true
   ·rw[aN c2]at h ⊢;exact Gz (s1 (Apl h))
   ·rw[aL c2];exact e0
 ·exactλo ho=>by simp[Dr]at ho
theorem Aon{y:StT}{t:SST}{k:Int}(h:(Eh y t k).2.2=0):∀l∈(Eh y t k).2.1,∀a∈l,A3 a=false:=by
 have e0:∀l∈([[]]:List (List Int)),∀a∈l,A3 a=false:=Gz (λa ha=>by simp at ha);unfold Eh at h ⊢;split
 ·rename_i h4;rw[aN h4]at h;refine Gz ?_;have h:(Cf (t.1,[],0)).2.2=0:=h;show ∀a∈(Cf (t.1,[],0)).2.1,inM a;unfold Cf at h ⊢;split
  ·rename_i hc;rw[aN hc]at h;exact Af0 h
  ·intro a ha;simp at ha
 ·split
  ·intro o ho a ha;rcases cN.1 ho with rfl|ho
   ·simp at ha
   ·rw[bP.1 ho]at ha;simp at ha
  ·split
   ·exact e0
   ·split
    ·exact e0
    ·split
     ·intro o ho;simp at ho
     ·exact e0
theorem Aoo{y:StT}{t:SST}(h8:y.1≠8)(h9:y.1≠9)(h:t.2.2=false):By y t=[]:=by
 unfold By;rw[aL h8,aL h9,aL (by rw[h];simp)]
theorem Af1{y:StT}{t:SST}{k v:Int}(h:(Bs y t k v).2.2=0):(An y (Bs y t k v).1).2=0/\((Bs y t k v).2.1.length:Int)=stOut y/\(∀l∈(Bs y t k v).2.1,∀a∈l,A3 a=false)/\
 (Bs y t k v).1.2.2=t.2.2/\t.2.2=false/\(∀n∈By y (Bs y t k v).1,n∈By y t):=by
 obtain⟨v1,v2,v3⟩:=Uz h;obtain⟨h0,hv,h1,h2,h3,he⟩:=Yr h;have hen:=Uy h1;refine⟨B3.2 ⟨h0,v1⟩,by rw[v2,Ja h0], ?_,v3,hen,λn hn=>?_⟩
 ·rw[he];exact Aom h0 (Afr (Ys h2)) h3
 ·by_cases h8:y.1=8
  ·unfold By at hn ⊢;rw[aN h8]at hn ⊢;rw[he]at hn;unfold Dr at hn;rw[aL (by omega),aL (by omega),aL (by omega),aL (by omega),aL (by omega),aL (by omega),aL (by omega),aN h8]at hn;exact hn
  ·by_cases h9:y.1=9
   ·unfold By at hn ⊢;rw[aL h8,aN h9]at hn ⊢;rw[he]at hn;unfold Dr at hn;rw[aL (by omega),aL (by omega),aL (by omega),aL (by omega),aL (by omega),aL (by omega),aL (by omega),aL h8,aN h9]at hn;have e:(if decide (k=0)=true then(if decide (C9 .i64 t.2.1 2=0)=true then(([v],t.2),[[]],0)else(t,[[]],0))
     else if decide ((t.1.length:Int)=1)=true then(([],t.2),[[(evX y.2.2.1 D5 (t.1.getD 0 0) v).1]],(evX y.2.2.1 D5 (t.1.getD 0 0) v).2)else(t,[[]],0):SST×List (List Int)×Int).1.2=t.2:=by
     split
     ·split<;>rfl
     ·split<;>rfl
    rw[e]at hn;exact hn
   ·rw[Aoo h8 h9 (by rw[v3,hen])]at hn;simp at hn
theorem Alz{y:StT}{t:SST}{k:Int}(h:(Cg y t k).2.2.2=0):(An y (Cg y t k).1).2=0/\((Cg y t k).2.1.length:Int)=stOut y/\(∀l∈(Cg y t k).2.1,∀a∈l,A3 a=false)/\
 (Cg y t k).2.2.1=(Cg y t k).1.2.2/\t.2.2=false/\(∀n∈By y (Cg y t k).1,n∈By y t\/n=k):=by
 obtain⟨⟨v1,v2,v3,v4⟩,v5⟩:=Wz h;obtain⟨h0,hv,h1,h2,h3,he⟩:=Adk h;have hen:=Adm h2;refine⟨B3.2 ⟨h0,v1⟩,by rw[v2,Ja h0], ?_,v5,hen,λn hn=>?_⟩
 ·rw[he];exact Aon h3
 ·by_cases hk1:y.1=1
  ·unfold By at hn;rw[aL (by omega),aL (by omega),aL (λh=>h.1 hk1)]at hn;simp at hn
  ·obtain⟨i0,iN⟩:=Yt hk1 h1;rw[he]at hn;by_cases h8:y.1=8
   ·unfold By at hn ⊢;rw[aN h8]at hn ⊢;unfold Eh at hn;rw[aL (by omega),aL (by omega),aN h8]at hn;have hn:n∈Gu (t.1++[k]):=hn;have hp:(Gu (t.1++[k])).Perm (t.1++[k]):=List.mergeSort_perm _ _;rcases dD.1 (hp.mem_iff.1 hn)with h|h
    ·exact .inl h
    ·exact .inr (bP.1 h)
   ·by_cases h9:y.1=9
    ·unfold By at hn ⊢;rw[aL h8,aN h9]at hn ⊢;unfold Eh at hn;rw[aL (by omega),aL (by omega),aL h8,aN h9]at hn;have hn:n∈(([[],[0],[1],[0,1]]:List (List Int)).getD (De .i64 t.2.1 (Df .i64 1 k)).toNat []):=hn;have hb:=(Au.1 hv).1;have hb2:Ew y=(3,1):=by
      unfold Ew;rw[aL (by omega),aL (by omega),aL (by omega),aN h9]
     rw[hb2]at hb;have hk9:(Aq y.1).1=2:=by rw[h9];rfl
     rw[hk9]at iN;obtain⟨c0,c3,_⟩:=hb;have c3:t.2.1<=3:=c3;have hc:t.2.1=0\/t.2.1=1\/t.2.1=2\/t.2.1=3:=by omega
     have hk:k=0\/k=1:=by omega
     rcases hc with hc|hc|hc|hc<;>rcases hk with hk|hk<;>rw[hc,hk]at hn<;>rw[hc,hk]
     all_goals
      revert hn
      first
      |(rw[show(De .i64 0 (Df .i64 1 0)).toNat=1 by decide];simp<;>omega)
      |(rw[show(De .i64 0 (Df .i64 1 1)).toNat=2 by decide];simp<;>omega)
      |(rw[show(De .i64 1 (Df .i64 1 0)).toNat=1 by decide];simp<;>omega)
      |(rw[show(De .i64 1 (Df .i64 1 1)).toNat=3 by decide];simp<;>omega)
      |(rw[show(De .i64 2 (Df .i64 1 0)).toNat=3 by decide];simp<;>omega)
      |(rw[show(De .i64 2 (Df .i64 1 1)).toNat=2 by decide];simp<;>omega)
      |(rw[show(De .i64 3 (Df .i64 1 0)).toNat=3 by decide];simp<;>omega)
      |(rw[show(De .i64 3 (Df .i64 1 1)).toNat=3 by decide];simp<;>omega)
    ·unfold By at hn;rw[aL h8,aL h9]at hn;split at hn
     ·right;rw[bP.1 hn];have hkk:(Aq y.1).1<=1:=by
       have:=G6 (B4 h0);rcases this with h|h|h|h|h|h|h|h|h|h<;>first|contradiction|(rw[h];decide)
      omega
     ·simp at hn
theorem Pu{y:StT}{t:SST}(h:(An y t).2=0)(hk:y.1≠1)(he:t.2.2=false):∃k,(An y t).1=[k]/\0<=k/\k<stIn y:=by
 obtain⟨h0,hv⟩:=B3.1 h;have hb:=(Au.1 hv).1;rw[Jb h0];have g0:(!decide (Ap y=0))=false:=by simp[h0]
 have g1:(!Aw y t)=false:=by simp[hv]
 have g2:(bif t.2.2 then true else decide (y.1=1))=false:=by rw[he,aZ hk];rfl
 have hkk:=G6 (B4 h0);cases g3:(bif decide (y.1=8)then F7 y t t.2.1 else false)
 ·cases g4:decide (y.1=8)
  ·cases g5:(bif decide (y.1=9)then(bif F7 y t 0 then true else decide (0<(t.1.length:Int)))else false)
   ·refine⟨0,by rw[ND6 g0 g1 g2 g3 g4 g5],cJ 0, ?_⟩;rcases hkk with h|h|h|h|h|h|h|h|h|h<;>first|contradiction|(rw[h];decide)
   ·have h9:y.1=9:=by
     by_cases h9:y.1=9
     ·exact h9
     ·rw[aZ h9]at g5;cases g5
    exact⟨1,by rw[ND5 g0 g1 g2 g3 g4 g5],by decide,by rw[h9];decide⟩
  ·have h8:y.1=8:=aM g4;have hb2:Ew y=(1,2):=by unfold Ew;rw[aL (by omega),aL (by omega),aN h8]
   rw[hb2]at hb;have:t.2.1<=1:=hb.2.1;have hk8:(Aq y.1).1=2:=by rw[h8];rfl
   exact⟨t.2.1,by rw[ND4 g0 g1 g2 g3 g4],hb.1,by rw[hk8];omega⟩
 ·have h8:y.1=8:=by
   by_cases h8:y.1=8
   ·exact h8
   ·rw[aZ h8]at g3;cases g3
  have hb2:Ew y=(1,2):=by unfold Ew;rw[aL (by omega),aL (by omega),aN h8]
  rw[hb2]at hb;have:t.2.1<=1:=hb.2.1;have:=hb.1;have hk8:(Aq y.1).1=2:=by rw[h8];rfl
  exact⟨1-t.2.1,by rw[ND3 g0 g1 g2 g3],by omega,by rw[hk8];omega⟩
theorem W2{α:Type}[DecidableEq α]{a:α}{l:List α}(h:a∈l):(l.erase a).length+1=l.length:=by
 have:=List.length_erase_of_mem h;have h2:=List.length_pos_of_mem h;omega
theorem G0{α:Type}[DecidableEq α]:∀(l m:List α),l.Nodup->(∀a∈l,a∈m)->l.length<=m.length
 |[],_,_,_=>aV _
 |a::l,m,h,hs=>by
  obtain⟨h1,h2⟩:=List.nodup_cons.1 h;have:=G0 l (m.erase a) h2 (λb hb=>(List.mem_erase_of_ne (by rintro rfl;exact h1 hb)).2 (hs b (dZ a hb)));have:=W2 (hs a dP);rw[List.length_cons];omega
theorem Qy{α:Type}[DecidableEq α]{l m:List α}(h:l.Nodup)(hs:∀a∈l,a∈m)(hl:m.length<=l.length):∀a∈m,a∈l:=by
 intro a ha;by_cases h1:a∈l
 ·exact h1
 ·have:=G0 l (m.erase a) h (λb hb=>(List.mem_erase_of_ne (by rintro rfl;exact h1 hb)).2 (hs b hb));have:=W2 ha;omega
def Rw(x:PlT)(w:StT->Int):List (Int×Int):=(ints x.1.length).flatMap (λi=>(ints (w (sg x i)).toNat).map (λo=>(i,o)))
theorem Kr{x:PlT}{w:StT->Int}{i o:Int}:(i,o)∈Rw x w<->(0<=i/\i<x.1.length/\0<=o/\o<w (sg x i)):=by
 unfold Rw;simp only[List.mem_flatMap,cR,Dl,bH];constructor
 ·rintro⟨i',⟨h1,h2⟩,o',⟨h3,h4⟩,rfl,rfl⟩;omega
 ·rintro⟨h1,h2,h3,h4⟩;exact⟨i,⟨h1,h2⟩,o,⟨h3,by omega⟩,rfl,rfl⟩
theorem Iq{α:Type}(f:α->Int):∀(l:List α)(a:Int),l.foldl (λn c=>n+f c) a=a+l.foldl (λn c=>n+f c) 0
 |[],a=>by simp
 |c::l,a=>by
  rw[cV,cV,Iq f l (a+f c),Iq f l (0+f c)];omega
theorem Pw{x:PlT}{w:StT->Int}(hw:∀s,0<=w s):((Rw x w).length:Int)=x.1.foldl (λa s=>a+w s) 0:=by
 have h1:∀(l:List StT)(k:Nat)(f:Int->StT),(∀i<l.length,f ((k+i:Nat):Int)=l.getD i zStg)->
  ((((List.range' k l.length).map (λi:Nat=>(i:Int))).flatMap (λi=>(ints (w (f i)).toNat).map (λo=>(i,o)))).length:Int)=l.foldl (λa s=>a+w s) 0:=by
  intro l
  induction l with
  |nil=>intro k f _;rfl
  |cons s l ih=>
   intro k f hf;have e0:=hf 0 (by simp);have:=ih (k+1) f (λi hi=>by have:=hf (i+1) (by simpa using hi);rw[show k+1+i=k+(i+1) by omega,this];simp);rw[List.length_cons,List.range'_succ,eB,fD,bD,bM,Dk,cV,Iq w l (0+w s)];rw[show f (k:Int)=s by simpa using e0];have:=hw s;omega
 have:=h1 x.1 0 (sg x) (λi hi=>by unfold sg;simp);rw[<-this];unfold Rw ints;rw[List.range_eq_range']
theorem Jq{x:PlT}(w:WF x)(f:PipeT->Int×Int)(g:Int->Int->Int)(hg:∀k<x.2.length,g (f (x.2.getD k Ai)).1 (f (x.2.getD k Ai)).2=k):(x.2.map f).Nodup:=by
 rw[List.nodup_iff_pairwise_ne,fY];intro i j hi hj hij he;rw[bM]at hi hj;rw[eL,eL]at he;have h1:=hg i hi;have h2:=hg j hj;rw[A1 hi]at h1;rw[A1 hj]at h2;rw[he,h2]at h1;omega
theorem Abj(l:List StT):Ft l=l.foldl (λa s=>a+stOut s) 0+l.foldl (λa s=>a+stIn s) 0:=by
 unfold Ft
 induction l with
 |nil=>rfl
 |cons s l ih=>
  rw[cV,cV,cV,Iq (λs=>stIn s+stOut s),Iq stOut,Iq stIn,ih];omega
theorem WF.outs{x:PlT}(w:WF x){i o:Int}(h1:0<=i)(h2:i<x.1.length)(h3:0<=o)(h4:o<stOut (sg x i)):∃k,k<x.2.length/\B8 x i o=(k:Int)/\(x.2.getD k Ai).1=i/\(x.2.getD k Ai).2.1=o:=by
 have a1:=Jq w (λy=>(y.1,y.2.1)) (B8 x) (λk hk=>(w.pipe hk).out);have a2:=Jq w (λy=>(y.2.2.1,y.2.2.2.1)) (pIn x) (λk hk=>(w.pipe hk).inp);have b1:∀p∈x.2.map (λy=>(y.1,y.2.1)),p∈Rw x stOut:=λp hp=>by
  obtain⟨y,hy,rfl⟩:=cR.1 hp;obtain⟨k,hk,rfl⟩:=dN.1 hy;have:=w.pipe hk;rw[A1 hk]at this;exact Kr.2 ⟨this.f0,this.fn,this.o0,this.on⟩
 have b2:∀p∈x.2.map (λy=>(y.2.2.1,y.2.2.2.1)),p∈Rw x stIn:=λp hp=>by
  obtain⟨y,hy,rfl⟩:=cR.1 hp;obtain⟨k,hk,rfl⟩:=dN.1 hy;have:=w.pipe hk;rw[A1 hk]at this;exact Kr.2 ⟨this.t0,this.tn,this.i0,this.iN⟩
 have c1:=G0 _ _ a1 b1;have c2:=G0 _ _ a2 b2;rw[bM]at c1 c2;have e1:=Pw (x:=x) Yv;have e2:=Pw (x:=x) U3;have e3:=Abj x.1;have e4:=w.ends;have:=Qy a1 b1 (by rw[bM];omega) (i,o) (Kr.2 ⟨h1,h2,h3,h4⟩);obtain⟨y,hy,he⟩:=cR.1 this;obtain⟨k,hk,rfl⟩:=dN.1 hy;have hp:=w.pipe hk;rw[A1 hk]at hp;rw[bH]at he;refine⟨k,hk,by rw[<-he.1,<-he.2];exact hp.out,by rw[A1 hk];exact he.1,by rw[A1 hk];exact he.2⟩
theorem WF.ins{x:PlT}(w:WF x){i o:Int}(h1:0<=i)(h2:i<x.1.length)(h3:0<=o)(h4:o<stIn (sg x i)):∃k,k<x.2.length/\pIn x i o=(k:Int)/\(x.2.getD k Ai).2.2.1=i/\(x.2.getD k Ai).2.2.2.1=o:=by
 have a1:=Jq w (λy=>(y.1,y.2.1)) (B8 x) (λk hk=>(w.pipe hk).out);have a2:=Jq w (λy=>(y.2.2.1,y.2.2.2.1)) (pIn x) (λk hk=>(w.pipe hk).inp);have b1:∀p∈x.2.map (λy=>(y.1,y.2.1)),p∈Rw x stOut:=λp hp=>by
  obtain⟨y,hy,rfl⟩:=cR.1 hp;obtain⟨k,hk,rfl⟩:=dN.1 hy;have:=w.pipe hk;rw[A1 hk]at this;exact Kr.2 ⟨this.f0,this.fn,this.o0,this.on⟩
 have b2:∀p∈x.2.map (λy=>(y.2.2.1,y.2.2.2.1)),p∈Rw x stIn:=λp hp=>by
  obtain⟨y,hy,rfl⟩:=cR.1 hp;obtain⟨k,hk,rfl⟩:=dN.1 hy;have:=w.pipe hk;rw[A1 hk]at this;exact Kr.2 ⟨this.t0,this.tn,this.i0,this.iN⟩
 have c1:=G0 _ _ a1 b1;have c2:=G0 _ _ a2 b2;rw[bM]at c1 c2;have e1:=Pw (x:=x) Yv;have e2:=Pw (x:=x) U3;have e3:=Abj x.1;have e4:=w.ends;have:=Qy a2 b2 (by rw[bM];omega) (i,o) (Kr.2 ⟨h1,h2,h3,h4⟩);obtain⟨y,hy,he⟩:=cR.1 this;obtain⟨k,hk,rfl⟩:=dN.1 hy;have hp:=w.pipe hk;rw[A1 hk]at hp;rw[bH]at he;refine⟨k,hk,by rw[<-he.1,<-he.2];exact hp.inp,by rw[A1 hk];exact he.1,by rw[A1 hk];exact he.2⟩
theorem WF.ne{x:PlT}(w:WF x){k:Nat}(hk:k<x.2.length):(x.2.getD k Ai).1≠(x.2.getD k Ai).2.2.1:=by
 intro h;have p:=w.pipe hk;have:=U2 (B:=[(x.2.getD k Ai).1]) (l:=x.2) (n:=x.1.length) (by simp) (λi hi=>by rw[bP.1 hi];exact⟨p.f0,p.fn⟩) w.tree;have h2:0<x.2.countP (F9 [(x.2.getD k Ai).1]):=gU.2 ⟨x.2.getD k Ai,by rw[A1 hk];exact cI hk,by unfold F9;rw[<-h];simp⟩;simp only[eD]at this;omega
structure VS(x:PlT)(s:FsT):Prop where
 ls:s.1.length=x.1.length
 lc:s.2.1.length=x.2.length
 lo:(s.2.2.1.length:Int)=Bp x.1
 nd:∀i<x.1.length,(An (sg x (i:Int)) (Az s (i:Int))).2=0
 os:∀l∈s.2.2.1,I9 l=false
 cr:∀k<x.2.length,U1 s (x.2.getD k Ai) (s.2.1.getD k zCred)=false
 no:∀i<x.1.length,∀n∈By (sg x (i:Int)) (Az s (i:Int)),Cv (Cq s (pIn x i n))=true
theorem Adq{x:PlT}{s:FsT}:Ln x s=true<->VS x s:=by
 unfold Ln Pq;constructor
 ·intro h;split at h;· cases h
  rename_i h1;split at h;· cases h
  rename_i h2;split at h;· cases h
  rename_i h3;split at h;· cases h
  rename_i h4;simp only[not_or,eP]at h1;obtain⟨a,b,c⟩:=h1;simp only[fA,dJ,cZ,bK,bF,eP,bN,fE,Bool.not_eq_eq_eq_not,gN,gG]at h2 h3 h4 h;exact⟨a,b,c,λi hi=>h2 i (by omega),h3,λk hk=>h4 k (by omega),λi hi=>h i (by omega)⟩
 ·rintro⟨a,b,c,d,e,f,g⟩;rw[aL (by omega),aL,aL,aL]
  ·simp only[bK,dJ,cZ,fA,fE]
   exactλi hi n hn=>by rw[g i (by omega) n hn]
  ·simp only[fA,dJ,cZ]
   exactλk hk=>f k (by omega)
  ·simp only[fA,dJ]
   exactλl hl=>e l hl
  ·simp only[fA,dJ,cZ]
   exactλi hi=>by rw[aW (show(An (sg x (i:Int)) (s.1.getD i ([],0,false))).2=0 from d i (by omega))];rfl
theorem Bh{x:PlT}{s:FsT}:Cl x s=0<->WF x/\VS x s:=by
 unfold Cl;rw[<-Ez,<-Adq];split
 ·rename_i h;constructor
  ·intro h';omega
  ·rintro⟨a,b⟩;rcases h with h|h
   ·exact aS a h
   ·rw[b]at h;cases h
 ·rename_i h;simp only[not_or,eP,fE]at h;exact⟨λ_=>h,λ_=>rfl⟩
theorem D1{s:FsT}{y:PipeT}{c:Cred}:U1 s y c=false<->(A8 c=0/\c.1=y.2.2.2.2/\c.2.2.2.2.2=(Az s y.1).2.2/\(c.2.2.2.2.2=false->c.2.1=c.2.2.2.1+c.1)):=by
 unfold U1 Az;simp only[bJ,bU,bN,Bool.and_eq_false_iff,bK,Bool.not_eq_eq_eq_not,gG,gN];constructor
 ·rintro⟨a,b,c,d⟩;refine⟨a,b,c,λh=>?_⟩;rcases d with d|d
  ·rw[h]at d;cases d
  ·exact d
 ·rintro⟨a,b,c,d⟩;refine⟨a,b,c, ?_⟩;rename_i c';cases h:c'.2.2.2.2.2
  ·exact .inr (d h)
  ·exact .inl rfl
theorem Abk:∀(l:List Int){c:Cred},A8 c=0->c.2.2.2.2.2=false->(l.length:Int)<=c.2.1-c.2.2.1->(∀a∈l,A3 a=false)->
 Ko c l=(c.1,c.2.1,c.2.2.1+l.length,c.2.2.2.1,c.2.2.2.2.1++l,false)/\A8 (Ko c l)=0
 |[],(a,b,d,e,f,g),h,hc,_,_=>by
  have hc:g=false:=hc;subst hc;refine⟨?_,h⟩;show(a,b,d,e,f,false)=(a,b,d+((0:Nat):Int),e,f++[],false);rw[cB];simp
 |v::l,c,h,hc,hl,hb=>by
  rw[List.length_cons]at hl;have h1:=Ah4 (x:=v) h (hb v dP) hc (by omega);have h2:=Alu (c:=c) (x:=v) (by rw[h1]);have h3:=Abk l (c:=(Ey c v).1) h2.2.1 (by rw[h1];exact hc) (by rw[h1];show(l.length:Int)<=c.2.1-(c.2.2.1+1);omega) (λa ha=>hb a (dZ v ha));have e:Ko c (v::l)=Ko (Ey c v).1 l:=rfl;rw[e];refine⟨?_,h3.2⟩;rw[h3.1,h1];show(c.1,c.2.1,c.2.2.1+1+(l.length:Int),c.2.2.2.1,(c.2.2.2.2.1++[v])++l,false)=(c.1,c.2.1,c.2.2.1+((l.length+1:Nat):Int),c.2.2.2.1,c.2.2.2.2.1++v::l,false);rw[dO,show c.2.2.1+1+(l.length:Int)=c.2.2.1+((l.length+1:Nat):Int) by omega];rfl
theorem Aop{b:Bool}{c:Cred}(h:A8 c=0)(hc:c.2.2.2.2.2=false):Abg b c=(c.1,c.2.1,c.2.2.1,c.2.2.2.1,c.2.2.2.2.1,b)/\A8 (Abg b c)=0:=by
 unfold Abg;cases b
 ·rw[aL (by simp)];refine⟨?_,h⟩;obtain⟨a,b,d,e,f,g⟩:=c;have hc:g=false:=hc;rw[hc]
 ·rw[aN rfl];have h1:=Ado h hc;exact⟨by rw[h1],(Ah3 (by rw[h1])).2.1⟩
theorem Cn{α:Type}{l:List α}{i j:Nat}{a d:α}:(l.set i a).getD j d=if i=j/\j<l.length then a else l.getD j d:=by
 rw[aY,aY,List.getElem?_set];by_cases h:i=j
 ·subst h;by_cases h2:i<l.length
  ·rw[aN rfl,aN h2,aN ⟨rfl,h2⟩];rfl
  ·rw[aN rfl,aL h2,aL (by omega),dU (by omega)]
 ·rw[aL h,aL (by omega)]
structure Mv(x:PlT)(s:FsT)(i:Int)(m:MvT):Prop where
 en:(Az s i).2.2=false
 nd:(An (sg x i) m.1).2=0
 len:(m.2.1.length:Int)=stOut (sg x i)
 good:∀l∈m.2.1,∀a∈l,A3 a=false
 fl:m.2.2.1=m.1.2.2
 tk:m.2.2.2.1=true->0<=m.2.2.2.2.1/\m.2.2.2.2.1<stIn (sg x i)/\∃l,(Cq s (pIn x i m.2.2.2.2.1)).2.2.2.2.1=m.2.2.2.2.2.1::l
 no:∀n∈By (sg x i) m.1,n∈By (sg x i) (Az s i)\/Cv (Cq s (pIn x i n))=true
theorem Lp{x:PlT}{s:FsT}{i:Int}(h:(A4 x s i).2=true):(Az s i).2.2=false/\
 (((sg x i).1=1/\(s.2.2.2=true\/(Az s i).2.1=(sg x i).2.2.2.length)/\A4 x s i=(Ml (sg x i) (Az s i) (-1),true))\/
  ((sg x i).1=1/\¬(s.2.2.2=true\/(Az s i).2.1=(sg x i).2.2.2.length)/\A4 x s i=(Gy (sg x i) (Az s i) false (-1) 0,true))\/
  ((sg x i).1≠1/\∃k,k=(An (sg x i) (Az s i)).1.getD 0 0/\((∃v l,(Cq s (pIn x i k)).2.2.2.2.1=v::l/\A4 x s i=(Gy (sg x i) (Az s i) true k v,true))\/
     (Cv (Cq s (pIn x i k))=true/\A4 x s i=(Ml (sg x i) (Az s i) k,true))))):=by
 unfold A4 at h ⊢;split at h
 ·cases h
 ·rename_i h1;refine⟨by simpa using h1, ?_⟩;rw[aL h1];split at h
  ·rename_i h2;rw[aN h2];split at h
   ·rename_i h3;rw[aN h3];exact .inl ⟨h2,h3,rfl⟩
   ·rename_i h3;rw[aL h3];exact .inr (.inl ⟨h2,h3,rfl⟩)
  ·rename_i h2;rw[aL h2];refine .inr (.inr ⟨h2,_,rfl, ?_⟩);split at h
   ·rename_i h3;rw[aN h3];left;cases hl:(Cq s (pIn x i ((An (sg x i) (Az s i)).1.getD 0 0))).2.2.2.2.1 with
    |nil=>rw[hl]at h3;simp at h3
    |cons v l=>exact⟨v,l,rfl,rfl⟩
   ·rename_i h3;rw[aL h3];split at h
    ·rename_i h4;rw[aN h4];exact .inr ⟨h4,rfl⟩
    ·cases h
theorem Px{x:PlT}{s:FsT}{i:Int}(v:VS x s)(h0:0<=i)(hn:i<x.1.length)(h:(A4 x s i).2=true)(he:(A4 x s i).1.2.2.2.2.2.2=0):Mv x s i (A4 x s i).1:=by
 have hnd:(An (sg x i) (Az s i)).2=0:=by have:=v.nd i.toNat (by omega);rwa [show((i.toNat:Nat):Int)=i by omega]at this
 obtain⟨h1,⟨h2,h3,h4⟩|⟨h2,h3,h4⟩|⟨h2,k,hk,⟨a,l,h5,h4⟩|⟨h5,h4⟩⟩⟩:=Lp h<;>rw[h4]at he ⊢
 ·obtain⟨a1,a2,a3,a4,a5,a6⟩:=Alz he;refine⟨h1,a1,a2,a3,a4,λh=>(by cases h),λn hn=>?_⟩;rcases a6 n hn with h|h
  ·exact .inl h
  ·exfalso;have hn:n∈By (sg x i) (Cg (sg x i) (Az s i) (-1)).1:=hn;unfold By at hn;rw[aL (by omega),aL (by omega),aL (by omega)]at hn;simp at hn
 ·obtain⟨a1,a2,a3,a4,a5,a6⟩:=Af1 he;exact⟨h1,a1,a2,a3,by show false=_;rw[show(Gy (sg x i) (Az s i) false (-1) 0).1.2.2=_ from a4,h1],λh=>(by cases h),λn hn=>.inl (a6 n hn)⟩
 ·obtain⟨a1,a2,a3,a4,a5,a6⟩:=Af1 he;obtain⟨k',k1,k2,k3⟩:=Pu hnd h2 h1;rw[k1]at hk;have hk:k=k':=hk;refine⟨h1,a1,a2,a3,by show false=_;rw[show(Gy (sg x i) (Az s i) true k a).1.2.2=_ from a4,h1],λh=>⟨?_, ?_,l,h5⟩,λn hn=>.inl (a6 n hn)⟩
  ·show 0<=k;omega
  ·show k<_;omega
 ·obtain⟨a1,a2,a3,a4,a5,a6⟩:=Alz he;refine⟨h1,a1,a2,a3,a4,λh=>(by cases h),λn hn=>?_⟩;rcases a6 n hn with h|h
  ·exact .inl h
  ·rw[h];exact .inr h5
theorem U4{c:Cred}{v:Int}{l:List Int}(h:A8 c=0)(hl:c.2.2.2.2.1=v::l)(he:(G7 c).2=0):A8 (G7 c).1=0/\
 (G7 c).1=(c.1,(if c.2.2.2.2.2=true then c.2.1 else c.2.1+1),c.2.2.1,c.2.2.2.1+1,l,c.2.2.2.2.2):=by
 have h1:=W1 h hl;have h2:=Abe (c:=c) (by rw[h1]);unfold G7 at he ⊢;rw[h1]at he h2 ⊢;by_cases hc:c.2.2.2.2.2=true
 ·rw[aL (by simp[hc]),aN hc];exact⟨h2.2.1,rfl⟩
 ·rw[aN (by simp[hc])]at he ⊢;have h3:=Afw he;rw[aL hc];exact⟨h3.2.1,h3.2.2.2.2.2.2⟩
theorem Qz{x:PlT}(w:WF x){i:Int}(h0:0<=i)(hn:i<x.1.length)(o:List (List Int))(b:Bool)(cr:List Cred)(hl:cr.length=x.2.length):∀(N:Nat),(N:Int)<=stOut (sg x i)->
 ((ints N).foldl (Gd x i o b) cr).length=cr.length/\∀k<x.2.length,((ints N).foldl (Gd x i o b) cr).getD k zCred =
   if(x.2.getD k Ai).1=i/\(x.2.getD k Ai).2.1<N then Abg b (Ko (cr.getD k zCred) (o.getD (x.2.getD k Ai).2.1.toNat []))else cr.getD k zCred
 |0,_=>by
  refine⟨rfl,λk hk=>?_⟩;have p:=w.pipe hk;have:=p.o0;rw[aL (by omega)];rfl
 |N+1,hN=>by
  obtain⟨i1,i2⟩:=Qz w h0 hn o b cr hl N (by omega);have e:ints (N+1)=ints N++[(N:Int)]:=by simp[ints,dA]
  rw[e,dK];generalize (ints N).foldl (Gd x i o b) cr=F at *;show(Gd x i o b F N).length=_/\∀k<x.2.length,(Gd x i o b F N).getD k zCred=_;unfold Gd;rw[cG];refine⟨i1,λk hk=>?_⟩;rw[Cn];obtain⟨j,j1,j2,j3,j4⟩:=w.outs h0 hn (show(0:Int)<=(N:Int) by omega) (by omega);have hj:(B8 x i (N:Int)).toNat=j:=by rw[j2];omega
  rw[hj];by_cases hjk:j=k
  ·subst hjk;rw[aN ⟨rfl,by omega⟩,aN ⟨j3,by omega⟩,i2 j hk,aL (by omega),j4]
  ·rw[aL (λh=>hjk h.1),i2 k hk];have:¬((x.2.getD k Ai).1=i/\(x.2.getD k Ai).2.1=N):=λh=>hjk (by
    have:=(w.pipe hk).out;rw[h.1,h.2,j2]at this;omega)
   by_cases h1:(x.2.getD k Ai).1=i/\(x.2.getD k Ai).2.1<N
   ·rw[aN h1,aN (by omega)]
   ·rw[aL h1,aL (by omega)]
theorem Abl{x:PlT}{s:FsT}{i:Int}{o:List (List Int)}:D9 x s i o=true<->∀n<o.length,((o.getD n []).length:Int)<=Jp (Cq s (B8 x i n)):=by
 unfold D9;simp only[bK,dJ,cZ,bN,fB]
theorem Nk{c:Cred}:Cv c=true<->(A8 c=0/\c.2.2.2.2.2=true/\c.2.2.2.2.1=[]):=by
 unfold Cv;simp[and_assoc]
def crS(x:PlT)(i:Int)(m:MvT)(k:Nat)(c:Cred):Cred:=
 if(x.2.getD k Ai).1=i then(c.1,c.2.1,c.2.2.1+((m.2.1.getD (x.2.getD k Ai).2.1.toNat []).length:Int),c.2.2.2.1,c.2.2.2.2.1++m.2.1.getD (x.2.getD k Ai).2.1.toNat [],m.2.2.1)
 else if m.2.2.2.1=true/\(pIn x i m.2.2.2.2.1).toNat=k then(G7 c).1 else c
structure StepR(x:PlT)(s:FsT)(i:Int)(m:MvT)(t:FsT):Prop where
 w:WF x
 v:VS x s
 i0:0<=i
 iN:i<x.1.length
 is:A4 x s i=(m,true)
 e0:m.2.2.2.2.2.2=0
 mv:Mv x s i m
 sl:R4 x i m=true->(s.2.2.1.getD (Fu x i) []).length≠200
 tk:m.2.2.2.1=true->(G7 (Cq s (pIn x i m.2.2.2.2.1))).2=0
 ft:D9 x s i m.2.1=true
 st:t.1=s.1.set i.toNat m.1
 lc:t.2.1.length=x.2.length
 cr:∀k<x.2.length,t.2.1.getD k zCred=crS x i m k (s.2.1.getD k zCred)
 ck:∀k<x.2.length,A8 (t.2.1.getD k zCred)=0
 ou:t.2.2.1=Pr x i m s.2.2.1
 dr:t.2.2.2=s.2.2.2
theorem Lq{x:PlT}{s:FsT}{i:Int}(h:(Ci x s i).2=0):StepR x s i (A4 x s i).1 (Ci x s i).1:=by
 unfold Ci at h ⊢;split at h
 ·rename_i h1;exact aS h h1
 rename_i h1;obtain⟨w,v⟩:=Bh.1 (eP.1 h1);split at h
 ·omega
 rename_i h2;simp only[eP]at h2;split at h
 ·simp at h
 rename_i h3;split at h
 ·rename_i h4;exact aS h h4
 rename_i h4;split at h
 ·simp at h
 rename_i h5;split at h
 ·rename_i h6;exact aS h h6
 rename_i h6;rw[aL h1,aL (by omega),aL h3,aL h4,aL h5,aL h6];clear h1 h;have e1:(Be x s i).1=(A4 x s i).1:=rfl;rw[e1]at h4 h5 h6 ⊢;have h4:(A4 x s i).1.2.2.2.2.2.2=0:=eP.1 h4;have h3':((A4 x s i).2&&(!decide ((A4 x s i).1.2.2.2.2.2.2=0)||D9 x s i (A4 x s i).1.2.1))=true:=(fE _).mp h3;rw[h4]at h3';simp only[decide_true,gN,fU,aR]at h3';obtain⟨g1,g2⟩:=h3';have mv:=Px v h2.1 h2.2 g1 h4;have is:A4 x s i=((A4 x s i).1,true):=by rw[<-g1]
 generalize hm:(A4 x s i).1=m at *;clear h3 e1;have h6:(Cr x s.2.1 i m).2=0:=eP.1 h6;have T:(Cr x s.2.1 i m).1.length=x.2.length/\∀k<x.2.length,(Cr x s.2.1 i m).1.getD k zCred=if m.2.2.2.1=true/\(pIn x i m.2.2.2.2.1).toNat=k then(G7 (s.2.1.getD k zCred)).1 else s.2.1.getD k zCred:=by
  unfold Cr;by_cases ht:m.2.2.2.1=true
  ·rw[aL (by rw[ht];simp)];refine⟨by rw[cG];exact v.lc,λk hk=>?_⟩;rw[Cn];by_cases hkk:(pIn x i m.2.2.2.2.1).toNat=k
   ·subst hkk;rw[aN ⟨rfl,by rw[v.lc];exact hk⟩,aN ⟨ht,rfl⟩]
   ·rw[aL (λh=>hkk h.1),aL (λh=>hkk h.2)]
  ·rw[aN (by simpa using ht)];exact⟨v.lc,λk hk=>by rw[aL (λh=>ht h.1)]⟩
 obtain⟨T1,T2⟩:=T;have hN:0<=stOut (sg x i):=Yv _;obtain⟨S1,S2⟩:=Qz w h2.1 h2.2 m.2.1 m.2.2.1 (Cr x s.2.1 i m).1 T1 (stOut (sg x i)).toNat (by omega);have htk:m.2.2.2.1=true->(G7 (Cq s (pIn x i m.2.2.2.2.1))).2=0:=λht=>by
  have h:=h6;unfold Cr at h;rw[aL (by rw[ht];simp)]at h;exact h
 have C:∀k<x.2.length,(Kq x i m.2.1 m.2.2.1 (Cr x s.2.1 i m).1).getD k zCred=crS x i m k (s.2.1.getD k zCred)/\A8 ((Kq x i m.2.1 m.2.2.1 (Cr x s.2.1 i m).1).getD k zCred)=0:=λk hk=>by
  unfold Kq;rw[S2 k hk,T2 k hk];have p:=w.pipe hk;obtain⟨c1,c2,c3,c4⟩:=D1.1 (v.cr k hk);unfold crS;by_cases hi:(x.2.getD k Ai).1=i
  ·have on:=p.on;rw[hi]at on;rw[aN ⟨hi,by omega⟩,aN hi];rw[aL]
   ·have hcl:(s.2.1.getD k zCred).2.2.2.2.2=false:=by rw[c3,hi];exact mv.en
    have hlen:((m.2.1.getD (x.2.getD k Ai).2.1.toNat []).length:Int)<=Jp (s.2.1.getD k zCred):=by
     have:=Abl.1 g2 (x.2.getD k Ai).2.1.toNat (by have:=mv.len;have:=p.o0;omega);have he:Cq s (B8 x i (((x.2.getD k Ai).2.1.toNat:Nat):Int))=s.2.1.getD k zCred:=by
      have:=p.o0;have o1:=p.out;rw[hi]at o1;rw[show((((x.2.getD k Ai).2.1.toNat:Nat):Int))=(x.2.getD k Ai).2.1 by omega,o1];rfl
     rwa [he]at this
    unfold Jp at hlen;rw[aL (by rw[c1,hcl];simp)]at hlen;have hg:∀a∈m.2.1.getD (x.2.getD k Ai).2.1.toNat [],A3 a=false:=by
     have hh:(x.2.getD k Ai).2.1.toNat<m.2.1.length:=by have:=mv.len;have:=p.o0;omega
     rw[A1 hh];exact mv.good _ (cI hh)
    obtain⟨q1,q2⟩:=Abk _ c1 hcl hlen hg;obtain⟨r1,r2⟩:=Aop (b:=m.2.2.1) q2 (by rw[q1]);refine⟨?_,r2⟩;rw[r1,q1]
   ·rintro⟨ht,he⟩;obtain⟨t1,t2,l,t3⟩:=mv.tk ht;obtain⟨j,j1,j2,j3,j4⟩:=w.ins h2.1 h2.2 t1 t2;have hjk:j=k:=by rw[j2]at he;omega
    subst hjk;exact w.ne hk (hi.trans j3.symm)
  ·rw[aL (λh=>hi h.1),aL hi];refine⟨rfl, ?_⟩;split
   ·rename_i h;obtain⟨t1,t2,l,t3⟩:=mv.tk h.1;have t4:=htk h.1;unfold Cq at t3 t4;rw[h.2]at t3 t4;exact(U4 c1 t3 t4).1
   ·exact c1
 refine⟨w,v,h2.1,h2.2,is,h4,mv,λhs h=>h5 ⟨hs,h⟩,htk,g2,rfl, ?_,λk hk=>(C k hk).1,λk hk=>(C k hk).2,rfl,rfl⟩;show(Kq x i m.2.1 m.2.2.1 (Cr x s.2.1 i m).1).length=_;unfold Kq;rw[S1,T1]
theorem Ir{α:Type}(p:α->Bool):∀(l:List α)(i:Nat)(d:α),i<l.length->p (l.getD i d)=true->(l.take i).countP p<l.countP p
 |[],_,_,h,_=>by simp at h
 |a::l,0,d,_,hp=>by
  have hp:p a=true:=hp;rw[dV,aN hp];simp
 |a::l,i+1,d,h,hp=>by
  have:=Ir p l i d (by simpa using h) (by simpa using hp);rw[fL,dV,dV];omega
theorem StepR.vs{x:PlT}{s t:FsT}{i:Int}{m:MvT}(r:StepR x s i m t):VS x t:=by
 have hl:i.toNat<s.1.length:=by have:=r.v.ls;have:=r.i0;have:=r.iN;omega
 have hii:((i.toNat:Nat):Int)=i:=by have:=r.i0;omega
 have hss:∀j:Int,0<=j->Az t j=if j=i then m.1 else Az s j:=λj hj=>by
  unfold Az;rw[r.st,Cn];by_cases h:j=i
  ·subst h;rw[aN ⟨rfl,hl⟩,aN rfl]
  ·rw[aL (by have:=r.i0;omega),aL h]
 have hend:∀k<x.2.length,Cv (s.2.1.getD k zCred)=true->Cv (t.2.1.getD k zCred)=true:=λk hk he=>by
  obtain⟨e1,e2,e3⟩:=Nk.1 he;have c:=(D1.1 (r.v.cr k hk)).2.2.1;rw[r.cr k hk];unfold crS;rw[aL,aL]
  ·exact he
  ·rintro⟨ht,hk'⟩;obtain⟨t1,t2,l,t3⟩:=r.mv.tk ht;unfold Cq at t3;rw[hk',e3]at t3;cases t3
  ·intro hi;rw[hi,r.mv.en,e2]at c;cases c
 refine⟨by rw[r.st,cG];exact r.v.ls,r.lc, ?_,λj hj=>?_,λl hl2=>?_,λk hk=>D1.2 ?_,λj hj n hn=>?_⟩
 ·rw[r.ou];unfold Pr;split
  ·rw[cG];exact r.v.lo
  ·exact r.v.lo
 ·rw[hss j (by omega)];by_cases h:(j:Int)=i
  ·rw[aN h,h];exact r.mv.nd
  ·rw[aL h];exact r.v.nd j hj
 ·rw[r.ou]at hl2;unfold Pr at hl2;split at hl2
  ·rename_i hs;rcases List.mem_or_eq_of_mem_set hl2 with h|h
   ·exact r.v.os l h
   ·subst h;have hsl:=r.sl hs;have hk10:(sg x i).1=10/\m.2.2.2.1=true:=by simpa[R4]using hs
    have hs0:Fu x i<s.2.2.1.length:=by
     have hlo:=r.v.lo;have:(x.1.take i.toNat).countP isSink<x.1.countP isSink:=Ir isSink x.1 i.toNat zStg (by have:=r.i0;have:=r.iN;omega) (aW hk10.1);unfold Bp at hlo;unfold Fu Bp;omega
    have h1:=r.v.os _ (cI hs0);rw[A1 hs0]at hsl ⊢;unfold I9 at h1 ⊢;simp only[bJ,bF]at h1 ⊢;refine⟨by rw[bD,eD];omega, ?_⟩;rw[eR,h1.2,fU];obtain⟨t1,t2,l',t3⟩:=r.mv.tk hk10.2;obtain⟨k,k1,k2,k3,k4⟩:=r.w.ins r.i0 r.iN t1 t2;have hc:=(D1.1 (r.v.cr k k1)).1;have hb:=(Fg hc).2.2.2.2.2.2.2.2;unfold Cq at t3;rw[k2]at t3;simp only[bE]at t3;rw[t3]at hb;simp only[eW,bJ]at hb;simp[hb.1]
  ·exact r.v.os l hl2
 ·obtain⟨c1,c2,c3,c4⟩:=D1.1 (r.v.cr k hk);have p:=r.w.pipe hk;refine⟨r.ck k hk, ?_⟩;rw[r.cr k hk,hss _ p.f0];unfold crS;by_cases hi:(x.2.getD k Ai).1=i
  ·rw[aN hi,aN hi];refine⟨c2,r.mv.fl,λ_=>c4 ?_⟩;rw[c3,hi];exact r.mv.en
  ·rw[aL hi,aL hi];split
   ·rename_i h;obtain⟨t1,t2,l,t3⟩:=r.mv.tk h.1;have t4:=r.tk h.1;unfold Cq at t3 t4;rw[h.2]at t3 t4;rw[(U4 c1 t3 t4).2];refine⟨c2,c3,λhc=>?_⟩;have:=c4 hc;rw[aL (by rw[hc];simp)];show(s.2.1.getD k zCred).2.1+1=(s.2.1.getD k zCred).2.2.2.1+1+(s.2.1.getD k zCred).1;omega
   ·exact⟨c2,c3,c4⟩
 ·rw[hss j (by omega)]at hn;have hin:∀n,Cv (Cq s (pIn x j n))=true->Cv (Cq t (pIn x j n))=true:=λn he=>by
   unfold Cq at he ⊢;refine hend _ ?_ he;by_cases h:(pIn x j n).toNat<x.2.length
   ·exact h
   ·exfalso;rw[aY,dU (by have:=r.v.lc;omega)]at he;simp[Cv,zCred,A8,inR]at he
  by_cases h:(j:Int)=i
  ·rw[aN h]at hn;rw[h]at hn;rcases r.mv.no n hn with h1|h1
   ·refine hin n ?_;have:=r.v.no i.toNat (by have:=r.v.ls;omega) n (by rw[hii];exact h1);rw[hii]at this
    rwa [h]
   ·exact hin n (by rwa [h])
  ·rw[aL h]at hn;exact hin n (r.v.no j hj n hn)
def G8(x:PlT)(s:FsT):Prop:=(Al x s).2≠0\/(Al x s).1=[]
def D2(x:PlT)(l:List Int)(k:Nat)(s:FsT):Int:=(Al x s).1.getD (Ps l k (Al x s).1.length).toNat 0
theorem Hm{x:PlT}{l:List Int}{m k:Nat}{s:FsT}{o:List Int}(h:G8 x s):Ds x l m k s o=(s,o,0):=by
 cases m with
 |zero=>rfl
 |succ m=>unfold Ds;rw[aN (show(Al x s).2≠0\/(Al x s).1=[]from h)]
theorem Ks{x:PlT}{l:List Int}{m k:Nat}{s:FsT}{o:List Int}(h:¬G8 x s)(he:(Ci x s (D2 x l k s)).2≠0):Ds x l (m+1) k s o=(zFs,[],(Ci x s (D2 x l k s)).2):=by
 unfold Ds;rw[aL (show ¬((Al x s).2≠0\/(Al x s).1=[])from h)];show(if(Ci x s (D2 x l k s)).2≠0 then _ else _)=_;rw[aN he];rfl
theorem Lr{x:PlT}{l:List Int}{m k:Nat}{s:FsT}{o:List Int}(h:¬G8 x s)(he:(Ci x s (D2 x l k s)).2=0):Ds x l (m+1) k s o=Ds x l m (k+1) (Ci x s (D2 x l k s)).1 (o++[D2 x l k s]):=by
 rw[Ds,aL (show ¬((Al x s).2≠0\/(Al x s).1=[])from h)];show(if(Ci x s (D2 x l k s)).2≠0 then _ else _)=_;rw[aL (by simpa using he)];rfl
theorem Su{x:PlT}{l:List Int}:∀(m k:Nat)(s:FsT)(o:List Int),Cl x s=0->(Ds x l m k s o).2.2=0->Cl x (Ds x l m k s o).1=0
 |0,_,_,_,h,_=>h
 |m+1,k,s,o,h,h2=>by
  by_cases hs:G8 x s
  ·rw[Hm hs];exact h
  ·by_cases he:(Ci x s (D2 x l k s)).2=0
   ·rw[Lr hs he]at h2 ⊢;have r:=Lq he;exact Su m (k+1) _ _ (Bh.2 ⟨r.w,r.vs⟩) h2
   ·rw[Ks hs he]at h2;exact aS h2 he
theorem Al0{y:StT}{t:SST}(h:(An y t).2=0)(hk:y.1≠1)(he:t.2.2=true){n:Int}(h0:0<=n)(hn:n<stIn y):n∈By y t:=by
 obtain⟨c0,hv⟩:=B3.1 h;obtain⟨⟨a1,a2,a3⟩,a4,a5⟩:=Au.1 hv;rw[Jb c0]at hn;have hkk:=G6 (B4 c0);unfold By;by_cases h8:y.1=8
 ·rw[aN h8];unfold vk at a5;rw[aL (by omega),aN h8]at a5;split at a5
  ·cases a5
  ·rename_i hb;have hb:(List.range t.1.length).any (C7 t.1)=false:=by simpa using hb
   rw[he]at a5;have hl:(t.1.length:Int)=2:=by
    cases hd:decide ((t.1.length:Int)=2)
    ·rw[hd]at a5;cases a5
    ·exact aM hd
   have hn2:n<2:=by rw[h8]at hn;exact hn
   rcases Adl (by omega) hb with h|h|h|h<;>rw[h]at hl ⊢
   ·simp at hl
   ·simp at hl
   ·simp at hl
   ·have:n=0\/n=1:=by omega
    rcases this with rfl|rfl<;>simp
 ·rw[aL h8];by_cases h9:y.1=9
  ·rw[aN h9];unfold vk at a5;rw[aL (by omega),aL h8,aN h9]at a5;have hc:t.2.1=3:=by
    cases hd:decide (t.2.1=3)
    ·rw[hd,he]at a5;cases a5
    ·exact aM hd
   have hn2:n<2:=by rw[h9]at hn;exact hn
   rw[hc];have:n=0\/n=1:=by omega
   rcases this with rfl|rfl<;>decide
  ·rw[aL h9,aN ⟨hk,he⟩];have:(Aq y.1).1<=1:=by
    rcases hkk with h|h|h|h|h|h|h|h|h|h<;>first|contradiction|(rw[h];decide)
   have:n=0:=by omega
   rw[this];exact bP.2 rfl
theorem Al1{z:Int}{d:List Int}{a:Int}:(Br z (d,[],0) a).2.1.length<=1:=by
 unfold Br;split
 ·unfold Fs Jg;dsimp only;split
  ·exact bB 1
  ·exact aV 1
 ·exact aV 1
theorem Al2{d:List Int}:(Cf (d,[],0)).2.1.length<=1:=by
 unfold Cf;split
 ·unfold Fs Jg;dsimp only;split
  ·exact bB 1
  ·exact aV 1
 ·exact aV 1
theorem Al3{y:StT}{t:SST}{k v:Int}(h0:Ap y=0)(h5:y.1≠5):∀l∈(Dr y t k v).2.1,l.length<=1:=by
 have o1:∀{o:List Int},o.length<=1->∀l∈[o],l.length<=1:=λh l hl=>by rw[bP.1 hl];exact h
 have i1:∀{b:Bool}{a c:List Int},a.length<=1->c.length<=1->(if b=true then a else c).length<=1:=λ{b} {a c} h1 h2=>by cases b;exact h2;exact h1
 have q1:∀{a:Int},[a].length<=1:=bB 1;have q0:([]:List Int).length<=1:=aV 1;have hk:=G6 (B4 h0);obtain⟨q,z,e,l⟩:=y;obtain⟨hd,c,en⟩:=t;replace hk:q=1\/q=2\/q=3\/q=4\/q=5\/q=6\/q=7\/q=8\/q=9\/q=10:=hk;rcases hk with rfl|rfl|rfl|rfl|rfl|rfl|rfl|rfl|rfl|rfl
 ·exact o1 q1
 ·exact o1 q1
 ·exact o1 (i1 q1 q0)
 ·exact o1 Al1
 ·exact aS rfl h5
 ·show ∀l'∈(if decide (c<z)=true then((hd,c+1,en),[[v]],(0:Int))else((hd,c,en),[[]],0):SST×List (List Int)×Int).2.1,_;cases decide (c<z)
  ·exact o1 q0
  ·exact o1 q1
 ·intro o ho;rcases cN.1 ho with rfl|ho
  ·exact i1 q1 q0
  ·rw[bP.1 ho];exact i1 q0 q1
 ·exact o1 q1
 ·have h9:Dr (9,z,e,l) (hd,c,en) k v=(if decide (k=0)=true then(if decide (C9 .i64 c 2=0)=true then(([v],c,en),[[]],0)else((hd,c,en),[[]],0))
   else if decide ((hd.length:Int)=1)=true then(([],c,en),[[(evX e D5 (hd.getD 0 0) v).1]],(evX e D5 (hd.getD 0 0) v).2)else((hd,c,en),[[]],0)):=rfl
  rw[h9];cases decide (k=0)
  ·cases decide ((hd.length:Int)=1)
   ·exact o1 q0
   ·exact o1 q1
  ·cases decide (C9 .i64 c 2=0)
   ·exact o1 q0
   ·exact o1 q0
 ·exactλo ho=>by simp[Dr]at ho
theorem Al4{y:StT}{t:SST}{k:Int}:∀l∈(Eh y t k).2.1,l.length<=1:=by
 have o1:∀{o:List Int},o.length<=1->∀l∈[o],l.length<=1:=λh l hl=>by rw[bP.1 hl];exact h
 unfold Eh;split
 ·exact o1 Al2
 ·split
  ·intro l hl;rcases cN.1 hl with rfl|hl
   ·simp
   ·rw[bP.1 hl];simp
  ·split
   ·exact o1 (by simp)
   ·split
    ·exact o1 (by simp)
    ·split
     ·intro l hl;simp at hl
     ·exact o1 (by simp)
theorem Py{y:StT}{t:SST}{c:Int}(hc:1<=c)(h5:y.1=5->y.2.1<=c):(∀k v,(Bs y t k v).2.2=0->∀l∈(Bs y t k v).2.1,(l.length:Int)<=c)/\(∀k,(Cg y t k).2.2.2=0->∀l∈(Cg y t k).2.1,(l.length:Int)<=c):=by
 constructor
 ·intro k v h l hl;obtain⟨h0,hv,h1,h2,h3,he⟩:=Yr h;rw[he]at hl;by_cases hk:y.1=5
  ·have hl:l∈(Dr y t k v).2.1:=hl;unfold Dr at hl;rw[aL (by omega),aL (by omega),aL (by omega),aL (by omega),aN hk]at hl;rw[bP.1 hl,bY];have:=h5 hk;have:=(Ay h0).1;omega
  ·have:=Al3 (t:=t) (k:=k) (v:=v) h0 hk l hl;omega
 ·intro k h l hl;obtain⟨h0,hv,h1,h2,h3,he⟩:=Adk h;rw[he]at hl;have:=Al4 (y:=y) (t:=t) (k:=k) l hl;omega
theorem Al5{x:PlT}{s:FsT}{i c:Int}(hc:1<=c)(h5:(sg x i).1=5->(sg x i).2.1<=c)(h:(A4 x s i).2=true)(he:(A4 x s i).1.2.2.2.2.2.2=0):∀l∈(A4 x s i).1.2.1,(l.length:Int)<=c:=by
 obtain⟨h1,⟨h2,h3,h4⟩|⟨h2,h3,h4⟩|⟨h2,k,hk,⟨a,l,h6,h4⟩|⟨h6,h4⟩⟩⟩:=Lp h<;>rw[h4]at he ⊢
 ·exact(Py hc h5).2 _ he
 ·exact(Py hc h5).1 _ _ he
 ·exact(Py hc h5).1 _ _ he
 ·exact(Py hc h5).2 _ he
theorem N3{α:Type}(p:α->Bool)(d:α):∀(l:List α)(j:Nat),((List.range' j l.length).filter (λk=>p (l.getD (k-j) d))).length=l.countP p
 |[],_=>rfl
 |a::l,j=>by
  rw[List.length_cons,List.range'_succ,cU,dV];have e:(List.range' (j+1) l.length).filter (λk=>p ((a::l).getD (k-j) d))=(List.range' (j+1) l.length).filter (λk=>p (l.getD (k-(j+1)) d)):=by
   refine List.filter_congr λk hk=>?_
   have:=(List.mem_range'_1.1 hk).1;rw[show k-j=(k-(j+1))+1 by omega];rfl
  have ih:=N3 p d l (j+1);rw[fN];show(if p a=true then _ else _:List Nat).length=_;split
  ·rename_i h;rw[List.length_cons,e,ih]
  ·rename_i h;rw[e,ih];rfl
theorem Arh{x:PlT}{s:FsT}(w:WF x)(v:VS x s){i:Int}(h0:0<=i)(hn:i<x.1.length)(he:(Az s i).2.2=false)(hno:(Be x s i).2=false):
 ∃k,k<x.2.length/\(((x.2.getD k Ai).2.2.1=i/\(Az s (x.2.getD k Ai).1).2.2=false/\(s.2.1.getD k zCred).2.2.2.2.1=[])\/
  ((x.2.getD k Ai).1=i/\(Az s (x.2.getD k Ai).2.2.1).2.2=false/\(s.2.1.getD k zCred).2.2.2.2.1≠[])):=by
 have hnd:(An (sg x i) (Az s i)).2=0:=by have:=v.nd i.toNat (by omega);rwa [show((i.toNat:Nat):Int)=i by omega]at this
 cases hx:(A4 x s i).2 with
 |false=>
  unfold A4 at hx;rw[aL (by rw[he];simp)]at hx;split at hx
  ·split at hx<;>cases hx
  ·rename_i h1;obtain⟨q,q1,q2,q3⟩:=Pu hnd h1 he;rw[q1]at hx;have hx:(if 0<(Cq s (pIn x i q)).2.2.2.2.1.length then(Gy (sg x i) (Az s i) true q ((Cq s (pIn x i q)).2.2.2.2.1.getD 0 0),true)
    else if Cv (Cq s (pIn x i q))=true then(Ml (sg x i) (Az s i) q,true)else(zMv,false)).2=false:=hx
   split at hx
   ·cases hx
   ·rename_i h2;split at hx
    ·cases hx
    ·rename_i h3;obtain⟨k,k1,k2,k3,k4⟩:=w.ins h0 hn q2 q3;have e:Cq s (pIn x i q)=s.2.1.getD k zCred:=by unfold Cq;rw[k2];rfl
     rw[e]at h2 h3;obtain⟨c1,c2,c3,c4⟩:=D1.1 (v.cr k k1);have hnil:(s.2.1.getD k zCred).2.2.2.2.1=[]:=dB (by omega);refine⟨k,k1,.inl ⟨k3, ?_,hnil⟩⟩;rw[<-c3];cases hc:(s.2.1.getD k zCred).2.2.2.2.2
     ·rfl
     ·exact aS (Nk.2 ⟨c1,hc,hnil⟩) h3
 |true=>
  have hno:((A4 x s i).2&&(!decide ((A4 x s i).1.2.2.2.2.2.2=0)||D9 x s i (A4 x s i).1.2.1))=false:=hno;rw[hx,eX,bJ]at hno;obtain⟨n1,n2⟩:=hno;have e0:(A4 x s i).1.2.2.2.2.2.2=0:=by simpa using n1
  have mv:=Px v h0 hn hx e0;have:¬ ∀n<(A4 x s i).1.2.1.length,(((A4 x s i).1.2.1.getD n []).length:Int)<=Jp (Cq s (B8 x i n)):=λh=>by
   rw[Abl.2 h]at n2;cases n2
  simp only[Classical.not_forall]at this;obtain⟨n,n3,n4⟩:=this;obtain⟨k,k1,k2,k3,k4⟩:=w.outs h0 hn (show(0:Int)<=(n:Int) by omega) (by have:=mv.len;omega);have e:Cq s (B8 x i n)=s.2.1.getD k zCred:=by unfold Cq;rw[k2];rfl
  rw[e]at n4;obtain⟨c1,c2,c3,c4⟩:=D1.1 (v.cr k k1);have p:=w.pipe k1;have hcl:(s.2.1.getD k zCred).2.2.2.2.2=false:=by rw[c3,k3];exact he
  refine⟨k,k1,.inr ⟨k3, ?_,λhnil=>n4 ?_⟩⟩
  ·cases hj:(Az s (x.2.getD k Ai).2.2.1).2.2
   ·rfl
   ·exfalso;have hjn:=v.nd (x.2.getD k Ai).2.2.1.toNat (by have:=p.t0;have:=p.tn;omega);have hjo:=v.no (x.2.getD k Ai).2.2.1.toNat (by have:=p.t0;have:=p.tn;omega);rw[show((((x.2.getD k Ai).2.2.1.toNat:Nat)):Int)=(x.2.getD k Ai).2.2.1 by have:=p.t0;omega]at hjn hjo;by_cases h1:(sg x (x.2.getD k Ai).2.2.1).1=1
    ·have hin:=p.iN;rw[Jb (B3.1 hjn).1,h1]at hin;have hin:(x.2.getD k Ai).2.2.2.1<0:=hin;have:=p.i0;omega
    ·have:=hjo _ (Al0 hjn h1 hj p.i0 p.iN);have e2:Cq s (pIn x (x.2.getD k Ai).2.2.1 (x.2.getD k Ai).2.2.2.1)=s.2.1.getD k zCred:=by unfold Cq;rw[p.inp];rfl
     rw[e2]at this;rw[(Nk.1 this).2.1]at hcl;cases hcl
  ·have hb:=Fg c1;have h4:=c4 hcl;rw[hnil]at hb;simp only[List.length_nil]at hb;unfold Jp;rw[aL (by rw[c1,hcl];simp)];have hs:((A4 x s i).1.2.1.getD n [])∈(A4 x s i).1.2.1:=by rw[A1 n3];exact cI n3
   have:=Al5 (c:=(x.2.getD k Ai).2.2.2.2) p.c1 (by have:=p.rep;rwa [k3]at this) hx e0 _ hs;omega
theorem Al6{x:PlT}{s:FsT}(w:WF x)(v:VS x s){i0:Int}(h0:0<=i0)(hn:i0<x.1.length)(he:(Az s i0).2.2=false):∃i:Int,0<=i/\i<x.1.length/\(Be x s i).2=true:=by
 apply Classical.byContradiction;intro hno;have hno:∀i:Int,0<=i->i<x.1.length->(Be x s i).2=false:=λi a b=>by
  cases h:(Be x s i).2
  ·rfl
  ·exact aS ⟨i,a,b,h⟩ hno
 let B:=(ints x.1.length).filter (λi=>!(Az s i).2.2);have mB:∀{i},i∈B<->(0<=i/\i<x.1.length/\(Az s i).2.2=false):=λ{i}=>by
  show i∈(ints x.1.length).filter (λi=>!(Az s i).2.2)<->_;rw[cS,Dl];simp[and_assoc]
 have hB:B≠[]:=λh=>by
  have:=mB.2 ⟨h0,hn,he⟩;rw[h]at this;simp at this
 have hf:=U2 (B:=B) (l:=x.2) (n:=x.1.length) hB (λi hi=>by have:=mB.1 hi;omega) w.tree;have hb:∀i:Int,∃k:Nat,i∈B->(k<x.2.length/\(((x.2.getD k Ai).2.2.1=i/\(Az s (x.2.getD k Ai).1).2.2=false/\(s.2.1.getD k zCred).2.2.2.2.1=[])\/
  ((x.2.getD k Ai).1=i/\(Az s (x.2.getD k Ai).2.2.1).2.2=false/\(s.2.1.getD k zCred).2.2.2.2.1≠[]))):=λi=>by
  by_cases h:i∈B
  ·obtain⟨a,b,c⟩:=mB.1 h;obtain⟨k,k1⟩:=Arh w v a b c (hno i a b);exact⟨k,λ_=>k1⟩
  ·exact⟨0,λh'=>aS h' h⟩
 let f:Int->Nat:=λi=>Classical.choose (hb i)
 have hf2:∀i∈B,(f i<x.2.length/\(((x.2.getD (f i) Ai).2.2.1=i/\(Az s (x.2.getD (f i) Ai).1).2.2=false/\(s.2.1.getD (f i) zCred).2.2.2.2.1=[])\/
  ((x.2.getD (f i) Ai).1=i/\(Az s (x.2.getD (f i) Ai).2.2.1).2.2=false/\(s.2.1.getD (f i) zCred).2.2.2.2.1≠[]))):=λi hi=>Classical.choose_spec (hb i) hi
 have nB:B.Nodup:=List.Nodup.sublist List.filter_sublist (by
  unfold ints;exact List.Pairwise.map _ (λa b h=>by omega) List.nodup_range)
 have nM:(B.map f).Nodup:=by
  rw[List.nodup_iff_pairwise_ne]at nB ⊢;refine List.pairwise_map.2 (nB.imp_of_mem λ{a b} ha hb' hab he=>?_);obtain⟨a1,a2⟩:=hf2 a ha;obtain⟨b1,b2⟩:=hf2 b hb';rw[he]at a2;rcases a2 with⟨a3,a4,a5⟩|⟨a3,a4,a5⟩<;>rcases b2 with⟨b3,b4,b5⟩|⟨b3,b4,b5⟩
  ·exact hab (a3.symm.trans b3)
  ·exact b5 a5
  ·exact a5 b5
  ·exact hab (a3.symm.trans b3)
 have hs:∀k∈B.map f,k∈(List.range' 0 x.2.length).filter (λk=>F9 B (x.2.getD (k-0) Ai)):=λk hk=>by
  obtain⟨i,hi,rfl⟩:=cR.1 hk;obtain⟨f1,f2⟩:=hf2 i hi;have p:=w.pipe f1;refine cS.2 ⟨List.mem_range'_1.2 ⟨by omega,by omega⟩, ?_⟩;have hi':=mB.1 hi;show(decide ((x.2.getD (f i) Ai).1∈B)&&decide ((x.2.getD (f i) Ai).2.2.1∈B))=true;rcases f2 with⟨a3,a4,a5⟩|⟨a3,a4,a5⟩
  ·rw[aW (mB.2 ⟨p.f0,p.fn,a4⟩),aW (show(x.2.getD (f i) Ai).2.2.1∈B by rw[a3];exact hi)];rfl
  ·rw[aW (mB.2 ⟨p.t0,p.tn,a4⟩),aW (show(x.2.getD (f i) Ai).1∈B by rw[a3];exact hi)];rfl
 have h1:=G0 _ _ nM hs;rw[N3 (F9 B) Ai x.2 0,bM]at h1;omega
end Go.Proofs.YtckpldpombdkgaaGreat
