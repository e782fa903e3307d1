/- Pipelines. -/
import Derived.Test.YtpabcdbaffjcdaaGreatJZ1
import Derived.Test.YtpabcdbaffjcdaaGreatJZ4
import Derived.Test.YtpabcdbaffjcdaaGreatJZ8
set_option linter.unusedSimpArgs false
set_option linter.unusedVariables false
set_option maxRecDepth 100000
namespace Go.Proofs.YtpabcdbaffjcdaaGreat
open Go.Sx
abbrev Cred:=Int×Int×Int×Int×List Int×Bool
def inR(n lo hi:Int):Bool:=decide (lo<=n)&&decide (n<=hi)
def A0(n:Int):Bool:=!inR n (-1099511627776) 1099511627776
def A8(c:Cred):Int:=
 if !inR c.1 1 100 then 2
 else if c.2.2.2.1<0\/c.2.2.1<c.2.2.2.1\/c.2.1<c.2.2.1\/1099511627776<c.2.1\/c.1<c.2.1-c.2.2.2.1\/(c.2.2.2.2.1.length:Int)≠c.2.2.1-c.2.2.2.1 then 1
 else if c.2.2.2.2.1.any A0 then 1 else 0
abbrev zCred:Cred:=(0,0,0,0,[],false)
def Vd(n:Int):Cred×Int:=if !inR n 1 100 then(zCred,2)else((n,0,0,0,[],false),0)
def Jc(c:Cred)(n:Int):Cred×Int:=
 if A8 c≠0 then(zCred,A8 c)else if n<1 then(zCred,2)else if c.2.2.2.2.2=true then(zCred,19)else if c.2.2.2.1+c.1-c.2.1<n then(zCred,18)
 else if 1099511627776<c.2.1+n then(zCred,4)else((c.1,c.2.1+n,c.2.2),0)
def E9(c:Cred)(x:Int):Cred×Int:=
 if A8 c≠0 then(zCred,A8 c)else if A0 x=true then(zCred,2)else if c.2.2.2.2.2=true then(zCred,19)else if c.2.2.1=c.2.1 then(zCred,18)
 else((c.1,c.2.1,c.2.2.1+1,c.2.2.2.1,c.2.2.2.2.1++[x],c.2.2.2.2.2),0)
def Er(c:Cred):Cred×Int×Int:=
 if A8 c≠0 then(zCred,0,A8 c)else match c.2.2.2.2.1 with
 |[]=>if c.2.2.2.2.2=true then(zCred,0,19)else(zCred,0,23)
 |x::l=>((c.1,c.2.1,c.2.2.1,c.2.2.2.1+1,l,c.2.2.2.2.2),x,0)
def Ee(c:Cred):Cred×Int:=if A8 c≠0 then(zCred,A8 c)else if c.2.2.2.2.2=true then(zCred,19)else((c.1,c.2.1,c.2.2.1,c.2.2.2.1,c.2.2.2.2.1,true),0)
def Cr(c:Cred):Bool:=decide (A8 c=0)&&c.2.2.2.2.2&&decide ((c.2.2.2.2.1.length:Int)=0)
def Jl(c:Cred):Int:=if A8 c≠0\/c.2.2.2.2.2=true then 0 else c.2.1-c.2.2.1
theorem Fl{c:Cred}(h:A8 c=0):1<=c.1/\c.1<=100/\0<=c.2.2.2.1/\c.2.2.2.1<=c.2.2.1/\c.2.2.1<=c.2.1/\c.2.1<=1099511627776/\c.2.1-c.2.2.2.1<=c.1/\(c.2.2.2.2.1.length:Int)=c.2.2.1-c.2.2.2.1/\c.2.2.2.2.1.any A0=false:=by
 unfold A8 inR at h;split at h
 ·omega
 ·rename_i h1;simp only[bM,Bool.and_eq_false_iff,bF]at h1;split at h
  ·omega
  ·rename_i h2;split at h
   ·omega
   ·rename_i h3;simp only[eY]at h3;refine⟨by omega,by omega,by omega,by omega,by omega,by omega,by omega,by omega,h3⟩
theorem Ahz(c:Cred):A8 c=if c.1<1\/100<c.1 then 2 else if(((((c.2.2.2.1<0\/c.2.2.1<c.2.2.2.1)\/c.2.1<c.2.2.1)\/1099511627776<c.2.1)\/c.2.2.2.1+c.1<c.2.1)\/¬(c.2.2.2.2.1.length:Int)=c.2.2.1-c.2.2.2.1)then 1
 else if c.2.2.2.2.1.any A0=true then 1 else 0:=by
 unfold A8 inR;by_cases h:c.1<1\/100<c.1
 ·rw[aP h,aP (by simp;omega)]
 ·rw[aL h,aL (by simp;omega)];by_cases h2:(((((c.2.2.2.1<0\/c.2.2.1<c.2.2.2.1)\/c.2.1<c.2.2.1)\/1099511627776<c.2.1)\/c.2.2.2.1+c.1<c.2.1)\/¬(c.2.2.2.2.1.length:Int)=c.2.2.1-c.2.2.2.1)
  ·rw[aP h2,aP (by omega)]
  ·rw[aL h2,aL (by omega)]
theorem Li(c:Cred):A8 c=0<->(1<=c.1/\c.1<=100/\0<=c.2.2.2.1/\c.2.2.2.1<=c.2.2.1/\c.2.2.1<=c.2.1/\c.2.1<=1099511627776/\c.2.1-c.2.2.2.1<=c.1/\(c.2.2.2.2.1.length:Int)=c.2.2.1-c.2.2.2.1/\c.2.2.2.2.1.any A0=false):=by
 refine⟨Fl,λh=>?_⟩;rw[Ahz,aL (by omega),aL (by omega),aL (by simp[h.2.2.2.2.2.2.2.2])]
theorem Aog{n:Int}(h:(Vd n).2=0):A8 (Vd n).1=0/\1<=n/\n<=100/\(Vd n).1=(n,0,0,0,[],false):=by
 unfold Vd at h ⊢;split at h
 ·simp at h
 ·rename_i hn;rw[aL hn];have h2:1<=n/\n<=100:=by simpa[inR]using hn
  refine⟨(Li _).2 ?_,h2.1,h2.2,rfl⟩;simp;omega
theorem Afq{c:Cred}{n:Int}(h:(Jc c n).2=0):A8 c=0/\A8 (Jc c n).1=0/\1<=n/\c.2.2.2.2.2=false/\n<=c.2.2.2.1+c.1-c.2.1/\c.2.1+n<=1099511627776/\(Jc c n).1=(c.1,c.2.1+n,c.2.2):=by
 unfold Jc at h ⊢;by_cases h1:A8 c=0
 ·rw[aL (by simpa using h1)]at h ⊢;by_cases h2:n<1
  ·rw[aP h2]at h;simp at h
  ·rw[aL h2]at h ⊢;by_cases h3:c.2.2.2.2.2=true
   ·rw[aP h3]at h;simp at h
   ·rw[aL h3]at h ⊢;by_cases h4:c.2.2.2.1+c.1-c.2.1<n
    ·rw[aP h4]at h;simp at h
    ·rw[aL h4]at h ⊢;by_cases h5:1099511627776<c.2.1+n
     ·rw[aP h5]at h;simp at h
     ·rw[aL h5];have hb:=(Li c).1 h1;refine⟨h1,(Li _).2 ?_,by omega,by simpa using h3,by omega,by omega,rfl⟩;simp only;refine⟨hb.1,hb.2.1,hb.2.2.1,hb.2.2.2.1,by omega,by omega,by omega,hb.2.2.2.2.2.2.2.1,hb.2.2.2.2.2.2.2.2⟩
 ·rw[aP (by simpa using h1)]at h;exact aT h h1
theorem Alo{c:Cred}{x:Int}(h:(E9 c x).2=0):A8 c=0/\A8 (E9 c x).1=0/\A0 x=false/\c.2.2.2.2.2=false/\c.2.2.1<c.2.1/\(E9 c x).1=(c.1,c.2.1,c.2.2.1+1,c.2.2.2.1,c.2.2.2.2.1++[x],c.2.2.2.2.2):=by
 unfold E9 at h ⊢;by_cases h1:A8 c=0
 ·rw[aL (by simpa using h1)]at h ⊢;by_cases h2:A0 x=true
  ·rw[aP h2]at h;simp at h
  ·rw[aL h2]at h ⊢;by_cases h3:c.2.2.2.2.2=true
   ·rw[aP h3]at h;simp at h
   ·rw[aL h3]at h ⊢;by_cases h4:c.2.2.1=c.2.1
    ·rw[aP h4]at h;simp at h
    ·rw[aL h4];have hb:=(Li c).1 h1;refine⟨h1,(Li _).2 ?_,by simpa using h2,by simpa using h3,by omega,rfl⟩;simp only[bD,List.length_cons,List.length_nil,eR,eV,gT,gM];refine⟨hb.1,hb.2.1,hb.2.2.1,by omega,by omega,by omega,by omega,by omega, ?_⟩;rw[hb.2.2.2.2.2.2.2.2];simpa using h2
 ·rw[aP (by simpa using h1)]at h;exact aT h h1
theorem Aa7{c:Cred}(h:(Er c).2.2=0):A8 c=0/\A8 (Er c).1=0/\∃x l,c.2.2.2.2.1=x::l/\Er c=((c.1,c.2.1,c.2.2.1,c.2.2.2.1+1,l,c.2.2.2.2.2),x,0):=by
 unfold Er at h ⊢;by_cases h1:A8 c=0
 ·rw[aL (by simpa using h1)]at h ⊢;cases hl:c.2.2.2.2.1 with
  |nil=>
   rw[hl]at h;simp only at h;split at h<;>simp at h
  |cons x l=>
   have hb:=(Li c).1 h1;rw[hl]at hb;simp only[List.length_cons,eV,bJ]at hb;refine⟨h1,(Li _).2 ?_,x,l,rfl,rfl⟩;simp only;refine⟨hb.1,hb.2.1,by omega,by omega,by omega,by omega,by omega,by omega,hb.2.2.2.2.2.2.2.2.2⟩
 ·rw[aP (by simpa using h1)]at h;exact aT h h1
theorem Ah0{c:Cred}(h:(Ee c).2=0):A8 c=0/\A8 (Ee c).1=0/\c.2.2.2.2.2=false/\(Ee c).1=(c.1,c.2.1,c.2.2.1,c.2.2.2.1,c.2.2.2.2.1,true):=by
 unfold Ee at h ⊢;by_cases h1:A8 c=0
 ·rw[aL (by simpa using h1)]at h ⊢;by_cases h3:c.2.2.2.2.2=true
  ·rw[aP h3]at h;simp at h
  ·rw[aL h3];have hb:=(Li c).1 h1;exact⟨h1,(Li _).2 hb,by simpa using h3,rfl⟩
 ·rw[aP (by simpa using h1)]at h;exact aT h h1
theorem Aa8{c:Cred}{n:Int}(h1:A8 c=0)(h2:1<=n)(h3:c.2.2.2.2.2=false)(h4:n<=c.2.2.2.1+c.1-c.2.1)(h5:c.2.1+n<=1099511627776):Jc c n=((c.1,c.2.1+n,c.2.2),0):=by
 unfold Jc;rw[aL (by simpa using h1),aL (by omega),aL (by simp[h3]),aL (by omega),aL (by omega)]
theorem Ah1{c:Cred}{x:Int}(h1:A8 c=0)(h2:A0 x=false)(h3:c.2.2.2.2.2=false)(h4:c.2.2.1<c.2.1):
 E9 c x=((c.1,c.2.1,c.2.2.1+1,c.2.2.2.1,c.2.2.2.2.1++[x],c.2.2.2.2.2),0):=by
 unfold E9;rw[aL (by simpa using h1),aL (by simp[h2]),aL (by simp[h3]),aL (by omega)]
theorem Wq{c:Cred}{x:Int}{l:List Int}(h1:A8 c=0)(h2:c.2.2.2.2.1=x::l):Er c=((c.1,c.2.1,c.2.2.1,c.2.2.2.1+1,l,c.2.2.2.2.2),x,0):=by
 unfold Er;rw[aL (by simpa using h1),h2]
theorem Ado{c:Cred}(h1:A8 c=0)(h3:c.2.2.2.2.2=false):Ee c=((c.1,c.2.1,c.2.2.1,c.2.2.2.1,c.2.2.2.2.1,true),0):=by
 unfold Ee;rw[aL (by simpa using h1),aL (by simp[h3])]
abbrev PipeT:=Int×Int×Int×Int×Int
abbrev PlT:=List StT×List PipeT
abbrev FsT:=List SST×List Cred×List (List Int)×Bool
@[reducible] def Ag:PipeT:=(0,0,0,0,0)
@[reducible] def zStg:StT:=(0,0,.mk 0 0 ⟨#[]⟩ 0 [],[])
def sg(x:PlT)(i:Int):StT:=x.1.getD i.toNat zStg
def Up(i n:Int)(y:PipeT):Bool:=decide (y.1=i)&&decide (y.2.1=n)
def inB(i n:Int)(y:PipeT):Bool:=decide (y.2.2.1=i)&&decide (y.2.2.2.1=n)
def pOut(x:PlT)(i n:Int):Int:=Ao (Up i n) x.2 0
def pIn(x:PlT)(i n:Int):Int:=Ao (inB i n) x.2 0
def Hr(x:PlT)(y:PipeT):Bool:=!inR y.1 0 (x.1.length-1)||(!inR y.2.2.1 0 (x.1.length-1)||(!inR y.2.1 0 (stOut (sg x y.1)-1)||(!inR y.2.2.2.1 0 (stIn (sg x y.2.2.1)-1) || !inR y.2.2.2.2 1 100)))
def H7(x:PlT)(k:Int)(y:PipeT):Int:=
 if Hr x y=true then 2 else if pOut x y.1 y.2.1<k\/pIn x y.2.2.1 y.2.2.2.1<k then 6 else if(sg x y.1).1=5/\y.2.2.2.2<(sg x y.1).2.1 then 2 else 0
def B9:List Int->Int
 |[]=>0
 |e::l=>if e≠0 then e else B9 l
def Jd(y:PipeT)(g:List Int):List Int:=g.map (λv=>if v=g.getD y.2.2.1.toNat 0 then g.getD y.1.toNat 0 else v)
def Gy:List PipeT->List Int->Bool
 |[],_=>false
 |y::l,g=>if g.getD y.1.toNat 0=g.getD y.2.2.1.toNat 0 then true else Gy l (Jd y g)
def ints(n:Nat):List Int:=(List.range n).map (λi:Nat=>(i:Int))
def Es(l:List StT):Int:=l.foldl (λa s=>a+(stIn s+stOut s)) 0
def Fa(x:PlT):Int:=
 if ¬(1<=x.1.length/\x.1.length<=16)then 4 else if B9 (x.1.map Al)≠0 then B9 (x.1.map Al)else if 32<x.2.length then 4
 else if B9 ((List.range x.2.length).map (λk:Nat=>H7 x k (x.2.getD k Ag)))≠0 then B9 ((List.range x.2.length).map (λk:Nat=>H7 x k (x.2.getD k Ag)))
 else if Es x.1≠2*x.2.length then 10 else if Gy x.2 (ints x.1.length)=true then 21 else 0
def isSink(s:StT):Bool:=decide (s.1=10)
def Bm(l:List StT):Int:=(l.countP isSink:Nat)
def Bu(y:StT)(t:SST):List Int:=if y.1=8 then t.1 else if y.1=9 then([[],[0],[1],[0,1]]:List (List Int)).getD t.2.1.toNat []else if y.1≠1/\t.2.2=true then[0]else[]
def Uq(s:FsT)(y:PipeT)(c:Cred):Bool:=!decide (A8 c=0)||(!decide (c.1=y.2.2.2.2)||(!decide (c.2.2.2.2.2=(s.1.getD y.1.toNat ([],0,false)).2.2)||(!c.2.2.2.2.2 && !decide (c.2.1=c.2.2.2.1+c.1))))
def Co(s:FsT)(k:Int):Cred:=s.2.1.getD k.toNat zCred
def Pj(x:PlT)(s:FsT):Bool:=
 if(List.range s.2.1.length).any (λk=>Uq s (x.2.getD k Ag) (s.2.1.getD k zCred))=true then false
 else !(List.range s.1.length).any (λi=>(Bu (sg x i) (s.1.getD i ([],0,false))).any (λn=>!Cr (Co s (pIn x i n))))
def I7(l:List Int):Bool:=decide (200<(l.length:Int))||l.any A0
def Lj(x:PlT)(s:FsT):Bool:=
 if s.1.length≠x.1.length\/s.2.1.length≠x.2.length\/(s.2.2.1.length:Int)≠Bm x.1 then false
 else if(List.range s.1.length).any (λi=>!decide ((Am (sg x i) (s.1.getD i ([],0,false))).2=0))=true then false
 else if s.2.2.1.any I7=true then false else Pj x s
def Df(x:PlT)(s:FsT):Int:=if Fa x≠0\/Lj x s=false then 1 else 0
@[reducible] def MvT:Type:=SST×List (List Int)×Bool×Bool×Int×Int×Int
@[reducible] def zMv:MvT:=(([],0,false),[],false,false,0,0,0)
@[reducible] def zFs:FsT:=([],[],[],false)
def Ay(s:FsT)(i:Int):SST:=s.1.getD i.toNat ([],0,false)
def Me(y:StT)(t:SST)(k:Int):MvT:=((Cg y t k).1,(Cg y t k).2.1,(Cg y t k).2.2.1,false,k,0,(Cg y t k).2.2.2)
def Gz(y:StT)(t:SST)(b:Bool)(k v:Int):MvT:=((Bq y t k v).1,(Bq y t k v).2.1,false,b,k,v,(Bq y t k v).2.2)
def A3(x:PlT)(s:FsT)(i:Int):MvT×Bool:=
 if(Ay s i).2.2=true then(zMv,false)
 else if(sg x i).1=1 then(if s.2.2.2=true\/(Ay s i).2.1=(sg x i).2.2.2.length then(Me (sg x i) (Ay s i) (-1),true)else(Gz (sg x i) (Ay s i) false (-1) 0,true))
 else if 0<(Co s (pIn x i ((Am (sg x i) (Ay s i)).1.getD 0 0))).2.2.2.2.1.length then
  (Gz (sg x i) (Ay s i) true ((Am (sg x i) (Ay s i)).1.getD 0 0) ((Co s (pIn x i ((Am (sg x i) (Ay s i)).1.getD 0 0))).2.2.2.2.1.getD 0 0),true)
 else if Cr (Co s (pIn x i ((Am (sg x i) (Ay s i)).1.getD 0 0)))=true then(Me (sg x i) (Ay s i) ((Am (sg x i) (Ay s i)).1.getD 0 0),true)
 else(zMv,false)
def Ea(x:PlT)(s:FsT)(i:Int)(o:List (List Int)):Bool:=!(List.range o.length).any (λn=>decide (Jl (Co s (pOut x i n))<((o.getD n []).length:Int)))
def Be(x:PlT)(s:FsT)(i:Int):MvT×Bool:=((A3 x s i).1,(A3 x s i).2&&(!decide ((A3 x s i).1.2.2.2.2.2.2=0)||Ea x s i (A3 x s i).1.2.1))
def Ak(x:PlT)(s:FsT):List Int×Int:=if Df x s≠0 then([],Df x s)else((ints x.1.length).filter (λi=>(Be x s i).2),0)
def G7(c:Cred):Cred×Int:=if(Er c).2.2=0/\(Er c).1.2.2.2.2.2=false then Jc (Er c).1 1 else((Er c).1,(Er c).2.2)
def Cp(x:PlT)(cr:List Cred)(i:Int)(m:MvT):List Cred×Int:=
 if m.2.2.2.1=false then(cr,0)else(cr.set (pIn x i m.2.2.2.2.1).toNat (G7 (cr.getD (pIn x i m.2.2.2.2.1).toNat zCred)).1,(G7 (cr.getD (pIn x i m.2.2.2.2.1).toNat zCred)).2)
def Kj(c:Cred)(l:List Int):Cred:=l.foldl (λc v=>(E9 c v).1) c
def Aa9(b:Bool)(c:Cred):Cred:=if b=true then(Ee c).1 else c
def Gh(x:PlT)(i:Int)(o:List (List Int))(b:Bool)(cr:List Cred)(n:Int):List Cred:=
 cr.set (pOut x i n).toNat (Aa9 b (Kj (cr.getD (pOut x i n).toNat zCred) (o.getD n.toNat [])))
def Kk(x:PlT)(i:Int)(o:List (List Int))(b:Bool)(cr:List Cred):List Cred:=(ints (stOut (sg x i)).toNat).foldl (Gh x i o b) cr
def Ur(x:PlT)(i:Int)(m:MvT):Bool:=decide ((sg x i).1=10)&&m.2.2.2.1
def Fy(x:PlT)(i:Int):Nat:=(Bm (x.1.take i.toNat)).toNat
def Rm(x:PlT)(i:Int)(m:MvT)(o:List (List Int)):List (List Int):=if Ur x i m=true then o.set (Fy x i) (o.getD (Fy x i) []++[m.2.2.2.2.2.1])else o
def Cs(x:PlT)(s:FsT)(i:Int):FsT×Int:=
 if Df x s≠0 then(zFs,Df x s)else if ¬(0<=i/\i<x.1.length)then(zFs,2)else if(Be x s i).2=false then(zFs,25)
 else if(Be x s i).1.2.2.2.2.2.2≠0 then(zFs,(Be x s i).1.2.2.2.2.2.2)
 else if Ur x i (Be x s i).1=true/\(s.2.2.1.getD (Fy x i) []).length=200 then(zFs,4)
 else if(Cp x s.2.1 i (Be x s i).1).2≠0 then(zFs,(Cp x s.2.1 i (Be x s i).1).2)
 else((s.1.set i.toNat (Be x s i).1.1,Kk x i (Be x s i).1.2.1 (Be x s i).1.2.2.1 (Cp x s.2.1 i (Be x s i).1).1,Rm x i (Be x s i).1 s.2.2.1,s.2.2.2),0)
def newC(y:PipeT):Cred:=(Jc (Vd y.2.2.2.2).1 y.2.2.2.2).1
def Ca(x:PlT):FsT×Int:=if Fa x≠0 then(zFs,Fa x)else((List.replicate x.1.length ([],0,false),x.2.map newC,List.replicate (Bm x.1).toNat [],false),0)
def Pk(l:List Int)(k:Nat)(n:Int):Int:=if l.length=0 then 0 else((l.getD (k % l.length) 0).tmod n+n).tmod n
def Dg(x:PlT)(l:List Int):Nat->Nat->FsT->List Int->FsT×List Int×Int
 |0,_,s,o=>(s,o,0)
 |m+1,k,s,o=>
  if(Ak x s).2≠0\/(Ak x s).1=[]then(s,o,0)
  else if(Cs x s ((Ak x s).1.getD (Pk l k (Ak x s).1.length).toNat 0)).2≠0 then(zFs,[],(Cs x s ((Ak x s).1.getD (Pk l k (Ak x s).1.length).toNat 0)).2)
  else Dg x l m (k+1) (Cs x s ((Ak x s).1.getD (Pk l k (Ak x s).1.length).toNat 0)).1 (o++[(Ak x s).1.getD (Pk l k (Ak x s).1.length).toNat 0])
def B2(x:PlT)(s:FsT)(l:List Int)(m:Int):FsT×List Int×Int:=
 if Df x s≠0 then(zFs,[],1)else if m<0\/10000<m then(zFs,[],2)else Dg x l m.toNat 0 s []
def Jw(x:PlT)(s:FsT):FsT×Int:=if Df x s≠0 then(zFs,1)else if s.2.2.2=true then(zFs,17)else((s.1,s.2.1,s.2.2.1,true),0)
def Rx(x:PlT)(s:FsT):Bool:=decide (Df x s=0)&&s.1.all (λt=>t.2.2)
def nd:List Int->Nat
 |[]=>0
 |a::l=>if a∈l then nd l else nd l+1
theorem Ve(a:Int)(l:List Int):nd (a::l)=if a∈l then nd l else nd l+1:=rfl
theorem Apo:∀l:List Int,nd l<=l.length
 |[]=>bA 0
 |a::l=>by
  have h:=Apo l;rw[Ve];split<;>simp only[List.length_cons]<;>omega
theorem Alp:∀l:List Int,l≠[]->1<=nd l
 |[],h=>aT rfl h
 |a::l,_=>by
  rw[Ve];split
  ·exact Alp l (by rintro rfl;simp_all)
  ·omega
theorem Alq{a:Int}:∀l:List Int,a ∉ l->l.filter (λv=>!decide (v=a))=l
 |[],_=>rfl
 |b::l,h=>by
  simp only[cT,not_or]at h;rw[dN,aP (by simp;exactλe=>h.1 e.symm),Alq l h.2]
theorem Afr{a:Int}:∀l:List Int,a∈l->nd l=nd (l.filter (λv=>!decide (v=a)))+1
 |[],h=>by simp at h
 |b::l,h=>by
  by_cases hb:b=a
  ·subst hb;rw[dN,aL (by simp),Ve];by_cases hm:b∈l
   ·rw[aP hm];exact Afr l hm
   ·rw[aL hm,Alq l hm]
  ·have hm:a∈l:=by
    rcases cT.1 h with h|h
    ·exact aT h.symm hb
    ·exact h
   rw[dN,aP (by simpa using hb)];have ih:=Afr l hm;by_cases hbl:b∈l
   ·rw[Ve,aP hbl,Ve,aP (cW.2 ⟨hbl,by simpa using hb⟩),ih]
   ·rw[Ve,aL hbl,Ve,aL (λh=>hbl (cW.1 h).1),ih]
theorem Adp:∀(l m:List Int),(∀a∈l,a∈m)->nd l<=nd m
 |[],_,_=>aV _
 |a::l,m,h=>by
  rw[Ve];split
  ·exact Adp l m (λb hb=>h b (dQ a hb))
  ·rename_i ha;rw[Afr m (h a (dK))];have:=Adp l (m.filter (λv=>!decide (v=a))) (λb hb=>cW.2 ⟨h b (dQ a hb),by
    simp only[bM,bF];rintro rfl;exact ha hb⟩)
   omega
theorem Alr(f:Int->Int):∀l:List Int,nd (l.map f)<=nd l
 |[]=>bA 0
 |a::l=>by
  have ih:=Alr f l;rw[eD,Ve,Ve];by_cases ha:a∈l
  ·rw[aP ha,aP (cU.2 ⟨a,ha,rfl⟩)];exact ih
  ·rw[aL ha];split<;>omega
theorem Aoh{a b:Int}{l:List Int}(ha:a∈l)(hb:b∈l)(hab:a≠b):nd (l.map (λv=>if v=b then a else v))+1<=nd l:=by
 rw[Afr l hb];have:=Adp (l.map (λv=>if v=b then a else v)) (l.filter (λv=>!decide (v=b))) (λc hc=>by
  obtain⟨v,hv,rfl⟩:=cU.1 hc;by_cases h:v=b
  ·rw[aP h];exact cW.2 ⟨ha,by simpa using hab⟩
  ·rw[aL h];exact cW.2 ⟨hv,by simpa using h⟩)
 omega
def Gd(B:List Int)(y:PipeT):Bool:=decide (y.1∈B)&&decide (y.2.2.1∈B)
theorem Aba{B:List Int}(hB:B≠[]):∀(l:List PipeT)(g:List Int),(∀i∈B,i.toNat<g.length)->Gy l g=false->l.countP (Gd B)+1<=nd (B.map (λi=>g.getD i.toNat 0))
 |[],g,_,_=>Alp _ (by simpa using hB)
 |y::l,g,hg,h=>by
  rw[Gy]at h;split at h
  ·cases h
  ·rename_i hne;have ih:=Aba hB l (Jd y g) (λi hi=>by rw[Jd,bN];exact hg i hi) h;have e:B.map (λi=>(Jd y g).getD i.toNat 0)=(B.map (λi=>g.getD i.toNat 0)).map (λv=>if v=g.getD y.2.2.1.toNat 0 then g.getD y.1.toNat 0 else v):=by
    rw[List.map_map];refine eJ λi hi=>?_
    simp[Jd,aZ,aR (hg i hi)]
   rw[e]at ih;rw[dY];by_cases hb:Gd B y=true
   ·rw[aP hb];simp only[Gd,aS,bO]at hb;have:=Aoh (l:=B.map (λi=>g.getD i.toNat 0)) (cU.2 ⟨_,hb.1,rfl⟩) (cU.2 ⟨_,hb.2,rfl⟩) hne;omega
   ·rw[aL hb];exact cP ih (Alr _ _)
theorem Ej(n:Nat):(ints n).length=n:=by simp[ints]
theorem Abb{n i:Nat}(h:i<n):(ints n).getD i 0=(i:Int):=by simp[ints,aZ,h]
theorem Dm{n:Nat}{i:Int}:i∈ints n<->0<=i/\i<n:=by
 simp only[ints,cU,cZ];constructor
 ·rintro⟨k,hk,rfl⟩;omega
 ·intro h;exact⟨i.toNat,by omega,by omega⟩
theorem Us{B:List Int}{l:List PipeT}{n:Nat}(hB:B≠[])(hn:∀i∈B,0<=i/\i<n)(h:Gy l (ints n)=false):l.countP (Gd B)<B.length:=by
 have h1:=Aba hB l (ints n) (λi hi=>by rw[Ej];have:=hn i hi;omega) h;have e:B.map (λi=>(ints n).getD i.toNat 0)=B:=by
  refine(eJ λi hi=>?_).trans (List.map_id _);have:=hn i hi;rw[Abb (by omega)];simp;omega
 rw[e]at h1;have:=Apo B;omega
theorem Als{α:Type}{p:α->Bool}(d:α):∀(l:List α)(i:Int)(j:Nat),0<=i->j<l.length->p (l.getD j d)=true->0<=Ao p l i/\Ao p l i<=i+j
 |[],_,_,_,h,_=>by simp at h
 |x::l,i,j,hi,h,hp=>by
  unfold Ao;split
  ·omega
  ·rename_i hx;cases j with
   |zero=>exact aT hp hx
   |succ j=>
    have:=Als d l (i+1) j (by omega) (by simpa using h) (by simpa using hp);omega
theorem Yi:∀(l:List Int),B9 l=0->∀a∈l,a=0
 |[],_,_,h=>by simp at h
 |e::l,h,a,ha=>by
  unfold B9 at h;split at h
  ·contradiction
  ·rename_i he;rcases cT.1 ha with rfl|ha
   ·omega
   ·exact Yi l h a ha
structure WF(x:PlT):Prop where
 n1:1<=x.1.length
 n16:x.1.length<=16
 st:∀i<x.1.length,Al (x.1.getD i zStg)=0
 p32:x.2.length<=32
 pp:∀k<x.2.length,H7 x k (x.2.getD k Ag)=0
 ends:Es x.1=2*x.2.length
 tree:Gy x.2 (ints x.1.length)=false
theorem Cz{x:PlT}:Fa x=0<->WF x:=by
 unfold Fa;constructor
 ·intro h;split at h;· omega
  rename_i h1;split at h;· omega
  rename_i h2;split at h;· omega
  rename_i h3;split at h;· omega
  rename_i h4;split at h;· omega
  rename_i h5;split at h;· omega
  rename_i h6;refine⟨by omega,by omega,λi hi=>?_,by omega,λk hk=>?_,by omega,by simpa using h6⟩
  ·refine Yi (x.1.map Al) (by omega) _ (cU.2 ⟨x.1.getD i zStg, ?_,rfl⟩);rw[aZ,aR hi];exact cJ hi
  ·exact Yi ((List.range x.2.length).map (λk:Nat=>H7 x k (x.2.getD k Ag))) (by omega) _ (cU.2 ⟨k,cZ.2 hk,rfl⟩)
 ·rintro⟨h1,h2,h3,h4,h5,h6,h7⟩;have e1:∀l:List Int,(∀a∈l,a=0)->B9 l=0:=by
   intro l
   induction l with
   |nil=>intro _;rfl
   |cons a l ih=>
    intro h;unfold B9;rw[aL (by simpa using h a dK)];exact ih λb hb=>h b (dQ a hb)
  have e2:B9 (x.1.map Al)=0:=e1 _ λa ha=>by
   obtain⟨s,hs,rfl⟩:=cU.1 ha;obtain⟨i,hi,rfl⟩:=dM.1 hs;have:=h3 i hi
   rwa [aZ,aR hi]at this
  have e3:B9 ((List.range x.2.length).map (λk:Nat=>H7 x k (x.2.getD k Ag)))=0:=e1 _ λa ha=>by
   obtain⟨k,hk,rfl⟩:=cU.1 ha;exact h5 k (cZ.1 hk)
  rw[aL (by omega),e2,aL (by simp),aL (by omega),e3,aL (by simp),aL (by omega),aL (by simpa using h7)]
structure PP(x:PlT)(k:Nat)(y:PipeT):Prop where
 f0:0<=y.1
 fn:y.1<x.1.length
 o0:0<=y.2.1
 on:y.2.1<stOut (sg x y.1)
 t0:0<=y.2.2.1
 tn:y.2.2.1<x.1.length
 i0:0<=y.2.2.2.1
 iN:y.2.2.2.1<stIn (sg x y.2.2.1)
 c1:1<=y.2.2.2.2
 c100:y.2.2.2.2<=100
 out:pOut x y.1 y.2.1=k
 inp:pIn x y.2.2.1 y.2.2.2.1=k
 rep:(sg x y.1).1=5->(sg x y.1).2.1<=y.2.2.2.2
theorem Lk{n a b:Int}:inR n a b=true<->(a<=n/\n<=b):=by simp[inR]
theorem WF.pipe{x:PlT}(w:WF x){k:Nat}(hk:k<x.2.length):PP x k (x.2.getD k Ag):=by
 have h:=w.pp k hk;unfold H7 at h;split at h;· omega
 rename_i h1;split at h;· omega
 rename_i h2;split at h;· omega
 rename_i h3;simp only[Hr,bY,bM,not_or,fC,Lk]at h1;have g1:pOut x (x.2.getD k Ag).1 (x.2.getD k Ag).2.1<=k:=by
  have:=(Als (p:=Up (x.2.getD k Ag).1 (x.2.getD k Ag).2.1) Ag x.2 0 k (cO 0) hk (by simp[Up])).2;simpa[pOut]using this
 have g2:pIn x (x.2.getD k Ag).2.2.1 (x.2.getD k Ag).2.2.2.1<=k:=by
  have:=(Als (p:=inB (x.2.getD k Ag).2.2.1 (x.2.getD k Ag).2.2.2.1) Ag x.2 0 k (cO 0) hk (by simp[inB])).2;simpa[pIn]using this
 exact⟨by omega,by omega,by omega,by omega,by omega,by omega,by omega,by omega,by omega,by omega,by omega,by omega,λh5=>by omega⟩
theorem A1{α:Type}{l:List α}{k:Nat}{d:α}(h:k<l.length):l.getD k d=l[k]:=by
 rw[aZ,aR h];rfl
theorem Ark{v:Int}(h:inM v):A0 v=false:=by
 unfold A0 inR;rw[aX h.1,aX h.2];rfl
theorem App{e:ExprT}{ns:List ByteArray}{a b:Int}(h:(evX e ns a b).2=0):inM (evX e ns a b).1:=by
 unfold evX I4 at h ⊢;split
 ·exact⟨show(-1099511627776:Int)<=0 by decide,show(0:Int)<=1099511627776 by decide⟩
 ·rw[Pf];split
  ·exact Ae8 _
  ·exact⟨show(-1099511627776:Int)<=0 by decide,show(0:Int)<=1099511627776 by decide⟩
theorem Ll{y:StT}(h:Al y=0):stOut y=(Ap y.1).2.1:=by unfold stOut;rw[aP h]
theorem Nt{y:StT}(h:Al y=0):stIn y=(Ap y.1).1:=by unfold stIn;rw[aP h]
theorem Afs(k:Int):0<=(Ap k).1/\0<=(Ap k).2.1:=by
 unfold Ap
 repeat' split
 all_goals exact⟨by decide,by decide⟩
theorem Ut(x:StT):0<=stIn x:=by
 unfold stIn;split
 ·exact(Afs _).1
 ·exact cO 0
theorem Yj(x:StT):0<=stOut x:=by
 unfold stOut;split
 ·exact(Afs _).2
 ·exact cO 0
theorem Aft:∀(d:List Int)(n f:Int),(d.foldl Et (n,f)).2=0->f=0/\(inM n->inM (d.foldl Et (n,f)).1)
 |[],n,f,h=>⟨h,λh=>h⟩
 |a::d,n,f,h=>by
  rw[cM]at h ⊢;obtain⟨h0,h1⟩:=Aft d _ _ h;by_cases hf:f=0
  ·refine⟨hf,λ_=>h1 ?_⟩;cases hb:Ke (n+a)with
   |true=>exact Afl hb
   |false=>
    rw[hb,hf]at h0;exact aT (show(14:Int)=0 from h0) (by decide)
  ·rw[bE hf]at h0;exfalso;cases hb:Ke (n+a)<;>rw[hb]at h0<;>exact hf h0
theorem Afu{d:List Int}(h:(Fx (d,[],0)).2.2=0):∀x∈(Fx (d,[],0)).2.1,inM x:=by
 have h1:(d.foldl Et (0,0)).2=0:=h;have h2:=(Aft d 0 0 h1).2 ⟨by decide,by decide⟩;intro x hx;have hx:x∈Jb (d.foldl Et (0,0)).2 [] (d.foldl Et (0,0)).1:=hx;rw[h1]at hx;have hx:x∈[(d.foldl Et (0,0)).1]:=hx;rw[bT.1 hx];exact h2
theorem G0{o:List Int}(h:∀a∈o,inM a):∀l∈[o],∀a∈l,A0 a=false:=λl hl a ha=>by
 rw[bT.1 hl]at ha;exact Ark (h a ha)
theorem Apq{b:Bool}{n:Int}(hn:inM n):∀a∈(if b=true then[n]else[]),inM a:=λa ha=>by
 cases b
 ·simp at ha
 ·rw[aP rfl]at ha;rw[bT.1 ha];exact hn
theorem Aoi{y:StT}{t:SST}{k v:Int}(h0:Al y=0)(hv:inM v)(h:(Dr y t k v).2.2=0):∀l∈(Dr y t k v).2.1,∀a∈l,A0 a=false:=by
 have hk:=G6 (B1 h0);obtain⟨q,z,e,l⟩:=y;obtain⟨hd,c,en⟩:=t;replace hk:q=1\/q=2\/q=3\/q=4\/q=5\/q=6\/q=7\/q=8\/q=9\/q=10:=hk;have s1:∀{w:Int},inM w->∀a∈[w],inM a:=λhw a ha=>by rw[bT.1 ha];exact hw
 rcases hk with rfl|rfl|rfl|rfl|rfl|rfl|rfl|rfl|rfl|rfl
 ·have hi:l.any Aj=false:=(Hm h0).2;refine G0 (s1 ?_);show inM (l.getD c.toNat 0);by_cases hc:c.toNat<l.length
  ·rw[A1 hc];exact Ak4 hi _ (cJ hc)
  ·rw[aZ,dW (by omega)];exact⟨by decide,by decide⟩
 ·exact G0 (s1 (App h))
 ·exact G0 (Apq hv)
 ·refine G0 ?_;show ∀a∈(Bp z (hd,[],0) v).2.1,inM a;have h:(Bp z (hd,[],0) v).2.2=0:=h;unfold Bp at h ⊢;split
  ·rename_i hc;rw[aP hc]at h;exact Afu h
  ·intro a ha;simp at ha
 ·exact G0 (λa ha=>by rw[List.eq_of_mem_replicate ha];exact hv)
 ·show ∀l'∈(if decide (c<z)=true then((hd,c+1,en),[[v]],(0:Int))else((hd,c,en),[[]],0):SST×List (List Int)×Int).2.1,_;split
  ·exact G0 (s1 hv)
  ·exact G0 (λa ha=>by simp at ha)
 ·intro o ho;rcases cT.1 ho with rfl|ho
  ·exact G0 (Apq hv) _ (bT.2 rfl)
  ·rw[bT.1 ho];cases decide ((evX e nmX v 0).1=1)
   ·exact G0 (s1 hv) _ (bT.2 rfl)
   ·exactλa ha=>by simp at ha
 ·exact G0 (s1 hv)
 ·have h9:Dr (9,z,e,l) (hd,c,en) k v=(if decide (k=0)=true then(if decide (C8 .i64 c 2=0)=true then(([v],c,en),[[]],0)else((hd,c,en),[[]],0))
   else if decide ((hd.length:Int)=1)=true then(([],c,en),[[(evX e D8 (hd.getD 0 0) v).1]],(evX e D8 (hd.getD 0 0) v).2)else((hd,c,en),[[]],0)):=rfl
  have e0:∀l∈([[]]:List (List Int)),∀a∈l,A0 a=false:=G0 (λa ha=>by simp at ha);rw[h9]at h ⊢;by_cases c1:decide (k=0)=true
  ·rw[aP c1];by_cases c2:decide (C8 .i64 c 2=0)=true
   ·rw[aP c2];exact e0
   ·rw[aL c2];exact e0
  ·rw[aL c1]at h ⊢;by_cases c2:decide ((hd.length:Int)=1)=true
   ·rw[aP c2]at h ⊢;exact G0 (s1 (App h))
   ·rw[aL c2];exact e0
 ·exactλo ho=>by simp[Dr]at ho
theorem Aoj{y:StT}{t:SST}{k:Int}(h:(Ei y t k).2.2=0):∀l∈(Ei y t k).2.1,∀a∈l,A0 a=false:=by
 have e0:∀l∈([[]]:List (List Int)),∀a∈l,A0 a=false:=G0 (λa ha=>by simp at ha);unfold Ei at h ⊢;split
 ·rename_i h4;rw[aP h4]at h;refine G0 ?_;have h:(Cf (t.1,[],0)).2.2=0:=h;show ∀a∈(Cf (t.1,[],0)).2.1,inM a;unfold Cf at h ⊢;split
  ·rename_i hc;rw[aP hc]at h;exact Afu h
  ·intro a ha;simp at ha
 ·split
  ·intro o ho a ha;rcases cT.1 ho with rfl|ho
   ·simp at ha
   ·rw[bT.1 ho]at ha;simp at ha
  ·split
   ·exact e0
   ·split
    ·exact e0
    ·split
     ·intro o ho;simp at ho
     ·exact e0
theorem Aok{y:StT}{t:SST}(h8:y.1≠8)(h9:y.1≠9)(h:t.2.2=false):Bu y t=[]:=by
 unfold Bu;rw[aL h8,aL h9,aL (by rw[h];simp)]
theorem Afv{y:StT}{t:SST}{k v:Int}(h:(Bq y t k v).2.2=0):(Am y (Bq y t k v).1).2=0/\((Bq y t k v).2.1.length:Int)=stOut y/\(∀l∈(Bq y t k v).2.1,∀a∈l,A0 a=false)/\
 (Bq y t k v).1.2.2=t.2.2/\t.2.2=false/\(∀n∈Bu y (Bq y t k v).1,n∈Bu y t):=by
 obtain⟨v1,v2,v3⟩:=Uo h;obtain⟨h0,hv,h1,h2,h3,he⟩:=Yf h;have hen:=Un h1;refine⟨B0.2 ⟨h0,v1⟩,by rw[v2,Ll h0], ?_,v3,hen,λn hn=>?_⟩
 ·rw[he];exact Aoi h0 (Afl (Yg h2)) h3
 ·by_cases h8:y.1=8
  ·unfold Bu at hn ⊢;rw[aP h8]at hn ⊢;rw[he]at hn;unfold Dr at hn;rw[aL (by omega),aL (by omega),aL (by omega),aL (by omega),aL (by omega),aL (by omega),aL (by omega),aP h8]at hn;exact hn
  ·by_cases h9:y.1=9
   ·unfold Bu at hn ⊢;rw[aL h8,aP h9]at hn ⊢;rw[he]at hn;unfold Dr at hn;rw[aL (by omega),aL (by omega),aL (by omega),aL (by omega),aL (by omega),aL (by omega),aL (by omega),aL h8,aP h9]at hn;have e:(if decide (k=0)=true then(if decide (C8 .i64 t.2.1 2=0)=true then(([v],t.2),[[]],0)else(t,[[]],0))
     else if decide ((t.1.length:Int)=1)=true then(([],t.2),[[(evX y.2.2.1 D8 (t.1.getD 0 0) v).1]],(evX y.2.2.1 D8 (t.1.getD 0 0) v).2)else(t,[[]],0):SST×List (List Int)×Int).1.2=t.2:=by
     split
     ·split<;>rfl
     ·split<;>rfl
    rw[e]at hn;exact hn
   ·rw[Aok h8 h9 (by rw[v3,hen])]at hn;simp at hn
theorem Alt{y:StT}{t:SST}{k:Int}(h:(Cg y t k).2.2.2=0):(Am y (Cg y t k).1).2=0/\((Cg y t k).2.1.length:Int)=stOut y/\(∀l∈(Cg y t k).2.1,∀a∈l,A0 a=false)/\
 (Cg y t k).2.2.1=(Cg y t k).1.2.2/\t.2.2=false/\(∀n∈Bu y (Cg y t k).1,n∈Bu y t\/n=k):=by
 obtain⟨⟨v1,v2,v3,v4⟩,v5⟩:=Wo h;obtain⟨h0,hv,h1,h2,h3,he⟩:=Adk h;have hen:=Adm h2;refine⟨B0.2 ⟨h0,v1⟩,by rw[v2,Ll h0], ?_,v5,hen,λn hn=>?_⟩
 ·rw[he];exact Aoj h3
 ·by_cases hk1:y.1=1
  ·unfold Bu at hn;rw[aL (by omega),aL (by omega),aL (λh=>h.1 hk1)]at hn;simp at hn
  ·obtain⟨i0,iN⟩:=Yh hk1 h1;rw[he]at hn;by_cases h8:y.1=8
   ·unfold Bu at hn ⊢;rw[aP h8]at hn ⊢;unfold Ei at hn;rw[aL (by omega),aL (by omega),aP h8]at hn;have hn:n∈Gw (t.1++[k]):=hn;have hp:(Gw (t.1++[k])).Perm (t.1++[k]):=List.mergeSort_perm _ _;rcases dG.1 (hp.mem_iff.1 hn)with h|h
    ·exact .inl h
    ·exact .inr (bT.1 h)
   ·by_cases h9:y.1=9
    ·unfold Bu at hn ⊢;rw[aL h8,aP h9]at hn ⊢;unfold Ei at hn;rw[aL (by omega),aL (by omega),aL h8,aP h9]at hn;have hn:n∈(([[],[0],[1],[0,1]]:List (List Int)).getD (Dc .i64 t.2.1 (Dd .i64 1 k)).toNat []):=hn;have hb:=(As.1 hv).1;have hb2:E7 y=(3,1):=by
      unfold E7;rw[aL (by omega),aL (by omega),aL (by omega),aP h9]
     rw[hb2]at hb;have hk9:(Ap y.1).1=2:=by rw[h9];rfl
     rw[hk9]at iN;obtain⟨c0,c3,_⟩:=hb;have c3:t.2.1<=3:=c3;have hc:t.2.1=0\/t.2.1=1\/t.2.1=2\/t.2.1=3:=by omega
     have hk:k=0\/k=1:=by omega
     rcases hc with hc|hc|hc|hc<;>rcases hk with hk|hk<;>rw[hc,hk]at hn<;>rw[hc,hk]
     all_goals
      revert hn
      first
      |(rw[show(Dc .i64 0 (Dd .i64 1 0)).toNat=1 by decide];simp<;>omega)
      |(rw[show(Dc .i64 0 (Dd .i64 1 1)).toNat=2 by decide];simp<;>omega)
      |(rw[show(Dc .i64 1 (Dd .i64 1 0)).toNat=1 by decide];simp<;>omega)
      |(rw[show(Dc .i64 1 (Dd .i64 1 1)).toNat=3 by decide];simp<;>omega)
      |(rw[show(Dc .i64 2 (Dd .i64 1 0)).toNat=3 by decide];simp<;>omega)
      |(rw[show(Dc .i64 2 (Dd .i64 1 1)).toNat=2 by decide];simp<;>omega)
      |(rw[show(Dc .i64 3 (Dd .i64 1 0)).toNat=3 by decide];simp<;>omega)
      |(rw[show(Dc .i64 3 (Dd .i64 1 1)).toNat=3 by decide];simp<;>omega)
    ·unfold Bu at hn;rw[aL h8,aL h9]at hn;split at hn
     ·right;rw[bT.1 hn];have hkk:(Ap y.1).1<=1:=by
       have:=G6 (B1 h0);rcases this with h|h|h|h|h|h|h|h|h|h<;>first|contradiction|(rw[h];decide)
      omega
     ·simp at hn
theorem Pl{y:StT}{t:SST}(h:(Am y t).2=0)(hk:y.1≠1)(he:t.2.2=false):∃k,(Am y t).1=[k]/\0<=k/\k<stIn y:=by
 obtain⟨h0,hv⟩:=B0.1 h;have hb:=(As.1 hv).1;rw[Nt h0];have g0:(!decide (Al y=0))=false:=by simp[h0]
 have g1:(!Av y t)=false:=by simp[hv]
 have g2:(bif t.2.2 then true else decide (y.1=1))=false:=by rw[he,bE hk];rfl
 have hkk:=G6 (B1 h0);cases g3:(bif decide (y.1=8)then Gc y t t.2.1 else false)
 ·cases g4:decide (y.1=8)
  ·cases g5:(bif decide (y.1=9)then(bif Gc y t 0 then true else decide (0<(t.1.length:Int)))else false)
   ·refine⟨0,by rw[ND6 g0 g1 g2 g3 g4 g5],cO 0, ?_⟩;rcases hkk with h|h|h|h|h|h|h|h|h|h<;>first|contradiction|(rw[h];decide)
   ·have h9:y.1=9:=by
     by_cases h9:y.1=9
     ·exact h9
     ·rw[bE h9]at g5;cases g5
    exact⟨1,by rw[ND5 g0 g1 g2 g3 g4 g5],by decide,by rw[h9];decide⟩
  ·have h8:y.1=8:=aM g4;have hb2:E7 y=(1,2):=by unfold E7;rw[aL (by omega),aL (by omega),aP h8]
   rw[hb2]at hb;have:t.2.1<=1:=hb.2.1;have hk8:(Ap y.1).1=2:=by rw[h8];rfl
   exact⟨t.2.1,by rw[ND4 g0 g1 g2 g3 g4],hb.1,by rw[hk8];omega⟩
 ·have h8:y.1=8:=by
   by_cases h8:y.1=8
   ·exact h8
   ·rw[bE h8]at g3;cases g3
  have hb2:E7 y=(1,2):=by unfold E7;rw[aL (by omega),aL (by omega),aP h8]
  rw[hb2]at hb;have:t.2.1<=1:=hb.2.1;have:=hb.1;have hk8:(Ap y.1).1=2:=by rw[h8];rfl
  exact⟨1-t.2.1,by rw[ND3 g0 g1 g2 g3],by omega,by rw[hk8];omega⟩
theorem Wr{α:Type}[DecidableEq α]{a:α}{l:List α}(h:a∈l):(l.erase a).length+1=l.length:=by
 have:=List.length_erase_of_mem h;have h2:=List.length_pos_of_mem h;omega
theorem G1{α:Type}[DecidableEq α]:∀(l m:List α),l.Nodup->(∀a∈l,a∈m)->l.length<=m.length
 |[],_,_,_=>aV _
 |a::l,m,h,hs=>by
  obtain⟨h1,h2⟩:=List.nodup_cons.1 h;have:=G1 l (m.erase a) h2 (λb hb=>(List.mem_erase_of_ne (by rintro rfl;exact h1 hb)).2 (hs b (dQ a hb)));have:=Wr (hs a dK);rw[List.length_cons];omega
theorem Qp{α:Type}[DecidableEq α]{l m:List α}(h:l.Nodup)(hs:∀a∈l,a∈m)(hl:m.length<=l.length):∀a∈m,a∈l:=by
 intro a ha;by_cases h1:a∈l
 ·exact h1
 ·have:=G1 l (m.erase a) h (λb hb=>(List.mem_erase_of_ne (by rintro rfl;exact h1 hb)).2 (hs b hb));have:=Wr ha;omega
def Rn(x:PlT)(w:StT->Int):List (Int×Int):=(ints x.1.length).flatMap (λi=>(ints (w (sg x i)).toNat).map (λo=>(i,o)))
theorem Kl{x:PlT}{w:StT->Int}{i o:Int}:(i,o)∈Rn x w<->(0<=i/\i<x.1.length/\0<=o/\o<w (sg x i)):=by
 unfold Rn;simp only[List.mem_flatMap,cU,Dm,bG];constructor
 ·rintro⟨i',⟨h1,h2⟩,o',⟨h3,h4⟩,rfl,rfl⟩;omega
 ·rintro⟨h1,h2,h3,h4⟩;exact⟨i,⟨h1,h2⟩,o,⟨h3,by omega⟩,rfl,rfl⟩
theorem Im{α:Type}(f:α->Int):∀(l:List α)(a:Int),l.foldl (λn c=>n+f c) a=a+l.foldl (λn c=>n+f c) 0
 |[],a=>by simp
 |c::l,a=>by
  rw[cM,cM,Im f l (a+f c),Im f l (0+f c)];omega
theorem Pm{x:PlT}{w:StT->Int}(hw:∀s,0<=w s):((Rn x w).length:Int)=x.1.foldl (λa s=>a+w s) 0:=by
 have h1:∀(l:List StT)(k:Nat)(f:Int->StT),(∀i<l.length,f ((k+i:Nat):Int)=l.getD i zStg)->
  ((((List.range' k l.length).map (λi:Nat=>(i:Int))).flatMap (λi=>(ints (w (f i)).toNat).map (λo=>(i,o)))).length:Int)=l.foldl (λa s=>a+w s) 0:=by
  intro l
  induction l with
  |nil=>intro k f _;rfl
  |cons s l ih=>
   intro k f hf;have e0:=hf 0 (by simp);have:=ih (k+1) f (λi hi=>by have:=hf (i+1) (by simpa using hi);rw[show k+1+i=k+(i+1) by omega,this];simp);rw[List.length_cons,List.range'_succ,eD,fB,bD,bN,Ej,cM,Im w l (0+w s)];rw[show f (k:Int)=s by simpa using e0];have:=hw s;omega
 have:=h1 x.1 0 (sg x) (λi hi=>by unfold sg;simp);rw[<-this];unfold Rn ints;rw[List.range_eq_range']
theorem Jm{x:PlT}(w:WF x)(f:PipeT->Int×Int)(g:Int->Int->Int)(hg:∀k<x.2.length,g (f (x.2.getD k Ag)).1 (f (x.2.getD k Ag)).2=k):(x.2.map f).Nodup:=by
 rw[List.nodup_iff_pairwise_ne,gA];intro i j hi hj hij he;rw[bN]at hi hj;rw[eS,eS]at he;have h1:=hg i hi;have h2:=hg j hj;rw[A1 hi]at h1;rw[A1 hj]at h2;rw[he,h2]at h1;omega
theorem Abc(l:List StT):Es l=l.foldl (λa s=>a+stOut s) 0+l.foldl (λa s=>a+stIn s) 0:=by
 unfold Es
 induction l with
 |nil=>rfl
 |cons s l ih=>
  rw[cM,cM,cM,Im (λs=>stIn s+stOut s),Im stOut,Im stIn,ih];omega
theorem WF.outs{x:PlT}(w:WF x){i o:Int}(h1:0<=i)(h2:i<x.1.length)(h3:0<=o)(h4:o<stOut (sg x i)):∃k,k<x.2.length/\pOut x i o=(k:Int)/\(x.2.getD k Ag).1=i/\(x.2.getD k Ag).2.1=o:=by
 have a1:=Jm w (λy=>(y.1,y.2.1)) (pOut x) (λk hk=>(w.pipe hk).out);have a2:=Jm w (λy=>(y.2.2.1,y.2.2.2.1)) (pIn x) (λk hk=>(w.pipe hk).inp);have b1:∀p∈x.2.map (λy=>(y.1,y.2.1)),p∈Rn x stOut:=λp hp=>by
  obtain⟨y,hy,rfl⟩:=cU.1 hp;obtain⟨k,hk,rfl⟩:=dM.1 hy;have:=w.pipe hk;rw[A1 hk]at this;exact Kl.2 ⟨this.f0,this.fn,this.o0,this.on⟩
 have b2:∀p∈x.2.map (λy=>(y.2.2.1,y.2.2.2.1)),p∈Rn x stIn:=λp hp=>by
  obtain⟨y,hy,rfl⟩:=cU.1 hp;obtain⟨k,hk,rfl⟩:=dM.1 hy;have:=w.pipe hk;rw[A1 hk]at this;exact Kl.2 ⟨this.t0,this.tn,this.i0,this.iN⟩
 have c1:=G1 _ _ a1 b1;have c2:=G1 _ _ a2 b2;rw[bN]at c1 c2;have e1:=Pm (x:=x) Yj;have e2:=Pm (x:=x) Ut;have e3:=Abc x.1;have e4:=w.ends;have:=Qp a1 b1 (by rw[bN];omega) (i,o) (Kl.2 ⟨h1,h2,h3,h4⟩);obtain⟨y,hy,he⟩:=cU.1 this;obtain⟨k,hk,rfl⟩:=dM.1 hy;have hp:=w.pipe hk;rw[A1 hk]at hp;rw[bG]at he;refine⟨k,hk,by rw[<-he.1,<-he.2];exact hp.out,by rw[A1 hk];exact he.1,by rw[A1 hk];exact he.2⟩
theorem WF.ins{x:PlT}(w:WF x){i o:Int}(h1:0<=i)(h2:i<x.1.length)(h3:0<=o)(h4:o<stIn (sg x i)):∃k,k<x.2.length/\pIn x i o=(k:Int)/\(x.2.getD k Ag).2.2.1=i/\(x.2.getD k Ag).2.2.2.1=o:=by
 have a1:=Jm w (λy=>(y.1,y.2.1)) (pOut x) (λk hk=>(w.pipe hk).out);have a2:=Jm w (λy=>(y.2.2.1,y.2.2.2.1)) (pIn x) (λk hk=>(w.pipe hk).inp);have b1:∀p∈x.2.map (λy=>(y.1,y.2.1)),p∈Rn x stOut:=λp hp=>by
  obtain⟨y,hy,rfl⟩:=cU.1 hp;obtain⟨k,hk,rfl⟩:=dM.1 hy;have:=w.pipe hk;rw[A1 hk]at this;exact Kl.2 ⟨this.f0,this.fn,this.o0,this.on⟩
 have b2:∀p∈x.2.map (λy=>(y.2.2.1,y.2.2.2.1)),p∈Rn x stIn:=λp hp=>by
  obtain⟨y,hy,rfl⟩:=cU.1 hp;obtain⟨k,hk,rfl⟩:=dM.1 hy;have:=w.pipe hk;rw[A1 hk]at this;exact Kl.2 ⟨this.t0,this.tn,this.i0,this.iN⟩
 have c1:=G1 _ _ a1 b1;have c2:=G1 _ _ a2 b2;rw[bN]at c1 c2;have e1:=Pm (x:=x) Yj;have e2:=Pm (x:=x) Ut;have e3:=Abc x.1;have e4:=w.ends;have:=Qp a2 b2 (by rw[bN];omega) (i,o) (Kl.2 ⟨h1,h2,h3,h4⟩);obtain⟨y,hy,he⟩:=cU.1 this;obtain⟨k,hk,rfl⟩:=dM.1 hy;have hp:=w.pipe hk;rw[A1 hk]at hp;rw[bG]at he;refine⟨k,hk,by rw[<-he.1,<-he.2];exact hp.inp,by rw[A1 hk];exact he.1,by rw[A1 hk];exact he.2⟩
theorem WF.ne{x:PlT}(w:WF x){k:Nat}(hk:k<x.2.length):(x.2.getD k Ag).1≠(x.2.getD k Ag).2.2.1:=by
 intro h;have p:=w.pipe hk;have:=Us (B:=[(x.2.getD k Ag).1]) (l:=x.2) (n:=x.1.length) (by simp) (λi hi=>by rw[bT.1 hi];exact⟨p.f0,p.fn⟩) w.tree;have h2:0<x.2.countP (Gd [(x.2.getD k Ag).1]):=gU.2 ⟨x.2.getD k Ag,by rw[A1 hk];exact cJ hk,by unfold Gd;rw[<-h];simp⟩;simp only[eG]at this;omega
structure VS(x:PlT)(s:FsT):Prop where
 ls:s.1.length=x.1.length
 lc:s.2.1.length=x.2.length
 lo:(s.2.2.1.length:Int)=Bm x.1
 nd:∀i<x.1.length,(Am (sg x (i:Int)) (Ay s (i:Int))).2=0
 os:∀l∈s.2.2.1,I7 l=false
 cr:∀k<x.2.length,Uq s (x.2.getD k Ag) (s.2.1.getD k zCred)=false
 no:∀i<x.1.length,∀n∈Bu (sg x (i:Int)) (Ay s (i:Int)),Cr (Co s (pIn x i n))=true
theorem Adq{x:PlT}{s:FsT}:Lj x s=true<->VS x s:=by
 unfold Lj Pj;constructor
 ·intro h;split at h;· cases h
  rename_i h1;split at h;· cases h
  rename_i h2;split at h;· cases h
  rename_i h3;split at h;· cases h
  rename_i h4;simp only[not_or,dT]at h1;obtain⟨a,b,c⟩:=h1;simp only[eY,dA,cZ,bM,bF,dT,bO,fC,Bool.not_eq_eq_eq_not,gL,gF]at h2 h3 h4 h;exact⟨a,b,c,λi hi=>h2 i (by omega),h3,λk hk=>h4 k (by omega),λi hi=>h i (by omega)⟩
 ·rintro⟨a,b,c,d,e,f,g⟩;rw[aL (by omega),aL,aL,aL]
  ·simp only[bM,dA,cZ,eY,fC]
   exactλi hi n hn=>by rw[g i (by omega) n hn]
  ·simp only[eY,dA,cZ]
   exactλk hk=>f k (by omega)
  ·simp only[eY,dA]
   exactλl hl=>e l hl
  ·simp only[eY,dA,cZ]
   exactλi hi=>by rw[aX (show(Am (sg x (i:Int)) (s.1.getD i ([],0,false))).2=0 from d i (by omega))];rfl
theorem Bz{x:PlT}{s:FsT}:Df x s=0<->WF x/\VS x s:=by
 unfold Df;rw[<-Cz,<-Adq];split
 ·rename_i h;constructor
  ·intro h';omega
  ·rintro⟨a,b⟩;rcases h with h|h
   ·exact aT a h
   ·rw[b]at h;cases h
 ·rename_i h;simp only[not_or,dT,fC]at h;exact⟨λ_=>h,λ_=>rfl⟩
theorem D2{s:FsT}{y:PipeT}{c:Cred}:Uq s y c=false<->(A8 c=0/\c.1=y.2.2.2.2/\c.2.2.2.2.2=(Ay s y.1).2.2/\(c.2.2.2.2.2=false->c.2.1=c.2.2.2.1+c.1)):=by
 unfold Uq Ay;simp only[bJ,bU,bO,Bool.and_eq_false_iff,bM,Bool.not_eq_eq_eq_not,gF,gL];constructor
 ·rintro⟨a,b,c,d⟩;refine⟨a,b,c,λh=>?_⟩;rcases d with d|d
  ·rw[h]at d;cases d
  ·exact d
 ·rintro⟨a,b,c,d⟩;refine⟨a,b,c, ?_⟩;rename_i c';cases h:c'.2.2.2.2.2
  ·exact .inr (d h)
  ·exact .inl rfl
theorem Abd:∀(l:List Int){c:Cred},A8 c=0->c.2.2.2.2.2=false->(l.length:Int)<=c.2.1-c.2.2.1->(∀a∈l,A0 a=false)->
 Kj c l=(c.1,c.2.1,c.2.2.1+l.length,c.2.2.2.1,c.2.2.2.2.1++l,false)/\A8 (Kj c l)=0
 |[],(a,b,d,e,f,g),h,hc,_,_=>by
  have hc:g=false:=hc;subst hc;refine⟨?_,h⟩;show(a,b,d,e,f,false)=(a,b,d+((0:Nat):Int),e,f++[],false);rw[cC];simp
 |v::l,c,h,hc,hl,hb=>by
  rw[List.length_cons]at hl;have h1:=Ah1 (x:=v) h (hb v dK) hc (by omega);have h2:=Alo (c:=c) (x:=v) (by rw[h1]);have h3:=Abd l (c:=(E9 c v).1) h2.2.1 (by rw[h1];exact hc) (by rw[h1];show(l.length:Int)<=c.2.1-(c.2.2.1+1);omega) (λa ha=>hb a (dQ v ha));have e:Kj c (v::l)=Kj (E9 c v).1 l:=rfl;rw[e];refine⟨?_,h3.2⟩;rw[h3.1,h1];show(c.1,c.2.1,c.2.2.1+1+(l.length:Int),c.2.2.2.1,(c.2.2.2.2.1++[v])++l,false)=(c.1,c.2.1,c.2.2.1+((l.length+1:Nat):Int),c.2.2.2.1,c.2.2.2.2.1++v::l,false);rw[dR,show c.2.2.1+1+(l.length:Int)=c.2.2.1+((l.length+1:Nat):Int) by omega];rfl
theorem Aol{b:Bool}{c:Cred}(h:A8 c=0)(hc:c.2.2.2.2.2=false):Aa9 b c=(c.1,c.2.1,c.2.2.1,c.2.2.2.1,c.2.2.2.2.1,b)/\A8 (Aa9 b c)=0:=by
 unfold Aa9;cases b
 ·rw[aL (by simp)];refine⟨?_,h⟩;obtain⟨a,b,d,e,f,g⟩:=c;have hc:g=false:=hc;rw[hc]
 ·rw[aP rfl];have h1:=Ado h hc;exact⟨by rw[h1],(Ah0 (by rw[h1])).2.1⟩
theorem Cc{α:Type}{l:List α}{i j:Nat}{a d:α}:(l.set i a).getD j d=if i=j/\j<l.length then a else l.getD j d:=by
 rw[aZ,aZ,List.getElem?_set];by_cases h:i=j
 ·subst h;by_cases h2:i<l.length
  ·rw[aP rfl,aP h2,aP ⟨rfl,h2⟩];rfl
  ·rw[aP rfl,aL h2,aL (by omega),dW (by omega)]
 ·rw[aL h,aL (by omega)]
structure Mv(x:PlT)(s:FsT)(i:Int)(m:MvT):Prop where
 en:(Ay s i).2.2=false
 nd:(Am (sg x i) m.1).2=0
 len:(m.2.1.length:Int)=stOut (sg x i)
 good:∀l∈m.2.1,∀a∈l,A0 a=false
 fl:m.2.2.1=m.1.2.2
 tk:m.2.2.2.1=true->0<=m.2.2.2.2.1/\m.2.2.2.2.1<stIn (sg x i)/\∃l,(Co s (pIn x i m.2.2.2.2.1)).2.2.2.2.1=m.2.2.2.2.2.1::l
 no:∀n∈Bu (sg x i) m.1,n∈Bu (sg x i) (Ay s i)\/Cr (Co s (pIn x i n))=true
theorem Lm{x:PlT}{s:FsT}{i:Int}(h:(A3 x s i).2=true):(Ay s i).2.2=false/\
 (((sg x i).1=1/\(s.2.2.2=true\/(Ay s i).2.1=(sg x i).2.2.2.length)/\A3 x s i=(Me (sg x i) (Ay s i) (-1),true))\/
  ((sg x i).1=1/\¬(s.2.2.2=true\/(Ay s i).2.1=(sg x i).2.2.2.length)/\A3 x s i=(Gz (sg x i) (Ay s i) false (-1) 0,true))\/
  ((sg x i).1≠1/\∃k,k=(Am (sg x i) (Ay s i)).1.getD 0 0/\((∃v l,(Co s (pIn x i k)).2.2.2.2.1=v::l/\A3 x s i=(Gz (sg x i) (Ay s i) true k v,true))\/
     (Cr (Co s (pIn x i k))=true/\A3 x s i=(Me (sg x i) (Ay s i) k,true))))):=by
 unfold A3 at h ⊢;split at h
 ·cases h
 ·rename_i h1;refine⟨by simpa using h1, ?_⟩;rw[aL h1];split at h
  ·rename_i h2;rw[aP h2];split at h
   ·rename_i h3;rw[aP h3];exact .inl ⟨h2,h3,rfl⟩
   ·rename_i h3;rw[aL h3];exact .inr (.inl ⟨h2,h3,rfl⟩)
  ·rename_i h2;rw[aL h2];refine .inr (.inr ⟨h2,_,rfl, ?_⟩);split at h
   ·rename_i h3;rw[aP h3];left;cases hl:(Co s (pIn x i ((Am (sg x i) (Ay s i)).1.getD 0 0))).2.2.2.2.1 with
    |nil=>rw[hl]at h3;simp at h3
    |cons v l=>exact⟨v,l,rfl,rfl⟩
   ·rename_i h3;rw[aL h3];split at h
    ·rename_i h4;rw[aP h4];exact .inr ⟨h4,rfl⟩
    ·cases h
theorem Pn{x:PlT}{s:FsT}{i:Int}(v:VS x s)(h0:0<=i)(hn:i<x.1.length)(h:(A3 x s i).2=true)(he:(A3 x s i).1.2.2.2.2.2.2=0):Mv x s i (A3 x s i).1:=by
 have hnd:(Am (sg x i) (Ay s i)).2=0:=by have:=v.nd i.toNat (by omega);rwa [show((i.toNat:Nat):Int)=i by omega]at this
 obtain⟨h1,⟨h2,h3,h4⟩|⟨h2,h3,h4⟩|⟨h2,k,hk,⟨a,l,h5,h4⟩|⟨h5,h4⟩⟩⟩:=Lm h<;>rw[h4]at he ⊢
 ·obtain⟨a1,a2,a3,a4,a5,a6⟩:=Alt he;refine⟨h1,a1,a2,a3,a4,λh=>(by cases h),λn hn=>?_⟩;rcases a6 n hn with h|h
  ·exact .inl h
  ·exfalso;have hn:n∈Bu (sg x i) (Cg (sg x i) (Ay s i) (-1)).1:=hn;unfold Bu at hn;rw[aL (by omega),aL (by omega),aL (by omega)]at hn;simp at hn
 ·obtain⟨a1,a2,a3,a4,a5,a6⟩:=Afv he;exact⟨h1,a1,a2,a3,by show false=_;rw[show(Gz (sg x i) (Ay s i) false (-1) 0).1.2.2=_ from a4,h1],λh=>(by cases h),λn hn=>.inl (a6 n hn)⟩
 ·obtain⟨a1,a2,a3,a4,a5,a6⟩:=Afv he;obtain⟨k',k1,k2,k3⟩:=Pl hnd h2 h1;rw[k1]at hk;have hk:k=k':=hk;refine⟨h1,a1,a2,a3,by show false=_;rw[show(Gz (sg x i) (Ay s i) true k a).1.2.2=_ from a4,h1],λh=>⟨?_, ?_,l,h5⟩,λn hn=>.inl (a6 n hn)⟩
  ·show 0<=k;omega
  ·show k<_;omega
 ·obtain⟨a1,a2,a3,a4,a5,a6⟩:=Alt he;refine⟨h1,a1,a2,a3,a4,λh=>(by cases h),λn hn=>?_⟩;rcases a6 n hn with h|h
  ·exact .inl h
  ·rw[h];exact .inr h5
theorem Uu{c:Cred}{v:Int}{l:List Int}(h:A8 c=0)(hl:c.2.2.2.2.1=v::l)(he:(G7 c).2=0):A8 (G7 c).1=0/\
 (G7 c).1=(c.1,(if c.2.2.2.2.2=true then c.2.1 else c.2.1+1),c.2.2.1,c.2.2.2.1+1,l,c.2.2.2.2.2):=by
 have h1:=Wq h hl;have h2:=Aa7 (c:=c) (by rw[h1]);unfold G7 at he ⊢;rw[h1]at he h2 ⊢;by_cases hc:c.2.2.2.2.2=true
 ·rw[aL (by simp[hc]),aP hc];exact⟨h2.2.1,rfl⟩
 ·rw[aP (by simp[hc])]at he ⊢;have h3:=Afq he;rw[aL hc];exact⟨h3.2.1,h3.2.2.2.2.2.2⟩
theorem Qq{x:PlT}(w:WF x){i:Int}(h0:0<=i)(hn:i<x.1.length)(o:List (List Int))(b:Bool)(cr:List Cred)(hl:cr.length=x.2.length):∀(N:Nat),(N:Int)<=stOut (sg x i)->
 ((ints N).foldl (Gh x i o b) cr).length=cr.length/\∀k<x.2.length,((ints N).foldl (Gh x i o b) cr).getD k zCred =
   if(x.2.getD k Ag).1=i/\(x.2.getD k Ag).2.1<N then Aa9 b (Kj (cr.getD k zCred) (o.getD (x.2.getD k Ag).2.1.toNat []))else cr.getD k zCred
 |0,_=>by
  refine⟨rfl,λk hk=>?_⟩;have p:=w.pipe hk;have:=p.o0;rw[aL (by omega)];rfl
 |N+1,hN=>by
  obtain⟨i1,i2⟩:=Qq w h0 hn o b cr hl N (by omega);have e:ints (N+1)=ints N++[(N:Int)]:=by simp[ints,dL]
  rw[e,dO];generalize (ints N).foldl (Gh x i o b) cr=F at *;show(Gh x i o b F N).length=_/\∀k<x.2.length,(Gh x i o b F N).getD k zCred=_;unfold Gh;rw[cE];refine⟨i1,λk hk=>?_⟩;rw[Cc];obtain⟨j,j1,j2,j3,j4⟩:=w.outs h0 hn (show(0:Int)<=(N:Int) by omega) (by omega);have hj:(pOut x i (N:Int)).toNat=j:=by rw[j2];omega
  rw[hj];by_cases hjk:j=k
  ·subst hjk;rw[aP ⟨rfl,by omega⟩,aP ⟨j3,by omega⟩,i2 j hk,aL (by omega),j4]
  ·rw[aL (λh=>hjk h.1),i2 k hk];have:¬((x.2.getD k Ag).1=i/\(x.2.getD k Ag).2.1=N):=λh=>hjk (by
    have:=(w.pipe hk).out;rw[h.1,h.2,j2]at this;omega)
   by_cases h1:(x.2.getD k Ag).1=i/\(x.2.getD k Ag).2.1<N
   ·rw[aP h1,aP (by omega)]
   ·rw[aL h1,aL (by omega)]
theorem Abe{x:PlT}{s:FsT}{i:Int}{o:List (List Int)}:Ea x s i o=true<->∀n<o.length,((o.getD n []).length:Int)<=Jl (Co s (pOut x i n)):=by
 unfold Ea;simp only[bM,dA,cZ,bO,fK]
theorem M7{c:Cred}:Cr c=true<->(A8 c=0/\c.2.2.2.2.2=true/\c.2.2.2.2.1=[]):=by
 unfold Cr;simp[and_assoc]
def crS(x:PlT)(i:Int)(m:MvT)(k:Nat)(c:Cred):Cred:=
 if(x.2.getD k Ag).1=i then(c.1,c.2.1,c.2.2.1+((m.2.1.getD (x.2.getD k Ag).2.1.toNat []).length:Int),c.2.2.2.1,c.2.2.2.2.1++m.2.1.getD (x.2.getD k Ag).2.1.toNat [],m.2.2.1)
 else if m.2.2.2.1=true/\(pIn x i m.2.2.2.2.1).toNat=k then(G7 c).1 else c
structure StepR(x:PlT)(s:FsT)(i:Int)(m:MvT)(t:FsT):Prop where
 w:WF x
 v:VS x s
 i0:0<=i
 iN:i<x.1.length
 is:A3 x s i=(m,true)
 e0:m.2.2.2.2.2.2=0
 mv:Mv x s i m
 sl:Ur x i m=true->(s.2.2.1.getD (Fy x i) []).length≠200
 tk:m.2.2.2.1=true->(G7 (Co s (pIn x i m.2.2.2.2.1))).2=0
 ft:Ea x s i m.2.1=true
 st:t.1=s.1.set i.toNat m.1
 lc:t.2.1.length=x.2.length
 cr:∀k<x.2.length,t.2.1.getD k zCred=crS x i m k (s.2.1.getD k zCred)
 ck:∀k<x.2.length,A8 (t.2.1.getD k zCred)=0
 ou:t.2.2.1=Rm x i m s.2.2.1
 dr:t.2.2.2=s.2.2.2
theorem Po{x:PlT}{s:FsT}{i:Int}(h:(Cs x s i).2=0):StepR x s i (A3 x s i).1 (Cs x s i).1:=by
 unfold Cs at h ⊢;split at h
 ·rename_i h1;exact aT h h1
 rename_i h1;obtain⟨w,v⟩:=Bz.1 (dT.1 h1);split at h
 ·omega
 rename_i h2;simp only[dT]at h2;split at h
 ·simp at h
 rename_i h3;split at h
 ·rename_i h4;exact aT h h4
 rename_i h4;split at h
 ·simp at h
 rename_i h5;split at h
 ·rename_i h6;exact aT h h6
 rename_i h6;rw[aL h1,aL (by omega),aL h3,aL h4,aL h5,aL h6];clear h1 h;have e1:(Be x s i).1=(A3 x s i).1:=rfl;rw[e1]at h4 h5 h6 ⊢;have h4:(A3 x s i).1.2.2.2.2.2.2=0:=dT.1 h4;have h3':((A3 x s i).2&&(!decide ((A3 x s i).1.2.2.2.2.2.2=0)||Ea x s i (A3 x s i).1.2.1))=true:=(fC _).mp h3;rw[h4]at h3';simp only[decide_true,gL,fW,aS]at h3';obtain⟨g1,g2⟩:=h3';have mv:=Pn v h2.1 h2.2 g1 h4;have is:A3 x s i=((A3 x s i).1,true):=by rw[<-g1]
 generalize hm:(A3 x s i).1=m at *;clear h3 e1;have h6:(Cp x s.2.1 i m).2=0:=dT.1 h6;have T:(Cp x s.2.1 i m).1.length=x.2.length/\∀k<x.2.length,(Cp x s.2.1 i m).1.getD k zCred=if m.2.2.2.1=true/\(pIn x i m.2.2.2.2.1).toNat=k then(G7 (s.2.1.getD k zCred)).1 else s.2.1.getD k zCred:=by
  unfold Cp;by_cases ht:m.2.2.2.1=true
  ·rw[aL (by rw[ht];simp)];refine⟨by rw[cE];exact v.lc,λk hk=>?_⟩;rw[Cc];by_cases hkk:(pIn x i m.2.2.2.2.1).toNat=k
   ·subst hkk;rw[aP ⟨rfl,by rw[v.lc];exact hk⟩,aP ⟨ht,rfl⟩]
   ·rw[aL (λh=>hkk h.1),aL (λh=>hkk h.2)]
  ·rw[aP (by simpa using ht)];exact⟨v.lc,λk hk=>by rw[aL (λh=>ht h.1)]⟩
 obtain⟨T1,T2⟩:=T;have hN:0<=stOut (sg x i):=Yj _;obtain⟨S1,S2⟩:=Qq w h2.1 h2.2 m.2.1 m.2.2.1 (Cp x s.2.1 i m).1 T1 (stOut (sg x i)).toNat (by omega);have htk:m.2.2.2.1=true->(G7 (Co s (pIn x i m.2.2.2.2.1))).2=0:=λht=>by
  have h:=h6;unfold Cp at h;rw[aL (by rw[ht];simp)]at h;exact h
 have C:∀k<x.2.length,(Kk x i m.2.1 m.2.2.1 (Cp x s.2.1 i m).1).getD k zCred=crS x i m k (s.2.1.getD k zCred)/\A8 ((Kk x i m.2.1 m.2.2.1 (Cp x s.2.1 i m).1).getD k zCred)=0:=λk hk=>by
  unfold Kk;rw[S2 k hk,T2 k hk];have p:=w.pipe hk;obtain⟨c1,c2,c3,c4⟩:=D2.1 (v.cr k hk);unfold crS;by_cases hi:(x.2.getD k Ag).1=i
  ·have on:=p.on;rw[hi]at on;rw[aP ⟨hi,by omega⟩,aP hi];rw[aL]
   ·have hcl:(s.2.1.getD k zCred).2.2.2.2.2=false:=by rw[c3,hi];exact mv.en
    have hlen:((m.2.1.getD (x.2.getD k Ag).2.1.toNat []).length:Int)<=Jl (s.2.1.getD k zCred):=by
     have:=Abe.1 g2 (x.2.getD k Ag).2.1.toNat (by have:=mv.len;have:=p.o0;omega);have he:Co s (pOut x i (((x.2.getD k Ag).2.1.toNat:Nat):Int))=s.2.1.getD k zCred:=by
      have:=p.o0;have o1:=p.out;rw[hi]at o1;rw[show((((x.2.getD k Ag).2.1.toNat:Nat):Int))=(x.2.getD k Ag).2.1 by omega,o1];rfl
     rwa [he]at this
    unfold Jl at hlen;rw[aL (by rw[c1,hcl];simp)]at hlen;have hg:∀a∈m.2.1.getD (x.2.getD k Ag).2.1.toNat [],A0 a=false:=by
     have hh:(x.2.getD k Ag).2.1.toNat<m.2.1.length:=by have:=mv.len;have:=p.o0;omega
     rw[A1 hh];exact mv.good _ (cJ hh)
    obtain⟨q1,q2⟩:=Abd _ c1 hcl hlen hg;obtain⟨r1,r2⟩:=Aol (b:=m.2.2.1) q2 (by rw[q1]);refine⟨?_,r2⟩;rw[r1,q1]
   ·rintro⟨ht,he⟩;obtain⟨t1,t2,l,t3⟩:=mv.tk ht;obtain⟨j,j1,j2,j3,j4⟩:=w.ins h2.1 h2.2 t1 t2;have hjk:j=k:=by rw[j2]at he;omega
    subst hjk;exact w.ne hk (hi.trans j3.symm)
  ·rw[aL (λh=>hi h.1),aL hi];refine⟨rfl, ?_⟩;split
   ·rename_i h;obtain⟨t1,t2,l,t3⟩:=mv.tk h.1;have t4:=htk h.1;unfold Co at t3 t4;rw[h.2]at t3 t4;exact(Uu c1 t3 t4).1
   ·exact c1
 refine⟨w,v,h2.1,h2.2,is,h4,mv,λhs h=>h5 ⟨hs,h⟩,htk,g2,rfl, ?_,λk hk=>(C k hk).1,λk hk=>(C k hk).2,rfl,rfl⟩;show(Kk x i m.2.1 m.2.2.1 (Cp x s.2.1 i m).1).length=_;unfold Kk;rw[S1,T1]
theorem Ip{α:Type}(p:α->Bool):∀(l:List α)(i:Nat)(d:α),i<l.length->p (l.getD i d)=true->(l.take i).countP p<l.countP p
 |[],_,_,h,_=>by simp at h
 |a::l,0,d,_,hp=>by
  have hp:p a=true:=hp;rw[dY,aP hp];simp
 |a::l,i+1,d,h,hp=>by
  have:=Ip p l i d (by simpa using h) (by simpa using hp);rw[fJ,dY,dY];omega
theorem StepR.vs{x:PlT}{s t:FsT}{i:Int}{m:MvT}(r:StepR x s i m t):VS x t:=by
 have hl:i.toNat<s.1.length:=by have:=r.v.ls;have:=r.i0;have:=r.iN;omega
 have hii:((i.toNat:Nat):Int)=i:=by have:=r.i0;omega
 have hss:∀j:Int,0<=j->Ay t j=if j=i then m.1 else Ay s j:=λj hj=>by
  unfold Ay;rw[r.st,Cc];by_cases h:j=i
  ·subst h;rw[aP ⟨rfl,hl⟩,aP rfl]
  ·rw[aL (by have:=r.i0;omega),aL h]
 have hend:∀k<x.2.length,Cr (s.2.1.getD k zCred)=true->Cr (t.2.1.getD k zCred)=true:=λk hk he=>by
  obtain⟨e1,e2,e3⟩:=M7.1 he;have c:=(D2.1 (r.v.cr k hk)).2.2.1;rw[r.cr k hk];unfold crS;rw[aL,aL]
  ·exact he
  ·rintro⟨ht,hk'⟩;obtain⟨t1,t2,l,t3⟩:=r.mv.tk ht;unfold Co at t3;rw[hk',e3]at t3;cases t3
  ·intro hi;rw[hi,r.mv.en,e2]at c;cases c
 refine⟨by rw[r.st,cE];exact r.v.ls,r.lc, ?_,λj hj=>?_,λl hl2=>?_,λk hk=>D2.2 ?_,λj hj n hn=>?_⟩
 ·rw[r.ou];unfold Rm;split
  ·rw[cE];exact r.v.lo
  ·exact r.v.lo
 ·rw[hss j (by omega)];by_cases h:(j:Int)=i
  ·rw[aP h,h];exact r.mv.nd
  ·rw[aL h];exact r.v.nd j hj
 ·rw[r.ou]at hl2;unfold Rm at hl2;split at hl2
  ·rename_i hs;rcases List.mem_or_eq_of_mem_set hl2 with h|h
   ·exact r.v.os l h
   ·subst h;have hsl:=r.sl hs;have hk10:(sg x i).1=10/\m.2.2.2.1=true:=by simpa[Ur]using hs
    have hs0:Fy x i<s.2.2.1.length:=by
     have hlo:=r.v.lo;have:(x.1.take i.toNat).countP isSink<x.1.countP isSink:=Ip isSink x.1 i.toNat zStg (by have:=r.i0;have:=r.iN;omega) (aX hk10.1);unfold Bm at hlo;unfold Fy Bm;omega
    have h1:=r.v.os _ (cJ hs0);rw[A1 hs0]at hsl ⊢;unfold I7 at h1 ⊢;simp only[bJ,bF]at h1 ⊢;refine⟨by rw[bD,eG];omega, ?_⟩;rw[eR,h1.2,fW];obtain⟨t1,t2,l',t3⟩:=r.mv.tk hk10.2;obtain⟨k,k1,k2,k3,k4⟩:=r.w.ins r.i0 r.iN t1 t2;have hc:=(D2.1 (r.v.cr k k1)).1;have hb:=(Fl hc).2.2.2.2.2.2.2.2;unfold Co at t3;rw[k2]at t3;simp only[bH]at t3;rw[t3]at hb;simp only[eV,bJ]at hb;simp[hb.1]
  ·exact r.v.os l hl2
 ·obtain⟨c1,c2,c3,c4⟩:=D2.1 (r.v.cr k hk);have p:=r.w.pipe hk;refine⟨r.ck k hk, ?_⟩;rw[r.cr k hk,hss _ p.f0];unfold crS;by_cases hi:(x.2.getD k Ag).1=i
  ·rw[aP hi,aP hi];refine⟨c2,r.mv.fl,λ_=>c4 ?_⟩;rw[c3,hi];exact r.mv.en
  ·rw[aL hi,aL hi];split
   ·rename_i h;obtain⟨t1,t2,l,t3⟩:=r.mv.tk h.1;have t4:=r.tk h.1;unfold Co at t3 t4;rw[h.2]at t3 t4;rw[(Uu c1 t3 t4).2];refine⟨c2,c3,λhc=>?_⟩;have:=c4 hc;rw[aL (by rw[hc];simp)];show(s.2.1.getD k zCred).2.1+1=(s.2.1.getD k zCred).2.2.2.1+1+(s.2.1.getD k zCred).1;omega
   ·exact⟨c2,c3,c4⟩
 ·rw[hss j (by omega)]at hn;have hin:∀n,Cr (Co s (pIn x j n))=true->Cr (Co t (pIn x j n))=true:=λn he=>by
   unfold Co at he ⊢;refine hend _ ?_ he;by_cases h:(pIn x j n).toNat<x.2.length
   ·exact h
   ·exfalso;rw[aZ,dW (by have:=r.v.lc;omega)]at he;simp[Cr,zCred,A8,inR]at he
  by_cases h:(j:Int)=i
  ·rw[aP h]at hn;rw[h]at hn;rcases r.mv.no n hn with h1|h1
   ·refine hin n ?_;have:=r.v.no i.toNat (by have:=r.v.ls;omega) n (by rw[hii];exact h1);rw[hii]at this
    rwa [h]
   ·exact hin n (by rwa [h])
  ·rw[aL h]at hn;exact hin n (r.v.no j hj n hn)
def G8(x:PlT)(s:FsT):Prop:=(Ak x s).2≠0\/(Ak x s).1=[]
def Ek(x:PlT)(l:List Int)(k:Nat)(s:FsT):Int:=(Ak x s).1.getD (Pk l k (Ak x s).1.length).toNat 0
theorem Km{x:PlT}{l:List Int}{m k:Nat}{s:FsT}{o:List Int}(h:G8 x s):Dg x l m k s o=(s,o,0):=by
 cases m with
 |zero=>rfl
 |succ m=>unfold Dg;rw[aP (show(Ak x s).2≠0\/(Ak x s).1=[]from h)]
theorem Uv{x:PlT}{l:List Int}{m k:Nat}{s:FsT}{o:List Int}(h:¬G8 x s)(he:(Cs x s (Ek x l k s)).2≠0):Dg x l (m+1) k s o=(zFs,[],(Cs x s (Ek x l k s)).2):=by
 unfold Dg;rw[aL (show ¬((Ak x s).2≠0\/(Ak x s).1=[])from h)];show(if(Cs x s (Ek x l k s)).2≠0 then _ else _)=_;rw[aP he];rfl
theorem Pp{x:PlT}{l:List Int}{m k:Nat}{s:FsT}{o:List Int}(h:¬G8 x s)(he:(Cs x s (Ek x l k s)).2=0):Dg x l (m+1) k s o=Dg x l m (k+1) (Cs x s (Ek x l k s)).1 (o++[Ek x l k s]):=by
 rw[Dg,aL (show ¬((Ak x s).2≠0\/(Ak x s).1=[])from h)];show(if(Cs x s (Ek x l k s)).2≠0 then _ else _)=_;rw[aL (by simpa using he)];rfl
theorem Alu{y:StT}{t:SST}(h:(Am y t).2=0)(hk:y.1≠1)(he:t.2.2=true){n:Int}(h0:0<=n)(hn:n<stIn y):n∈Bu y t:=by
 obtain⟨c0,hv⟩:=B0.1 h;obtain⟨⟨a1,a2,a3⟩,a4,a5⟩:=As.1 hv;rw[Nt c0]at hn;have hkk:=G6 (B1 c0);unfold Bu;by_cases h8:y.1=8
 ·rw[aP h8];unfold vk at a5;rw[aL (by omega),aP h8]at a5;split at a5
  ·cases a5
  ·rename_i hb;have hb:(List.range t.1.length).any (C6 t.1)=false:=by simpa using hb
   rw[he]at a5;have hl:(t.1.length:Int)=2:=by
    cases hd:decide ((t.1.length:Int)=2)
    ·rw[hd]at a5;cases a5
    ·exact aM hd
   have hn2:n<2:=by rw[h8]at hn;exact hn
   rcases Adl (by omega) hb with h|h|h|h<;>rw[h]at hl ⊢
   ·simp at hl
   ·simp at hl
   ·simp at hl
   ·have:n=0\/n=1:=by omega
    rcases this with rfl|rfl<;>simp
 ·rw[aL h8];by_cases h9:y.1=9
  ·rw[aP h9];unfold vk at a5;rw[aL (by omega),aL h8,aP h9]at a5;have hc:t.2.1=3:=by
    cases hd:decide (t.2.1=3)
    ·rw[hd,he]at a5;cases a5
    ·exact aM hd
   have hn2:n<2:=by rw[h9]at hn;exact hn
   rw[hc];have:n=0\/n=1:=by omega
   rcases this with rfl|rfl<;>decide
  ·rw[aL h9,aP ⟨hk,he⟩];have:(Ap y.1).1<=1:=by
    rcases hkk with h|h|h|h|h|h|h|h|h|h<;>first|contradiction|(rw[h];decide)
   have:n=0:=by omega
   rw[this];exact bT.2 rfl
theorem Alv{z:Int}{d:List Int}{a:Int}:(Bp z (d,[],0) a).2.1.length<=1:=by
 unfold Bp;split
 ·unfold Fx Jb;dsimp only;split
  ·exact bA 1
  ·exact aV 1
 ·exact aV 1
theorem Alw{d:List Int}:(Cf (d,[],0)).2.1.length<=1:=by
 unfold Cf;split
 ·unfold Fx Jb;dsimp only;split
  ·exact bA 1
  ·exact aV 1
 ·exact aV 1
theorem Alx{y:StT}{t:SST}{k v:Int}(h0:Al y=0)(h5:y.1≠5):∀l∈(Dr y t k v).2.1,l.length<=1:=by
 have o1:∀{o:List Int},o.length<=1->∀l∈[o],l.length<=1:=λh l hl=>by rw[bT.1 hl];exact h
 have i1:∀{b:Bool}{a c:List Int},a.length<=1->c.length<=1->(if b=true then a else c).length<=1:=λ{b} {a c} h1 h2=>by cases b;exact h2;exact h1
 have q1:∀{a:Int},[a].length<=1:=bA 1;have q0:([]:List Int).length<=1:=aV 1;have hk:=G6 (B1 h0);obtain⟨q,z,e,l⟩:=y;obtain⟨hd,c,en⟩:=t;replace hk:q=1\/q=2\/q=3\/q=4\/q=5\/q=6\/q=7\/q=8\/q=9\/q=10:=hk;rcases hk with rfl|rfl|rfl|rfl|rfl|rfl|rfl|rfl|rfl|rfl
 ·exact o1 q1
 ·exact o1 q1
 ·exact o1 (i1 q1 q0)
 ·exact o1 Alv
 ·exact aT rfl h5
 ·show ∀l'∈(if decide (c<z)=true then((hd,c+1,en),[[v]],(0:Int))else((hd,c,en),[[]],0):SST×List (List Int)×Int).2.1,_;cases decide (c<z)
  ·exact o1 q0
  ·exact o1 q1
 ·intro o ho;rcases cT.1 ho with rfl|ho
  ·exact i1 q1 q0
  ·rw[bT.1 ho];exact i1 q0 q1
 ·exact o1 q1
 ·have h9:Dr (9,z,e,l) (hd,c,en) k v=(if decide (k=0)=true then(if decide (C8 .i64 c 2=0)=true then(([v],c,en),[[]],0)else((hd,c,en),[[]],0))
   else if decide ((hd.length:Int)=1)=true then(([],c,en),[[(evX e D8 (hd.getD 0 0) v).1]],(evX e D8 (hd.getD 0 0) v).2)else((hd,c,en),[[]],0)):=rfl
  rw[h9];cases decide (k=0)
  ·cases decide ((hd.length:Int)=1)
   ·exact o1 q0
   ·exact o1 q1
  ·cases decide (C8 .i64 c 2=0)
   ·exact o1 q0
   ·exact o1 q0
 ·exactλo ho=>by simp[Dr]at ho
theorem Aly{y:StT}{t:SST}{k:Int}:∀l∈(Ei y t k).2.1,l.length<=1:=by
 have o1:∀{o:List Int},o.length<=1->∀l∈[o],l.length<=1:=λh l hl=>by rw[bT.1 hl];exact h
 unfold Ei;split
 ·exact o1 Alw
 ·split
  ·intro l hl;rcases cT.1 hl with rfl|hl
   ·simp
   ·rw[bT.1 hl];simp
  ·split
   ·exact o1 (by simp)
   ·split
    ·exact o1 (by simp)
    ·split
     ·intro l hl;simp at hl
     ·exact o1 (by simp)
theorem Pq{y:StT}{t:SST}{c:Int}(hc:1<=c)(h5:y.1=5->y.2.1<=c):(∀k v,(Bq y t k v).2.2=0->∀l∈(Bq y t k v).2.1,(l.length:Int)<=c)/\(∀k,(Cg y t k).2.2.2=0->∀l∈(Cg y t k).2.1,(l.length:Int)<=c):=by
 constructor
 ·intro k v h l hl;obtain⟨h0,hv,h1,h2,h3,he⟩:=Yf h;rw[he]at hl;by_cases hk:y.1=5
  ·have hl:l∈(Dr y t k v).2.1:=hl;unfold Dr at hl;rw[aL (by omega),aL (by omega),aL (by omega),aL (by omega),aP hk]at hl;rw[bT.1 hl,bZ];have:=h5 hk;have:=(Ax h0).1;omega
  ·have:=Alx (t:=t) (k:=k) (v:=v) h0 hk l hl;omega
 ·intro k h l hl;obtain⟨h0,hv,h1,h2,h3,he⟩:=Adk h;rw[he]at hl;have:=Aly (y:=y) (t:=t) (k:=k) l hl;omega
theorem Alz{x:PlT}{s:FsT}{i c:Int}(hc:1<=c)(h5:(sg x i).1=5->(sg x i).2.1<=c)(h:(A3 x s i).2=true)(he:(A3 x s i).1.2.2.2.2.2.2=0):∀l∈(A3 x s i).1.2.1,(l.length:Int)<=c:=by
 obtain⟨h1,⟨h2,h3,h4⟩|⟨h2,h3,h4⟩|⟨h2,k,hk,⟨a,l,h6,h4⟩|⟨h6,h4⟩⟩⟩:=Lm h<;>rw[h4]at he ⊢
 ·exact(Pq hc h5).2 _ he
 ·exact(Pq hc h5).1 _ _ he
 ·exact(Pq hc h5).1 _ _ he
 ·exact(Pq hc h5).2 _ he
theorem Nu{α:Type}(p:α->Bool)(d:α):∀(l:List α)(j:Nat),((List.range' j l.length).filter (λk=>p (l.getD (k-j) d))).length=l.countP p
 |[],_=>rfl
 |a::l,j=>by
  rw[List.length_cons,List.range'_succ,dN,dY];have e:(List.range' (j+1) l.length).filter (λk=>p ((a::l).getD (k-j) d))=(List.range' (j+1) l.length).filter (λk=>p (l.getD (k-(j+1)) d)):=by
   refine iA λk hk=>?_
   have:=(List.mem_range'_1.1 hk).1;rw[show k-j=(k-(j+1))+1 by omega];rfl
  have ih:=Nu p d l (j+1);rw[fO];show(if p a=true then _ else _:List Nat).length=_;split
  ·rename_i h;rw[List.length_cons,e,ih]
  ·rename_i h;rw[e,ih];rfl
theorem Arl{x:PlT}{s:FsT}(w:WF x)(v:VS x s){i:Int}(h0:0<=i)(hn:i<x.1.length)(he:(Ay s i).2.2=false)(hno:(Be x s i).2=false):
 ∃k,k<x.2.length/\(((x.2.getD k Ag).2.2.1=i/\(Ay s (x.2.getD k Ag).1).2.2=false/\(s.2.1.getD k zCred).2.2.2.2.1=[])\/
  ((x.2.getD k Ag).1=i/\(Ay s (x.2.getD k Ag).2.2.1).2.2=false/\(s.2.1.getD k zCred).2.2.2.2.1≠[])):=by
 have hnd:(Am (sg x i) (Ay s i)).2=0:=by have:=v.nd i.toNat (by omega);rwa [show((i.toNat:Nat):Int)=i by omega]at this
 cases hx:(A3 x s i).2 with
 |false=>
  unfold A3 at hx;rw[aL (by rw[he];simp)]at hx;split at hx
  ·split at hx<;>cases hx
  ·rename_i h1;obtain⟨q,q1,q2,q3⟩:=Pl hnd h1 he;rw[q1]at hx;have hx:(if 0<(Co s (pIn x i q)).2.2.2.2.1.length then(Gz (sg x i) (Ay s i) true q ((Co s (pIn x i q)).2.2.2.2.1.getD 0 0),true)
    else if Cr (Co s (pIn x i q))=true then(Me (sg x i) (Ay s i) q,true)else(zMv,false)).2=false:=hx
   split at hx
   ·cases hx
   ·rename_i h2;split at hx
    ·cases hx
    ·rename_i h3;obtain⟨k,k1,k2,k3,k4⟩:=w.ins h0 hn q2 q3;have e:Co s (pIn x i q)=s.2.1.getD k zCred:=by unfold Co;rw[k2];rfl
     rw[e]at h2 h3;obtain⟨c1,c2,c3,c4⟩:=D2.1 (v.cr k k1);have hnil:(s.2.1.getD k zCred).2.2.2.2.1=[]:=cV (by omega);refine⟨k,k1,.inl ⟨k3, ?_,hnil⟩⟩;rw[<-c3];cases hc:(s.2.1.getD k zCred).2.2.2.2.2
     ·rfl
     ·exact aT (M7.2 ⟨c1,hc,hnil⟩) h3
 |true=>
  have hno:((A3 x s i).2&&(!decide ((A3 x s i).1.2.2.2.2.2.2=0)||Ea x s i (A3 x s i).1.2.1))=false:=hno;rw[hx,fV,bJ]at hno;obtain⟨n1,n2⟩:=hno;have e0:(A3 x s i).1.2.2.2.2.2.2=0:=by simpa using n1
  have mv:=Pn v h0 hn hx e0;have:¬ ∀n<(A3 x s i).1.2.1.length,(((A3 x s i).1.2.1.getD n []).length:Int)<=Jl (Co s (pOut x i n)):=λh=>by
   rw[Abe.2 h]at n2;cases n2
  simp only[Classical.not_forall]at this;obtain⟨n,n3,n4⟩:=this;obtain⟨k,k1,k2,k3,k4⟩:=w.outs h0 hn (show(0:Int)<=(n:Int) by omega) (by have:=mv.len;omega);have e:Co s (pOut x i n)=s.2.1.getD k zCred:=by unfold Co;rw[k2];rfl
  rw[e]at n4;obtain⟨c1,c2,c3,c4⟩:=D2.1 (v.cr k k1);have p:=w.pipe k1;have hcl:(s.2.1.getD k zCred).2.2.2.2.2=false:=by rw[c3,k3];exact he
  refine⟨k,k1,.inr ⟨k3, ?_,λhnil=>n4 ?_⟩⟩
  ·cases hj:(Ay s (x.2.getD k Ag).2.2.1).2.2
   ·rfl
   ·exfalso;have hjn:=v.nd (x.2.getD k Ag).2.2.1.toNat (by have:=p.t0;have:=p.tn;omega);have hjo:=v.no (x.2.getD k Ag).2.2.1.toNat (by have:=p.t0;have:=p.tn;omega);rw[show((((x.2.getD k Ag).2.2.1.toNat:Nat)):Int)=(x.2.getD k Ag).2.2.1 by have:=p.t0;omega]at hjn hjo;by_cases h1:(sg x (x.2.getD k Ag).2.2.1).1=1
    ·have hin:=p.iN;rw[Nt (B0.1 hjn).1,h1]at hin;have hin:(x.2.getD k Ag).2.2.2.1<0:=hin;have:=p.i0;omega
    ·have:=hjo _ (Alu hjn h1 hj p.i0 p.iN);have e2:Co s (pIn x (x.2.getD k Ag).2.2.1 (x.2.getD k Ag).2.2.2.1)=s.2.1.getD k zCred:=by unfold Co;rw[p.inp];rfl
     rw[e2]at this;rw[(M7.1 this).2.1]at hcl;cases hcl
  ·have hb:=Fl c1;have h4:=c4 hcl;rw[hnil]at hb;simp only[List.length_nil]at hb;unfold Jl;rw[aL (by rw[c1,hcl];simp)];have hs:((A3 x s i).1.2.1.getD n [])∈(A3 x s i).1.2.1:=by rw[A1 n3];exact cJ n3
   have:=Alz (c:=(x.2.getD k Ag).2.2.2.2) p.c1 (by have:=p.rep;rwa [k3]at this) hx e0 _ hs;omega
theorem Al0{x:PlT}{s:FsT}(w:WF x)(v:VS x s){i0:Int}(h0:0<=i0)(hn:i0<x.1.length)(he:(Ay s i0).2.2=false):∃i:Int,0<=i/\i<x.1.length/\(Be x s i).2=true:=by
 apply Classical.byContradiction;intro hno;have hno:∀i:Int,0<=i->i<x.1.length->(Be x s i).2=false:=λi a b=>by
  cases h:(Be x s i).2
  ·rfl
  ·exact aT ⟨i,a,b,h⟩ hno
 let B:=(ints x.1.length).filter (λi=>!(Ay s i).2.2);have mB:∀{i},i∈B<->(0<=i/\i<x.1.length/\(Ay s i).2.2=false):=λ{i}=>by
  show i∈(ints x.1.length).filter (λi=>!(Ay s i).2.2)<->_;rw[cW,Dm];simp[and_assoc]
 have hB:B≠[]:=λh=>by
  have:=mB.2 ⟨h0,hn,he⟩;rw[h]at this;simp at this
 have hf:=Us (B:=B) (l:=x.2) (n:=x.1.length) hB (λi hi=>by have:=mB.1 hi;omega) w.tree;have hb:∀i:Int,∃k:Nat,i∈B->(k<x.2.length/\(((x.2.getD k Ag).2.2.1=i/\(Ay s (x.2.getD k Ag).1).2.2=false/\(s.2.1.getD k zCred).2.2.2.2.1=[])\/
  ((x.2.getD k Ag).1=i/\(Ay s (x.2.getD k Ag).2.2.1).2.2=false/\(s.2.1.getD k zCred).2.2.2.2.1≠[]))):=λi=>by
  by_cases h:i∈B
  ·obtain⟨a,b,c⟩:=mB.1 h;obtain⟨k,k1⟩:=Arl w v a b c (hno i a b);exact⟨k,λ_=>k1⟩
  ·exact⟨0,λh'=>aT h' h⟩
 let f:Int->Nat:=λi=>Classical.choose (hb i)
 have hf2:∀i∈B,(f i<x.2.length/\(((x.2.getD (f i) Ag).2.2.1=i/\(Ay s (x.2.getD (f i) Ag).1).2.2=false/\(s.2.1.getD (f i) zCred).2.2.2.2.1=[])\/
  ((x.2.getD (f i) Ag).1=i/\(Ay s (x.2.getD (f i) Ag).2.2.1).2.2=false/\(s.2.1.getD (f i) zCred).2.2.2.2.1≠[]))):=λi hi=>Classical.choose_spec (hb i) hi
 have nB:B.Nodup:=List.Nodup.sublist List.filter_sublist (by
  unfold ints;exact List.Pairwise.map _ (λa b h=>by omega) List.nodup_range)
 have nM:(B.map f).Nodup:=by
  rw[List.nodup_iff_pairwise_ne]at nB ⊢;refine List.pairwise_map.2 (nB.imp_of_mem λ{a b} ha hb' hab he=>?_);obtain⟨a1,a2⟩:=hf2 a ha;obtain⟨b1,b2⟩:=hf2 b hb';rw[he]at a2;rcases a2 with⟨a3,a4,a5⟩|⟨a3,a4,a5⟩<;>rcases b2 with⟨b3,b4,b5⟩|⟨b3,b4,b5⟩
  ·exact hab (a3.symm.trans b3)
  ·exact b5 a5
  ·exact a5 b5
  ·exact hab (a3.symm.trans b3)
 have hs:∀k∈B.map f,k∈(List.range' 0 x.2.length).filter (λk=>Gd B (x.2.getD (k-0) Ag)):=λk hk=>by
  obtain⟨i,hi,rfl⟩:=cU.1 hk;obtain⟨f1,f2⟩:=hf2 i hi;have p:=w.pipe f1;refine cW.2 ⟨List.mem_range'_1.2 ⟨by omega,by omega⟩, ?_⟩;have hi':=mB.1 hi;show(decide ((x.2.getD (f i) Ag).1∈B)&&decide ((x.2.getD (f i) Ag).2.2.1∈B))=true;rcases f2 with⟨a3,a4,a5⟩|⟨a3,a4,a5⟩
  ·rw[aX (mB.2 ⟨p.f0,p.fn,a4⟩),aX (show(x.2.getD (f i) Ag).2.2.1∈B by rw[a3];exact hi)];rfl
  ·rw[aX (mB.2 ⟨p.t0,p.tn,a4⟩),aX (show(x.2.getD (f i) Ag).1∈B by rw[a3];exact hi)];rfl
 have h1:=G1 _ _ nM hs;rw[Nu (Gd B) Ag x.2 0,bN]at h1;omega
end Go.Proofs.YtpabcdbaffjcdaaGreat
