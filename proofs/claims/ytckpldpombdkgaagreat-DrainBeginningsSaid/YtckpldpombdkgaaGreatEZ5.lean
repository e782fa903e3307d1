/- Pipelines. -/
import Derived.Test.YtckpldpombdkgaaGreatEZ4
set_option linter.unusedSimpArgs false
set_option linter.unusedVariables false
set_option maxRecDepth 100000
namespace Go.Proofs.YtckpldpombdkgaaGreat
open Go.Sx
def Bg:List (List Int)->Int
 |[]=>0
 |l::r=>if A6 l=true then 4 else if l.any Ak=true then 2 else Bg r
theorem Ba{xs:List (List Int)}{i:Nat}(h:i<xs.length):Bg (xs.drop i)=if A6 (xs.getD i (Ab tIs))=true then 4 else if(xs.getD i (Ab tIs)).any Ak=true then 2 else Bg (xs.drop (i+1)):=by
 rw[cE h];simp[Bg,List.getD,h]
theorem Bn:∀{xs:List (List Int)}{i:Nat},Bg xs=0->i<xs.length->(xs.getD i (Ab tIs)).length<=200/\(xs.getD i (Ab tIs)).any Ak=false
 |[],i,_,h=>aS h (eF _)
 |l::r,i,h,hi=>by
  simp only[Bg]at h;split at h
  ·exact aS h (by decide)
  ·split at h
   ·exact aS h (by decide)
   ·rename_i h1 h2;cases i with
    |zero=>
     have h3:¬200<(l.length:Int):=by simpa[A6]using h1
     exact⟨by show l.length<=200;omega,by simpa using h2⟩
    |succ i=>
     have:=Bn (i:=i) h (by simpa using hi);simpa using this
theorem Hk{α β:Type}(f:β->α->β)(s:β){a:List α}{i:Nat}(d:α)(h:i<a.length):(a.take (i+1)).foldl f s=f ((a.take i).foldl f s) (a.getD i d):=by
 rw[Kl (d:=d) h,dK];rfl
def Aq4:List (TypeId×Ty):=(3000031,tI)::Dp
def c60:Ctr:=fnO [dIs] tI (λy=>y.1.length<=1000) (λy=>y.1)
theorem Adb:GoodC Tryz.prog 119 c60:=by
 refine Go.Sx.goodO Ah 4 _ _ _ _ ⟨_,Tryz.func119,rfl,rfl⟩ λ(⟨xs,_⟩:List Int×Unit) hn=>?_
 have hn':xs.length<=1000:=hn;clear hn;have room:xs.length*8<=lim:=by simp only[lim];omega
 refine(aF (λh0=>(λh1=>(aI (λh2=>(Kf (by simp_all))) (λh2=>(aI (by first|exact room|(intros;(try subst_vars);(try simp only[nB]at *);(try simp only[inK,big,lim,nL]at *);omega)) (Nc rfl (by simp_all))))))))
def cxM:Ctx:=⟨Aq4,[(85,([],c17)),(127,([],c40k)),(98,([],c41)),(142,([],c37)),(177,([],c83)),(238,([],c108)),(129,([],c43)),(119,([],c60))]⟩
theorem Cp:Aj Tryz.prog cxM:=C0 (Ad Uq (Ad Po (Ad Yb (Ad Aqr (Ad Ac8 (Ad Afi (Ad Ya (Ad Adb Ah))))))))
@[reducible] def Wx:List (Bool×Ty):=[(false,X7),(false,tI)]
def evX(e:ExprT)(ns:List ByteArray)(a b:Int):Int×Int:=I6 e (B9 ns [a,b])
def Lj(f g:Int):Int:=if decide (f=0)=true then g else f
theorem Jx{f g:Int}(h:decide (f=0)=true):Lj f g=g:=by rw[Lj,aN h]
theorem Us{f g:Int}(h:decide (f=0)=false):Lj f g=f:=by rw[Lj,aL (by rw[h];simp)]
def Jg(f:Int)(o:List Int)(v:Int):List Int:=if decide (f=0)=true then o++[v]else o
theorem Qv{f v:Int}{o:List Int}(h:decide (f=0)=true):Jg f o v=o++[v]:=by rw[Jg,aN h]
theorem Lk{f v:Int}{o:List Int}(h:decide (f=0)=false):Jg f o v=o:=by rw[Jg,aL (by rw[h];simp)]
theorem Akv(f:Int)(o:List Int)(v:Int):(Jg f o v).length<=o.length+1:=by
 unfold Jg;split<;>simp
def I7(e:ExprT)(s:List Int×Int)(a:Int):List Int×Int:=
 (Jg (Lj s.2 (evX e nmX a 0).2) s.1 (evX e nmX a 0).1,Lj s.2 (evX e nmX a 0).2)
def H6(e:ExprT)(s:List Int×Int)(a:Int):List Int×Int:=
 (if decide ((evX e nmX a 0).1=1)=true then Jg (Lj s.2 (evX e nmX a 0).2) s.1 a else s.1,Lj s.2 (evX e nmX a 0).2)
def Gv(e:ExprT)(s:List Int×List Int×Int)(a:Int):List Int×List Int×Int:=
 (if decide ((evX e nmX a 0).1=1)=true then Jg (Lj s.2.2 (evX e nmX a 0).2) s.1 a else s.1,
  if decide ((evX e nmX a 0).1=1)=true then s.2.1 else Jg (Lj s.2.2 (evX e nmX a 0).2) s.2.1 a,Lj s.2.2 (evX e nmX a 0).2)
def Ut(z:Int)(o:List Int)(a:Int):List Int:=o++List.replicate z.toNat a
def Nq(z:Int)(s:List Int×Int)(a:Int):List Int×Int:=if decide (s.2<z)=true then(s.1++[a],s.2+1)else s
def En(s:Int×Int)(a:Int):Int×Int:=(s.1+a,if(bif !Ki (s.1+a)then decide (s.2=0)else false)=true then 14 else s.2)
def Fs(s:List Int×List Int×Int):List Int×List Int×Int:=([],Jg (s.1.foldl En (0,s.2.2)).2 s.2.1 (s.1.foldl En (0,s.2.2)).1,(s.1.foldl En (0,s.2.2)).2)
def Br(z:Int)(s:List Int×List Int×Int)(a:Int):List Int×List Int×Int:=
 if decide (((s.1++[a]).length:Int)=z)=true then Fs (s.1++[a],s.2)else(s.1++[a],s.2)
def Cf(s:List Int×List Int×Int):List Int×List Int×Int:=if decide (0<(s.1.length:Int))=true then Fs s else s
def Eb:Nat->List Int->List Int->List Int
 |0,_,b=>b
 |_+1,[],b=>b
 |n+1,x::a,b=>x::Eb n b a
def I8(e:ExprT)(a b:List Int)(s:List Int×Int)(i:Nat):List Int×Int:=
 (Jg (Lj s.2 (evX e D5 (a.getD i 0) (b.getD i 0)).2) s.1 (evX e D5 (a.getD i 0) (b.getD i 0)).1,Lj s.2 (evX e D5 (a.getD i 0) (b.getD i 0)).2)
def Ck(x:StT)(ins:List (List Int)):List (List Int)×Int:=
 if x.1=1 then([x.2.2.2],0)
 else if x.1=2 then([((ins.getD 0 []).foldl (I7 x.2.2.1) ([],0)).1],((ins.getD 0 []).foldl (I7 x.2.2.1) ([],0)).2)
 else if x.1=3 then([((ins.getD 0 []).foldl (H6 x.2.2.1) ([],0)).1],((ins.getD 0 []).foldl (H6 x.2.2.1) ([],0)).2)
 else if x.1=4 then([(Cf ((ins.getD 0 []).foldl (Br x.2.1) ([],[],0))).2.1],(Cf ((ins.getD 0 []).foldl (Br x.2.1) ([],[],0))).2.2)
 else if x.1=5 then([(ins.getD 0 []).foldl (Ut x.2.1) []],0)
 else if x.1=6 then([((ins.getD 0 []).foldl (Nq x.2.1) ([],0)).1],0)
 else if x.1=7 then([((ins.getD 0 []).foldl (Gv x.2.2.1) ([],[],0)).1,((ins.getD 0 []).foldl (Gv x.2.2.1) ([],[],0)).2.1],((ins.getD 0 []).foldl (Gv x.2.2.1) ([],[],0)).2.2)
 else if x.1=8 then([Eb ((ins.getD 0 []).length+(ins.getD 1 []).length) (ins.getD 0 []) (ins.getD 1 [])],0)
 else if x.1=9 then([((List.range (min (ins.getD 0 []).length (ins.getD 1 []).length)).foldl (I8 x.2.2.1 (ins.getD 0 []) (ins.getD 1 [])) ([],0)).1],((List.range (min (ins.getD 0 []).length (ins.getD 1 []).length)).foldl (I8 x.2.2.1 (ins.getD 0 []) (ins.getD 1 [])) ([],0)).2)
 else([],0)
def Av(x:StT)(ins:List (List Int)):List (List Int)×Int:=
 if(!decide (Ap x=0))=true then([],Ap x)else
 if(!decide ((ins.length:Int)=(Aq x.1).1))=true then([],10)else
 if(!decide (Bg ins=0))=true then([],Bg ins)else
 if(!decide ((Ck x ins).2=0))=true then([],(Ck x ins).2)else
 if((Ck x ins).1.any A6)=true then([],4)else
 ((Ck x ins).1,0)
theorem MN0{x:StT}{ins:List (List Int)}(h0:(!decide (Ap x=0))=true):(Av x ins)=([],Ap x):=by rw[Av,aN h0]
theorem Dz{x:StT}{ins:List (List Int)}(h0:(!decide (Ap x=0))=true):((Av x ins).1,(Av x ins).2,())=((([],Ap x):List (List Int)×Int).1,(([],Ap x):List (List Int)×Int).2,()):=by rw[MN0 h0]
theorem MN1{x:StT}{ins:List (List Int)}(h0:(!decide (Ap x=0))=false)(h1:(!decide ((ins.length:Int)=(Aq x.1).1))=true):(Av x ins)=([],10):=by rw[Av,aL (by rw[h0];simp),aN h1]
theorem D8{x:StT}{ins:List (List Int)}(h0:(!decide (Ap x=0))=false)(h1:(!decide ((ins.length:Int)=(Aq x.1).1))=true):((Av x ins).1,(Av x ins).2,())=((([],10):List (List Int)×Int).1,(([],10):List (List Int)×Int).2,()):=by rw[MN1 h0 h1]
theorem MN2{x:StT}{ins:List (List Int)}(h0:(!decide (Ap x=0))=false)(h1:(!decide ((ins.length:Int)=(Aq x.1).1))=false)(h2:(!decide (Bg ins=0))=true):(Av x ins)=([],Bg ins):=by rw[Av,aL (by rw[h0];simp),aL (by rw[h1];simp),aN h2]
theorem L0{x:StT}{ins:List (List Int)}(h0:(!decide (Ap x=0))=false)(h1:(!decide ((ins.length:Int)=(Aq x.1).1))=false)(h2:(!decide (Bg ins=0))=true):((Av x ins).1,(Av x ins).2,())=((([],Bg ins):List (List Int)×Int).1,(([],Bg ins):List (List Int)×Int).2,()):=by rw[MN2 h0 h1 h2]
theorem MN3{x:StT}{ins:List (List Int)}(h0:(!decide (Ap x=0))=false)(h1:(!decide ((ins.length:Int)=(Aq x.1).1))=false)(h2:(!decide (Bg ins=0))=false)(h3:(!decide ((Ck x ins).2=0))=true):(Av x ins)=([],(Ck x ins).2):=by rw[Av,aL (by rw[h0];simp),aL (by rw[h1];simp),aL (by rw[h2];simp),aN h3]
theorem Ahv{x:StT}{ins:List (List Int)}(h0:(!decide (Ap x=0))=false)(h1:(!decide ((ins.length:Int)=(Aq x.1).1))=false)(h2:(!decide (Bg ins=0))=false)(h3:(!decide ((Ck x ins).2=0))=true):((Av x ins).1,(Av x ins).2,())=((([],(Ck x ins).2):List (List Int)×Int).1,(([],(Ck x ins).2):List (List Int)×Int).2,()):=by rw[MN3 h0 h1 h2 h3]
theorem MN4{x:StT}{ins:List (List Int)}(h0:(!decide (Ap x=0))=false)(h1:(!decide ((ins.length:Int)=(Aq x.1).1))=false)(h2:(!decide (Bg ins=0))=false)(h3:(!decide ((Ck x ins).2=0))=false)(h4:((Ck x ins).1.any A6)=true):(Av x ins)=([],4):=by rw[Av,aL (by rw[h0];simp),aL (by rw[h1];simp),aL (by rw[h2];simp),aL (by rw[h3];simp),aN h4]
theorem Vl{x:StT}{ins:List (List Int)}(h0:(!decide (Ap x=0))=false)(h1:(!decide ((ins.length:Int)=(Aq x.1).1))=false)(h2:(!decide (Bg ins=0))=false)(h3:(!decide ((Ck x ins).2=0))=false)(h4:((Ck x ins).1.any A6)=true):((Av x ins).1,(Av x ins).2,())=((([],4):List (List Int)×Int).1,(([],4):List (List Int)×Int).2,()):=by rw[MN4 h0 h1 h2 h3 h4]
theorem MN5{x:StT}{ins:List (List Int)}(h0:(!decide (Ap x=0))=false)(h1:(!decide ((ins.length:Int)=(Aq x.1).1))=false)(h2:(!decide (Bg ins=0))=false)(h3:(!decide ((Ck x ins).2=0))=false)(h4:((Ck x ins).1.any A6)=false):(Av x ins)=((Ck x ins).1,0):=by rw[Av,aL (by rw[h0];simp),aL (by rw[h1];simp),aL (by rw[h2];simp),aL (by rw[h3];simp),aL (by rw[h4];simp)]
theorem Uu{x:StT}{ins:List (List Int)}(h0:(!decide (Ap x=0))=false)(h1:(!decide ((ins.length:Int)=(Aq x.1).1))=false)(h2:(!decide (Bg ins=0))=false)(h3:(!decide ((Ck x ins).2=0))=false)(h4:((Ck x ins).1.any A6)=false):((Av x ins).1,(Av x ins).2,())=((((Ck x ins).1,0):List (List Int)×Int).1,(((Ck x ins).1,0):List (List Int)×Int).2,()):=by rw[MN5 h0 h1 h2 h3 h4]
theorem Ip{x:StT}(h:Ap x=0):x.2.2.2.length<=200/\x.2.2.2.any Ak=false:=by
 have hk:=B4 h;rw[Pp hk.1 hk.2]at h;unfold Ge at h;split at h
 ·exact aS h (by decide)
 ·split at h
  ·exact aS h (by decide)
  ·split at h
   ·exact aS h (by decide)
   ·split at h
    ·exact aS h (by decide)
    ·rename_i h3 h4;unfold ck3 at h3;have h5:¬200<(x.2.2.2.length:Int):=by simpa using h3
     exact⟨by omega,by simpa using h4⟩
def Adc(sem:CallSem):CallSem:=λg args H n K=>sem g args H n λx H' n'=>match x with
 |.int k v=>∀w:Int,w=v->K (.int k w) H' n'
 |x=>K x H' n'
theorem Wy{P:Program}{sem:CallSem}(hs:Bc P sem):Bc P (Adc sem):=by
 have key:∀(K:AV->List Ob->Nat->Prop)(x:AV)(H':List Ob)(n':Nat),(match x with
  |.int k v=>∀w:Int,w=v->K (.int k w) H' n'
  |x=>K x H' n')->K x H' n':=by
  intro K x H' n' h;split at h
  ·exact h _ rfl
  ·exact h
 refine⟨λg args H n K h E vs hE hsz hrd=>?_,λid args H n K h E vs hE hsz hrd=>?_⟩
 ·obtain⟨h1,h2⟩:=hs.1 g args H n _ h E vs hE hsz hrd;refine⟨h1,h2.mono ?_⟩;rintro e w' ⟨v,E',x,H',n',k1,k2,k3,k4,k5,k6,k7⟩;exact⟨v,E',x,H',n',k1,k2,k3,k4,k5,k6,key K x H' n' k7⟩
 ·obtain⟨h1,h2⟩:=hs.2 id args H n _ h E vs hE hsz hrd;refine⟨h1,λhd hρ=>?_⟩;obtain⟨fn,tmps,x,y,h3,h4⟩:=h2 hd hρ;refine⟨fn,tmps,x,y,h3,h4.mono ?_⟩;rintro e w' ⟨v,E',z,H',n',k1,k2,k3,k4,k5,k6,k7⟩;exact⟨v,E',z,H',n',k1,k2,k3,k4,k5,k6,key K z H' n' k7⟩
theorem Hw:Bc Tryz.prog (Bb cxM Tryz.prog (Bb cxM Tryz.prog (Bb cxM Tryz.prog (Bb cxM Tryz.prog (Bb cxM Tryz.prog noS))))):=Ag Cp (Ag Cp (Ag Cp (Ag Cp (Ag Cp Bl))))
theorem Ahw:Bc Tryz.prog (Bb cxM Tryz.prog (Bb cxM Tryz.prog (Bb cxM Tryz.prog (Kh 187 (Adc (Bb cxM Tryz.prog noS)) (Bb cxM Tryz.prog noS))))):=
 Ag Cp (Ag Cp (Ag Cp (Db (Wy (Ag Cp Bl)) (Ag Cp Bl))))
def Jy(k:Int):Prop:=∀(z:Int)(e:ExprT)(l:List Int)(ins:List (List Int)),Ap (k,z,e,l)=0->(ins.length:Int)=(Aq k).1->
 ∃call:CallSem,Bc Tryz.prog call/\call 93 (G4 [dSt,X8] ((k,z,e,l),ins,())) [] 0 (Hz ⟨none,none,[],Fp Wx ((Av (k,z,e,l) ins).1,(Av (k,z,e,l) ins).2,())⟩)
set_option maxHeartbeats 8000000 in
theorem Akw:Jy 1:=by
 intro z e l ins hc hlk;have hl:ins.length=0:=by have h:(ins.length:Int)=0:=hlk;omega
 have hs:=Ay hc;have hit:=(Ip hc).1;replace hit:l.length<=200:=hit;have hroom:l.length<=1000:=by omega
 obtain⟨ek,eo,em,ev,ea⟩:=e;refine⟨_,Hw, ?_⟩;refine(aF (aI tT (aI (λh0=>(Aa rfl (by first|exact Dz ‹_› |exact D8 ‹_› ‹_›))) (λh0=>(aA (λh1=>(aI (λh2=>(Aa rfl (by first|exact Dz ‹_› |exact D8 ‹_› ‹_›))) (λh2=>(λh3=>?_)))))))));refine ex4 _ (λi:Nat=>⟨[.any,.sl (.sl (.int .i64)) ins,.ptr 0 0,.any,.any,.any,.any,.ptr 1 0,.any,.any,.any,.any,.any,.any,.any,.any,.any,.any,.any,.any,.any,.any,.any,.any,.any,.any,.any,.any,.sl (.sl (.int .i64)) ins,.int .i64 (↑ins.length:Int),.int .i64 (i:Int)]++nA 34,[.cells   [.int .i64 1,.int .i64 z,.int .i64 (ExprT.mk ek eo em ev ea).kind,     .int .i64 (ExprT.mk ek eo em ev ea).op,.str (ExprT.mk ek eo em ev ea).name,     .int .i64 (ExprT.mk ek eo em ev ea).value,.sl .expr (ExprT.mk ek eo em ev ea).args,     .sl (.int .i64) l],.cells   [.int .i64 0,.int .i64 1,.int .i64 0,.int .i64 0,.int .i64 0,     .sl .str [],.fn (Fn.func 204) [] [],.fn (Fn.func 203) [] []]],2⟩) (λi=>i<=ins.length/\Bg ins=Bg (ins.drop i)) (λi=>ins.length-i) (aI (eI (0) (eI ([some 0,some 1]) (aI ?_ (aB (aI (aH tT) (by rfl)))))) ?_)
 ·exact⟨aV _,rfl⟩
 rintro i ⟨hi,ht⟩;have hin:decide ((i:Int)<(ins.length:Int))=false->(!decide (Bg ins=0))=false:=λh=>by
  have hi':¬i<ins.length:=by simpa using h
  rw[ht,bI (by omega)];rfl
 have ix:0<0->0<=(0:Int)/\(0:Int)<(ins.length:Int):=λh=>by rw[hl];omega
 have iy:1<0->0<=(1:Int)/\(1:Int)<(ins.length:Int):=λh=>by rw[hl];omega
 have hst:Bg ins=0->∀j,j<ins.length->(ins.getD j (Ab tIs)).length<=200/\(ins.getD j (Ab tIs)).any Ak=false:=λh j hj=>Bn h hj
 refine(aI (λ(k0:decide ((↑i:Int)<(↑ins.length:Int))=true)=>aS (aM k0) (by omega)) (λk0=>(aF (aA (aF (aI (by first|exact⟨by decide,rfl,by decide,by decide⟩|exact ix (by decide)|exact iy (by decide)|exact hroom|(intros;(try subst_vars);(try simp only[nB]at *);(try simp only[inK,big,lim,nL]at *);omega)) (aF (aI (λk1=>(aF (aI (by first|exact⟨by decide,rfl,by decide,by decide⟩|exact ix (by decide)|exact iy (by decide)|exact hroom|(intros;(try subst_vars);(try simp only[nB]at *);(try simp only[inK,big,lim,nL]at *);omega)) (aI (by first|exact⟨by decide,rfl,by decide,by decide⟩|exact ix (by decide)|exact iy (by decide)|exact hroom|(intros;(try subst_vars);(try simp only[nB]at *);(try simp only[inK,big,lim,nL]at *);omega)) (aI (λk2=>nG k2) (λk2=>(aI tT (aI (λk3=>(Aa rfl ?_)) (λk3=>(Aa rfl ?_)))))))))) (λk1=>False.elim (aX (Eq.symm (Eq.trans (by kernel_rfl) k1))))))))))))
 ·have run:Ck (1,z,ExprT.mk ek eo em ev ea,l) ins=([l],0):=rfl;have hs0:=hin k0;exact Vl ‹_› ‹_› hs0 (by rw[run];rfl) (by rw[run];exact k3)
 ·have run:Ck (1,z,ExprT.mk ek eo em ev ea,l) ins=([l],0):=rfl;have hs0:=hin k0;exact(Uu ‹_› ‹_› hs0 (by rw[run];rfl) (by rw[run];exact k3)).trans (by rw[run])
set_option maxHeartbeats 8000000 in
theorem Akx:Jy 2:=by
 intro z e l ins hc hlk;have hl:ins.length=1:=by have h:(ins.length:Int)=1:=hlk;omega
 have hs:=Ay hc;obtain⟨ek,eo,em,ev,ea⟩:=e;refine⟨_,Hw, ?_⟩;refine(aF (aI tT (aI (λh0=>(Aa rfl (by first|exact Dz ‹_› |exact D8 ‹_› ‹_›))) (λh0=>(aA (λh1=>(aI (λh2=>(Aa rfl (by first|exact Dz ‹_› |exact D8 ‹_› ‹_›))) (λh2=>(λh3=>?_)))))))));refine ex4 _ (λi:Nat=>⟨[.any,.sl (.sl (.int .i64)) ins,.ptr 0 0,.any,.any,.any,.any,.ptr 1 0,.any,.any,.any,.any,.any,.any,.any,.any,.any,.any,.any,.any,.any,.any,.any,.any,.any,.any,.any,.any,.sl (.sl (.int .i64)) ins,.int .i64 (↑ins.length:Int),.int .i64 (i:Int)]++nA 34,[.cells   [.int .i64 2,.int .i64 z,.int .i64 (ExprT.mk ek eo em ev ea).kind,     .int .i64 (ExprT.mk ek eo em ev ea).op,.str (ExprT.mk ek eo em ev ea).name,     .int .i64 (ExprT.mk ek eo em ev ea).value,.sl .expr (ExprT.mk ek eo em ev ea).args,     .sl (.int .i64) l],.cells   [.int .i64 1,.int .i64 1,.int .i64 0,.int .i64 0,.int .i64 1,     .sl .str [{ data:=#[120] }],.fn (Fn.func 205) [] [],.fn (Fn.func 203) [] []]],2⟩) (λi=>i<=ins.length/\Bg ins=Bg (ins.drop i)) (λi=>ins.length-i) (aI (eI (0) (eI ([some 0,some 1]) (aI ?_ (aB (aI (aH tT) (by rfl)))))) ?_)
 ·exact⟨aV _,rfl⟩
 rintro i ⟨hi,ht⟩;have hin:decide ((i:Int)<(ins.length:Int))=false->(!decide (Bg ins=0))=false:=λh=>by
  have hi':¬i<ins.length:=by simpa using h
  rw[ht,bI (by omega)];rfl
 have ix:0<1->0<=(0:Int)/\(0:Int)<(ins.length:Int):=λh=>by rw[hl];omega
 have iy:1<1->0<=(1:Int)/\(1:Int)<(ins.length:Int):=λh=>by rw[hl];omega
 have hst:Bg ins=0->∀j,j<ins.length->(ins.getD j (Ab tIs)).length<=200/\(ins.getD j (Ab tIs)).any Ak=false:=λh j hj=>Bn h hj
 refine(aI (λk0=>(aI (by first|exact⟨by decide,rfl,by decide,by decide⟩|exact ix (by decide)|exact iy (by decide)|(intros;(try subst_vars);(try simp only[nB]at *);(try simp only[inK,big,lim,nL]at *);omega)) (λk1=>(aI (λk2=>(Aa rfl ?_)) (λk2=>(aI tT (aI (λk3=>(Aa rfl ?_)) (λk3=>(aI (by first|exact⟨by decide,rfl,by decide,by decide⟩|exact ix (by decide)|exact iy (by decide)|(intros;(try subst_vars);(try simp only[nB]at *);(try simp only[inK,big,lim,nL]at *);omega)) ?_))))))))) (λk0=>(aF (aA (aF (aI (by first|exact⟨by decide,rfl,by decide,by decide⟩|exact ix (by decide)|exact iy (by decide)|(intros;(try subst_vars);(try simp only[nB]at *);(try simp only[inK,big,lim,nL]at *);omega)) (aF (aI (λk4=>nG k4) (λk4=>(aI (λk5=>nG k5) (λk5=>(aI (λk6=>nG k6) (λk6=>(aI (by first|exact⟨by decide,rfl,by decide,by decide⟩|exact ix (by decide)|exact iy (by decide)|(intros;(try subst_vars);(try simp only[nB]at *);(try simp only[inK,big,lim,nL]at *);omega)) (λk7=>?_)))))))))))))))
 ·have hi':i<ins.length:=by simpa using k0
  have hk:A6 (ins.getD i (Ab tIs))=true:=k2;have e4:Bg ins=4:=by rw[ht,Ba hi',aN hk]
  exact(L0 ‹_› ‹_› (by rw[e4];rfl)).trans (by rw[e4])
 ·have hi':i<ins.length:=by simpa using k0
  have hk:¬A6 (ins.getD i (Ab tIs))=true:=by have h:A6 (ins.getD i (Ab tIs))=false:=k2;rw[h];simp
  have hk2:(ins.getD i (Ab tIs)).any Ak=true:=k3;have e4:Bg ins=2:=by rw[ht,Ba hi',aL hk,aN hk2]
  exact(L0 ‹_› ‹_› (by rw[e4];rfl)).trans (by rw[e4])
 ·have hi':i<ins.length:=by simpa using k0
  have hk:¬A6 (ins.getD i (Ab tIs))=true:=by have h:A6 (ins.getD i (Ab tIs))=false:=k2;rw[h];simp
  have hk2:¬(ins.getD i (Ab tIs)).any Ak=true:=by have h:(ins.getD i (Ab tIs)).any Ak=false:=k3;rw[h];simp
  refine eI (i+1) (eI ([some 0,some 1]) (aI ?_ (aI ?_ (aB (aI (aH tT) (by rfl))))))
  ·refine⟨hi', ?_⟩;rw[ht,Ba hi',aL hk,aL hk2]
  ·show ins.length-(i+1)<ins.length-i;omega
 have hs0:=hin k0;have hstr:Bg ins=0:=by simpa using hs0
 obtain⟨hal,han⟩:=Bn hstr (show 0<ins.length by omega);replace hal:(ins.getD 0 []).length<=200:=hal;replace han:(ins.getD 0 []).any Ak=false:=han;clear ht hi hin;refine ex4 _ (λp:Nat×List Int×Int=>⟨[.ptr 6 0,.agg   [.int .i64 1,.int .i64 1,.int .i64 0,.int .i64 0,.int .i64 1,     .sl .str [{ data:=#[120] }],.fn (Fn.func 205) [] [],.fn (Fn.func 203) [] []],.sl (.sl (.int .i64)) ins,.any,.ptr 7 0,.any,.any,.any,.any,.any,.any,.ptr 6 0,.any,.any,.sl (.sl (.int .i64)) ins,.eptr [PV.sl (.int .i64) (ins.getD (Int.toNat 0) (Ab (.sl (.int .i64))))],.sl (.int .i64) (ins.getD (Int.toNat 0) (Ab (.sl (.int .i64)))),.int .i64 (↑(List.length (ins.getD (Int.toNat 0) (Ab (.sl (.int .i64))))):Int),.int .i64 (p.1:Int),.any,.any,.any,.any,.any,.any,.any,.any,.any,.any,.any,.any,.any,.any,.any,.any,.any,.any,.any,.any,.any,.any,.any,.any,.any,.any,.bool (decide (2=8)),.any,.any,.any,.any,.any,.any,.any,.any,.any,.any,.any,.any,.any,.bool (decide (2=9)),.bool (decide (2=9))]++nA 29,[.cells   [.int .i64 2,.int .i64 z,.int .i64 (ExprT.mk ek eo em ev ea).kind,     .int .i64 (ExprT.mk ek eo em ev ea).op,.str (ExprT.mk ek eo em ev ea).name,     .int .i64 (ExprT.mk ek eo em ev ea).value,.sl .expr (ExprT.mk ek eo em ev ea).args,     .sl (.int .i64) l],.cells   [.int .i64 1,.int .i64 1,.int .i64 0,.int .i64 0,.int .i64 1,     .sl .str [{ data:=#[120] }],.fn (Fn.func 205) [] [],.fn (Fn.func 203) [] []],.cells   [.int .i64 2,.int .i64 z,.int .i64 (ExprT.mk ek eo em ev ea).kind,     .int .i64 (ExprT.mk ek eo em ev ea).op,.str (ExprT.mk ek eo em ev ea).name,     .int .i64 (ExprT.mk ek eo em ev ea).value,.sl .expr (ExprT.mk ek eo em ev ea).args,     .sl (.int .i64) l],.cells [.cap0,.int .i64 0,.bool false],.cells   [.int .i64 1,.int .i64 1,.int .i64 0,.int .i64 0,.int .i64 1,     .sl .str [{ data:=#[120] }],.fn (Fn.func 205) [] [],.fn (Fn.func 203) [] []],.cells [.own 8],.cells [.int .i64 2,.int .i64 z,.int .i64 ek,.int .i64 eo,.str em,.int .i64 ev,.sl .expr ea,.sl tI l,.cap0,.int .i64 0,.bool false,.csl tI 5 1,.int .i64 p.2.2,.int .i64 0],.cells   [.int .i64 1,.int .i64 1,.int .i64 0,.int .i64 0,.int .i64 1,     .sl .str [{ data:=#[120] }],.fn (Fn.func 205) [] [],.fn (Fn.func 203) [] []],.rows tI p.2.1],9⟩) (λp=>p.1<=(ins.getD 0 []).length/\p.2=(((ins.getD 0 []).take p.1).foldl (I7 (ExprT.mk ek eo em ev ea)) ([],0))/\p.2.1.length<=p.1) (λp=>(ins.getD 0 []).length-p.1) (aI (eI ((0,([],0))) (eI ([some 0,some 1,some 2,some 3,some 4,some 5,some 6,some 7,none]) (aI ?_ (aB (aI (aJ (aJ (aA tT))) (by rfl)))))) ?_)
 ·exact⟨aV _,rfl,bB _⟩
 rintro⟨j,o,f⟩ ⟨hj,hp,ho⟩;replace hj:j<=(ins.getD 0 []).length:=hj;replace hp:(o,f)=(((ins.getD 0 []).take j).foldl (I7 (ExprT.mk ek eo em ev ea)) ([],0)):=hp;have hnx:j<(ins.getD 0 []).length->((ins.getD 0 []).take (j+1)).foldl (I7 (ExprT.mk ek eo em ev ea)) ([],0)=I7 (ExprT.mk ek eo em ev ea) (o,f) ((ins.getD 0 []).getD j 0):=λh=>by
  rw[Hk _ _ 0 h,<-hp]
 have hen:decide ((j:Int)<((ins.getD 0 []).length:Int))=false->(ins.getD 0 []).foldl (I7 (ExprT.mk ek eo em ev ea)) ([],0)=(o,f):=λh=>by
  have h':¬j<(ins.getD 0 []).length:=by simpa using h
  rw[hp,bL (by omega)]
 replace ho:o.length<=j:=ho;have room:(o.length+1)*8<=lim:=by simp only[lim];omega
 refine(aI (λm0=>(aI (by first|exact room|(intros;(try subst_vars);(try simp only[nB]at *);(try simp only[inK,big,lim,nL]at *);omega)) (aF (aF (aA (aF (aI (by first|exact room|(intros;(try subst_vars);(try simp only[nB]at *);(try simp only[inK,big,lim,nL]at *);omega)) (aI tT (aI (λm1=>(aF (aI (λm2=>(aK (aI (by first|exact room|(intros;(try subst_vars);(try simp only[nB]at *);(try simp only[inK,big,lim,nL]at *);omega)) (aD (aB (aI (by first|exact room|(intros;(try subst_vars);(try simp only[nB]at *);(try simp only[inK,big,lim,nL]at *);omega)) (aD (aC (aA (aI (by first|exact room|(intros;(try subst_vars);(try simp only[nB]at *);(try simp only[inK,big,lim,nL]at *);omega)) (aB (aI (by first|exact room|(intros;(try subst_vars);(try simp only[nB]at *);(try simp only[inK,big,lim,nL]at *);omega)) (aI (by first|exact room|(intros;(try subst_vars);(try simp only[nB]at *);(try simp only[inK,big,lim,nL]at *);omega)) (aI (by first|exact room|(intros;(try subst_vars);(try simp only[nB]at *);(try simp only[inK,big,lim,nL]at *);omega)) (aC (aB (aI (by first|exact room|(intros;(try subst_vars);(try simp only[nB]at *);(try simp only[inK,big,lim,nL]at *);omega)) ?_))))))))))))))))) (λm2=>(aI (by first|exact room|(intros;(try subst_vars);(try simp only[nB]at *);(try simp only[inK,big,lim,nL]at *);omega)) ?_))))) (λm1=>(aF (aI (λm3=>aS (Eq.trans (Eq.symm m1) m3) (by decide)) (λm3=>(aI (by first|exact room|(intros;(try subst_vars);(try simp only[nB]at *);(try simp only[inK,big,lim,nL]at *);omega)) ?_)))))))))))))) (λm0=>(aF (aI (λm4=>(aF (Aa rfl ?_))) (λm4=>(aI tT (aI (λm5=>(Aa rfl ?_)) (λm5=>(Aa rfl ?_)))))))))
 ·have hj':j<(ins.getD 0 []).length:=by simpa using m0
  refine eI ((j+1,o++[(evX (ExprT.mk ek eo em ev ea) nmX ((ins.getD 0 []).getD j 0) 0).1],(evX (ExprT.mk ek eo em ev ea) nmX ((ins.getD 0 []).getD j 0) 0).2)) (eI ([some 0,some 1,some 2,some 3,some 4,some 5,some 6,some 7,some 12]) (aI ?_ (aI ?_ (aB (aI (aJ (aJ (aA tT))) (by rfl))))))
  ·refine⟨hj', ?_,by show(_++[_]).length<=j+1;simp;omega⟩;show _=((ins.getD 0 []).take (j+1)).foldl _ _;rw[hnx hj'];dsimp only[I7];rw[Jx m1,Qv (f:=(evX (ExprT.mk ek eo em ev ea) nmX ((ins.getD 0 []).getD j 0) 0).2) (show decide ((evX (ExprT.mk ek eo em ev ea) nmX ((ins.getD 0 []).getD j 0) 0).2=0)=true from m2)]
  ·show(ins.getD 0 []).length-(j+1)<(ins.getD 0 []).length-j;omega
 ·have hj':j<(ins.getD 0 []).length:=by simpa using m0
  refine eI ((j+1,o,(evX (ExprT.mk ek eo em ev ea) nmX ((ins.getD 0 []).getD j 0) 0).2)) (eI ([some 0,some 1,some 2,some 3,some 4,some 5,some 6,some 7,some 8]) (aI ?_ (aI ?_ (aB (aI (aJ (aJ (aA tT))) (by rfl))))))
  ·refine⟨hj', ?_,by show o.length<=j+1;omega⟩;show _=((ins.getD 0 []).take (j+1)).foldl _ _;rw[hnx hj'];dsimp only[I7];rw[Jx m1,Lk (f:=(evX (ExprT.mk ek eo em ev ea) nmX ((ins.getD 0 []).getD j 0) 0).2) (show decide ((evX (ExprT.mk ek eo em ev ea) nmX ((ins.getD 0 []).getD j 0) 0).2=0)=false from m2)]
  ·show(ins.getD 0 []).length-(j+1)<(ins.getD 0 []).length-j;omega
 ·have hj':j<(ins.getD 0 []).length:=by simpa using m0
  refine eI ((j+1,o,f)) (eI ([some 0,some 1,some 2,some 3,some 4,some 5,some 6,some 7,some 8]) (aI ?_ (aI ?_ (aB (aI (aJ (aJ (aA tT))) (by rfl))))))
  ·refine⟨hj', ?_,by show o.length<=j+1;omega⟩;show _=((ins.getD 0 []).take (j+1)).foldl _ _;rw[hnx hj'];dsimp only[I7];rw[Us m1,Lk m1]
  ·show(ins.getD 0 []).length-(j+1)<(ins.getD 0 []).length-j;omega
 ·skip
  have run:Ck (2,z,ExprT.mk ek eo em ev ea,l) ins=([o],f):=by
   show([((ins.getD 0 []).foldl (I7 (ExprT.mk ek eo em ev ea)) ([],0)).1],((ins.getD 0 []).foldl (I7 (ExprT.mk ek eo em ev ea)) ([],0)).2)=_;rw[hen m0]
  exact(Ahv ‹_› ‹_› hs0 (by rw[run];exact m4)).trans (by rw[run])
 ·skip
  have run:Ck (2,z,ExprT.mk ek eo em ev ea,l) ins=([o],f):=by
   show([((ins.getD 0 []).foldl (I7 (ExprT.mk ek eo em ev ea)) ([],0)).1],((ins.getD 0 []).foldl (I7 (ExprT.mk ek eo em ev ea)) ([],0)).2)=_;rw[hen m0]
  exact Vl ‹_› ‹_› hs0 (by rw[run];exact m4) (by rw[run];exact m5)
 ·skip
  have run:Ck (2,z,ExprT.mk ek eo em ev ea,l) ins=([o],f):=by
   show([((ins.getD 0 []).foldl (I7 (ExprT.mk ek eo em ev ea)) ([],0)).1],((ins.getD 0 []).foldl (I7 (ExprT.mk ek eo em ev ea)) ([],0)).2)=_;rw[hen m0]
  exact(Uu ‹_› ‹_› hs0 (by rw[run];exact m4) (by rw[run];exact m5)).trans (by rw[run])
set_option maxHeartbeats 8000000 in
theorem Aky:Jy 3:=by
 intro z e l ins hc hlk;have hl:ins.length=1:=by have h:(ins.length:Int)=1:=hlk;omega
 have hs:=Ay hc;obtain⟨ek,eo,em,ev,ea⟩:=e;refine⟨_,Hw, ?_⟩;refine(aF (aI tT (aI (λh0=>(Aa rfl (by first|exact Dz ‹_› |exact D8 ‹_› ‹_›))) (λh0=>(aA (λh1=>(aI (λh2=>(Aa rfl (by first|exact Dz ‹_› |exact D8 ‹_› ‹_›))) (λh2=>(λh3=>?_)))))))));refine ex4 _ (λi:Nat=>⟨[.any,.sl (.sl (.int .i64)) ins,.ptr 0 0,.any,.any,.any,.any,.ptr 1 0,.any,.any,.any,.any,.any,.any,.any,.any,.any,.any,.any,.any,.any,.any,.any,.any,.any,.any,.any,.any,.sl (.sl (.int .i64)) ins,.int .i64 (↑ins.length:Int),.int .i64 (i:Int)]++nA 34,[.cells   [.int .i64 3,.int .i64 z,.int .i64 (ExprT.mk ek eo em ev ea).kind,     .int .i64 (ExprT.mk ek eo em ev ea).op,.str (ExprT.mk ek eo em ev ea).name,     .int .i64 (ExprT.mk ek eo em ev ea).value,.sl .expr (ExprT.mk ek eo em ev ea).args,     .sl (.int .i64) l],.cells   [.int .i64 1,.int .i64 1,.int .i64 0,.int .i64 0,.int .i64 2,     .sl .str [{ data:=#[120] }],.fn (Fn.func 206) [] [],.fn (Fn.func 203) [] []]],2⟩) (λi=>i<=ins.length/\Bg ins=Bg (ins.drop i)) (λi=>ins.length-i) (aI (eI (0) (eI ([some 0,some 1]) (aI ?_ (aB (aI (aH tT) (by rfl)))))) ?_)
 ·exact⟨aV _,rfl⟩
 rintro i ⟨hi,ht⟩;have hin:decide ((i:Int)<(ins.length:Int))=false->(!decide (Bg ins=0))=false:=λh=>by
  have hi':¬i<ins.length:=by simpa using h
  rw[ht,bI (by omega)];rfl
 have ix:0<1->0<=(0:Int)/\(0:Int)<(ins.length:Int):=λh=>by rw[hl];omega
 have iy:1<1->0<=(1:Int)/\(1:Int)<(ins.length:Int):=λh=>by rw[hl];omega
 have hst:Bg ins=0->∀j,j<ins.length->(ins.getD j (Ab tIs)).length<=200/\(ins.getD j (Ab tIs)).any Ak=false:=λh j hj=>Bn h hj
 refine(aI (λk0=>(aI (by first|exact⟨by decide,rfl,by decide,by decide⟩|exact ix (by decide)|exact iy (by decide)|(intros;(try subst_vars);(try simp only[nB]at *);(try simp only[inK,big,lim,nL]at *);omega)) (λk1=>(aI (λk2=>(Aa rfl ?_)) (λk2=>(aI tT (aI (λk3=>(Aa rfl ?_)) (λk3=>(aI (by first|exact⟨by decide,rfl,by decide,by decide⟩|exact ix (by decide)|exact iy (by decide)|(intros;(try subst_vars);(try simp only[nB]at *);(try simp only[inK,big,lim,nL]at *);omega)) ?_))))))))) (λk0=>(aF (aA (aF (aI (by first|exact⟨by decide,rfl,by decide,by decide⟩|exact ix (by decide)|exact iy (by decide)|(intros;(try subst_vars);(try simp only[nB]at *);(try simp only[inK,big,lim,nL]at *);omega)) (aF (aI (λk4=>nG k4) (λk4=>(aI (λk5=>nG k5) (λk5=>(aI (λk6=>nG k6) (λk6=>(aI (by first|exact⟨by decide,rfl,by decide,by decide⟩|exact ix (by decide)|exact iy (by decide)|(intros;(try subst_vars);(try simp only[nB]at *);(try simp only[inK,big,lim,nL]at *);omega)) (λk7=>?_)))))))))))))))
 ·have hi':i<ins.length:=by simpa using k0
  have hk:A6 (ins.getD i (Ab tIs))=true:=k2;have e4:Bg ins=4:=by rw[ht,Ba hi',aN hk]
  exact(L0 ‹_› ‹_› (by rw[e4];rfl)).trans (by rw[e4])
 ·have hi':i<ins.length:=by simpa using k0
  have hk:¬A6 (ins.getD i (Ab tIs))=true:=by have h:A6 (ins.getD i (Ab tIs))=false:=k2;rw[h];simp
  have hk2:(ins.getD i (Ab tIs)).any Ak=true:=k3;have e4:Bg ins=2:=by rw[ht,Ba hi',aL hk,aN hk2]
  exact(L0 ‹_› ‹_› (by rw[e4];rfl)).trans (by rw[e4])
 ·have hi':i<ins.length:=by simpa using k0
  have hk:¬A6 (ins.getD i (Ab tIs))=true:=by have h:A6 (ins.getD i (Ab tIs))=false:=k2;rw[h];simp
  have hk2:¬(ins.getD i (Ab tIs)).any Ak=true:=by have h:(ins.getD i (Ab tIs)).any Ak=false:=k3;rw[h];simp
  refine eI (i+1) (eI ([some 0,some 1]) (aI ?_ (aI ?_ (aB (aI (aH tT) (by rfl))))))
  ·refine⟨hi', ?_⟩;rw[ht,Ba hi',aL hk,aL hk2]
  ·show ins.length-(i+1)<ins.length-i;omega
 have hs0:=hin k0;have hstr:Bg ins=0:=by simpa using hs0
 obtain⟨hal,han⟩:=Bn hstr (show 0<ins.length by omega);replace hal:(ins.getD 0 []).length<=200:=hal;replace han:(ins.getD 0 []).any Ak=false:=han;clear ht hi hin;refine ex4 _ (λp:Nat×List Int×Int=>⟨[.ptr 6 0,.agg   [.int .i64 1,.int .i64 1,.int .i64 0,.int .i64 0,.int .i64 2,     .sl .str [{ data:=#[120] }],.fn (Fn.func 206) [] [],.fn (Fn.func 203) [] []],.sl (.sl (.int .i64)) ins,.any,.ptr 7 0,.any,.any,.any,.any,.any,.any,.ptr 6 0,.any,.any,.sl (.sl (.int .i64)) ins,.eptr [PV.sl (.int .i64) (ins.getD (Int.toNat 0) (Ab (.sl (.int .i64))))],.sl (.int .i64) (ins.getD (Int.toNat 0) (Ab (.sl (.int .i64)))),.int .i64 (↑(List.length (ins.getD (Int.toNat 0) (Ab (.sl (.int .i64))))):Int),.int .i64 (p.1:Int),.any,.any,.any,.any,.any,.any,.any,.any,.any,.any,.any,.any,.any,.any,.any,.any,.any,.any,.any,.any,.any,.any,.any,.any,.any,.any,.bool (decide (3=8)),.any,.any,.any,.any,.any,.any,.any,.any,.any,.any,.any,.any,.any,.bool (decide (3=9)),.bool (decide (3=9))]++nA 29,[.cells   [.int .i64 3,.int .i64 z,.int .i64 (ExprT.mk ek eo em ev ea).kind,     .int .i64 (ExprT.mk ek eo em ev ea).op,.str (ExprT.mk ek eo em ev ea).name,     .int .i64 (ExprT.mk ek eo em ev ea).value,.sl .expr (ExprT.mk ek eo em ev ea).args,     .sl (.int .i64) l],.cells   [.int .i64 1,.int .i64 1,.int .i64 0,.int .i64 0,.int .i64 2,     .sl .str [{ data:=#[120] }],.fn (Fn.func 206) [] [],.fn (Fn.func 203) [] []],.cells   [.int .i64 3,.int .i64 z,.int .i64 (ExprT.mk ek eo em ev ea).kind,     .int .i64 (ExprT.mk ek eo em ev ea).op,.str (ExprT.mk ek eo em ev ea).name,     .int .i64 (ExprT.mk ek eo em ev ea).value,.sl .expr (ExprT.mk ek eo em ev ea).args,     .sl (.int .i64) l],.cells [.cap0,.int .i64 0,.bool false],.cells   [.int .i64 1,.int .i64 1,.int .i64 0,.int .i64 0,.int .i64 2,     .sl .str [{ data:=#[120] }],.fn (Fn.func 206) [] [],.fn (Fn.func 203) [] []],.cells [.own 8],.cells [.int .i64 3,.int .i64 z,.int .i64 ek,.int .i64 eo,.str em,.int .i64 ev,.sl .expr ea,.sl tI l,.cap0,.int .i64 0,.bool false,.csl tI 5 1,.int .i64 p.2.2,.int .i64 0],.cells   [.int .i64 1,.int .i64 1,.int .i64 0,.int .i64 0,.int .i64 2,     .sl .str [{ data:=#[120] }],.fn (Fn.func 206) [] [],.fn (Fn.func 203) [] []],.rows tI p.2.1],9⟩) (λp=>p.1<=(ins.getD 0 []).length/\p.2=(((ins.getD 0 []).take p.1).foldl (H6 (ExprT.mk ek eo em ev ea)) ([],0))/\p.2.1.length<=p.1) (λp=>(ins.getD 0 []).length-p.1) (aI (eI ((0,([],0))) (eI ([some 0,some 1,some 2,some 3,some 4,some 5,some 6,some 7,none]) (aI ?_ (aB (aI (aJ (aJ (aA tT))) (by rfl)))))) ?_)
 ·exact⟨aV _,rfl,bB _⟩
 rintro⟨j,o,f⟩ ⟨hj,hp,ho⟩;replace hj:j<=(ins.getD 0 []).length:=hj;replace hp:(o,f)=(((ins.getD 0 []).take j).foldl (H6 (ExprT.mk ek eo em ev ea)) ([],0)):=hp;have hnx:j<(ins.getD 0 []).length->((ins.getD 0 []).take (j+1)).foldl (H6 (ExprT.mk ek eo em ev ea)) ([],0)=H6 (ExprT.mk ek eo em ev ea) (o,f) ((ins.getD 0 []).getD j 0):=λh=>by
  rw[Hk _ _ 0 h,<-hp]
 have hen:decide ((j:Int)<((ins.getD 0 []).length:Int))=false->(ins.getD 0 []).foldl (H6 (ExprT.mk ek eo em ev ea)) ([],0)=(o,f):=λh=>by
  have h':¬j<(ins.getD 0 []).length:=by simpa using h
  rw[hp,bL (by omega)]
 replace ho:o.length<=j:=ho;have room:(o.length+1)*8<=lim:=by simp only[lim];omega
 refine(aI (λm0=>(aI (by first|exact room|(intros;(try subst_vars);(try simp only[nB]at *);(try simp only[inK,big,lim,nL]at *);omega)) (aF (aF (aA (aF (aI (by first|exact room|(intros;(try subst_vars);(try simp only[nB]at *);(try simp only[inK,big,lim,nL]at *);omega)) (aI tT (aI (λm1=>(aI (λm2=>(aF (aI (λm3=>(aK (aI (by first|exact room|(intros;(try subst_vars);(try simp only[nB]at *);(try simp only[inK,big,lim,nL]at *);omega)) (aD (aB (aI (by first|exact room|(intros;(try subst_vars);(try simp only[nB]at *);(try simp only[inK,big,lim,nL]at *);omega)) (aD (aC (aA (aI (by first|exact room|(intros;(try subst_vars);(try simp only[nB]at *);(try simp only[inK,big,lim,nL]at *);omega)) (aB (aI (by first|exact room|(intros;(try subst_vars);(try simp only[nB]at *);(try simp only[inK,big,lim,nL]at *);omega)) (aI (by first|exact room|(intros;(try subst_vars);(try simp only[nB]at *);(try simp only[inK,big,lim,nL]at *);omega)) (aI (by first|exact room|(intros;(try subst_vars);(try simp only[nB]at *);(try simp only[inK,big,lim,nL]at *);omega)) (aC (aB (aI (by first|exact room|(intros;(try subst_vars);(try simp only[nB]at *);(try simp only[inK,big,lim,nL]at *);omega)) ?_))))))))))))))))) (λm3=>(aI (by first|exact room|(intros;(try subst_vars);(try simp only[nB]at *);(try simp only[inK,big,lim,nL]at *);omega)) ?_))))) (λm2=>(aI (by first|exact room|(intros;(try subst_vars);(try simp only[nB]at *);(try simp only[inK,big,lim,nL]at *);omega)) ?_)))) (λm1=>(aI (λm4=>(aF (aI (λm5=>aS (Eq.trans (Eq.symm m1) m5) (by decide)) (λm5=>(aI (by first|exact room|(intros;(try subst_vars);(try simp only[nB]at *);(try simp only[inK,big,lim,nL]at *);omega)) ?_))))) (λm4=>(aI (by first|exact room|(intros;(try subst_vars);(try simp only[nB]at *);(try simp only[inK,big,lim,nL]at *);omega)) ?_))))))))))))) (λm0=>(aF (aI (λm6=>(aF (Aa rfl ?_))) (λm6=>(aI tT (aI (λm7=>(Aa rfl ?_)) (λm7=>(Aa rfl ?_)))))))))
 ·have hj':j<(ins.getD 0 []).length:=by simpa using m0
  refine eI ((j+1,o++[(ins.getD 0 []).getD j 0],(evX (ExprT.mk ek eo em ev ea) nmX ((ins.getD 0 []).getD j 0) 0).2)) (eI ([some 0,some 1,some 2,some 3,some 4,some 5,some 6,some 7,some 12]) (aI ?_ (aI ?_ (aB (aI (aJ (aJ (aA tT))) (by rfl))))))
  ·refine⟨hj', ?_,by show(_++[_]).length<=j+1;simp;omega⟩;show _=((ins.getD 0 []).take (j+1)).foldl _ _;rw[hnx hj'];dsimp only[H6];rw[Jx m1,aN (show decide ((evX (ExprT.mk ek eo em ev ea) nmX ((ins.getD 0 []).getD j 0) 0).1=1)=true from m2),Qv (f:=(evX (ExprT.mk ek eo em ev ea) nmX ((ins.getD 0 []).getD j 0) 0).2) (show decide ((evX (ExprT.mk ek eo em ev ea) nmX ((ins.getD 0 []).getD j 0) 0).2=0)=true from m3)]
  ·show(ins.getD 0 []).length-(j+1)<(ins.getD 0 []).length-j;omega
 ·have hj':j<(ins.getD 0 []).length:=by simpa using m0
  refine eI ((j+1,o,(evX (ExprT.mk ek eo em ev ea) nmX ((ins.getD 0 []).getD j 0) 0).2)) (eI ([some 0,some 1,some 2,some 3,some 4,some 5,some 6,some 7,some 8]) (aI ?_ (aI ?_ (aB (aI (aJ (aJ (aA tT))) (by rfl))))))
  ·refine⟨hj', ?_,by show o.length<=j+1;omega⟩;show _=((ins.getD 0 []).take (j+1)).foldl _ _;rw[hnx hj'];dsimp only[H6];rw[Jx m1,aN (show decide ((evX (ExprT.mk ek eo em ev ea) nmX ((ins.getD 0 []).getD j 0) 0).1=1)=true from m2),Lk (f:=(evX (ExprT.mk ek eo em ev ea) nmX ((ins.getD 0 []).getD j 0) 0).2) (show decide ((evX (ExprT.mk ek eo em ev ea) nmX ((ins.getD 0 []).getD j 0) 0).2=0)=false from m3)]
  ·show(ins.getD 0 []).length-(j+1)<(ins.getD 0 []).length-j;omega
 ·have hj':j<(ins.getD 0 []).length:=by simpa using m0
  refine eI ((j+1,o,(evX (ExprT.mk ek eo em ev ea) nmX ((ins.getD 0 []).getD j 0) 0).2)) (eI ([some 0,some 1,some 2,some 3,some 4,some 5,some 6,some 7,some 8]) (aI ?_ (aI ?_ (aB (aI (aJ (aJ (aA tT))) (by rfl))))))
  ·refine⟨hj', ?_,by show o.length<=j+1;omega⟩;show _=((ins.getD 0 []).take (j+1)).foldl _ _;rw[hnx hj'];dsimp only[H6];rw[Jx m1,aL (by rw[(show decide ((evX (ExprT.mk ek eo em ev ea) nmX ((ins.getD 0 []).getD j 0) 0).1=1)=false from m2)];simp)]
  ·show(ins.getD 0 []).length-(j+1)<(ins.getD 0 []).length-j;omega
 ·have hj':j<(ins.getD 0 []).length:=by simpa using m0
  refine eI ((j+1,o,f)) (eI ([some 0,some 1,some 2,some 3,some 4,some 5,some 6,some 7,some 8]) (aI ?_ (aI ?_ (aB (aI (aJ (aJ (aA tT))) (by rfl))))))
  ·refine⟨hj', ?_,by show o.length<=j+1;omega⟩;show _=((ins.getD 0 []).take (j+1)).foldl _ _;rw[hnx hj'];dsimp only[H6];rw[Us m1,aN (show decide ((evX (ExprT.mk ek eo em ev ea) nmX ((ins.getD 0 []).getD j 0) 0).1=1)=true from m4),Lk m1]
  ·show(ins.getD 0 []).length-(j+1)<(ins.getD 0 []).length-j;omega
 ·have hj':j<(ins.getD 0 []).length:=by simpa using m0
  refine eI ((j+1,o,f)) (eI ([some 0,some 1,some 2,some 3,some 4,some 5,some 6,some 7,some 8]) (aI ?_ (aI ?_ (aB (aI (aJ (aJ (aA tT))) (by rfl))))))
  ·refine⟨hj', ?_,by show o.length<=j+1;omega⟩;show _=((ins.getD 0 []).take (j+1)).foldl _ _;rw[hnx hj'];dsimp only[H6];rw[Us m1,aL (by rw[(show decide ((evX (ExprT.mk ek eo em ev ea) nmX ((ins.getD 0 []).getD j 0) 0).1=1)=false from m4)];simp)]
  ·show(ins.getD 0 []).length-(j+1)<(ins.getD 0 []).length-j;omega
 ·skip
  have run:Ck (3,z,ExprT.mk ek eo em ev ea,l) ins=([o],f):=by
   show([((ins.getD 0 []).foldl (H6 (ExprT.mk ek eo em ev ea)) ([],0)).1],((ins.getD 0 []).foldl (H6 (ExprT.mk ek eo em ev ea)) ([],0)).2)=_;rw[hen m0]
  exact(Ahv ‹_› ‹_› hs0 (by rw[run];exact m6)).trans (by rw[run])
 ·skip
  have run:Ck (3,z,ExprT.mk ek eo em ev ea,l) ins=([o],f):=by
   show([((ins.getD 0 []).foldl (H6 (ExprT.mk ek eo em ev ea)) ([],0)).1],((ins.getD 0 []).foldl (H6 (ExprT.mk ek eo em ev ea)) ([],0)).2)=_;rw[hen m0]
  exact Vl ‹_› ‹_› hs0 (by rw[run];exact m6) (by rw[run];exact m7)
 ·skip
  have run:Ck (3,z,ExprT.mk ek eo em ev ea,l) ins=([o],f):=by
   show([((ins.getD 0 []).foldl (H6 (ExprT.mk ek eo em ev ea)) ([],0)).1],((ins.getD 0 []).foldl (H6 (ExprT.mk ek eo em ev ea)) ([],0)).2)=_;rw[hen m0]
  exact(Uu ‹_› ‹_› hs0 (by rw[run];exact m6) (by rw[run];exact m7)).trans (by rw[run])
set_option maxHeartbeats 8000000 in
theorem Akz:Jy 5:=by
 intro z e l ins hc hlk;have hl:ins.length=1:=by have h:(ins.length:Int)=1:=hlk;omega
 have hs:=Ay hc;obtain⟨ek,eo,em,ev,ea⟩:=e;refine⟨_,Hw, ?_⟩;refine(aF (aI tT (aI (λh0=>(Aa rfl (by first|exact Dz ‹_› |exact D8 ‹_› ‹_›))) (λh0=>(aA (λh1=>(aI (λh2=>(Aa rfl (by first|exact Dz ‹_› |exact D8 ‹_› ‹_›))) (λh2=>(λh3=>?_)))))))));refine ex4 _ (λi:Nat=>⟨[.any,.sl (.sl (.int .i64)) ins,.ptr 0 0,.any,.any,.any,.any,.ptr 1 0,.any,.any,.any,.any,.any,.any,.any,.any,.any,.any,.any,.any,.any,.any,.any,.any,.any,.any,.any,.any,.sl (.sl (.int .i64)) ins,.int .i64 (↑ins.length:Int),.int .i64 (i:Int)]++nA 34,[.cells   [.int .i64 5,.int .i64 z,.int .i64 (ExprT.mk ek eo em ev ea).kind,     .int .i64 (ExprT.mk ek eo em ev ea).op,.str (ExprT.mk ek eo em ev ea).name,     .int .i64 (ExprT.mk ek eo em ev ea).value,.sl .expr (ExprT.mk ek eo em ev ea).args,     .sl (.int .i64) l],.cells   [.int .i64 1,.int .i64 1,.int .i64 0,.int .i64 100,.int .i64 0,     .sl .str [],.fn (Fn.func 210) [] [],.fn (Fn.func 203) [] []]],2⟩) (λi=>i<=ins.length/\Bg ins=Bg (ins.drop i)) (λi=>ins.length-i) (aI (eI (0) (eI ([some 0,some 1]) (aI ?_ (aB (aI (aH tT) (by rfl)))))) ?_)
 ·exact⟨aV _,rfl⟩
 rintro i ⟨hi,ht⟩;have hin:decide ((i:Int)<(ins.length:Int))=false->(!decide (Bg ins=0))=false:=λh=>by
  have hi':¬i<ins.length:=by simpa using h
  rw[ht,bI (by omega)];rfl
 have ix:0<1->0<=(0:Int)/\(0:Int)<(ins.length:Int):=λh=>by rw[hl];omega
 have iy:1<1->0<=(1:Int)/\(1:Int)<(ins.length:Int):=λh=>by rw[hl];omega
 have hst:Bg ins=0->∀j,j<ins.length->(ins.getD j (Ab tIs)).length<=200/\(ins.getD j (Ab tIs)).any Ak=false:=λh j hj=>Bn h hj
 refine(aI (λk0=>(aI (by first|exact⟨by decide,rfl,by decide,by decide⟩|exact ix (by decide)|exact iy (by decide)|(intros;(try subst_vars);(try simp only[nB]at *);(try simp only[inK,big,lim,nL]at *);omega)) (λk1=>(aI (λk2=>(Aa rfl ?_)) (λk2=>(aI tT (aI (λk3=>(Aa rfl ?_)) (λk3=>(aI (by first|exact⟨by decide,rfl,by decide,by decide⟩|exact ix (by decide)|exact iy (by decide)|(intros;(try subst_vars);(try simp only[nB]at *);(try simp only[inK,big,lim,nL]at *);omega)) ?_))))))))) (λk0=>(aF (aA (aF (aI (by first|exact⟨by decide,rfl,by decide,by decide⟩|exact ix (by decide)|exact iy (by decide)|(intros;(try subst_vars);(try simp only[nB]at *);(try simp only[inK,big,lim,nL]at *);omega)) (aF (aI (λk4=>nG k4) (λk4=>(aI (λk5=>nG k5) (λk5=>(aI (λk6=>nG k6) (λk6=>(aI (by first|exact⟨by decide,rfl,by decide,by decide⟩|exact ix (by decide)|exact iy (by decide)|(intros;(try subst_vars);(try simp only[nB]at *);(try simp only[inK,big,lim,nL]at *);omega)) (λk7=>?_)))))))))))))))
 ·have hi':i<ins.length:=by simpa using k0
  have hk:A6 (ins.getD i (Ab tIs))=true:=k2;have e4:Bg ins=4:=by rw[ht,Ba hi',aN hk]
  exact(L0 ‹_› ‹_› (by rw[e4];rfl)).trans (by rw[e4])
 ·have hi':i<ins.length:=by simpa using k0
  have hk:¬A6 (ins.getD i (Ab tIs))=true:=by have h:A6 (ins.getD i (Ab tIs))=false:=k2;rw[h];simp
  have hk2:(ins.getD i (Ab tIs)).any Ak=true:=k3;have e4:Bg ins=2:=by rw[ht,Ba hi',aL hk,aN hk2]
  exact(L0 ‹_› ‹_› (by rw[e4];rfl)).trans (by rw[e4])
 ·have hi':i<ins.length:=by simpa using k0
  have hk:¬A6 (ins.getD i (Ab tIs))=true:=by have h:A6 (ins.getD i (Ab tIs))=false:=k2;rw[h];simp
  have hk2:¬(ins.getD i (Ab tIs)).any Ak=true:=by have h:(ins.getD i (Ab tIs)).any Ak=false:=k3;rw[h];simp
  refine eI (i+1) (eI ([some 0,some 1]) (aI ?_ (aI ?_ (aB (aI (aH tT) (by rfl))))))
  ·refine⟨hi', ?_⟩;rw[ht,Ba hi',aL hk,aL hk2]
  ·show ins.length-(i+1)<ins.length-i;omega
 have hs0:=hin k0;have hstr:Bg ins=0:=by simpa using hs0
 obtain⟨hal,han⟩:=Bn hstr (show 0<ins.length by omega);replace hal:(ins.getD 0 []).length<=200:=hal;replace han:(ins.getD 0 []).any Ak=false:=han;clear ht hi hin;refine ex4 _ (λp:Nat×List Int=>⟨[.ptr 6 0,.agg   [.int .i64 1,.int .i64 1,.int .i64 0,.int .i64 100,.int .i64 0,     .sl .str [],.fn (Fn.func 210) [] [],.fn (Fn.func 203) [] []],.sl (.sl (.int .i64)) ins,.any,.ptr 7 0,.any,.any,.any,.any,.any,.any,.ptr 6 0,.any,.any,.sl (.sl (.int .i64)) ins,.eptr [PV.sl (.int .i64) (ins.getD (Int.toNat 0) (Ab (.sl (.int .i64))))],.sl (.int .i64) (ins.getD (Int.toNat 0) (Ab (.sl (.int .i64)))),.int .i64 (↑(List.length (ins.getD (Int.toNat 0) (Ab (.sl (.int .i64))))):Int),.int .i64 (p.1:Int),.any,.any,.any,.any,.any,.any,.any,.any,.any,.any,.any,.any,.any,.any,.any,.any,.any,.any,.any,.any,.any,.any,.any,.any,.any,.any,.bool (decide (5=8)),.any,.any,.any,.any,.any,.any,.any,.any,.any,.any,.any,.any,.any,.bool (decide (5=9)),.bool (decide (5=9))]++nA 29,[.cells   [.int .i64 5,.int .i64 z,.int .i64 (ExprT.mk ek eo em ev ea).kind,     .int .i64 (ExprT.mk ek eo em ev ea).op,.str (ExprT.mk ek eo em ev ea).name,     .int .i64 (ExprT.mk ek eo em ev ea).value,.sl .expr (ExprT.mk ek eo em ev ea).args,     .sl (.int .i64) l],.cells   [.int .i64 1,.int .i64 1,.int .i64 0,.int .i64 100,.int .i64 0,     .sl .str [],.fn (Fn.func 210) [] [],.fn (Fn.func 203) [] []],.cells   [.int .i64 5,.int .i64 z,.int .i64 (ExprT.mk ek eo em ev ea).kind,     .int .i64 (ExprT.mk ek eo em ev ea).op,.str (ExprT.mk ek eo em ev ea).name,     .int .i64 (ExprT.mk ek eo em ev ea).value,.sl .expr (ExprT.mk ek eo em ev ea).args,     .sl (.int .i64) l],.cells [.cap0,.int .i64 0,.bool false],.cells   [.int .i64 1,.int .i64 1,.int .i64 0,.int .i64 100,.int .i64 0,     .sl .str [],.fn (Fn.func 210) [] [],.fn (Fn.func 203) [] []],.cells [.own 8],.cells   [.int .i64 5,.int .i64 z,.int .i64 (ExprT.mk ek eo em ev ea).kind,     .int .i64 (ExprT.mk ek eo em ev ea).op,.str (ExprT.mk ek eo em ev ea).name,     .int .i64 (ExprT.mk ek eo em ev ea).value,.sl .expr (ExprT.mk ek eo em ev ea).args,     .sl (.int .i64) l,.cap0,.int .i64 0,.bool false,.csl tI 5 (Int.toNat 1),     .int .i64 0,.int .i64 0],.cells   [.int .i64 1,.int .i64 1,.int .i64 0,.int .i64 100,.int .i64 0,     .sl .str [],.fn (Fn.func 210) [] [],.fn (Fn.func 203) [] []],.rows tI p.2],9⟩) (λp=>p.1<=(ins.getD 0 []).length/\p.2=(((ins.getD 0 []).take p.1).foldl (Ut z) ([]:List Int))/\p.2.length<=200*p.1) (λp=>(ins.getD 0 []).length-p.1) (aI (eI ((0,([]:List Int))) (eI ([some 0,some 1,some 2,some 3,some 4,some 5,some 6,some 7,none]) (aI ?_ (aB (aI (aJ (aJ (aA tT))) (by rfl)))))) ?_)
 ·exact⟨aV _,rfl,bB _⟩
 rintro⟨j,o⟩ ⟨hj,hp,ho⟩;replace hj:j<=(ins.getD 0 []).length:=hj;replace hp:o=(((ins.getD 0 []).take j).foldl (Ut z) ([]:List Int)):=hp;have hnx:j<(ins.getD 0 []).length->((ins.getD 0 []).take (j+1)).foldl (Ut z) ([]:List Int)=Ut z o ((ins.getD 0 []).getD j 0):=λh=>by
  rw[Hk _ _ 0 h,<-hp]
 have hen:decide ((j:Int)<((ins.getD 0 []).length:Int))=false->(ins.getD 0 []).foldl (Ut z) ([]:List Int)=o:=λh=>by
  have h':¬j<(ins.getD 0 []).length:=by simpa using h
  rw[hp,bL (by omega)]
 replace ho:o.length<=200*j:=ho;have hz:0<=z/\z<=200:=⟨hs.1,hs.2.1⟩;refine(aI (λm0=>(aI (by first|(intros;(try subst_vars);(try simp only[nB]at *);(try simp only[inK,big,lim,nL]at *);omega)) (aF ?_))) (λm0=>(aF (aI (λm1=>nG m1) (λm1=>(aI tT (aI (λm2=>(Aa rfl ?_)) (λm2=>(Aa rfl ?_)))))))))
 ·have hj':j<(ins.getD 0 []).length:=by simpa using m0
  refine ex4 _ (λq:Nat=>⟨[.ptr 6 0,.int .i64 0,.int .i64   ((ins.getD (Int.toNat 0) (Ab (.sl (.int .i64)))).getD (↑j:Int).toNat (Ab (.int .i64))),.any,.any,.any,.any,.ptr 6 0,.ptr 6 0,.any,.int .i64 z,.int .i64 (q:Int),.any,.any,.any,.any,.any],[.cells   [.int .i64 5,.int .i64 z,.int .i64 (ExprT.mk ek eo em ev ea).kind,     .int .i64 (ExprT.mk ek eo em ev ea).op,.str (ExprT.mk ek eo em ev ea).name,     .int .i64 (ExprT.mk ek eo em ev ea).value,.sl .expr (ExprT.mk ek eo em ev ea).args,     .sl (.int .i64) l],.cells   [.int .i64 1,.int .i64 1,.int .i64 0,.int .i64 100,.int .i64 0,     .sl .str [],.fn (Fn.func 210) [] [],.fn (Fn.func 203) [] []],.cells   [.int .i64 5,.int .i64 z,.int .i64 (ExprT.mk ek eo em ev ea).kind,     .int .i64 (ExprT.mk ek eo em ev ea).op,.str (ExprT.mk ek eo em ev ea).name,     .int .i64 (ExprT.mk ek eo em ev ea).value,.sl .expr (ExprT.mk ek eo em ev ea).args,     .sl (.int .i64) l],.cells [.cap0,.int .i64 0,.bool false],.cells   [.int .i64 1,.int .i64 1,.int .i64 0,.int .i64 100,.int .i64 0,     .sl .str [],.fn (Fn.func 210) [] [],.fn (Fn.func 203) [] []],.cells [.own 9],.cells   [.int .i64 5,.int .i64 z,.int .i64 (ExprT.mk ek eo em ev ea).kind,     .int .i64 (ExprT.mk ek eo em ev ea).op,.str (ExprT.mk ek eo em ev ea).name,     .int .i64 (ExprT.mk ek eo em ev ea).value,.sl .expr (ExprT.mk ek eo em ev ea).args,     .sl (.int .i64) l,.cap0,.int .i64 0,.bool false,.csl tI 5 (Int.toNat 1),     .int .i64 0,.int .i64 0],.cells   [.int .i64 1,.int .i64 1,.int .i64 0,.int .i64 100,.int .i64 0,     .sl .str [],.fn (Fn.func 210) [] [],.fn (Fn.func 203) [] []],.dead,.rows tI (o++List.replicate q ((ins.getD 0 []).getD j 0))],10⟩) (λq=>(q:Int)<=z) (λq=>z.toNat-q) (aI (eI (0) (eI ([some 0,some 1,some 2,some 3,some 4,some 5,some 6,some 7,some 8,some 8]) (aI ?_ (aB (aI (aJ (aJ (aI ?_ tT))) (by rfl)))))) ?_)
  ·exact hz.1
  ·show Ob.rows tI o=Ob.rows tI (o++List.replicate 0 _);simp
  rintro q hq;have room:((o++List.replicate q ((ins.getD 0 []).getD j 0)).length+1)*8<=lim:=by simp only[lim,bD,bY];omega
  refine(aI (λw0=>(aF (aI (λw1=>(aK (aI (by first|exact room|(intros;(try subst_vars);(try simp only[nB]at *);(try simp only[inK,big,lim,nL]at *);omega)) (aD (aB (aI (by first|exact room|(intros;(try subst_vars);(try simp only[nB]at *);(try simp only[inK,big,lim,nL]at *);omega)) (aD (aC (aA (aI (by first|exact room|(intros;(try subst_vars);(try simp only[nB]at *);(try simp only[inK,big,lim,nL]at *);omega)) (aB (aI (by first|exact room|(intros;(try subst_vars);(try simp only[nB]at *);(try simp only[inK,big,lim,nL]at *);omega)) (aI (by first|exact room|(intros;(try subst_vars);(try simp only[nB]at *);(try simp only[inK,big,lim,nL]at *);omega)) (aI (by first|exact room|(intros;(try subst_vars);(try simp only[nB]at *);(try simp only[inK,big,lim,nL]at *);omega)) (aC (aB (aI (by first|exact room|(intros;(try subst_vars);(try simp only[nB]at *);(try simp only[inK,big,lim,nL]at *);omega)) ?_))))))))))))))))) (λw1=>False.elim (aX (Eq.symm (Eq.trans (by kernel_rfl) w1))))))) (λw0=>(aI (by first|exact room|(intros;(try subst_vars);(try simp only[nB]at *);(try simp only[inK,big,lim,nL]at *);omega)) ?_)))
  ·have hq':(q:Int)<z:=aM w0;refine eI (q+1) (eI ([some 0,some 1,some 2,some 3,some 4,some 5,some 6,some 7,some 8,some 11]) (aI ?_ (aI ?_ (aB (aI (aJ (aJ (aI ?_ tT))) (by rfl))))))
   ·show((q+1:Nat):Int)<=z;omega
   ·show z.toNat-(q+1)<z.toNat-q;omega
   ·show Ob.rows tI _=Ob.rows tI (o++List.replicate (q+1) _);rw[List.replicate_succ',<-dO];rfl
  ·have hq':q=z.toNat:=by have h:¬(q:Int)<z:=aP w0;omega
   refine eI ((j+1,o++List.replicate q ((ins.getD 0 []).getD j 0))) (eI ([some 0,some 1,some 2,some 3,some 4,some 5,some 6,some 7,some 9]) (aI ?_ (aI ?_ (aB (aI (aJ (aJ (aA tT))) (by rfl))))))
   ·refine⟨hj', ?_, ?_⟩
    ·show _=((ins.getD 0 []).take (j+1)).foldl _ _;rw[hnx hj',hq'];rfl
    ·show(o++List.replicate q _).length<=200*(j+1);simp only[bD,bY];omega
   ·show(ins.getD 0 []).length-(j+1)<(ins.getD 0 []).length-j;omega
 ·skip
  have run:Ck (5,z,ExprT.mk ek eo em ev ea,l) ins=([o],0):=by
   show([(ins.getD 0 []).foldl (Ut z) []],0)=_;rw[hen m0]
  exact Vl ‹_› ‹_› hs0 (by rw[run];rfl) (by rw[run];exact m2)
 ·skip
  have run:Ck (5,z,ExprT.mk ek eo em ev ea,l) ins=([o],0):=by
   show([(ins.getD 0 []).foldl (Ut z) []],0)=_;rw[hen m0]
  exact(Uu ‹_› ‹_› hs0 (by rw[run];rfl) (by rw[run];exact m2)).trans (by rw[run])
set_option maxHeartbeats 8000000 in
theorem Ak0:Jy 6:=by
 intro z e l ins hc hlk;have hl:ins.length=1:=by have h:(ins.length:Int)=1:=hlk;omega
 have hs:=Ay hc;obtain⟨ek,eo,em,ev,ea⟩:=e;refine⟨_,Hw, ?_⟩;refine(aF (aI tT (aI (λh0=>(Aa rfl (by first|exact Dz ‹_› |exact D8 ‹_› ‹_›))) (λh0=>(aA (λh1=>(aI (λh2=>(Aa rfl (by first|exact Dz ‹_› |exact D8 ‹_› ‹_›))) (λh2=>(λh3=>?_)))))))));refine ex4 _ (λi:Nat=>⟨[.any,.sl (.sl (.int .i64)) ins,.ptr 0 0,.any,.any,.any,.any,.ptr 1 0,.any,.any,.any,.any,.any,.any,.any,.any,.any,.any,.any,.any,.any,.any,.any,.any,.any,.any,.any,.any,.sl (.sl (.int .i64)) ins,.int .i64 (↑ins.length:Int),.int .i64 (i:Int)]++nA 34,[.cells   [.int .i64 6,.int .i64 z,.int .i64 (ExprT.mk ek eo em ev ea).kind,     .int .i64 (ExprT.mk ek eo em ev ea).op,.str (ExprT.mk ek eo em ev ea).name,     .int .i64 (ExprT.mk ek eo em ev ea).value,.sl .expr (ExprT.mk ek eo em ev ea).args,     .sl (.int .i64) l],.cells   [.int .i64 1,.int .i64 1,.int .i64 0,.int .i64 200,.int .i64 0,     .sl .str [],.fn (Fn.func 211) [] [],.fn (Fn.func 203) [] []]],2⟩) (λi=>i<=ins.length/\Bg ins=Bg (ins.drop i)) (λi=>ins.length-i) (aI (eI (0) (eI ([some 0,some 1]) (aI ?_ (aB (aI (aH tT) (by rfl)))))) ?_)
 ·exact⟨aV _,rfl⟩
 rintro i ⟨hi,ht⟩;have hin:decide ((i:Int)<(ins.length:Int))=false->(!decide (Bg ins=0))=false:=λh=>by
  have hi':¬i<ins.length:=by simpa using h
  rw[ht,bI (by omega)];rfl
 have ix:0<1->0<=(0:Int)/\(0:Int)<(ins.length:Int):=λh=>by rw[hl];omega
 have iy:1<1->0<=(1:Int)/\(1:Int)<(ins.length:Int):=λh=>by rw[hl];omega
 have hst:Bg ins=0->∀j,j<ins.length->(ins.getD j (Ab tIs)).length<=200/\(ins.getD j (Ab tIs)).any Ak=false:=λh j hj=>Bn h hj
 refine(aI (λk0=>(aI (by first|exact⟨by decide,rfl,by decide,by decide⟩|exact ix (by decide)|exact iy (by decide)|(intros;(try subst_vars);(try simp only[nB]at *);(try simp only[inK,big,lim,nL]at *);omega)) (λk1=>(aI (λk2=>(Aa rfl ?_)) (λk2=>(aI tT (aI (λk3=>(Aa rfl ?_)) (λk3=>(aI (by first|exact⟨by decide,rfl,by decide,by decide⟩|exact ix (by decide)|exact iy (by decide)|(intros;(try subst_vars);(try simp only[nB]at *);(try simp only[inK,big,lim,nL]at *);omega)) ?_))))))))) (λk0=>(aF (aA (aF (aI (by first|exact⟨by decide,rfl,by decide,by decide⟩|exact ix (by decide)|exact iy (by decide)|(intros;(try subst_vars);(try simp only[nB]at *);(try simp only[inK,big,lim,nL]at *);omega)) (aF (aI (λk4=>nG k4) (λk4=>(aI (λk5=>nG k5) (λk5=>(aI (λk6=>nG k6) (λk6=>(aI (by first|exact⟨by decide,rfl,by decide,by decide⟩|exact ix (by decide)|exact iy (by decide)|(intros;(try subst_vars);(try simp only[nB]at *);(try simp only[inK,big,lim,nL]at *);omega)) (λk7=>?_)))))))))))))))
 ·have hi':i<ins.length:=by simpa using k0
  have hk:A6 (ins.getD i (Ab tIs))=true:=k2;have e4:Bg ins=4:=by rw[ht,Ba hi',aN hk]
  exact(L0 ‹_› ‹_› (by rw[e4];rfl)).trans (by rw[e4])
 ·have hi':i<ins.length:=by simpa using k0
  have hk:¬A6 (ins.getD i (Ab tIs))=true:=by have h:A6 (ins.getD i (Ab tIs))=false:=k2;rw[h];simp
  have hk2:(ins.getD i (Ab tIs)).any Ak=true:=k3;have e4:Bg ins=2:=by rw[ht,Ba hi',aL hk,aN hk2]
  exact(L0 ‹_› ‹_› (by rw[e4];rfl)).trans (by rw[e4])
 ·have hi':i<ins.length:=by simpa using k0
  have hk:¬A6 (ins.getD i (Ab tIs))=true:=by have h:A6 (ins.getD i (Ab tIs))=false:=k2;rw[h];simp
  have hk2:¬(ins.getD i (Ab tIs)).any Ak=true:=by have h:(ins.getD i (Ab tIs)).any Ak=false:=k3;rw[h];simp
  refine eI (i+1) (eI ([some 0,some 1]) (aI ?_ (aI ?_ (aB (aI (aH tT) (by rfl))))))
  ·refine⟨hi', ?_⟩;rw[ht,Ba hi',aL hk,aL hk2]
  ·show ins.length-(i+1)<ins.length-i;omega
 have hs0:=hin k0;have hstr:Bg ins=0:=by simpa using hs0
 obtain⟨hal,han⟩:=Bn hstr (show 0<ins.length by omega);replace hal:(ins.getD 0 []).length<=200:=hal;replace han:(ins.getD 0 []).any Ak=false:=han;clear ht hi hin;refine ex4 _ (λp:Nat×List Int×Int=>⟨[.ptr 6 0,.agg   [.int .i64 1,.int .i64 1,.int .i64 0,.int .i64 200,.int .i64 0,     .sl .str [],.fn (Fn.func 211) [] [],.fn (Fn.func 203) [] []],.sl (.sl (.int .i64)) ins,.any,.ptr 7 0,.any,.any,.any,.any,.any,.any,.ptr 6 0,.any,.any,.sl (.sl (.int .i64)) ins,.eptr [PV.sl (.int .i64) (ins.getD (Int.toNat 0) (Ab (.sl (.int .i64))))],.sl (.int .i64) (ins.getD (Int.toNat 0) (Ab (.sl (.int .i64)))),.int .i64 (↑(List.length (ins.getD (Int.toNat 0) (Ab (.sl (.int .i64))))):Int),.int .i64 (p.1:Int),.any,.any,.any,.any,.any,.any,.any,.any,.any,.any,.any,.any,.any,.any,.any,.any,.any,.any,.any,.any,.any,.any,.any,.any,.any,.any,.bool (decide (6=8)),.any,.any,.any,.any,.any,.any,.any,.any,.any,.any,.any,.any,.any,.bool (decide (6=9)),.bool (decide (6=9))]++nA 29,[.cells   [.int .i64 6,.int .i64 z,.int .i64 (ExprT.mk ek eo em ev ea).kind,     .int .i64 (ExprT.mk ek eo em ev ea).op,.str (ExprT.mk ek eo em ev ea).name,     .int .i64 (ExprT.mk ek eo em ev ea).value,.sl .expr (ExprT.mk ek eo em ev ea).args,     .sl (.int .i64) l],.cells   [.int .i64 1,.int .i64 1,.int .i64 0,.int .i64 200,.int .i64 0,     .sl .str [],.fn (Fn.func 211) [] [],.fn (Fn.func 203) [] []],.cells   [.int .i64 6,.int .i64 z,.int .i64 (ExprT.mk ek eo em ev ea).kind,     .int .i64 (ExprT.mk ek eo em ev ea).op,.str (ExprT.mk ek eo em ev ea).name,     .int .i64 (ExprT.mk ek eo em ev ea).value,.sl .expr (ExprT.mk ek eo em ev ea).args,     .sl (.int .i64) l],.cells [.cap0,.int .i64 0,.bool false],.cells   [.int .i64 1,.int .i64 1,.int .i64 0,.int .i64 200,.int .i64 0,     .sl .str [],.fn (Fn.func 211) [] [],.fn (Fn.func 203) [] []],.cells [.own 8],.cells [.int .i64 6,.int .i64 z,.int .i64 ek,.int .i64 eo,.str em,.int .i64 ev,.sl .expr ea,.sl tI l,.cap0,.int .i64 p.2.2,.bool false,.csl tI 5 1,.int .i64 0,.int .i64 0],.cells   [.int .i64 1,.int .i64 1,.int .i64 0,.int .i64 200,.int .i64 0,     .sl .str [],.fn (Fn.func 211) [] [],.fn (Fn.func 203) [] []],.rows tI p.2.1],9⟩) (λp=>p.1<=(ins.getD 0 []).length/\p.2=(((ins.getD 0 []).take p.1).foldl (Nq z) ([],0))/\p.2.1.length<=p.1/\(0<=p.2.2/\p.2.2<=200)) (λp=>(ins.getD 0 []).length-p.1) (aI (eI ((0,([],0))) (eI ([some 0,some 1,some 2,some 3,some 4,some 5,some 6,some 7,none]) (aI ?_ (aB (aI (aJ (aJ (aA tT))) (by rfl)))))) ?_)
 ·exact⟨aV _,rfl,bB _,by decide,by decide⟩
 rintro⟨j,o,c⟩ ⟨hj,hp,ho,hc⟩;replace hj:j<=(ins.getD 0 []).length:=hj;replace hp:(o,c)=(((ins.getD 0 []).take j).foldl (Nq z) ([],0)):=hp;have hnx:j<(ins.getD 0 []).length->((ins.getD 0 []).take (j+1)).foldl (Nq z) ([],0)=Nq z (o,c) ((ins.getD 0 []).getD j 0):=λh=>by
  rw[Hk _ _ 0 h,<-hp]
 have hen:decide ((j:Int)<((ins.getD 0 []).length:Int))=false->(ins.getD 0 []).foldl (Nq z) ([],0)=(o,c):=λh=>by
  have h':¬j<(ins.getD 0 []).length:=by simpa using h
  rw[hp,bL (by omega)]
 replace ho:o.length<=j:=ho;have room:(o.length+1)*8<=lim:=by simp only[lim];omega
 replace hc:0<=c/\c<=200:=hc;have hz:z<=200:=hs.2.1;refine(aI (λm0=>(aI (by first|exact room|(intros;(try subst_vars);(try simp only[nB]at *);(try simp only[inK,big,lim,nL]at *);omega)) (aF (aF (aI (λm1=>(aI (by first|exact room|(intros;(try subst_vars);(try simp only[nB]at *);(try simp only[inK,big,lim,nL]at *);omega)) (aF (aI (λm2=>(aK (aI (by first|exact room|(intros;(try subst_vars);(try simp only[nB]at *);(try simp only[inK,big,lim,nL]at *);omega)) (aD (aB (aI (by first|exact room|(intros;(try subst_vars);(try simp only[nB]at *);(try simp only[inK,big,lim,nL]at *);omega)) (aD (aC (aA (aI (by first|exact room|(intros;(try subst_vars);(try simp only[nB]at *);(try simp only[inK,big,lim,nL]at *);omega)) (aB (aI (by first|exact room|(intros;(try subst_vars);(try simp only[nB]at *);(try simp only[inK,big,lim,nL]at *);omega)) (aI (by first|exact room|(intros;(try subst_vars);(try simp only[nB]at *);(try simp only[inK,big,lim,nL]at *);omega)) (aI (by first|exact room|(intros;(try subst_vars);(try simp only[nB]at *);(try simp only[inK,big,lim,nL]at *);omega)) (aC (aB (aI (by first|exact room|(intros;(try subst_vars);(try simp only[nB]at *);(try simp only[inK,big,lim,nL]at *);omega)) ?_))))))))))))))))) (λm2=>False.elim (aX (Eq.symm (Eq.trans (by kernel_rfl) m2)))))))) (λm1=>(aI (by first|exact room|(intros;(try subst_vars);(try simp only[nB]at *);(try simp only[inK,big,lim,nL]at *);omega)) ?_))))))) (λm0=>(aF (aI (λm3=>nG m3) (λm3=>(aI tT (aI (λm4=>(Aa rfl ?_)) (λm4=>(Aa rfl ?_)))))))))
 ·have hj':j<(ins.getD 0 []).length:=by simpa using m0
  refine eI ((j+1,o++[(ins.getD 0 []).getD j 0],c+1)) (eI ([some 0,some 1,some 2,some 3,some 4,some 5,some 6,some 7,some 10]) (aI ?_ (aI ?_ (aB (aI (aJ (aJ (aA tT))) (by rfl))))))
  ·refine⟨hj', ?_,by show(_++[_]).length<=j+1;simp;omega,⟨by show 0<=c+1;omega,by show c+1<=200;have h9:c<z:=aM m1;omega⟩⟩;show _=((ins.getD 0 []).take (j+1)).foldl _ _;rw[hnx hj'];dsimp only[Nq];rw[aN (show decide (c<z)=true from m1)]
  ·show(ins.getD 0 []).length-(j+1)<(ins.getD 0 []).length-j;omega
 ·have hj':j<(ins.getD 0 []).length:=by simpa using m0
  refine eI ((j+1,o,c)) (eI ([some 0,some 1,some 2,some 3,some 4,some 5,some 6,some 7,some 8]) (aI ?_ (aI ?_ (aB (aI (aJ (aJ (aA tT))) (by rfl))))))
  ·refine⟨hj', ?_,by show o.length<=j+1;omega,hc⟩;show _=((ins.getD 0 []).take (j+1)).foldl _ _;rw[hnx hj'];dsimp only[Nq];rw[aL (by rw[(show decide (c<z)=false from m1)];simp)]
  ·show(ins.getD 0 []).length-(j+1)<(ins.getD 0 []).length-j;omega
 ·skip
  have run:Ck (6,z,ExprT.mk ek eo em ev ea,l) ins=([o],0):=by
   show([((ins.getD 0 []).foldl (Nq z) ([],0)).1],0)=_;rw[hen m0]
  exact Vl ‹_› ‹_› hs0 (by rw[run];rfl) (by rw[run];exact m4)
 ·skip
  have run:Ck (6,z,ExprT.mk ek eo em ev ea,l) ins=([o],0):=by
   show([((ins.getD 0 []).foldl (Nq z) ([],0)).1],0)=_;rw[hen m0]
  exact(Uu ‹_› ‹_› hs0 (by rw[run];rfl) (by rw[run];exact m4)).trans (by rw[run])
theorem Ni(n:Nat)(b:List Int):Eb n [] b=b:=by cases n<;>rfl
set_option maxHeartbeats 8000000 in
theorem Ak1:Jy 8:=by
 intro z e l ins hc hlk;have hl:ins.length=2:=by have h:(ins.length:Int)=2:=hlk;omega
 have hs:=Ay hc;obtain⟨ek,eo,em,ev,ea⟩:=e;refine⟨_,Hw, ?_⟩;refine(aF (aI tT (aI (λh0=>(Aa rfl (by first|exact Dz ‹_› |exact D8 ‹_› ‹_›))) (λh0=>(aA (λh1=>(aI (λh2=>(Aa rfl (by first|exact Dz ‹_› |exact D8 ‹_› ‹_›))) (λh2=>(λh3=>?_)))))))));refine ex4 _ (λi:Nat=>⟨[.any,.sl (.sl (.int .i64)) ins,.ptr 0 0,.any,.any,.any,.any,.ptr 1 0,.any,.any,.any,.any,.any,.any,.any,.any,.any,.any,.any,.any,.any,.any,.any,.any,.any,.any,.any,.any,.sl (.sl (.int .i64)) ins,.int .i64 (↑ins.length:Int),.int .i64 (i:Int)]++nA 34,[.cells   [.int .i64 8,.int .i64 z,.int .i64 (ExprT.mk ek eo em ev ea).kind,     .int .i64 (ExprT.mk ek eo em ev ea).op,.str (ExprT.mk ek eo em ev ea).name,     .int .i64 (ExprT.mk ek eo em ev ea).value,.sl .expr (ExprT.mk ek eo em ev ea).args,     .sl (.int .i64) l],.cells   [.int .i64 2,.int .i64 1,.int .i64 0,.int .i64 0,.int .i64 0,     .sl .str [],.fn (Fn.func 214) [] [.eptr [PV.fn (FnT.mk 202 [])]],.fn (Fn.func 213) [] []]],2⟩) (λi=>i<=ins.length/\Bg ins=Bg (ins.drop i)) (λi=>ins.length-i) (aI (eI (0) (eI ([some 0,some 1]) (aI ?_ (aB (aI (aH tT) (by rfl)))))) ?_)
 ·exact⟨aV _,rfl⟩
 rintro i ⟨hi,ht⟩;have hin:decide ((i:Int)<(ins.length:Int))=false->(!decide (Bg ins=0))=false:=λh=>by
  have hi':¬i<ins.length:=by simpa using h
  rw[ht,bI (by omega)];rfl
 have ix:0<2->0<=(0:Int)/\(0:Int)<(ins.length:Int):=λh=>by rw[hl];omega
 have iy:1<2->0<=(1:Int)/\(1:Int)<(ins.length:Int):=λh=>by rw[hl];omega
 have hst:Bg ins=0->∀j,j<ins.length->(ins.getD j (Ab tIs)).length<=200/\(ins.getD j (Ab tIs)).any Ak=false:=λh j hj=>Bn h hj
 refine(aI (λk0=>(aI (by first|exact⟨by decide,rfl,by decide,by decide⟩|exact ix (by decide)|exact iy (by decide)|(intros;(try subst_vars);(try simp only[nB]at *);(try simp only[inK,big,lim,nL]at *);omega)) (λk1=>(aI (λk2=>(Aa rfl ?_)) (λk2=>(aI tT (aI (λk3=>(Aa rfl ?_)) (λk3=>(aI (by first|exact⟨by decide,rfl,by decide,by decide⟩|exact ix (by decide)|exact iy (by decide)|(intros;(try subst_vars);(try simp only[nB]at *);(try simp only[inK,big,lim,nL]at *);omega)) ?_))))))))) (λk0=>(aF (aA (aF (aI (by first|exact⟨by decide,rfl,by decide,by decide⟩|exact ix (by decide)|exact iy (by decide)|(intros;(try subst_vars);(try simp only[nB]at *);(try simp only[inK,big,lim,nL]at *);omega)) (aF (aI (λk4=>nG k4) (λk4=>(aI (λk5=>(aK (aI (by first|exact⟨by decide,rfl,by decide,by decide⟩|exact ix (by decide)|exact iy (by decide)|(intros;(try subst_vars);(try simp only[nB]at *);(try simp only[inK,big,lim,nL]at *);omega)) (aI (by first|exact⟨by decide,rfl,by decide,by decide⟩|exact ix (by decide)|exact iy (by decide)|(intros;(try subst_vars);(try simp only[nB]at *);(try simp only[inK,big,lim,nL]at *);omega)) (aC (aA (aI (by first|exact⟨by decide,rfl,by decide,by decide⟩|exact ix (by decide)|exact iy (by decide)|(intros;(try subst_vars);(try simp only[nB]at *);(try simp only[inK,big,lim,nL]at *);omega)) (aB (aA (aI (by first|exact⟨by decide,rfl,by decide,by decide⟩|exact ix (by decide)|exact iy (by decide)|(intros;(try subst_vars);(try simp only[nB]at *);(try simp only[inK,big,lim,nL]at *);omega)) (aB (aF ?_)))))))))))) (λk5=>False.elim (aX (Eq.symm (Eq.trans (by kernel_rfl) k5))))))))))))))
 ·have hi':i<ins.length:=by simpa using k0
  have hk:A6 (ins.getD i (Ab tIs))=true:=k2;have e4:Bg ins=4:=by rw[ht,Ba hi',aN hk]
  exact(L0 ‹_› ‹_› (by rw[e4];rfl)).trans (by rw[e4])
 ·have hi':i<ins.length:=by simpa using k0
  have hk:¬A6 (ins.getD i (Ab tIs))=true:=by have h:A6 (ins.getD i (Ab tIs))=false:=k2;rw[h];simp
  have hk2:(ins.getD i (Ab tIs)).any Ak=true:=k3;have e4:Bg ins=2:=by rw[ht,Ba hi',aL hk,aN hk2]
  exact(L0 ‹_› ‹_› (by rw[e4];rfl)).trans (by rw[e4])
 ·have hi':i<ins.length:=by simpa using k0
  have hk:¬A6 (ins.getD i (Ab tIs))=true:=by have h:A6 (ins.getD i (Ab tIs))=false:=k2;rw[h];simp
  have hk2:¬(ins.getD i (Ab tIs)).any Ak=true:=by have h:(ins.getD i (Ab tIs)).any Ak=false:=k3;rw[h];simp
  refine eI (i+1) (eI ([some 0,some 1]) (aI ?_ (aI ?_ (aB (aI (aH tT) (by rfl))))))
  ·refine⟨hi', ?_⟩;rw[ht,Ba hi',aL hk,aL hk2]
  ·show ins.length-(i+1)<ins.length-i;omega
 have hs0:=hin k0;have hstr:Bg ins=0:=by simpa using hs0
 obtain⟨hal,-⟩:=Bn hstr (show 0<ins.length by omega);obtain⟨hbl,-⟩:=Bn hstr (show 1<ins.length by omega);replace hal:(ins.getD 0 []).length<=200:=hal;replace hbl:(ins.getD 1 []).length<=200:=hbl;clear ht hi hin;refine ex4 _ (λp:List Int×List Int×List Int=>⟨[.sl tI p.1,.sl tI p.2.1,.any,.any,.any,.own 8]++nA 15,[.cells   [.int .i64 8,.int .i64 z,.int .i64 (ExprT.mk ek eo em ev ea).kind,     .int .i64 (ExprT.mk ek eo em ev ea).op,.str (ExprT.mk ek eo em ev ea).name,     .int .i64 (ExprT.mk ek eo em ev ea).value,.sl .expr (ExprT.mk ek eo em ev ea).args,     .sl (.int .i64) l],.cells   [.int .i64 2,.int .i64 1,.int .i64 0,.int .i64 0,.int .i64 0,     .sl .str [],.fn (Fn.func 214) [] [.eptr [PV.fn (FnT.mk 202 [])]],.fn (Fn.func 213) [] []],.cells   [.int .i64 8,.int .i64 z,.int .i64 (ExprT.mk ek eo em ev ea).kind,     .int .i64 (ExprT.mk ek eo em ev ea).op,.str (ExprT.mk ek eo em ev ea).name,     .int .i64 (ExprT.mk ek eo em ev ea).value,.sl .expr (ExprT.mk ek eo em ev ea).args,     .sl (.int .i64) l],.cells [.cap0,.int .i64 0,.bool false],.cells   [.int .i64 2,.int .i64 1,.int .i64 0,.int .i64 0,.int .i64 0,     .sl .str [],.fn (Fn.func 214) [] [.eptr [PV.fn (FnT.mk 202 [])]],.fn (Fn.func 213) [] []],.cells [.cap0],.cells   [.int .i64 8,.int .i64 z,.int .i64 (ExprT.mk ek eo em ev ea).kind,     .int .i64 (ExprT.mk ek eo em ev ea).op,.str (ExprT.mk ek eo em ev ea).name,     .int .i64 (ExprT.mk ek eo em ev ea).value,.sl .expr (ExprT.mk ek eo em ev ea).args,     .sl (.int .i64) l,.cap0,.int .i64 0,.bool false,.csl tI 5 (Int.toNat 1),     .int .i64 0,.int .i64 0],.cells   [.int .i64 2,.int .i64 1,.int .i64 0,.int .i64 0,.int .i64 0,     .sl .str [],.fn (Fn.func 214) [] [.eptr [PV.fn (FnT.mk 202 [])]],.fn (Fn.func 213) [] []],.rows tI p.2.2],9⟩) (λp=>Eb ((ins.getD 0 []).length+(ins.getD 1 []).length) (ins.getD 0 []) (ins.getD 1 [])=p.2.2++Eb (p.1.length+p.2.1.length) p.1 p.2.1/\p.2.2.length+(p.1.length+p.2.1.length)=(ins.getD 0 []).length+(ins.getD 1 []).length) (λp=>p.1.length+p.2.1.length) (aI (eI ((ins.getD 0 [],ins.getD 1 [],[])) (eI ([some 0,some 1,some 2,some 3,some 4,some 5,some 6,some 7,none]) (aI ?_ (aB (aI (aJ (aJ (aA tT))) (by rfl)))))) ?_)
 ·exact⟨rfl,by simp⟩
 rintro⟨a,b,o⟩ ⟨hp,hn⟩;replace hp:Eb ((ins.getD 0 []).length+(ins.getD 1 []).length) (ins.getD 0 []) (ins.getD 1 [])=o++Eb (a.length+b.length) a b:=hp;replace hn:o.length+(a.length+b.length)=(ins.getD 0 []).length+(ins.getD 1 []).length:=hn;have room:(o.length+1)*8<=lim:=by simp only[lim];omega
 have room2:(o.length+b.length)*8<=lim:=by simp only[lim];omega
 refine(λm0=>(aI (λm1=>(aI (by first|exact room|exact room2|(intros;(try subst_vars);(try simp only[nB]at *);(try simp only[inK,big,lim,nL]at *);omega)) (aI (by first|exact room|exact room2|(intros;(try subst_vars);(try simp only[nB]at *);(try simp only[inK,big,lim,nL]at *);omega)) (aF (aI (by first|exact room|exact room2|(intros;(try subst_vars);(try simp only[nB]at *);(try simp only[inK,big,lim,nL]at *);omega)) ?_))))) (λm1=>(aI (by first|exact room|exact room2|(intros;(try subst_vars);(try simp only[nB]at *);(try simp only[inK,big,lim,nL]at *);omega)) (aI (by first|exact room|exact room2|(intros;(try subst_vars);(try simp only[nB]at *);(try simp only[inK,big,lim,nL]at *);omega)) (aI (by first|exact room|exact room2|(intros;(try subst_vars);(try simp only[nB]at *);(try simp only[inK,big,lim,nL]at *);omega)) (aC (aA (aI (λm2=>nG m2) (λm2=>(aI tT (aI (λm3=>(Aa rfl ?_)) (λm3=>(Aa rfl ?_))))))))))))))
 ·match a,m1 with
  |[],m1=>
   have h:(0:Int)<(([]:List Int).length:Int):=aM m1;exact aS h (by decide)
  |x::a,m1=>
  refine eI ((b,a,o++[x])) (eI ([some 0,some 1,some 2,some 3,some 4,some 5,some 6,some 7,some 10]) (aI ?_ (aI ?_ (aB (aI (aJ (aJ (aA tT))) (by rfl))))))
  ·refine⟨?_, ?_⟩
   ·rw[hp,show(x::a).length+b.length=(a.length+b.length)+1 by simp;omega];show o++Eb (a.length+b.length+1) (x::a) b=(o++[x])++Eb (b.length+a.length) b a;rw[Eb,fM b.length];simp
   ·show(o++[x]).length+(b.length+a.length)=_;simp only[bD,List.length_cons,List.length_nil]at hn ⊢;omega
  ·show b.length+a.length<(x::a).length+b.length;simp only[List.length_cons];omega
 ·skip
  have run:Ck (8,z,ExprT.mk ek eo em ev ea,l) ins=([o++b],0):=by
   show([Eb ((ins.getD 0 []).length+(ins.getD 1 []).length) (ins.getD 0 []) (ins.getD 1 [])],0)=_;have ha:a=[]:=dB (by have h:¬(0:Int)<(a.length:Int):=aP m1;omega);rw[hp,ha,Ni]
  exact Vl ‹_› ‹_› hs0 (by rw[run];rfl) (by rw[run];exact m3)
 ·skip
  have run:Ck (8,z,ExprT.mk ek eo em ev ea,l) ins=([o++b],0):=by
   show([Eb ((ins.getD 0 []).length+(ins.getD 1 []).length) (ins.getD 0 []) (ins.getD 1 [])],0)=_;have ha:a=[]:=dB (by have h:¬(0:Int)<(a.length:Int):=aP m1;omega);rw[hp,ha,Ni]
  exact(Uu ‹_› ‹_› hs0 (by rw[run];rfl) (by rw[run];exact m3)).trans (by rw[run])
end Go.Proofs.YtckpldpombdkgaaGreat
