/- Pipelines. -/
import Derived.Test.YtpabcdbaffjcdaaGreatJZ4
set_option linter.unusedSimpArgs false
set_option linter.unusedVariables false
set_option maxRecDepth 100000
namespace Go.Proofs.YtpabcdbaffjcdaaGreat
open Go.Sx
def Bc:List (List Int)->Int
 |[]=>0
 |l::r=>if A5 l=true then 4 else if l.any Aj=true then 2 else Bc r
theorem A9{xs:List (List Int)}{i:Nat}(h:i<xs.length):Bc (xs.drop i)=if A5 (xs.getD i (Ab tIs))=true then 4 else if(xs.getD i (Ab tIs)).any Aj=true then 2 else Bc (xs.drop (i+1)):=by
 rw[cG h];simp[Bc,List.getD,h]
theorem Bi:∀{xs:List (List Int)}{i:Nat},Bc xs=0->i<xs.length->(xs.getD i (Ab tIs)).length<=200/\(xs.getD i (Ab tIs)).any Aj=false
 |[],i,_,h=>aT h (eE _)
 |l::r,i,h,hi=>by
  simp only[Bc]at h;split at h
  ·exact aT h (by decide)
  ·split at h
   ·exact aT h (by decide)
   ·rename_i h1 h2;cases i with
    |zero=>
     have h3:¬200<(l.length:Int):=by simpa[A5]using h1
     exact⟨by show l.length<=200;omega,by simpa using h2⟩
    |succ i=>
     have:=Bi (i:=i) h (by simpa using hi);simpa using this
theorem Hl{α β:Type}(f:β->α->β)(s:β){a:List α}{i:Nat}(d:α)(h:i<a.length):(a.take (i+1)).foldl f s=f ((a.take i).foldl f s) (a.getD i d):=by
 rw[Kh (d:=d) h,dO];rfl
def Aq7:List (TypeId×Ty):=(3000026,tI)::Dk
def c60:Ctr:=fnO [dIs] tI (λy=>y.1.length<=1000) (λy=>y.1)
theorem Adb:GoodC Tryz.prog 56 c60:=by
 refine Go.Sx.goodO Ah 4 _ _ _ _ ⟨_,Tryz.func56,rfl,rfl⟩ λ(⟨xs,_⟩:List Int×Unit) hn=>?_
 have hn':xs.length<=1000:=hn;clear hn;have room:xs.length*8<=lim:=by simp only[lim];omega
 refine(aF (λh0=>(λh1=>(aI (λh2=>(Kb (by simp_all))) (λh2=>(aI (by first|exact room|(intros;(try subst_vars);(try simp only[nB]at *);(try simp only[inK,big,lim,nL]at *);omega)) (M0 rfl (by simp_all))))))))
def cxM:Ctx:=⟨Aq7,[(26,([],c17)),(37,([],c40k)),(40,([],c41)),(45,([],c37)),(91,([],c83)),(120,([],c108)),(42,([],c43)),(56,([],c60))]⟩
theorem Cn:Ai Tryz.prog cxM:=Dl (Ae Uf (Ae Pi (Ae Xz (Ae Aqu (Ae Ac7 (Ae Afa (Ae Xy (Ae Adb Ah))))))))
@[reducible] def Afb:List (Bool×Ty):=[(false,Va),(false,tI)]
def evX(e:ExprT)(ns:List ByteArray)(a b:Int):Int×Int:=I4 e (B6 ns [a,b])
def Lg(f g:Int):Int:=if decide (f=0)=true then g else f
theorem Js{f g:Int}(h:decide (f=0)=true):Lg f g=g:=by rw[Lg,aP h]
theorem Uh{f g:Int}(h:decide (f=0)=false):Lg f g=f:=by rw[Lg,aL (by rw[h];simp)]
def Jb(f:Int)(o:List Int)(v:Int):List Int:=if decide (f=0)=true then o++[v]else o
theorem Qm{f v:Int}{o:List Int}(h:decide (f=0)=true):Jb f o v=o++[v]:=by rw[Jb,aP h]
theorem Lh{f v:Int}{o:List Int}(h:decide (f=0)=false):Jb f o v=o:=by rw[Jb,aL (by rw[h];simp)]
theorem Akq(f:Int)(o:List Int)(v:Int):(Jb f o v).length<=o.length+1:=by
 unfold Jb;split<;>simp
def I5(e:ExprT)(s:List Int×Int)(a:Int):List Int×Int:=
 (Jb (Lg s.2 (evX e nmX a 0).2) s.1 (evX e nmX a 0).1,Lg s.2 (evX e nmX a 0).2)
def H6(e:ExprT)(s:List Int×Int)(a:Int):List Int×Int:=
 (if decide ((evX e nmX a 0).1=1)=true then Jb (Lg s.2 (evX e nmX a 0).2) s.1 a else s.1,Lg s.2 (evX e nmX a 0).2)
def Gx(e:ExprT)(s:List Int×List Int×Int)(a:Int):List Int×List Int×Int:=
 (if decide ((evX e nmX a 0).1=1)=true then Jb (Lg s.2.2 (evX e nmX a 0).2) s.1 a else s.1,
  if decide ((evX e nmX a 0).1=1)=true then s.2.1 else Jb (Lg s.2.2 (evX e nmX a 0).2) s.2.1 a,Lg s.2.2 (evX e nmX a 0).2)
def Ui(z:Int)(o:List Int)(a:Int):List Int:=o++List.replicate z.toNat a
def Nh(z:Int)(s:List Int×Int)(a:Int):List Int×Int:=if decide (s.2<z)=true then(s.1++[a],s.2+1)else s
def Et(s:Int×Int)(a:Int):Int×Int:=(s.1+a,if(bif !Ke (s.1+a)then decide (s.2=0)else false)=true then 14 else s.2)
def Fx(s:List Int×List Int×Int):List Int×List Int×Int:=([],Jb (s.1.foldl Et (0,s.2.2)).2 s.2.1 (s.1.foldl Et (0,s.2.2)).1,(s.1.foldl Et (0,s.2.2)).2)
def Bp(z:Int)(s:List Int×List Int×Int)(a:Int):List Int×List Int×Int:=
 if decide (((s.1++[a]).length:Int)=z)=true then Fx (s.1++[a],s.2)else(s.1++[a],s.2)
def Cf(s:List Int×List Int×Int):List Int×List Int×Int:=if decide (0<(s.1.length:Int))=true then Fx s else s
def Ed:Nat->List Int->List Int->List Int
 |0,_,b=>b
 |_+1,[],b=>b
 |n+1,x::a,b=>x::Ed n b a
def I6(e:ExprT)(a b:List Int)(s:List Int×Int)(i:Nat):List Int×Int:=
 (Jb (Lg s.2 (evX e D8 (a.getD i 0) (b.getD i 0)).2) s.1 (evX e D8 (a.getD i 0) (b.getD i 0)).1,Lg s.2 (evX e D8 (a.getD i 0) (b.getD i 0)).2)
def Cj(x:StT)(ins:List (List Int)):List (List Int)×Int:=
 if x.1=1 then([x.2.2.2],0)
 else if x.1=2 then([((ins.getD 0 []).foldl (I5 x.2.2.1) ([],0)).1],((ins.getD 0 []).foldl (I5 x.2.2.1) ([],0)).2)
 else if x.1=3 then([((ins.getD 0 []).foldl (H6 x.2.2.1) ([],0)).1],((ins.getD 0 []).foldl (H6 x.2.2.1) ([],0)).2)
 else if x.1=4 then([(Cf ((ins.getD 0 []).foldl (Bp x.2.1) ([],[],0))).2.1],(Cf ((ins.getD 0 []).foldl (Bp x.2.1) ([],[],0))).2.2)
 else if x.1=5 then([(ins.getD 0 []).foldl (Ui x.2.1) []],0)
 else if x.1=6 then([((ins.getD 0 []).foldl (Nh x.2.1) ([],0)).1],0)
 else if x.1=7 then([((ins.getD 0 []).foldl (Gx x.2.2.1) ([],[],0)).1,((ins.getD 0 []).foldl (Gx x.2.2.1) ([],[],0)).2.1],((ins.getD 0 []).foldl (Gx x.2.2.1) ([],[],0)).2.2)
 else if x.1=8 then([Ed ((ins.getD 0 []).length+(ins.getD 1 []).length) (ins.getD 0 []) (ins.getD 1 [])],0)
 else if x.1=9 then([((List.range (min (ins.getD 0 []).length (ins.getD 1 []).length)).foldl (I6 x.2.2.1 (ins.getD 0 []) (ins.getD 1 [])) ([],0)).1],((List.range (min (ins.getD 0 []).length (ins.getD 1 []).length)).foldl (I6 x.2.2.1 (ins.getD 0 []) (ins.getD 1 [])) ([],0)).2)
 else([],0)
def Ar(x:StT)(ins:List (List Int)):List (List Int)×Int:=
 if(!decide (Al x=0))=true then([],Al x)else
 if(!decide ((ins.length:Int)=(Ap x.1).1))=true then([],10)else
 if(!decide (Bc ins=0))=true then([],Bc ins)else
 if(!decide ((Cj x ins).2=0))=true then([],(Cj x ins).2)else
 if((Cj x ins).1.any A5)=true then([],4)else
 ((Cj x ins).1,0)
theorem MN0{x:StT}{ins:List (List Int)}(h0:(!decide (Al x=0))=true):(Ar x ins)=([],Al x):=by rw[Ar,aP h0]
theorem D0{x:StT}{ins:List (List Int)}(h0:(!decide (Al x=0))=true):((Ar x ins).1,(Ar x ins).2,())=((([],Al x):List (List Int)×Int).1,(([],Al x):List (List Int)×Int).2,()):=by rw[MN0 h0]
theorem MN1{x:StT}{ins:List (List Int)}(h0:(!decide (Al x=0))=false)(h1:(!decide ((ins.length:Int)=(Ap x.1).1))=true):(Ar x ins)=([],10):=by rw[Ar,aL (by rw[h0];simp),aP h1]
theorem D9{x:StT}{ins:List (List Int)}(h0:(!decide (Al x=0))=false)(h1:(!decide ((ins.length:Int)=(Ap x.1).1))=true):((Ar x ins).1,(Ar x ins).2,())=((([],10):List (List Int)×Int).1,(([],10):List (List Int)×Int).2,()):=by rw[MN1 h0 h1]
theorem MN2{x:StT}{ins:List (List Int)}(h0:(!decide (Al x=0))=false)(h1:(!decide ((ins.length:Int)=(Ap x.1).1))=false)(h2:(!decide (Bc ins=0))=true):(Ar x ins)=([],Bc ins):=by rw[Ar,aL (by rw[h0];simp),aL (by rw[h1];simp),aP h2]
theorem Lt{x:StT}{ins:List (List Int)}(h0:(!decide (Al x=0))=false)(h1:(!decide ((ins.length:Int)=(Ap x.1).1))=false)(h2:(!decide (Bc ins=0))=true):((Ar x ins).1,(Ar x ins).2,())=((([],Bc ins):List (List Int)×Int).1,(([],Bc ins):List (List Int)×Int).2,()):=by rw[MN2 h0 h1 h2]
theorem MN3{x:StT}{ins:List (List Int)}(h0:(!decide (Al x=0))=false)(h1:(!decide ((ins.length:Int)=(Ap x.1).1))=false)(h2:(!decide (Bc ins=0))=false)(h3:(!decide ((Cj x ins).2=0))=true):(Ar x ins)=([],(Cj x ins).2):=by rw[Ar,aL (by rw[h0];simp),aL (by rw[h1];simp),aL (by rw[h2];simp),aP h3]
theorem Ahs{x:StT}{ins:List (List Int)}(h0:(!decide (Al x=0))=false)(h1:(!decide ((ins.length:Int)=(Ap x.1).1))=false)(h2:(!decide (Bc ins=0))=false)(h3:(!decide ((Cj x ins).2=0))=true):((Ar x ins).1,(Ar x ins).2,())=((([],(Cj x ins).2):List (List Int)×Int).1,(([],(Cj x ins).2):List (List Int)×Int).2,()):=by rw[MN3 h0 h1 h2 h3]
theorem MN4{x:StT}{ins:List (List Int)}(h0:(!decide (Al x=0))=false)(h1:(!decide ((ins.length:Int)=(Ap x.1).1))=false)(h2:(!decide (Bc ins=0))=false)(h3:(!decide ((Cj x ins).2=0))=false)(h4:((Cj x ins).1.any A5)=true):(Ar x ins)=([],4):=by rw[Ar,aL (by rw[h0];simp),aL (by rw[h1];simp),aL (by rw[h2];simp),aL (by rw[h3];simp),aP h4]
theorem Vb{x:StT}{ins:List (List Int)}(h0:(!decide (Al x=0))=false)(h1:(!decide ((ins.length:Int)=(Ap x.1).1))=false)(h2:(!decide (Bc ins=0))=false)(h3:(!decide ((Cj x ins).2=0))=false)(h4:((Cj x ins).1.any A5)=true):((Ar x ins).1,(Ar x ins).2,())=((([],4):List (List Int)×Int).1,(([],4):List (List Int)×Int).2,()):=by rw[MN4 h0 h1 h2 h3 h4]
theorem MN5{x:StT}{ins:List (List Int)}(h0:(!decide (Al x=0))=false)(h1:(!decide ((ins.length:Int)=(Ap x.1).1))=false)(h2:(!decide (Bc ins=0))=false)(h3:(!decide ((Cj x ins).2=0))=false)(h4:((Cj x ins).1.any A5)=false):(Ar x ins)=((Cj x ins).1,0):=by rw[Ar,aL (by rw[h0];simp),aL (by rw[h1];simp),aL (by rw[h2];simp),aL (by rw[h3];simp),aL (by rw[h4];simp)]
theorem Uj{x:StT}{ins:List (List Int)}(h0:(!decide (Al x=0))=false)(h1:(!decide ((ins.length:Int)=(Ap x.1).1))=false)(h2:(!decide (Bc ins=0))=false)(h3:(!decide ((Cj x ins).2=0))=false)(h4:((Cj x ins).1.any A5)=false):((Ar x ins).1,(Ar x ins).2,())=((((Cj x ins).1,0):List (List Int)×Int).1,(((Cj x ins).1,0):List (List Int)×Int).2,()):=by rw[MN5 h0 h1 h2 h3 h4]
theorem Hm{x:StT}(h:Al x=0):x.2.2.2.length<=200/\x.2.2.2.any Aj=false:=by
 have hk:=B1 h;rw[Mc hk.1 hk.2]at h;unfold Gb at h;split at h
 ·exact aT h (by decide)
 ·split at h
  ·exact aT h (by decide)
  ·split at h
   ·exact aT h (by decide)
   ·split at h
    ·exact aT h (by decide)
    ·rename_i h3 h4;unfold ck3 at h3;have h5:¬200<(x.2.2.2.length:Int):=by simpa using h3
     exact⟨by omega,by simpa using h4⟩
def Adc(sem:CallSem):CallSem:=λg args H n K=>sem g args H n λx H' n'=>match x with
 |.int k v=>∀w:Int,w=v->K (.int k w) H' n'
 |x=>K x H' n'
theorem Wn{P:Program}{sem:CallSem}(hs:Bb P sem):Bb P (Adc sem):=by
 have key:∀(K:AV->List Ob->Nat->Prop)(x:AV)(H':List Ob)(n':Nat),(match x with
  |.int k v=>∀w:Int,w=v->K (.int k w) H' n'
  |x=>K x H' n')->K x H' n':=by
  intro K x H' n' h;split at h
  ·exact h _ rfl
  ·exact h
 refine⟨λg args H n K h E vs hE hsz hrd=>?_,λid args H n K h E vs hE hsz hrd=>?_⟩
 ·obtain⟨h1,h2⟩:=hs.1 g args H n _ h E vs hE hsz hrd;refine⟨h1,h2.mono ?_⟩;rintro e w' ⟨v,E',x,H',n',k1,k2,k3,k4,k5,k6,k7⟩;exact⟨v,E',x,H',n',k1,k2,k3,k4,k5,k6,key K x H' n' k7⟩
 ·obtain⟨h1,h2⟩:=hs.2 id args H n _ h E vs hE hsz hrd;refine⟨h1,λhd hρ=>?_⟩;obtain⟨fn,tmps,x,y,h3,h4⟩:=h2 hd hρ;refine⟨fn,tmps,x,y,h3,h4.mono ?_⟩;rintro e w' ⟨v,E',z,H',n',k1,k2,k3,k4,k5,k6,k7⟩;exact⟨v,E',z,H',n',k1,k2,k3,k4,k5,k6,key K z H' n' k7⟩
theorem Hy:Bb Tryz.prog (Ba cxM Tryz.prog (Ba cxM Tryz.prog (Ba cxM Tryz.prog (Ba cxM Tryz.prog (Ba cxM Tryz.prog noS))))):=Af Cn (Af Cn (Af Cn (Af Cn (Af Cn Bl))))
theorem Aht:Bb Tryz.prog (Ba cxM Tryz.prog (Ba cxM Tryz.prog (Ba cxM Tryz.prog (Kd 73 (Adc (Ba cxM Tryz.prog noS)) (Ba cxM Tryz.prog noS))))):=
 Af Cn (Af Cn (Af Cn (Da (Wn (Af Cn Bl)) (Af Cn Bl))))
def Jt(k:Int):Prop:=∀(z:Int)(e:ExprT)(l:List Int)(ins:List (List Int)),Al (k,z,e,l)=0->(ins.length:Int)=(Ap k).1->
 ∃call:CallSem,Bb Tryz.prog call/\call 16 (G4 [dSt,Aaj] ((k,z,e,l),ins,())) [] 0 (H0 ⟨none,none,[],Fu Afb ((Ar (k,z,e,l) ins).1,(Ar (k,z,e,l) ins).2,())⟩)
set_option maxHeartbeats 8000000 in
theorem Akr:Jt 1:=by
 intro z e l ins hc hlk;have hl:ins.length=0:=by have h:(ins.length:Int)=0:=hlk;omega
 have hs:=Ax hc;have hit:=(Hm hc).1;replace hit:l.length<=200:=hit;have hroom:l.length<=1000:=by omega
 obtain⟨ek,eo,em,ev,ea⟩:=e;refine⟨_,Hy, ?_⟩;refine(aF (aI tT (aI (λh0=>(Aa rfl (by first|exact D0 ‹_› |exact D9 ‹_› ‹_›))) (λh0=>(aA (λh1=>(aI (λh2=>(Aa rfl (by first|exact D0 ‹_› |exact D9 ‹_› ‹_›))) (λh2=>(λh3=>?_)))))))));refine ex4 _ (λi:Nat=>⟨[.any,.sl (.sl (.int .i64)) ins,.ptr 0 0,.any,.any,.any,.any,.ptr 1 0,.any,.any,.any,.any,.any,.any,.any,.any,.any,.any,.any,.any,.any,.any,.any,.any,.any,.any,.any,.any,.sl (.sl (.int .i64)) ins,.int .i64 (↑ins.length:Int),.int .i64 (i:Int)]++nA 34,[.cells   [.int .i64 1,.int .i64 z,.int .i64 (ExprT.mk ek eo em ev ea).kind,     .int .i64 (ExprT.mk ek eo em ev ea).op,.str (ExprT.mk ek eo em ev ea).name,     .int .i64 (ExprT.mk ek eo em ev ea).value,.sl .expr (ExprT.mk ek eo em ev ea).args,     .sl (.int .i64) l],.cells   [.int .i64 0,.int .i64 1,.int .i64 0,.int .i64 0,.int .i64 0,     .sl .str [],.fn (Fn.func 106) [] [],.fn (Fn.func 105) [] []]],2⟩) (λi=>i<=ins.length/\Bc ins=Bc (ins.drop i)) (λi=>ins.length-i) (aI (eI (0) (eI ([some 0,some 1]) (aI ?_ (aB (aI (aH tT) (by rfl)))))) ?_)
 ·exact⟨aV _,rfl⟩
 rintro i ⟨hi,ht⟩;have hin:decide ((i:Int)<(ins.length:Int))=false->(!decide (Bc ins=0))=false:=λh=>by
  have hi':¬i<ins.length:=by simpa using h
  rw[ht,bK (by omega)];rfl
 have ix:0<0->0<=(0:Int)/\(0:Int)<(ins.length:Int):=λh=>by rw[hl];omega
 have iy:1<0->0<=(1:Int)/\(1:Int)<(ins.length:Int):=λh=>by rw[hl];omega
 have hst:Bc ins=0->∀j,j<ins.length->(ins.getD j (Ab tIs)).length<=200/\(ins.getD j (Ab tIs)).any Aj=false:=λh j hj=>Bi h hj
 refine(aI (λ(k0:decide ((↑i:Int)<(↑ins.length:Int))=true)=>aT (aM k0) (by omega)) (λk0=>(aF (aA (aF (aI (by first|exact⟨by decide,rfl,by decide,by decide⟩|exact ix (by decide)|exact iy (by decide)|exact hroom|(intros;(try subst_vars);(try simp only[nB]at *);(try simp only[inK,big,lim,nL]at *);omega)) (aF (aI (λk1=>(aF (aI (by first|exact⟨by decide,rfl,by decide,by decide⟩|exact ix (by decide)|exact iy (by decide)|exact hroom|(intros;(try subst_vars);(try simp only[nB]at *);(try simp only[inK,big,lim,nL]at *);omega)) (aI (by first|exact⟨by decide,rfl,by decide,by decide⟩|exact ix (by decide)|exact iy (by decide)|exact hroom|(intros;(try subst_vars);(try simp only[nB]at *);(try simp only[inK,big,lim,nL]at *);omega)) (aI (λk2=>nG k2) (λk2=>(aI tT (aI (λk3=>(Aa rfl ?_)) (λk3=>(Aa rfl ?_)))))))))) (λk1=>False.elim (aY (Eq.symm (Eq.trans (by kernel_rfl) k1))))))))))))
 ·have run:Cj (1,z,ExprT.mk ek eo em ev ea,l) ins=([l],0):=rfl;have hs0:=hin k0;exact Vb ‹_› ‹_› hs0 (by rw[run];rfl) (by rw[run];exact k3)
 ·have run:Cj (1,z,ExprT.mk ek eo em ev ea,l) ins=([l],0):=rfl;have hs0:=hin k0;exact(Uj ‹_› ‹_› hs0 (by rw[run];rfl) (by rw[run];exact k3)).trans (by rw[run])
set_option maxHeartbeats 8000000 in
theorem Aks:Jt 2:=by
 intro z e l ins hc hlk;have hl:ins.length=1:=by have h:(ins.length:Int)=1:=hlk;omega
 have hs:=Ax hc;obtain⟨ek,eo,em,ev,ea⟩:=e;refine⟨_,Hy, ?_⟩;refine(aF (aI tT (aI (λh0=>(Aa rfl (by first|exact D0 ‹_› |exact D9 ‹_› ‹_›))) (λh0=>(aA (λh1=>(aI (λh2=>(Aa rfl (by first|exact D0 ‹_› |exact D9 ‹_› ‹_›))) (λh2=>(λh3=>?_)))))))));refine ex4 _ (λi:Nat=>⟨[.any,.sl (.sl (.int .i64)) ins,.ptr 0 0,.any,.any,.any,.any,.ptr 1 0,.any,.any,.any,.any,.any,.any,.any,.any,.any,.any,.any,.any,.any,.any,.any,.any,.any,.any,.any,.any,.sl (.sl (.int .i64)) ins,.int .i64 (↑ins.length:Int),.int .i64 (i:Int)]++nA 34,[.cells   [.int .i64 2,.int .i64 z,.int .i64 (ExprT.mk ek eo em ev ea).kind,     .int .i64 (ExprT.mk ek eo em ev ea).op,.str (ExprT.mk ek eo em ev ea).name,     .int .i64 (ExprT.mk ek eo em ev ea).value,.sl .expr (ExprT.mk ek eo em ev ea).args,     .sl (.int .i64) l],.cells   [.int .i64 1,.int .i64 1,.int .i64 0,.int .i64 0,.int .i64 1,     .sl .str [{ data:=#[120] }],.fn (Fn.func 107) [] [],.fn (Fn.func 105) [] []]],2⟩) (λi=>i<=ins.length/\Bc ins=Bc (ins.drop i)) (λi=>ins.length-i) (aI (eI (0) (eI ([some 0,some 1]) (aI ?_ (aB (aI (aH tT) (by rfl)))))) ?_)
 ·exact⟨aV _,rfl⟩
 rintro i ⟨hi,ht⟩;have hin:decide ((i:Int)<(ins.length:Int))=false->(!decide (Bc ins=0))=false:=λh=>by
  have hi':¬i<ins.length:=by simpa using h
  rw[ht,bK (by omega)];rfl
 have ix:0<1->0<=(0:Int)/\(0:Int)<(ins.length:Int):=λh=>by rw[hl];omega
 have iy:1<1->0<=(1:Int)/\(1:Int)<(ins.length:Int):=λh=>by rw[hl];omega
 have hst:Bc ins=0->∀j,j<ins.length->(ins.getD j (Ab tIs)).length<=200/\(ins.getD j (Ab tIs)).any Aj=false:=λh j hj=>Bi h hj
 refine(aI (λk0=>(aI (by first|exact⟨by decide,rfl,by decide,by decide⟩|exact ix (by decide)|exact iy (by decide)|(intros;(try subst_vars);(try simp only[nB]at *);(try simp only[inK,big,lim,nL]at *);omega)) (λk1=>(aI (λk2=>(Aa rfl ?_)) (λk2=>(aI tT (aI (λk3=>(Aa rfl ?_)) (λk3=>(aI (by first|exact⟨by decide,rfl,by decide,by decide⟩|exact ix (by decide)|exact iy (by decide)|(intros;(try subst_vars);(try simp only[nB]at *);(try simp only[inK,big,lim,nL]at *);omega)) ?_))))))))) (λk0=>(aF (aA (aF (aI (by first|exact⟨by decide,rfl,by decide,by decide⟩|exact ix (by decide)|exact iy (by decide)|(intros;(try subst_vars);(try simp only[nB]at *);(try simp only[inK,big,lim,nL]at *);omega)) (aF (aI (λk4=>nG k4) (λk4=>(aI (λk5=>nG k5) (λk5=>(aI (λk6=>nG k6) (λk6=>(aI (by first|exact⟨by decide,rfl,by decide,by decide⟩|exact ix (by decide)|exact iy (by decide)|(intros;(try subst_vars);(try simp only[nB]at *);(try simp only[inK,big,lim,nL]at *);omega)) (λk7=>?_)))))))))))))))
 ·have hi':i<ins.length:=by simpa using k0
  have hk:A5 (ins.getD i (Ab tIs))=true:=k2;have e4:Bc ins=4:=by rw[ht,A9 hi',aP hk]
  exact(Lt ‹_› ‹_› (by rw[e4];rfl)).trans (by rw[e4])
 ·have hi':i<ins.length:=by simpa using k0
  have hk:¬A5 (ins.getD i (Ab tIs))=true:=by have h:A5 (ins.getD i (Ab tIs))=false:=k2;rw[h];simp
  have hk2:(ins.getD i (Ab tIs)).any Aj=true:=k3;have e4:Bc ins=2:=by rw[ht,A9 hi',aL hk,aP hk2]
  exact(Lt ‹_› ‹_› (by rw[e4];rfl)).trans (by rw[e4])
 ·have hi':i<ins.length:=by simpa using k0
  have hk:¬A5 (ins.getD i (Ab tIs))=true:=by have h:A5 (ins.getD i (Ab tIs))=false:=k2;rw[h];simp
  have hk2:¬(ins.getD i (Ab tIs)).any Aj=true:=by have h:(ins.getD i (Ab tIs)).any Aj=false:=k3;rw[h];simp
  refine eI (i+1) (eI ([some 0,some 1]) (aI ?_ (aI ?_ (aB (aI (aH tT) (by rfl))))))
  ·refine⟨hi', ?_⟩;rw[ht,A9 hi',aL hk,aL hk2]
  ·show ins.length-(i+1)<ins.length-i;omega
 have hs0:=hin k0;have hstr:Bc ins=0:=by simpa using hs0
 obtain⟨hal,han⟩:=Bi hstr (show 0<ins.length by omega);replace hal:(ins.getD 0 []).length<=200:=hal;replace han:(ins.getD 0 []).any Aj=false:=han;clear ht hi hin;refine ex4 _ (λp:Nat×List Int×Int=>⟨[.ptr 6 0,.agg   [.int .i64 1,.int .i64 1,.int .i64 0,.int .i64 0,.int .i64 1,     .sl .str [{ data:=#[120] }],.fn (Fn.func 107) [] [],.fn (Fn.func 105) [] []],.sl (.sl (.int .i64)) ins,.any,.ptr 7 0,.any,.any,.any,.any,.any,.any,.ptr 6 0,.any,.any,.sl (.sl (.int .i64)) ins,.eptr [PV.sl (.int .i64) (ins.getD (Int.toNat 0) (Ab (.sl (.int .i64))))],.sl (.int .i64) (ins.getD (Int.toNat 0) (Ab (.sl (.int .i64)))),.int .i64 (↑(List.length (ins.getD (Int.toNat 0) (Ab (.sl (.int .i64))))):Int),.int .i64 (p.1:Int),.any,.any,.any,.any,.any,.any,.any,.any,.any,.any,.any,.any,.any,.any,.any,.any,.any,.any,.any,.any,.any,.any,.any,.any,.any,.any,.bool (decide (2=8)),.any,.any,.any,.any,.any,.any,.any,.any,.any,.any,.any,.any,.any,.bool (decide (2=9)),.bool (decide (2=9))]++nA 29,[.cells   [.int .i64 2,.int .i64 z,.int .i64 (ExprT.mk ek eo em ev ea).kind,     .int .i64 (ExprT.mk ek eo em ev ea).op,.str (ExprT.mk ek eo em ev ea).name,     .int .i64 (ExprT.mk ek eo em ev ea).value,.sl .expr (ExprT.mk ek eo em ev ea).args,     .sl (.int .i64) l],.cells   [.int .i64 1,.int .i64 1,.int .i64 0,.int .i64 0,.int .i64 1,     .sl .str [{ data:=#[120] }],.fn (Fn.func 107) [] [],.fn (Fn.func 105) [] []],.cells   [.int .i64 2,.int .i64 z,.int .i64 (ExprT.mk ek eo em ev ea).kind,     .int .i64 (ExprT.mk ek eo em ev ea).op,.str (ExprT.mk ek eo em ev ea).name,     .int .i64 (ExprT.mk ek eo em ev ea).value,.sl .expr (ExprT.mk ek eo em ev ea).args,     .sl (.int .i64) l],.cells [.cap0,.int .i64 0,.bool false],.cells   [.int .i64 1,.int .i64 1,.int .i64 0,.int .i64 0,.int .i64 1,     .sl .str [{ data:=#[120] }],.fn (Fn.func 107) [] [],.fn (Fn.func 105) [] []],.cells [.own 8],.cells [.int .i64 2,.int .i64 z,.int .i64 ek,.int .i64 eo,.str em,.int .i64 ev,.sl .expr ea,.sl tI l,.cap0,.int .i64 0,.bool false,.csl tI 5 1,.int .i64 p.2.2,.int .i64 0],.cells   [.int .i64 1,.int .i64 1,.int .i64 0,.int .i64 0,.int .i64 1,     .sl .str [{ data:=#[120] }],.fn (Fn.func 107) [] [],.fn (Fn.func 105) [] []],.rows tI p.2.1],9⟩) (λp=>p.1<=(ins.getD 0 []).length/\p.2=(((ins.getD 0 []).take p.1).foldl (I5 (ExprT.mk ek eo em ev ea)) ([],0))/\p.2.1.length<=p.1) (λp=>(ins.getD 0 []).length-p.1) (aI (eI ((0,([],0))) (eI ([some 0,some 1,some 2,some 3,some 4,some 5,some 6,some 7,none]) (aI ?_ (aB (aI (aJ (aJ (aA tT))) (by rfl)))))) ?_)
 ·exact⟨aV _,rfl,bA _⟩
 rintro⟨j,o,f⟩ ⟨hj,hp,ho⟩;replace hj:j<=(ins.getD 0 []).length:=hj;replace hp:(o,f)=(((ins.getD 0 []).take j).foldl (I5 (ExprT.mk ek eo em ev ea)) ([],0)):=hp;have hnx:j<(ins.getD 0 []).length->((ins.getD 0 []).take (j+1)).foldl (I5 (ExprT.mk ek eo em ev ea)) ([],0)=I5 (ExprT.mk ek eo em ev ea) (o,f) ((ins.getD 0 []).getD j 0):=λh=>by
  rw[Hl _ _ 0 h,<-hp]
 have hen:decide ((j:Int)<((ins.getD 0 []).length:Int))=false->(ins.getD 0 []).foldl (I5 (ExprT.mk ek eo em ev ea)) ([],0)=(o,f):=λh=>by
  have h':¬j<(ins.getD 0 []).length:=by simpa using h
  rw[hp,bL (by omega)]
 replace ho:o.length<=j:=ho;have room:(o.length+1)*8<=lim:=by simp only[lim];omega
 refine(aI (λm0=>(aI (by first|exact room|(intros;(try subst_vars);(try simp only[nB]at *);(try simp only[inK,big,lim,nL]at *);omega)) (aF (aF (aA (aF (aI (by first|exact room|(intros;(try subst_vars);(try simp only[nB]at *);(try simp only[inK,big,lim,nL]at *);omega)) (aI tT (aI (λm1=>(aF (aI (λm2=>(aK (aI (by first|exact room|(intros;(try subst_vars);(try simp only[nB]at *);(try simp only[inK,big,lim,nL]at *);omega)) (aD (aB (aI (by first|exact room|(intros;(try subst_vars);(try simp only[nB]at *);(try simp only[inK,big,lim,nL]at *);omega)) (aD (aC (aA (aI (by first|exact room|(intros;(try subst_vars);(try simp only[nB]at *);(try simp only[inK,big,lim,nL]at *);omega)) (aB (aI (by first|exact room|(intros;(try subst_vars);(try simp only[nB]at *);(try simp only[inK,big,lim,nL]at *);omega)) (aI (by first|exact room|(intros;(try subst_vars);(try simp only[nB]at *);(try simp only[inK,big,lim,nL]at *);omega)) (aI (by first|exact room|(intros;(try subst_vars);(try simp only[nB]at *);(try simp only[inK,big,lim,nL]at *);omega)) (aC (aB (aI (by first|exact room|(intros;(try subst_vars);(try simp only[nB]at *);(try simp only[inK,big,lim,nL]at *);omega)) ?_))))))))))))))))) (λm2=>(aI (by first|exact room|(intros;(try subst_vars);(try simp only[nB]at *);(try simp only[inK,big,lim,nL]at *);omega)) ?_))))) (λm1=>(aF (aI (λm3=>aT (Eq.trans (Eq.symm m1) m3) (by decide)) (λm3=>(aI (by first|exact room|(intros;(try subst_vars);(try simp only[nB]at *);(try simp only[inK,big,lim,nL]at *);omega)) ?_)))))))))))))) (λm0=>(aF (aI (λm4=>(aF (Aa rfl ?_))) (λm4=>(aI tT (aI (λm5=>(Aa rfl ?_)) (λm5=>(Aa rfl ?_)))))))))
 ·have hj':j<(ins.getD 0 []).length:=by simpa using m0
  refine eI ((j+1,o++[(evX (ExprT.mk ek eo em ev ea) nmX ((ins.getD 0 []).getD j 0) 0).1],(evX (ExprT.mk ek eo em ev ea) nmX ((ins.getD 0 []).getD j 0) 0).2)) (eI ([some 0,some 1,some 2,some 3,some 4,some 5,some 6,some 7,some 12]) (aI ?_ (aI ?_ (aB (aI (aJ (aJ (aA tT))) (by rfl))))))
  ·refine⟨hj', ?_,by show(_++[_]).length<=j+1;simp;omega⟩;show _=((ins.getD 0 []).take (j+1)).foldl _ _;rw[hnx hj'];dsimp only[I5];rw[Js m1,Qm (f:=(evX (ExprT.mk ek eo em ev ea) nmX ((ins.getD 0 []).getD j 0) 0).2) (show decide ((evX (ExprT.mk ek eo em ev ea) nmX ((ins.getD 0 []).getD j 0) 0).2=0)=true from m2)]
  ·show(ins.getD 0 []).length-(j+1)<(ins.getD 0 []).length-j;omega
 ·have hj':j<(ins.getD 0 []).length:=by simpa using m0
  refine eI ((j+1,o,(evX (ExprT.mk ek eo em ev ea) nmX ((ins.getD 0 []).getD j 0) 0).2)) (eI ([some 0,some 1,some 2,some 3,some 4,some 5,some 6,some 7,some 8]) (aI ?_ (aI ?_ (aB (aI (aJ (aJ (aA tT))) (by rfl))))))
  ·refine⟨hj', ?_,by show o.length<=j+1;omega⟩;show _=((ins.getD 0 []).take (j+1)).foldl _ _;rw[hnx hj'];dsimp only[I5];rw[Js m1,Lh (f:=(evX (ExprT.mk ek eo em ev ea) nmX ((ins.getD 0 []).getD j 0) 0).2) (show decide ((evX (ExprT.mk ek eo em ev ea) nmX ((ins.getD 0 []).getD j 0) 0).2=0)=false from m2)]
  ·show(ins.getD 0 []).length-(j+1)<(ins.getD 0 []).length-j;omega
 ·have hj':j<(ins.getD 0 []).length:=by simpa using m0
  refine eI ((j+1,o,f)) (eI ([some 0,some 1,some 2,some 3,some 4,some 5,some 6,some 7,some 8]) (aI ?_ (aI ?_ (aB (aI (aJ (aJ (aA tT))) (by rfl))))))
  ·refine⟨hj', ?_,by show o.length<=j+1;omega⟩;show _=((ins.getD 0 []).take (j+1)).foldl _ _;rw[hnx hj'];dsimp only[I5];rw[Uh m1,Lh m1]
  ·show(ins.getD 0 []).length-(j+1)<(ins.getD 0 []).length-j;omega
 ·skip
  have run:Cj (2,z,ExprT.mk ek eo em ev ea,l) ins=([o],f):=by
   show([((ins.getD 0 []).foldl (I5 (ExprT.mk ek eo em ev ea)) ([],0)).1],((ins.getD 0 []).foldl (I5 (ExprT.mk ek eo em ev ea)) ([],0)).2)=_;rw[hen m0]
  exact(Ahs ‹_› ‹_› hs0 (by rw[run];exact m4)).trans (by rw[run])
 ·skip
  have run:Cj (2,z,ExprT.mk ek eo em ev ea,l) ins=([o],f):=by
   show([((ins.getD 0 []).foldl (I5 (ExprT.mk ek eo em ev ea)) ([],0)).1],((ins.getD 0 []).foldl (I5 (ExprT.mk ek eo em ev ea)) ([],0)).2)=_;rw[hen m0]
  exact Vb ‹_› ‹_› hs0 (by rw[run];exact m4) (by rw[run];exact m5)
 ·skip
  have run:Cj (2,z,ExprT.mk ek eo em ev ea,l) ins=([o],f):=by
   show([((ins.getD 0 []).foldl (I5 (ExprT.mk ek eo em ev ea)) ([],0)).1],((ins.getD 0 []).foldl (I5 (ExprT.mk ek eo em ev ea)) ([],0)).2)=_;rw[hen m0]
  exact(Uj ‹_› ‹_› hs0 (by rw[run];exact m4) (by rw[run];exact m5)).trans (by rw[run])
set_option maxHeartbeats 8000000 in
theorem Akt:Jt 3:=by
 intro z e l ins hc hlk;have hl:ins.length=1:=by have h:(ins.length:Int)=1:=hlk;omega
 have hs:=Ax hc;obtain⟨ek,eo,em,ev,ea⟩:=e;refine⟨_,Hy, ?_⟩;refine(aF (aI tT (aI (λh0=>(Aa rfl (by first|exact D0 ‹_› |exact D9 ‹_› ‹_›))) (λh0=>(aA (λh1=>(aI (λh2=>(Aa rfl (by first|exact D0 ‹_› |exact D9 ‹_› ‹_›))) (λh2=>(λh3=>?_)))))))));refine ex4 _ (λi:Nat=>⟨[.any,.sl (.sl (.int .i64)) ins,.ptr 0 0,.any,.any,.any,.any,.ptr 1 0,.any,.any,.any,.any,.any,.any,.any,.any,.any,.any,.any,.any,.any,.any,.any,.any,.any,.any,.any,.any,.sl (.sl (.int .i64)) ins,.int .i64 (↑ins.length:Int),.int .i64 (i:Int)]++nA 34,[.cells   [.int .i64 3,.int .i64 z,.int .i64 (ExprT.mk ek eo em ev ea).kind,     .int .i64 (ExprT.mk ek eo em ev ea).op,.str (ExprT.mk ek eo em ev ea).name,     .int .i64 (ExprT.mk ek eo em ev ea).value,.sl .expr (ExprT.mk ek eo em ev ea).args,     .sl (.int .i64) l],.cells   [.int .i64 1,.int .i64 1,.int .i64 0,.int .i64 0,.int .i64 2,     .sl .str [{ data:=#[120] }],.fn (Fn.func 108) [] [],.fn (Fn.func 105) [] []]],2⟩) (λi=>i<=ins.length/\Bc ins=Bc (ins.drop i)) (λi=>ins.length-i) (aI (eI (0) (eI ([some 0,some 1]) (aI ?_ (aB (aI (aH tT) (by rfl)))))) ?_)
 ·exact⟨aV _,rfl⟩
 rintro i ⟨hi,ht⟩;have hin:decide ((i:Int)<(ins.length:Int))=false->(!decide (Bc ins=0))=false:=λh=>by
  have hi':¬i<ins.length:=by simpa using h
  rw[ht,bK (by omega)];rfl
 have ix:0<1->0<=(0:Int)/\(0:Int)<(ins.length:Int):=λh=>by rw[hl];omega
 have iy:1<1->0<=(1:Int)/\(1:Int)<(ins.length:Int):=λh=>by rw[hl];omega
 have hst:Bc ins=0->∀j,j<ins.length->(ins.getD j (Ab tIs)).length<=200/\(ins.getD j (Ab tIs)).any Aj=false:=λh j hj=>Bi h hj
 refine(aI (λk0=>(aI (by first|exact⟨by decide,rfl,by decide,by decide⟩|exact ix (by decide)|exact iy (by decide)|(intros;(try subst_vars);(try simp only[nB]at *);(try simp only[inK,big,lim,nL]at *);omega)) (λk1=>(aI (λk2=>(Aa rfl ?_)) (λk2=>(aI tT (aI (λk3=>(Aa rfl ?_)) (λk3=>(aI (by first|exact⟨by decide,rfl,by decide,by decide⟩|exact ix (by decide)|exact iy (by decide)|(intros;(try subst_vars);(try simp only[nB]at *);(try simp only[inK,big,lim,nL]at *);omega)) ?_))))))))) (λk0=>(aF (aA (aF (aI (by first|exact⟨by decide,rfl,by decide,by decide⟩|exact ix (by decide)|exact iy (by decide)|(intros;(try subst_vars);(try simp only[nB]at *);(try simp only[inK,big,lim,nL]at *);omega)) (aF (aI (λk4=>nG k4) (λk4=>(aI (λk5=>nG k5) (λk5=>(aI (λk6=>nG k6) (λk6=>(aI (by first|exact⟨by decide,rfl,by decide,by decide⟩|exact ix (by decide)|exact iy (by decide)|(intros;(try subst_vars);(try simp only[nB]at *);(try simp only[inK,big,lim,nL]at *);omega)) (λk7=>?_)))))))))))))))
 ·have hi':i<ins.length:=by simpa using k0
  have hk:A5 (ins.getD i (Ab tIs))=true:=k2;have e4:Bc ins=4:=by rw[ht,A9 hi',aP hk]
  exact(Lt ‹_› ‹_› (by rw[e4];rfl)).trans (by rw[e4])
 ·have hi':i<ins.length:=by simpa using k0
  have hk:¬A5 (ins.getD i (Ab tIs))=true:=by have h:A5 (ins.getD i (Ab tIs))=false:=k2;rw[h];simp
  have hk2:(ins.getD i (Ab tIs)).any Aj=true:=k3;have e4:Bc ins=2:=by rw[ht,A9 hi',aL hk,aP hk2]
  exact(Lt ‹_› ‹_› (by rw[e4];rfl)).trans (by rw[e4])
 ·have hi':i<ins.length:=by simpa using k0
  have hk:¬A5 (ins.getD i (Ab tIs))=true:=by have h:A5 (ins.getD i (Ab tIs))=false:=k2;rw[h];simp
  have hk2:¬(ins.getD i (Ab tIs)).any Aj=true:=by have h:(ins.getD i (Ab tIs)).any Aj=false:=k3;rw[h];simp
  refine eI (i+1) (eI ([some 0,some 1]) (aI ?_ (aI ?_ (aB (aI (aH tT) (by rfl))))))
  ·refine⟨hi', ?_⟩;rw[ht,A9 hi',aL hk,aL hk2]
  ·show ins.length-(i+1)<ins.length-i;omega
 have hs0:=hin k0;have hstr:Bc ins=0:=by simpa using hs0
 obtain⟨hal,han⟩:=Bi hstr (show 0<ins.length by omega);replace hal:(ins.getD 0 []).length<=200:=hal;replace han:(ins.getD 0 []).any Aj=false:=han;clear ht hi hin;refine ex4 _ (λp:Nat×List Int×Int=>⟨[.ptr 6 0,.agg   [.int .i64 1,.int .i64 1,.int .i64 0,.int .i64 0,.int .i64 2,     .sl .str [{ data:=#[120] }],.fn (Fn.func 108) [] [],.fn (Fn.func 105) [] []],.sl (.sl (.int .i64)) ins,.any,.ptr 7 0,.any,.any,.any,.any,.any,.any,.ptr 6 0,.any,.any,.sl (.sl (.int .i64)) ins,.eptr [PV.sl (.int .i64) (ins.getD (Int.toNat 0) (Ab (.sl (.int .i64))))],.sl (.int .i64) (ins.getD (Int.toNat 0) (Ab (.sl (.int .i64)))),.int .i64 (↑(List.length (ins.getD (Int.toNat 0) (Ab (.sl (.int .i64))))):Int),.int .i64 (p.1:Int),.any,.any,.any,.any,.any,.any,.any,.any,.any,.any,.any,.any,.any,.any,.any,.any,.any,.any,.any,.any,.any,.any,.any,.any,.any,.any,.bool (decide (3=8)),.any,.any,.any,.any,.any,.any,.any,.any,.any,.any,.any,.any,.any,.bool (decide (3=9)),.bool (decide (3=9))]++nA 29,[.cells   [.int .i64 3,.int .i64 z,.int .i64 (ExprT.mk ek eo em ev ea).kind,     .int .i64 (ExprT.mk ek eo em ev ea).op,.str (ExprT.mk ek eo em ev ea).name,     .int .i64 (ExprT.mk ek eo em ev ea).value,.sl .expr (ExprT.mk ek eo em ev ea).args,     .sl (.int .i64) l],.cells   [.int .i64 1,.int .i64 1,.int .i64 0,.int .i64 0,.int .i64 2,     .sl .str [{ data:=#[120] }],.fn (Fn.func 108) [] [],.fn (Fn.func 105) [] []],.cells   [.int .i64 3,.int .i64 z,.int .i64 (ExprT.mk ek eo em ev ea).kind,     .int .i64 (ExprT.mk ek eo em ev ea).op,.str (ExprT.mk ek eo em ev ea).name,     .int .i64 (ExprT.mk ek eo em ev ea).value,.sl .expr (ExprT.mk ek eo em ev ea).args,     .sl (.int .i64) l],.cells [.cap0,.int .i64 0,.bool false],.cells   [.int .i64 1,.int .i64 1,.int .i64 0,.int .i64 0,.int .i64 2,     .sl .str [{ data:=#[120] }],.fn (Fn.func 108) [] [],.fn (Fn.func 105) [] []],.cells [.own 8],.cells [.int .i64 3,.int .i64 z,.int .i64 ek,.int .i64 eo,.str em,.int .i64 ev,.sl .expr ea,.sl tI l,.cap0,.int .i64 0,.bool false,.csl tI 5 1,.int .i64 p.2.2,.int .i64 0],.cells   [.int .i64 1,.int .i64 1,.int .i64 0,.int .i64 0,.int .i64 2,     .sl .str [{ data:=#[120] }],.fn (Fn.func 108) [] [],.fn (Fn.func 105) [] []],.rows tI p.2.1],9⟩) (λp=>p.1<=(ins.getD 0 []).length/\p.2=(((ins.getD 0 []).take p.1).foldl (H6 (ExprT.mk ek eo em ev ea)) ([],0))/\p.2.1.length<=p.1) (λp=>(ins.getD 0 []).length-p.1) (aI (eI ((0,([],0))) (eI ([some 0,some 1,some 2,some 3,some 4,some 5,some 6,some 7,none]) (aI ?_ (aB (aI (aJ (aJ (aA tT))) (by rfl)))))) ?_)
 ·exact⟨aV _,rfl,bA _⟩
 rintro⟨j,o,f⟩ ⟨hj,hp,ho⟩;replace hj:j<=(ins.getD 0 []).length:=hj;replace hp:(o,f)=(((ins.getD 0 []).take j).foldl (H6 (ExprT.mk ek eo em ev ea)) ([],0)):=hp;have hnx:j<(ins.getD 0 []).length->((ins.getD 0 []).take (j+1)).foldl (H6 (ExprT.mk ek eo em ev ea)) ([],0)=H6 (ExprT.mk ek eo em ev ea) (o,f) ((ins.getD 0 []).getD j 0):=λh=>by
  rw[Hl _ _ 0 h,<-hp]
 have hen:decide ((j:Int)<((ins.getD 0 []).length:Int))=false->(ins.getD 0 []).foldl (H6 (ExprT.mk ek eo em ev ea)) ([],0)=(o,f):=λh=>by
  have h':¬j<(ins.getD 0 []).length:=by simpa using h
  rw[hp,bL (by omega)]
 replace ho:o.length<=j:=ho;have room:(o.length+1)*8<=lim:=by simp only[lim];omega
 refine(aI (λm0=>(aI (by first|exact room|(intros;(try subst_vars);(try simp only[nB]at *);(try simp only[inK,big,lim,nL]at *);omega)) (aF (aF (aA (aF (aI (by first|exact room|(intros;(try subst_vars);(try simp only[nB]at *);(try simp only[inK,big,lim,nL]at *);omega)) (aI tT (aI (λm1=>(aI (λm2=>(aF (aI (λm3=>(aK (aI (by first|exact room|(intros;(try subst_vars);(try simp only[nB]at *);(try simp only[inK,big,lim,nL]at *);omega)) (aD (aB (aI (by first|exact room|(intros;(try subst_vars);(try simp only[nB]at *);(try simp only[inK,big,lim,nL]at *);omega)) (aD (aC (aA (aI (by first|exact room|(intros;(try subst_vars);(try simp only[nB]at *);(try simp only[inK,big,lim,nL]at *);omega)) (aB (aI (by first|exact room|(intros;(try subst_vars);(try simp only[nB]at *);(try simp only[inK,big,lim,nL]at *);omega)) (aI (by first|exact room|(intros;(try subst_vars);(try simp only[nB]at *);(try simp only[inK,big,lim,nL]at *);omega)) (aI (by first|exact room|(intros;(try subst_vars);(try simp only[nB]at *);(try simp only[inK,big,lim,nL]at *);omega)) (aC (aB (aI (by first|exact room|(intros;(try subst_vars);(try simp only[nB]at *);(try simp only[inK,big,lim,nL]at *);omega)) ?_))))))))))))))))) (λm3=>(aI (by first|exact room|(intros;(try subst_vars);(try simp only[nB]at *);(try simp only[inK,big,lim,nL]at *);omega)) ?_))))) (λm2=>(aI (by first|exact room|(intros;(try subst_vars);(try simp only[nB]at *);(try simp only[inK,big,lim,nL]at *);omega)) ?_)))) (λm1=>(aI (λm4=>(aF (aI (λm5=>aT (Eq.trans (Eq.symm m1) m5) (by decide)) (λm5=>(aI (by first|exact room|(intros;(try subst_vars);(try simp only[nB]at *);(try simp only[inK,big,lim,nL]at *);omega)) ?_))))) (λm4=>(aI (by first|exact room|(intros;(try subst_vars);(try simp only[nB]at *);(try simp only[inK,big,lim,nL]at *);omega)) ?_))))))))))))) (λm0=>(aF (aI (λm6=>(aF (Aa rfl ?_))) (λm6=>(aI tT (aI (λm7=>(Aa rfl ?_)) (λm7=>(Aa rfl ?_)))))))))
 ·have hj':j<(ins.getD 0 []).length:=by simpa using m0
  refine eI ((j+1,o++[(ins.getD 0 []).getD j 0],(evX (ExprT.mk ek eo em ev ea) nmX ((ins.getD 0 []).getD j 0) 0).2)) (eI ([some 0,some 1,some 2,some 3,some 4,some 5,some 6,some 7,some 12]) (aI ?_ (aI ?_ (aB (aI (aJ (aJ (aA tT))) (by rfl))))))
  ·refine⟨hj', ?_,by show(_++[_]).length<=j+1;simp;omega⟩;show _=((ins.getD 0 []).take (j+1)).foldl _ _;rw[hnx hj'];dsimp only[H6];rw[Js m1,aP (show decide ((evX (ExprT.mk ek eo em ev ea) nmX ((ins.getD 0 []).getD j 0) 0).1=1)=true from m2),Qm (f:=(evX (ExprT.mk ek eo em ev ea) nmX ((ins.getD 0 []).getD j 0) 0).2) (show decide ((evX (ExprT.mk ek eo em ev ea) nmX ((ins.getD 0 []).getD j 0) 0).2=0)=true from m3)]
  ·show(ins.getD 0 []).length-(j+1)<(ins.getD 0 []).length-j;omega
 ·have hj':j<(ins.getD 0 []).length:=by simpa using m0
  refine eI ((j+1,o,(evX (ExprT.mk ek eo em ev ea) nmX ((ins.getD 0 []).getD j 0) 0).2)) (eI ([some 0,some 1,some 2,some 3,some 4,some 5,some 6,some 7,some 8]) (aI ?_ (aI ?_ (aB (aI (aJ (aJ (aA tT))) (by rfl))))))
  ·refine⟨hj', ?_,by show o.length<=j+1;omega⟩;show _=((ins.getD 0 []).take (j+1)).foldl _ _;rw[hnx hj'];dsimp only[H6];rw[Js m1,aP (show decide ((evX (ExprT.mk ek eo em ev ea) nmX ((ins.getD 0 []).getD j 0) 0).1=1)=true from m2),Lh (f:=(evX (ExprT.mk ek eo em ev ea) nmX ((ins.getD 0 []).getD j 0) 0).2) (show decide ((evX (ExprT.mk ek eo em ev ea) nmX ((ins.getD 0 []).getD j 0) 0).2=0)=false from m3)]
  ·show(ins.getD 0 []).length-(j+1)<(ins.getD 0 []).length-j;omega
 ·have hj':j<(ins.getD 0 []).length:=by simpa using m0
  refine eI ((j+1,o,(evX (ExprT.mk ek eo em ev ea) nmX ((ins.getD 0 []).getD j 0) 0).2)) (eI ([some 0,some 1,some 2,some 3,some 4,some 5,some 6,some 7,some 8]) (aI ?_ (aI ?_ (aB (aI (aJ (aJ (aA tT))) (by rfl))))))
  ·refine⟨hj', ?_,by show o.length<=j+1;omega⟩;show _=((ins.getD 0 []).take (j+1)).foldl _ _;rw[hnx hj'];dsimp only[H6];rw[Js m1,aL (by rw[(show decide ((evX (ExprT.mk ek eo em ev ea) nmX ((ins.getD 0 []).getD j 0) 0).1=1)=false from m2)];simp)]
  ·show(ins.getD 0 []).length-(j+1)<(ins.getD 0 []).length-j;omega
 ·have hj':j<(ins.getD 0 []).length:=by simpa using m0
  refine eI ((j+1,o,f)) (eI ([some 0,some 1,some 2,some 3,some 4,some 5,some 6,some 7,some 8]) (aI ?_ (aI ?_ (aB (aI (aJ (aJ (aA tT))) (by rfl))))))
  ·refine⟨hj', ?_,by show o.length<=j+1;omega⟩;show _=((ins.getD 0 []).take (j+1)).foldl _ _;rw[hnx hj'];dsimp only[H6];rw[Uh m1,aP (show decide ((evX (ExprT.mk ek eo em ev ea) nmX ((ins.getD 0 []).getD j 0) 0).1=1)=true from m4),Lh m1]
  ·show(ins.getD 0 []).length-(j+1)<(ins.getD 0 []).length-j;omega
 ·have hj':j<(ins.getD 0 []).length:=by simpa using m0
  refine eI ((j+1,o,f)) (eI ([some 0,some 1,some 2,some 3,some 4,some 5,some 6,some 7,some 8]) (aI ?_ (aI ?_ (aB (aI (aJ (aJ (aA tT))) (by rfl))))))
  ·refine⟨hj', ?_,by show o.length<=j+1;omega⟩;show _=((ins.getD 0 []).take (j+1)).foldl _ _;rw[hnx hj'];dsimp only[H6];rw[Uh m1,aL (by rw[(show decide ((evX (ExprT.mk ek eo em ev ea) nmX ((ins.getD 0 []).getD j 0) 0).1=1)=false from m4)];simp)]
  ·show(ins.getD 0 []).length-(j+1)<(ins.getD 0 []).length-j;omega
 ·skip
  have run:Cj (3,z,ExprT.mk ek eo em ev ea,l) ins=([o],f):=by
   show([((ins.getD 0 []).foldl (H6 (ExprT.mk ek eo em ev ea)) ([],0)).1],((ins.getD 0 []).foldl (H6 (ExprT.mk ek eo em ev ea)) ([],0)).2)=_;rw[hen m0]
  exact(Ahs ‹_› ‹_› hs0 (by rw[run];exact m6)).trans (by rw[run])
 ·skip
  have run:Cj (3,z,ExprT.mk ek eo em ev ea,l) ins=([o],f):=by
   show([((ins.getD 0 []).foldl (H6 (ExprT.mk ek eo em ev ea)) ([],0)).1],((ins.getD 0 []).foldl (H6 (ExprT.mk ek eo em ev ea)) ([],0)).2)=_;rw[hen m0]
  exact Vb ‹_› ‹_› hs0 (by rw[run];exact m6) (by rw[run];exact m7)
 ·skip
  have run:Cj (3,z,ExprT.mk ek eo em ev ea,l) ins=([o],f):=by
   show([((ins.getD 0 []).foldl (H6 (ExprT.mk ek eo em ev ea)) ([],0)).1],((ins.getD 0 []).foldl (H6 (ExprT.mk ek eo em ev ea)) ([],0)).2)=_;rw[hen m0]
  exact(Uj ‹_› ‹_› hs0 (by rw[run];exact m6) (by rw[run];exact m7)).trans (by rw[run])
set_option maxHeartbeats 8000000 in
theorem Aku:Jt 5:=by
 intro z e l ins hc hlk;have hl:ins.length=1:=by have h:(ins.length:Int)=1:=hlk;omega
 have hs:=Ax hc;obtain⟨ek,eo,em,ev,ea⟩:=e;refine⟨_,Hy, ?_⟩;refine(aF (aI tT (aI (λh0=>(Aa rfl (by first|exact D0 ‹_› |exact D9 ‹_› ‹_›))) (λh0=>(aA (λh1=>(aI (λh2=>(Aa rfl (by first|exact D0 ‹_› |exact D9 ‹_› ‹_›))) (λh2=>(λh3=>?_)))))))));refine ex4 _ (λi:Nat=>⟨[.any,.sl (.sl (.int .i64)) ins,.ptr 0 0,.any,.any,.any,.any,.ptr 1 0,.any,.any,.any,.any,.any,.any,.any,.any,.any,.any,.any,.any,.any,.any,.any,.any,.any,.any,.any,.any,.sl (.sl (.int .i64)) ins,.int .i64 (↑ins.length:Int),.int .i64 (i:Int)]++nA 34,[.cells   [.int .i64 5,.int .i64 z,.int .i64 (ExprT.mk ek eo em ev ea).kind,     .int .i64 (ExprT.mk ek eo em ev ea).op,.str (ExprT.mk ek eo em ev ea).name,     .int .i64 (ExprT.mk ek eo em ev ea).value,.sl .expr (ExprT.mk ek eo em ev ea).args,     .sl (.int .i64) l],.cells   [.int .i64 1,.int .i64 1,.int .i64 0,.int .i64 100,.int .i64 0,     .sl .str [],.fn (Fn.func 112) [] [],.fn (Fn.func 105) [] []]],2⟩) (λi=>i<=ins.length/\Bc ins=Bc (ins.drop i)) (λi=>ins.length-i) (aI (eI (0) (eI ([some 0,some 1]) (aI ?_ (aB (aI (aH tT) (by rfl)))))) ?_)
 ·exact⟨aV _,rfl⟩
 rintro i ⟨hi,ht⟩;have hin:decide ((i:Int)<(ins.length:Int))=false->(!decide (Bc ins=0))=false:=λh=>by
  have hi':¬i<ins.length:=by simpa using h
  rw[ht,bK (by omega)];rfl
 have ix:0<1->0<=(0:Int)/\(0:Int)<(ins.length:Int):=λh=>by rw[hl];omega
 have iy:1<1->0<=(1:Int)/\(1:Int)<(ins.length:Int):=λh=>by rw[hl];omega
 have hst:Bc ins=0->∀j,j<ins.length->(ins.getD j (Ab tIs)).length<=200/\(ins.getD j (Ab tIs)).any Aj=false:=λh j hj=>Bi h hj
 refine(aI (λk0=>(aI (by first|exact⟨by decide,rfl,by decide,by decide⟩|exact ix (by decide)|exact iy (by decide)|(intros;(try subst_vars);(try simp only[nB]at *);(try simp only[inK,big,lim,nL]at *);omega)) (λk1=>(aI (λk2=>(Aa rfl ?_)) (λk2=>(aI tT (aI (λk3=>(Aa rfl ?_)) (λk3=>(aI (by first|exact⟨by decide,rfl,by decide,by decide⟩|exact ix (by decide)|exact iy (by decide)|(intros;(try subst_vars);(try simp only[nB]at *);(try simp only[inK,big,lim,nL]at *);omega)) ?_))))))))) (λk0=>(aF (aA (aF (aI (by first|exact⟨by decide,rfl,by decide,by decide⟩|exact ix (by decide)|exact iy (by decide)|(intros;(try subst_vars);(try simp only[nB]at *);(try simp only[inK,big,lim,nL]at *);omega)) (aF (aI (λk4=>nG k4) (λk4=>(aI (λk5=>nG k5) (λk5=>(aI (λk6=>nG k6) (λk6=>(aI (by first|exact⟨by decide,rfl,by decide,by decide⟩|exact ix (by decide)|exact iy (by decide)|(intros;(try subst_vars);(try simp only[nB]at *);(try simp only[inK,big,lim,nL]at *);omega)) (λk7=>?_)))))))))))))))
 ·have hi':i<ins.length:=by simpa using k0
  have hk:A5 (ins.getD i (Ab tIs))=true:=k2;have e4:Bc ins=4:=by rw[ht,A9 hi',aP hk]
  exact(Lt ‹_› ‹_› (by rw[e4];rfl)).trans (by rw[e4])
 ·have hi':i<ins.length:=by simpa using k0
  have hk:¬A5 (ins.getD i (Ab tIs))=true:=by have h:A5 (ins.getD i (Ab tIs))=false:=k2;rw[h];simp
  have hk2:(ins.getD i (Ab tIs)).any Aj=true:=k3;have e4:Bc ins=2:=by rw[ht,A9 hi',aL hk,aP hk2]
  exact(Lt ‹_› ‹_› (by rw[e4];rfl)).trans (by rw[e4])
 ·have hi':i<ins.length:=by simpa using k0
  have hk:¬A5 (ins.getD i (Ab tIs))=true:=by have h:A5 (ins.getD i (Ab tIs))=false:=k2;rw[h];simp
  have hk2:¬(ins.getD i (Ab tIs)).any Aj=true:=by have h:(ins.getD i (Ab tIs)).any Aj=false:=k3;rw[h];simp
  refine eI (i+1) (eI ([some 0,some 1]) (aI ?_ (aI ?_ (aB (aI (aH tT) (by rfl))))))
  ·refine⟨hi', ?_⟩;rw[ht,A9 hi',aL hk,aL hk2]
  ·show ins.length-(i+1)<ins.length-i;omega
 have hs0:=hin k0;have hstr:Bc ins=0:=by simpa using hs0
 obtain⟨hal,han⟩:=Bi hstr (show 0<ins.length by omega);replace hal:(ins.getD 0 []).length<=200:=hal;replace han:(ins.getD 0 []).any Aj=false:=han;clear ht hi hin;refine ex4 _ (λp:Nat×List Int=>⟨[.ptr 6 0,.agg   [.int .i64 1,.int .i64 1,.int .i64 0,.int .i64 100,.int .i64 0,     .sl .str [],.fn (Fn.func 112) [] [],.fn (Fn.func 105) [] []],.sl (.sl (.int .i64)) ins,.any,.ptr 7 0,.any,.any,.any,.any,.any,.any,.ptr 6 0,.any,.any,.sl (.sl (.int .i64)) ins,.eptr [PV.sl (.int .i64) (ins.getD (Int.toNat 0) (Ab (.sl (.int .i64))))],.sl (.int .i64) (ins.getD (Int.toNat 0) (Ab (.sl (.int .i64)))),.int .i64 (↑(List.length (ins.getD (Int.toNat 0) (Ab (.sl (.int .i64))))):Int),.int .i64 (p.1:Int),.any,.any,.any,.any,.any,.any,.any,.any,.any,.any,.any,.any,.any,.any,.any,.any,.any,.any,.any,.any,.any,.any,.any,.any,.any,.any,.bool (decide (5=8)),.any,.any,.any,.any,.any,.any,.any,.any,.any,.any,.any,.any,.any,.bool (decide (5=9)),.bool (decide (5=9))]++nA 29,[.cells   [.int .i64 5,.int .i64 z,.int .i64 (ExprT.mk ek eo em ev ea).kind,     .int .i64 (ExprT.mk ek eo em ev ea).op,.str (ExprT.mk ek eo em ev ea).name,     .int .i64 (ExprT.mk ek eo em ev ea).value,.sl .expr (ExprT.mk ek eo em ev ea).args,     .sl (.int .i64) l],.cells   [.int .i64 1,.int .i64 1,.int .i64 0,.int .i64 100,.int .i64 0,     .sl .str [],.fn (Fn.func 112) [] [],.fn (Fn.func 105) [] []],.cells   [.int .i64 5,.int .i64 z,.int .i64 (ExprT.mk ek eo em ev ea).kind,     .int .i64 (ExprT.mk ek eo em ev ea).op,.str (ExprT.mk ek eo em ev ea).name,     .int .i64 (ExprT.mk ek eo em ev ea).value,.sl .expr (ExprT.mk ek eo em ev ea).args,     .sl (.int .i64) l],.cells [.cap0,.int .i64 0,.bool false],.cells   [.int .i64 1,.int .i64 1,.int .i64 0,.int .i64 100,.int .i64 0,     .sl .str [],.fn (Fn.func 112) [] [],.fn (Fn.func 105) [] []],.cells [.own 8],.cells   [.int .i64 5,.int .i64 z,.int .i64 (ExprT.mk ek eo em ev ea).kind,     .int .i64 (ExprT.mk ek eo em ev ea).op,.str (ExprT.mk ek eo em ev ea).name,     .int .i64 (ExprT.mk ek eo em ev ea).value,.sl .expr (ExprT.mk ek eo em ev ea).args,     .sl (.int .i64) l,.cap0,.int .i64 0,.bool false,.csl tI 5 (Int.toNat 1),     .int .i64 0,.int .i64 0],.cells   [.int .i64 1,.int .i64 1,.int .i64 0,.int .i64 100,.int .i64 0,     .sl .str [],.fn (Fn.func 112) [] [],.fn (Fn.func 105) [] []],.rows tI p.2],9⟩) (λp=>p.1<=(ins.getD 0 []).length/\p.2=(((ins.getD 0 []).take p.1).foldl (Ui z) ([]:List Int))/\p.2.length<=200*p.1) (λp=>(ins.getD 0 []).length-p.1) (aI (eI ((0,([]:List Int))) (eI ([some 0,some 1,some 2,some 3,some 4,some 5,some 6,some 7,none]) (aI ?_ (aB (aI (aJ (aJ (aA tT))) (by rfl)))))) ?_)
 ·exact⟨aV _,rfl,bA _⟩
 rintro⟨j,o⟩ ⟨hj,hp,ho⟩;replace hj:j<=(ins.getD 0 []).length:=hj;replace hp:o=(((ins.getD 0 []).take j).foldl (Ui z) ([]:List Int)):=hp;have hnx:j<(ins.getD 0 []).length->((ins.getD 0 []).take (j+1)).foldl (Ui z) ([]:List Int)=Ui z o ((ins.getD 0 []).getD j 0):=λh=>by
  rw[Hl _ _ 0 h,<-hp]
 have hen:decide ((j:Int)<((ins.getD 0 []).length:Int))=false->(ins.getD 0 []).foldl (Ui z) ([]:List Int)=o:=λh=>by
  have h':¬j<(ins.getD 0 []).length:=by simpa using h
  rw[hp,bL (by omega)]
 replace ho:o.length<=200*j:=ho;have hz:0<=z/\z<=200:=⟨hs.1,hs.2.1⟩;refine(aI (λm0=>(aI (by first|(intros;(try subst_vars);(try simp only[nB]at *);(try simp only[inK,big,lim,nL]at *);omega)) (aF ?_))) (λm0=>(aF (aI (λm1=>nG m1) (λm1=>(aI tT (aI (λm2=>(Aa rfl ?_)) (λm2=>(Aa rfl ?_)))))))))
 ·have hj':j<(ins.getD 0 []).length:=by simpa using m0
  refine ex4 _ (λq:Nat=>⟨[.ptr 6 0,.int .i64 0,.int .i64   ((ins.getD (Int.toNat 0) (Ab (.sl (.int .i64)))).getD (↑j:Int).toNat (Ab (.int .i64))),.any,.any,.any,.any,.ptr 6 0,.ptr 6 0,.any,.int .i64 z,.int .i64 (q:Int),.any,.any,.any,.any,.any],[.cells   [.int .i64 5,.int .i64 z,.int .i64 (ExprT.mk ek eo em ev ea).kind,     .int .i64 (ExprT.mk ek eo em ev ea).op,.str (ExprT.mk ek eo em ev ea).name,     .int .i64 (ExprT.mk ek eo em ev ea).value,.sl .expr (ExprT.mk ek eo em ev ea).args,     .sl (.int .i64) l],.cells   [.int .i64 1,.int .i64 1,.int .i64 0,.int .i64 100,.int .i64 0,     .sl .str [],.fn (Fn.func 112) [] [],.fn (Fn.func 105) [] []],.cells   [.int .i64 5,.int .i64 z,.int .i64 (ExprT.mk ek eo em ev ea).kind,     .int .i64 (ExprT.mk ek eo em ev ea).op,.str (ExprT.mk ek eo em ev ea).name,     .int .i64 (ExprT.mk ek eo em ev ea).value,.sl .expr (ExprT.mk ek eo em ev ea).args,     .sl (.int .i64) l],.cells [.cap0,.int .i64 0,.bool false],.cells   [.int .i64 1,.int .i64 1,.int .i64 0,.int .i64 100,.int .i64 0,     .sl .str [],.fn (Fn.func 112) [] [],.fn (Fn.func 105) [] []],.cells [.own 9],.cells   [.int .i64 5,.int .i64 z,.int .i64 (ExprT.mk ek eo em ev ea).kind,     .int .i64 (ExprT.mk ek eo em ev ea).op,.str (ExprT.mk ek eo em ev ea).name,     .int .i64 (ExprT.mk ek eo em ev ea).value,.sl .expr (ExprT.mk ek eo em ev ea).args,     .sl (.int .i64) l,.cap0,.int .i64 0,.bool false,.csl tI 5 (Int.toNat 1),     .int .i64 0,.int .i64 0],.cells   [.int .i64 1,.int .i64 1,.int .i64 0,.int .i64 100,.int .i64 0,     .sl .str [],.fn (Fn.func 112) [] [],.fn (Fn.func 105) [] []],.dead,.rows tI (o++List.replicate q ((ins.getD 0 []).getD j 0))],10⟩) (λq=>(q:Int)<=z) (λq=>z.toNat-q) (aI (eI (0) (eI ([some 0,some 1,some 2,some 3,some 4,some 5,some 6,some 7,some 8,some 8]) (aI ?_ (aB (aI (aJ (aJ (aI ?_ tT))) (by rfl)))))) ?_)
  ·exact hz.1
  ·show Ob.rows tI o=Ob.rows tI (o++List.replicate 0 _);simp
  rintro q hq;have room:((o++List.replicate q ((ins.getD 0 []).getD j 0)).length+1)*8<=lim:=by simp only[lim,bD,bZ];omega
  refine(aI (λw0=>(aF (aI (λw1=>(aK (aI (by first|exact room|(intros;(try subst_vars);(try simp only[nB]at *);(try simp only[inK,big,lim,nL]at *);omega)) (aD (aB (aI (by first|exact room|(intros;(try subst_vars);(try simp only[nB]at *);(try simp only[inK,big,lim,nL]at *);omega)) (aD (aC (aA (aI (by first|exact room|(intros;(try subst_vars);(try simp only[nB]at *);(try simp only[inK,big,lim,nL]at *);omega)) (aB (aI (by first|exact room|(intros;(try subst_vars);(try simp only[nB]at *);(try simp only[inK,big,lim,nL]at *);omega)) (aI (by first|exact room|(intros;(try subst_vars);(try simp only[nB]at *);(try simp only[inK,big,lim,nL]at *);omega)) (aI (by first|exact room|(intros;(try subst_vars);(try simp only[nB]at *);(try simp only[inK,big,lim,nL]at *);omega)) (aC (aB (aI (by first|exact room|(intros;(try subst_vars);(try simp only[nB]at *);(try simp only[inK,big,lim,nL]at *);omega)) ?_))))))))))))))))) (λw1=>False.elim (aY (Eq.symm (Eq.trans (by kernel_rfl) w1))))))) (λw0=>(aI (by first|exact room|(intros;(try subst_vars);(try simp only[nB]at *);(try simp only[inK,big,lim,nL]at *);omega)) ?_)))
  ·have hq':(q:Int)<z:=aM w0;refine eI (q+1) (eI ([some 0,some 1,some 2,some 3,some 4,some 5,some 6,some 7,some 8,some 11]) (aI ?_ (aI ?_ (aB (aI (aJ (aJ (aI ?_ tT))) (by rfl))))))
   ·show((q+1:Nat):Int)<=z;omega
   ·show z.toNat-(q+1)<z.toNat-q;omega
   ·show Ob.rows tI _=Ob.rows tI (o++List.replicate (q+1) _);rw[List.replicate_succ',<-dR];rfl
  ·have hq':q=z.toNat:=by have h:¬(q:Int)<z:=aQ w0;omega
   refine eI ((j+1,o++List.replicate q ((ins.getD 0 []).getD j 0))) (eI ([some 0,some 1,some 2,some 3,some 4,some 5,some 6,some 7,some 9]) (aI ?_ (aI ?_ (aB (aI (aJ (aJ (aA tT))) (by rfl))))))
   ·refine⟨hj', ?_, ?_⟩
    ·show _=((ins.getD 0 []).take (j+1)).foldl _ _;rw[hnx hj',hq'];rfl
    ·show(o++List.replicate q _).length<=200*(j+1);simp only[bD,bZ];omega
   ·show(ins.getD 0 []).length-(j+1)<(ins.getD 0 []).length-j;omega
 ·skip
  have run:Cj (5,z,ExprT.mk ek eo em ev ea,l) ins=([o],0):=by
   show([(ins.getD 0 []).foldl (Ui z) []],0)=_;rw[hen m0]
  exact Vb ‹_› ‹_› hs0 (by rw[run];rfl) (by rw[run];exact m2)
 ·skip
  have run:Cj (5,z,ExprT.mk ek eo em ev ea,l) ins=([o],0):=by
   show([(ins.getD 0 []).foldl (Ui z) []],0)=_;rw[hen m0]
  exact(Uj ‹_› ‹_› hs0 (by rw[run];rfl) (by rw[run];exact m2)).trans (by rw[run])
set_option maxHeartbeats 8000000 in
theorem Akv:Jt 6:=by
 intro z e l ins hc hlk;have hl:ins.length=1:=by have h:(ins.length:Int)=1:=hlk;omega
 have hs:=Ax hc;obtain⟨ek,eo,em,ev,ea⟩:=e;refine⟨_,Hy, ?_⟩;refine(aF (aI tT (aI (λh0=>(Aa rfl (by first|exact D0 ‹_› |exact D9 ‹_› ‹_›))) (λh0=>(aA (λh1=>(aI (λh2=>(Aa rfl (by first|exact D0 ‹_› |exact D9 ‹_› ‹_›))) (λh2=>(λh3=>?_)))))))));refine ex4 _ (λi:Nat=>⟨[.any,.sl (.sl (.int .i64)) ins,.ptr 0 0,.any,.any,.any,.any,.ptr 1 0,.any,.any,.any,.any,.any,.any,.any,.any,.any,.any,.any,.any,.any,.any,.any,.any,.any,.any,.any,.any,.sl (.sl (.int .i64)) ins,.int .i64 (↑ins.length:Int),.int .i64 (i:Int)]++nA 34,[.cells   [.int .i64 6,.int .i64 z,.int .i64 (ExprT.mk ek eo em ev ea).kind,     .int .i64 (ExprT.mk ek eo em ev ea).op,.str (ExprT.mk ek eo em ev ea).name,     .int .i64 (ExprT.mk ek eo em ev ea).value,.sl .expr (ExprT.mk ek eo em ev ea).args,     .sl (.int .i64) l],.cells   [.int .i64 1,.int .i64 1,.int .i64 0,.int .i64 200,.int .i64 0,     .sl .str [],.fn (Fn.func 113) [] [],.fn (Fn.func 105) [] []]],2⟩) (λi=>i<=ins.length/\Bc ins=Bc (ins.drop i)) (λi=>ins.length-i) (aI (eI (0) (eI ([some 0,some 1]) (aI ?_ (aB (aI (aH tT) (by rfl)))))) ?_)
 ·exact⟨aV _,rfl⟩
 rintro i ⟨hi,ht⟩;have hin:decide ((i:Int)<(ins.length:Int))=false->(!decide (Bc ins=0))=false:=λh=>by
  have hi':¬i<ins.length:=by simpa using h
  rw[ht,bK (by omega)];rfl
 have ix:0<1->0<=(0:Int)/\(0:Int)<(ins.length:Int):=λh=>by rw[hl];omega
 have iy:1<1->0<=(1:Int)/\(1:Int)<(ins.length:Int):=λh=>by rw[hl];omega
 have hst:Bc ins=0->∀j,j<ins.length->(ins.getD j (Ab tIs)).length<=200/\(ins.getD j (Ab tIs)).any Aj=false:=λh j hj=>Bi h hj
 refine(aI (λk0=>(aI (by first|exact⟨by decide,rfl,by decide,by decide⟩|exact ix (by decide)|exact iy (by decide)|(intros;(try subst_vars);(try simp only[nB]at *);(try simp only[inK,big,lim,nL]at *);omega)) (λk1=>(aI (λk2=>(Aa rfl ?_)) (λk2=>(aI tT (aI (λk3=>(Aa rfl ?_)) (λk3=>(aI (by first|exact⟨by decide,rfl,by decide,by decide⟩|exact ix (by decide)|exact iy (by decide)|(intros;(try subst_vars);(try simp only[nB]at *);(try simp only[inK,big,lim,nL]at *);omega)) ?_))))))))) (λk0=>(aF (aA (aF (aI (by first|exact⟨by decide,rfl,by decide,by decide⟩|exact ix (by decide)|exact iy (by decide)|(intros;(try subst_vars);(try simp only[nB]at *);(try simp only[inK,big,lim,nL]at *);omega)) (aF (aI (λk4=>nG k4) (λk4=>(aI (λk5=>nG k5) (λk5=>(aI (λk6=>nG k6) (λk6=>(aI (by first|exact⟨by decide,rfl,by decide,by decide⟩|exact ix (by decide)|exact iy (by decide)|(intros;(try subst_vars);(try simp only[nB]at *);(try simp only[inK,big,lim,nL]at *);omega)) (λk7=>?_)))))))))))))))
 ·have hi':i<ins.length:=by simpa using k0
  have hk:A5 (ins.getD i (Ab tIs))=true:=k2;have e4:Bc ins=4:=by rw[ht,A9 hi',aP hk]
  exact(Lt ‹_› ‹_› (by rw[e4];rfl)).trans (by rw[e4])
 ·have hi':i<ins.length:=by simpa using k0
  have hk:¬A5 (ins.getD i (Ab tIs))=true:=by have h:A5 (ins.getD i (Ab tIs))=false:=k2;rw[h];simp
  have hk2:(ins.getD i (Ab tIs)).any Aj=true:=k3;have e4:Bc ins=2:=by rw[ht,A9 hi',aL hk,aP hk2]
  exact(Lt ‹_› ‹_› (by rw[e4];rfl)).trans (by rw[e4])
 ·have hi':i<ins.length:=by simpa using k0
  have hk:¬A5 (ins.getD i (Ab tIs))=true:=by have h:A5 (ins.getD i (Ab tIs))=false:=k2;rw[h];simp
  have hk2:¬(ins.getD i (Ab tIs)).any Aj=true:=by have h:(ins.getD i (Ab tIs)).any Aj=false:=k3;rw[h];simp
  refine eI (i+1) (eI ([some 0,some 1]) (aI ?_ (aI ?_ (aB (aI (aH tT) (by rfl))))))
  ·refine⟨hi', ?_⟩;rw[ht,A9 hi',aL hk,aL hk2]
  ·show ins.length-(i+1)<ins.length-i;omega
 have hs0:=hin k0;have hstr:Bc ins=0:=by simpa using hs0
 obtain⟨hal,han⟩:=Bi hstr (show 0<ins.length by omega);replace hal:(ins.getD 0 []).length<=200:=hal;replace han:(ins.getD 0 []).any Aj=false:=han;clear ht hi hin;refine ex4 _ (λp:Nat×List Int×Int=>⟨[.ptr 6 0,.agg   [.int .i64 1,.int .i64 1,.int .i64 0,.int .i64 200,.int .i64 0,     .sl .str [],.fn (Fn.func 113) [] [],.fn (Fn.func 105) [] []],.sl (.sl (.int .i64)) ins,.any,.ptr 7 0,.any,.any,.any,.any,.any,.any,.ptr 6 0,.any,.any,.sl (.sl (.int .i64)) ins,.eptr [PV.sl (.int .i64) (ins.getD (Int.toNat 0) (Ab (.sl (.int .i64))))],.sl (.int .i64) (ins.getD (Int.toNat 0) (Ab (.sl (.int .i64)))),.int .i64 (↑(List.length (ins.getD (Int.toNat 0) (Ab (.sl (.int .i64))))):Int),.int .i64 (p.1:Int),.any,.any,.any,.any,.any,.any,.any,.any,.any,.any,.any,.any,.any,.any,.any,.any,.any,.any,.any,.any,.any,.any,.any,.any,.any,.any,.bool (decide (6=8)),.any,.any,.any,.any,.any,.any,.any,.any,.any,.any,.any,.any,.any,.bool (decide (6=9)),.bool (decide (6=9))]++nA 29,[.cells   [.int .i64 6,.int .i64 z,.int .i64 (ExprT.mk ek eo em ev ea).kind,     .int .i64 (ExprT.mk ek eo em ev ea).op,.str (ExprT.mk ek eo em ev ea).name,     .int .i64 (ExprT.mk ek eo em ev ea).value,.sl .expr (ExprT.mk ek eo em ev ea).args,     .sl (.int .i64) l],.cells   [.int .i64 1,.int .i64 1,.int .i64 0,.int .i64 200,.int .i64 0,     .sl .str [],.fn (Fn.func 113) [] [],.fn (Fn.func 105) [] []],.cells   [.int .i64 6,.int .i64 z,.int .i64 (ExprT.mk ek eo em ev ea).kind,     .int .i64 (ExprT.mk ek eo em ev ea).op,.str (ExprT.mk ek eo em ev ea).name,     .int .i64 (ExprT.mk ek eo em ev ea).value,.sl .expr (ExprT.mk ek eo em ev ea).args,     .sl (.int .i64) l],.cells [.cap0,.int .i64 0,.bool false],.cells   [.int .i64 1,.int .i64 1,.int .i64 0,.int .i64 200,.int .i64 0,     .sl .str [],.fn (Fn.func 113) [] [],.fn (Fn.func 105) [] []],.cells [.own 8],.cells [.int .i64 6,.int .i64 z,.int .i64 ek,.int .i64 eo,.str em,.int .i64 ev,.sl .expr ea,.sl tI l,.cap0,.int .i64 p.2.2,.bool false,.csl tI 5 1,.int .i64 0,.int .i64 0],.cells   [.int .i64 1,.int .i64 1,.int .i64 0,.int .i64 200,.int .i64 0,     .sl .str [],.fn (Fn.func 113) [] [],.fn (Fn.func 105) [] []],.rows tI p.2.1],9⟩) (λp=>p.1<=(ins.getD 0 []).length/\p.2=(((ins.getD 0 []).take p.1).foldl (Nh z) ([],0))/\p.2.1.length<=p.1/\(0<=p.2.2/\p.2.2<=200)) (λp=>(ins.getD 0 []).length-p.1) (aI (eI ((0,([],0))) (eI ([some 0,some 1,some 2,some 3,some 4,some 5,some 6,some 7,none]) (aI ?_ (aB (aI (aJ (aJ (aA tT))) (by rfl)))))) ?_)
 ·exact⟨aV _,rfl,bA _,by decide,by decide⟩
 rintro⟨j,o,c⟩ ⟨hj,hp,ho,hc⟩;replace hj:j<=(ins.getD 0 []).length:=hj;replace hp:(o,c)=(((ins.getD 0 []).take j).foldl (Nh z) ([],0)):=hp;have hnx:j<(ins.getD 0 []).length->((ins.getD 0 []).take (j+1)).foldl (Nh z) ([],0)=Nh z (o,c) ((ins.getD 0 []).getD j 0):=λh=>by
  rw[Hl _ _ 0 h,<-hp]
 have hen:decide ((j:Int)<((ins.getD 0 []).length:Int))=false->(ins.getD 0 []).foldl (Nh z) ([],0)=(o,c):=λh=>by
  have h':¬j<(ins.getD 0 []).length:=by simpa using h
  rw[hp,bL (by omega)]
 replace ho:o.length<=j:=ho;have room:(o.length+1)*8<=lim:=by simp only[lim];omega
 replace hc:0<=c/\c<=200:=hc;have hz:z<=200:=hs.2.1;refine(aI (λm0=>(aI (by first|exact room|(intros;(try subst_vars);(try simp only[nB]at *);(try simp only[inK,big,lim,nL]at *);omega)) (aF (aF (aI (λm1=>(aI (by first|exact room|(intros;(try subst_vars);(try simp only[nB]at *);(try simp only[inK,big,lim,nL]at *);omega)) (aF (aI (λm2=>(aK (aI (by first|exact room|(intros;(try subst_vars);(try simp only[nB]at *);(try simp only[inK,big,lim,nL]at *);omega)) (aD (aB (aI (by first|exact room|(intros;(try subst_vars);(try simp only[nB]at *);(try simp only[inK,big,lim,nL]at *);omega)) (aD (aC (aA (aI (by first|exact room|(intros;(try subst_vars);(try simp only[nB]at *);(try simp only[inK,big,lim,nL]at *);omega)) (aB (aI (by first|exact room|(intros;(try subst_vars);(try simp only[nB]at *);(try simp only[inK,big,lim,nL]at *);omega)) (aI (by first|exact room|(intros;(try subst_vars);(try simp only[nB]at *);(try simp only[inK,big,lim,nL]at *);omega)) (aI (by first|exact room|(intros;(try subst_vars);(try simp only[nB]at *);(try simp only[inK,big,lim,nL]at *);omega)) (aC (aB (aI (by first|exact room|(intros;(try subst_vars);(try simp only[nB]at *);(try simp only[inK,big,lim,nL]at *);omega)) ?_))))))))))))))))) (λm2=>False.elim (aY (Eq.symm (Eq.trans (by kernel_rfl) m2)))))))) (λm1=>(aI (by first|exact room|(intros;(try subst_vars);(try simp only[nB]at *);(try simp only[inK,big,lim,nL]at *);omega)) ?_))))))) (λm0=>(aF (aI (λm3=>nG m3) (λm3=>(aI tT (aI (λm4=>(Aa rfl ?_)) (λm4=>(Aa rfl ?_)))))))))
 ·have hj':j<(ins.getD 0 []).length:=by simpa using m0
  refine eI ((j+1,o++[(ins.getD 0 []).getD j 0],c+1)) (eI ([some 0,some 1,some 2,some 3,some 4,some 5,some 6,some 7,some 10]) (aI ?_ (aI ?_ (aB (aI (aJ (aJ (aA tT))) (by rfl))))))
  ·refine⟨hj', ?_,by show(_++[_]).length<=j+1;simp;omega,⟨by show 0<=c+1;omega,by show c+1<=200;have h9:c<z:=aM m1;omega⟩⟩;show _=((ins.getD 0 []).take (j+1)).foldl _ _;rw[hnx hj'];dsimp only[Nh];rw[aP (show decide (c<z)=true from m1)]
  ·show(ins.getD 0 []).length-(j+1)<(ins.getD 0 []).length-j;omega
 ·have hj':j<(ins.getD 0 []).length:=by simpa using m0
  refine eI ((j+1,o,c)) (eI ([some 0,some 1,some 2,some 3,some 4,some 5,some 6,some 7,some 8]) (aI ?_ (aI ?_ (aB (aI (aJ (aJ (aA tT))) (by rfl))))))
  ·refine⟨hj', ?_,by show o.length<=j+1;omega,hc⟩;show _=((ins.getD 0 []).take (j+1)).foldl _ _;rw[hnx hj'];dsimp only[Nh];rw[aL (by rw[(show decide (c<z)=false from m1)];simp)]
  ·show(ins.getD 0 []).length-(j+1)<(ins.getD 0 []).length-j;omega
 ·skip
  have run:Cj (6,z,ExprT.mk ek eo em ev ea,l) ins=([o],0):=by
   show([((ins.getD 0 []).foldl (Nh z) ([],0)).1],0)=_;rw[hen m0]
  exact Vb ‹_› ‹_› hs0 (by rw[run];rfl) (by rw[run];exact m4)
 ·skip
  have run:Cj (6,z,ExprT.mk ek eo em ev ea,l) ins=([o],0):=by
   show([((ins.getD 0 []).foldl (Nh z) ([],0)).1],0)=_;rw[hen m0]
  exact(Uj ‹_› ‹_› hs0 (by rw[run];rfl) (by rw[run];exact m4)).trans (by rw[run])
theorem M5(n:Nat)(b:List Int):Ed n [] b=b:=by cases n<;>rfl
set_option maxHeartbeats 8000000 in
theorem Akw:Jt 8:=by
 intro z e l ins hc hlk;have hl:ins.length=2:=by have h:(ins.length:Int)=2:=hlk;omega
 have hs:=Ax hc;obtain⟨ek,eo,em,ev,ea⟩:=e;refine⟨_,Hy, ?_⟩;refine(aF (aI tT (aI (λh0=>(Aa rfl (by first|exact D0 ‹_› |exact D9 ‹_› ‹_›))) (λh0=>(aA (λh1=>(aI (λh2=>(Aa rfl (by first|exact D0 ‹_› |exact D9 ‹_› ‹_›))) (λh2=>(λh3=>?_)))))))));refine ex4 _ (λi:Nat=>⟨[.any,.sl (.sl (.int .i64)) ins,.ptr 0 0,.any,.any,.any,.any,.ptr 1 0,.any,.any,.any,.any,.any,.any,.any,.any,.any,.any,.any,.any,.any,.any,.any,.any,.any,.any,.any,.any,.sl (.sl (.int .i64)) ins,.int .i64 (↑ins.length:Int),.int .i64 (i:Int)]++nA 34,[.cells   [.int .i64 8,.int .i64 z,.int .i64 (ExprT.mk ek eo em ev ea).kind,     .int .i64 (ExprT.mk ek eo em ev ea).op,.str (ExprT.mk ek eo em ev ea).name,     .int .i64 (ExprT.mk ek eo em ev ea).value,.sl .expr (ExprT.mk ek eo em ev ea).args,     .sl (.int .i64) l],.cells   [.int .i64 2,.int .i64 1,.int .i64 0,.int .i64 0,.int .i64 0,     .sl .str [],.fn (Fn.func 116) [] [.eptr [PV.fn (FnT.mk 104 [])]],.fn (Fn.func 115) [] []]],2⟩) (λi=>i<=ins.length/\Bc ins=Bc (ins.drop i)) (λi=>ins.length-i) (aI (eI (0) (eI ([some 0,some 1]) (aI ?_ (aB (aI (aH tT) (by rfl)))))) ?_)
 ·exact⟨aV _,rfl⟩
 rintro i ⟨hi,ht⟩;have hin:decide ((i:Int)<(ins.length:Int))=false->(!decide (Bc ins=0))=false:=λh=>by
  have hi':¬i<ins.length:=by simpa using h
  rw[ht,bK (by omega)];rfl
 have ix:0<2->0<=(0:Int)/\(0:Int)<(ins.length:Int):=λh=>by rw[hl];omega
 have iy:1<2->0<=(1:Int)/\(1:Int)<(ins.length:Int):=λh=>by rw[hl];omega
 have hst:Bc ins=0->∀j,j<ins.length->(ins.getD j (Ab tIs)).length<=200/\(ins.getD j (Ab tIs)).any Aj=false:=λh j hj=>Bi h hj
 refine(aI (λk0=>(aI (by first|exact⟨by decide,rfl,by decide,by decide⟩|exact ix (by decide)|exact iy (by decide)|(intros;(try subst_vars);(try simp only[nB]at *);(try simp only[inK,big,lim,nL]at *);omega)) (λk1=>(aI (λk2=>(Aa rfl ?_)) (λk2=>(aI tT (aI (λk3=>(Aa rfl ?_)) (λk3=>(aI (by first|exact⟨by decide,rfl,by decide,by decide⟩|exact ix (by decide)|exact iy (by decide)|(intros;(try subst_vars);(try simp only[nB]at *);(try simp only[inK,big,lim,nL]at *);omega)) ?_))))))))) (λk0=>(aF (aA (aF (aI (by first|exact⟨by decide,rfl,by decide,by decide⟩|exact ix (by decide)|exact iy (by decide)|(intros;(try subst_vars);(try simp only[nB]at *);(try simp only[inK,big,lim,nL]at *);omega)) (aF (aI (λk4=>nG k4) (λk4=>(aI (λk5=>(aK (aI (by first|exact⟨by decide,rfl,by decide,by decide⟩|exact ix (by decide)|exact iy (by decide)|(intros;(try subst_vars);(try simp only[nB]at *);(try simp only[inK,big,lim,nL]at *);omega)) (aI (by first|exact⟨by decide,rfl,by decide,by decide⟩|exact ix (by decide)|exact iy (by decide)|(intros;(try subst_vars);(try simp only[nB]at *);(try simp only[inK,big,lim,nL]at *);omega)) (aC (aA (aI (by first|exact⟨by decide,rfl,by decide,by decide⟩|exact ix (by decide)|exact iy (by decide)|(intros;(try subst_vars);(try simp only[nB]at *);(try simp only[inK,big,lim,nL]at *);omega)) (aB (aA (aI (by first|exact⟨by decide,rfl,by decide,by decide⟩|exact ix (by decide)|exact iy (by decide)|(intros;(try subst_vars);(try simp only[nB]at *);(try simp only[inK,big,lim,nL]at *);omega)) (aB (aF ?_)))))))))))) (λk5=>False.elim (aY (Eq.symm (Eq.trans (by kernel_rfl) k5))))))))))))))
 ·have hi':i<ins.length:=by simpa using k0
  have hk:A5 (ins.getD i (Ab tIs))=true:=k2;have e4:Bc ins=4:=by rw[ht,A9 hi',aP hk]
  exact(Lt ‹_› ‹_› (by rw[e4];rfl)).trans (by rw[e4])
 ·have hi':i<ins.length:=by simpa using k0
  have hk:¬A5 (ins.getD i (Ab tIs))=true:=by have h:A5 (ins.getD i (Ab tIs))=false:=k2;rw[h];simp
  have hk2:(ins.getD i (Ab tIs)).any Aj=true:=k3;have e4:Bc ins=2:=by rw[ht,A9 hi',aL hk,aP hk2]
  exact(Lt ‹_› ‹_› (by rw[e4];rfl)).trans (by rw[e4])
 ·have hi':i<ins.length:=by simpa using k0
  have hk:¬A5 (ins.getD i (Ab tIs))=true:=by have h:A5 (ins.getD i (Ab tIs))=false:=k2;rw[h];simp
  have hk2:¬(ins.getD i (Ab tIs)).any Aj=true:=by have h:(ins.getD i (Ab tIs)).any Aj=false:=k3;rw[h];simp
  refine eI (i+1) (eI ([some 0,some 1]) (aI ?_ (aI ?_ (aB (aI (aH tT) (by rfl))))))
  ·refine⟨hi', ?_⟩;rw[ht,A9 hi',aL hk,aL hk2]
  ·show ins.length-(i+1)<ins.length-i;omega
 have hs0:=hin k0;have hstr:Bc ins=0:=by simpa using hs0
 obtain⟨hal,-⟩:=Bi hstr (show 0<ins.length by omega);obtain⟨hbl,-⟩:=Bi hstr (show 1<ins.length by omega);replace hal:(ins.getD 0 []).length<=200:=hal;replace hbl:(ins.getD 1 []).length<=200:=hbl;clear ht hi hin;refine ex4 _ (λp:List Int×List Int×List Int=>⟨[.sl tI p.1,.sl tI p.2.1,.any,.any,.any,.own 8]++nA 15,[.cells   [.int .i64 8,.int .i64 z,.int .i64 (ExprT.mk ek eo em ev ea).kind,     .int .i64 (ExprT.mk ek eo em ev ea).op,.str (ExprT.mk ek eo em ev ea).name,     .int .i64 (ExprT.mk ek eo em ev ea).value,.sl .expr (ExprT.mk ek eo em ev ea).args,     .sl (.int .i64) l],.cells   [.int .i64 2,.int .i64 1,.int .i64 0,.int .i64 0,.int .i64 0,     .sl .str [],.fn (Fn.func 116) [] [.eptr [PV.fn (FnT.mk 104 [])]],.fn (Fn.func 115) [] []],.cells   [.int .i64 8,.int .i64 z,.int .i64 (ExprT.mk ek eo em ev ea).kind,     .int .i64 (ExprT.mk ek eo em ev ea).op,.str (ExprT.mk ek eo em ev ea).name,     .int .i64 (ExprT.mk ek eo em ev ea).value,.sl .expr (ExprT.mk ek eo em ev ea).args,     .sl (.int .i64) l],.cells [.cap0,.int .i64 0,.bool false],.cells   [.int .i64 2,.int .i64 1,.int .i64 0,.int .i64 0,.int .i64 0,     .sl .str [],.fn (Fn.func 116) [] [.eptr [PV.fn (FnT.mk 104 [])]],.fn (Fn.func 115) [] []],.cells [.cap0],.cells   [.int .i64 8,.int .i64 z,.int .i64 (ExprT.mk ek eo em ev ea).kind,     .int .i64 (ExprT.mk ek eo em ev ea).op,.str (ExprT.mk ek eo em ev ea).name,     .int .i64 (ExprT.mk ek eo em ev ea).value,.sl .expr (ExprT.mk ek eo em ev ea).args,     .sl (.int .i64) l,.cap0,.int .i64 0,.bool false,.csl tI 5 (Int.toNat 1),     .int .i64 0,.int .i64 0],.cells   [.int .i64 2,.int .i64 1,.int .i64 0,.int .i64 0,.int .i64 0,     .sl .str [],.fn (Fn.func 116) [] [.eptr [PV.fn (FnT.mk 104 [])]],.fn (Fn.func 115) [] []],.rows tI p.2.2],9⟩) (λp=>Ed ((ins.getD 0 []).length+(ins.getD 1 []).length) (ins.getD 0 []) (ins.getD 1 [])=p.2.2++Ed (p.1.length+p.2.1.length) p.1 p.2.1/\p.2.2.length+(p.1.length+p.2.1.length)=(ins.getD 0 []).length+(ins.getD 1 []).length) (λp=>p.1.length+p.2.1.length) (aI (eI ((ins.getD 0 [],ins.getD 1 [],[])) (eI ([some 0,some 1,some 2,some 3,some 4,some 5,some 6,some 7,none]) (aI ?_ (aB (aI (aJ (aJ (aA tT))) (by rfl)))))) ?_)
 ·exact⟨rfl,by simp⟩
 rintro⟨a,b,o⟩ ⟨hp,hn⟩;replace hp:Ed ((ins.getD 0 []).length+(ins.getD 1 []).length) (ins.getD 0 []) (ins.getD 1 [])=o++Ed (a.length+b.length) a b:=hp;replace hn:o.length+(a.length+b.length)=(ins.getD 0 []).length+(ins.getD 1 []).length:=hn;have room:(o.length+1)*8<=lim:=by simp only[lim];omega
 have room2:(o.length+b.length)*8<=lim:=by simp only[lim];omega
 refine(λm0=>(aI (λm1=>(aI (by first|exact room|exact room2|(intros;(try subst_vars);(try simp only[nB]at *);(try simp only[inK,big,lim,nL]at *);omega)) (aI (by first|exact room|exact room2|(intros;(try subst_vars);(try simp only[nB]at *);(try simp only[inK,big,lim,nL]at *);omega)) (aF (aI (by first|exact room|exact room2|(intros;(try subst_vars);(try simp only[nB]at *);(try simp only[inK,big,lim,nL]at *);omega)) ?_))))) (λm1=>(aI (by first|exact room|exact room2|(intros;(try subst_vars);(try simp only[nB]at *);(try simp only[inK,big,lim,nL]at *);omega)) (aI (by first|exact room|exact room2|(intros;(try subst_vars);(try simp only[nB]at *);(try simp only[inK,big,lim,nL]at *);omega)) (aI (by first|exact room|exact room2|(intros;(try subst_vars);(try simp only[nB]at *);(try simp only[inK,big,lim,nL]at *);omega)) (aC (aA (aI (λm2=>nG m2) (λm2=>(aI tT (aI (λm3=>(Aa rfl ?_)) (λm3=>(Aa rfl ?_))))))))))))))
 ·match a,m1 with
  |[],m1=>
   have h:(0:Int)<(([]:List Int).length:Int):=aM m1;exact aT h (by decide)
  |x::a,m1=>
  refine eI ((b,a,o++[x])) (eI ([some 0,some 1,some 2,some 3,some 4,some 5,some 6,some 7,some 10]) (aI ?_ (aI ?_ (aB (aI (aJ (aJ (aA tT))) (by rfl))))))
  ·refine⟨?_, ?_⟩
   ·rw[hp,show(x::a).length+b.length=(a.length+b.length)+1 by simp;omega];show o++Ed (a.length+b.length+1) (x::a) b=(o++[x])++Ed (b.length+a.length) b a;rw[Ed,fN b.length];simp
   ·show(o++[x]).length+(b.length+a.length)=_;simp only[bD,List.length_cons,List.length_nil]at hn ⊢;omega
  ·show b.length+a.length<(x::a).length+b.length;simp only[List.length_cons];omega
 ·skip
  have run:Cj (8,z,ExprT.mk ek eo em ev ea,l) ins=([o++b],0):=by
   show([Ed ((ins.getD 0 []).length+(ins.getD 1 []).length) (ins.getD 0 []) (ins.getD 1 [])],0)=_;have ha:a=[]:=cV (by have h:¬(0:Int)<(a.length:Int):=aQ m1;omega);rw[hp,ha,M5]
  exact Vb ‹_› ‹_› hs0 (by rw[run];rfl) (by rw[run];exact m3)
 ·skip
  have run:Cj (8,z,ExprT.mk ek eo em ev ea,l) ins=([o++b],0):=by
   show([Ed ((ins.getD 0 []).length+(ins.getD 1 []).length) (ins.getD 0 []) (ins.getD 1 [])],0)=_;have ha:a=[]:=cV (by have h:¬(0:Int)<(a.length:Int):=aQ m1;omega);rw[hp,ha,M5]
  exact(Uj ‹_› ‹_› hs0 (by rw[run];rfl) (by rw[run];exact m3)).trans (by rw[run])
end Go.Proofs.YtpabcdbaffjcdaaGreat
