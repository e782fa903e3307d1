/- Pipelines. -/
import Derived.Test.YtpabcdbaffjcdaaGreatJZ9
import Derived.Test.YtpabcdbaffjcdaaGreatJZ7
import Derived.Test.YtpabcdbaffjcdaaGreatJG3
set_option linter.unusedSimpArgs false
set_option linter.unusedVariables false
set_option maxRecDepth 100000
namespace Go.Proofs.YtpabcdbaffjcdaaGreat
open Go.Sx
@[reducible] def RT:Type:=SST×List Int×List (List Int)
def Od(a b:List (List Int)):List (List Int):=List.zipWith (·++·) a b
def Nx(J:Nat->RT->Prop)(r:Nat)(t:RT)(s:SST)(at2:List Int)(o:List (List Int)):Prop:=o.length=t.2.2.length/\∃r':Nat,r'+1=r/\J r' (s,at2,Od t.2.2 o)
def Rnd(x:StT)(ins:List (List Int))(J:Nat->RT->Prop)(r:Nat)(t:RT):Prop:=
 (Am x t.1).2=0/\t.2.1.length=ins.length/\(t.2.2.length:Int)=(Ap x.1).2.1/\
 (((Am x t.1).1=[]/\t.1.2.2=true/\t.2.2=E8 x ins/\r=0)\/
  (∃k p:Nat,(Am x t.1).1=[(k:Int)]/\k<ins.length/\t.1.2.2=false/\t.2.1.getD k 0=(p:Int)/\p<=(ins.getD k []).length/\
    (p=(ins.getD k []).length->(Cg x t.1 k).2.2.2=0/\Nx J r t (Cg x t.1 k).1 t.2.1 (Cg x t.1 k).2.1)/\
    (p<(ins.getD k []).length->(Bq x t.1 k ((ins.getD k []).getD p 0)).2.2=0/\Nx J r t (Bq x t.1 k ((ins.getD k []).getD p 0)).1 (t.2.1.set k ((p:Int)+1)) (Bq x t.1 k ((ins.getD k []).getD p 0)).2.1))\/
  ((Am x t.1).1=[]/\t.1.2.2=false/\x.1=1/\
     (t.1.2.1=(x.2.2.2.length:Int)->(Cg x t.1 (-1)).2.2.2=0/\Nx J r t (Cg x t.1 (-1)).1 t.2.1 (Cg x t.1 (-1)).2.1)/\
     (t.1.2.1≠(x.2.2.2.length:Int)->(Bq x t.1 (-1) 0).2.2=0/\Nx J r t (Bq x t.1 (-1) 0).1 t.2.1 (Bq x t.1 (-1) 0).2.1)))
def start(x:StT)(ins:List (List Int)):RT:=(([],0,false),List.replicate ins.length 0,List.replicate (Ap x.1).2.1.toNat [])
def tot(x:StT)(ins:List (List Int)):Nat:=if x.1=1 then x.2.2.2.length+1 else(ins.map List.length).sum+ins.length
theorem At0{x:StT}{ins:List (List Int)}(h:ins.length=1)(hk:x.1≠1):tot x ins=(ins.getD 0 []).length+1:=by
 unfold tot;rw[aL hk]
 match ins,h with
 |[a],_=>simp
theorem Ap3{x:StT}{ins:List (List Int)}(h:ins.length=2)(hk:x.1≠1):tot x ins=(ins.getD 0 []).length+(ins.getD 1 []).length+2:=by
 unfold tot;rw[aL hk]
 match ins,h with
 |[a,b],_=>simp
def R0(x:StT)(ins:List (List Int)):Prop:=∃J:Nat->RT->Prop,(∀r t,J r t->Rnd x ins J r t)/\J (tot x ins) (start x ins)
theorem Sn{x:StT}{s:SST}{i n:Int}(h0:Al x=0)(hv:Av x s=true)(h1:tk1 x s (Am x s).1 i=false)(h2:tk2 x n=false){t:SST}{o:List (List Int)}(hr:Dr x s i n=(t,o,0)):Bq x s i n=(t,o,0):=by
 have hn:=B0.2 ⟨h0,hv⟩;unfold Bq;rw[aL (by simp[hn]),aL (by rw[h1];simp),aL (by rw[h2];simp),hr,aL (by simp)]
theorem Yn{x:StT}{s:SST}{i:Int}(h0:Al x=0)(hv:Av x s=true)(h1:te1 x i=false)(h2:te2 x s i=false){t:SST}{o:List (List Int)}(hr:Ei x s i=(t,o,0)):Cg x s i=(t,o,t.2.2,0):=by
 have hn:=B0.2 ⟨h0,hv⟩;unfold Cg;rw[aL (by simp[hn]),aL (by rw[h1];simp),aL (by rw[h2];simp),hr,aL (by simp)]
theorem Ad2{x:StT}{s:SST}{nd:List Int}{i:Int}(hk:x.1≠1)(he:s.2.2=false)(hn:nd.any (isI i)=true):tk1 x s nd i=false:=by
 unfold tk1;rw[he,bE hk,hn];rfl
theorem Ad3{x:StT}{n:Int}(hk:x.1≠1)(h:Aj n=false):tk2 x n=false:=by
 unfold tk2;unfold Aj at h;rw[bE hk];cases hb:Ke n
 ·rw[hb]at h;cases h
 ·rfl
theorem Ad4{x:StT}{i:Int}(hk:x.1≠1)(h0:0<=i)(h1:i<(Ap x.1).1):te1 x i=false:=by
 unfold te1;rw[bE hk,bE (show ¬i<0 by omega),bE (show ¬(Ap x.1).1<=i by omega)];rfl
theorem Yo{x:StT}{s:SST}{i:Int}(he:s.2.2=false)(h:x.1≠1->Gc x s i=false):te2 x s i=false:=by
 unfold te2;rw[he];by_cases hk:x.1=1
 ·rw[aX hk];rfl
 ·rw[bE hk,h hk];rfl
theorem Aox{x:StT}{s:SST}(h0:Al x=0)(hv:Av x s=true)(hk:x.1≠1/\x.1≠8/\x.1≠9)(he:s.2.2=false):Am x s=([0],0):=
 ND6 (by simp[h0]) (by simp[hv]) (by rw[he,bE hk.1];rfl) (by rw[bE hk.2.1];rfl) (bE hk.2.1) (by rw[bE hk.2.2];rfl)
theorem U2{x:StT}{s:SST}(h0:Al x=0)(hv:Av x s=true)(he:s.2.2=true):Am x s=([],0):=ND2 (by simp[h0]) (by simp[hv]) (by rw[he];rfl)
theorem Pu{l:List Int}{j:Nat}(h:j<l.length):l.getD j 0∈l:=by
 simp[aZ,aR h]
theorem I9{x:StT}{ins:List (List Int)}(h0:Al x=0)(hk:x.1≠1/\x.1≠8/\x.1≠9)(hin:(Ap x.1).1=1)(hi:ins.length=1)(hs:Bc ins=0)(F:Nat->SST×List (List Int))(e:SST)(oe:List (List Int))
 (f0:F 0=(([],0,false),List.replicate (Ap x.1).2.1.toNat []))(fv:Av x ([],0,false)=true)(ho:0<=(Ap x.1).2.1)
 (fe:∀j,j<=(ins.getD 0 []).length->(F j).1.2.2=false/\((F j).2.length:Int)=(Ap x.1).2.1)
 (fs:∀j,j<(ins.getD 0 []).length->∃o,Dr x (F j).1 0 ((ins.getD 0 []).getD j 0)=((F (j+1)).1,o,0)/\o.length=(F j).2.length/\Od (F j).2 o=(F (j+1)).2)
 (fl:Ei x (F (ins.getD 0 []).length).1 0=(e,oe,0)/\oe.length=(F (ins.getD 0 []).length).2.length/\Od (F (ins.getD 0 []).length).2 oe=E8 x ins/\e.2.2=true):R0 x ins:=by
 obtain⟨g1,g2⟩:=Bi hs (show 0<ins.length by omega);replace g1:(ins.getD 0 []).length<=200:=g1;replace g2:(ins.getD 0 []).any Aj=false:=g2;obtain⟨l1,l2,l3,l4⟩:=fl;refine⟨λr t=>Av x t.1=true/\((∃j,j<=(ins.getD 0 []).length/\t=((F j).1,[(j:Int)],(F j).2)/\r=(ins.getD 0 []).length-j+1)\/(t=(e,[((ins.getD 0 []).length:Int)],E8 x ins)/\r=0)), ?_,by rw[At0 hi hk.1];exact⟨fv,.inl ⟨0,aV _,by rw[f0,start,hi];rfl,by omega⟩⟩⟩
 ·rintro r t ⟨hv,⟨j,hj,rfl,rfl⟩|⟨rfl,rfl⟩⟩
  ·replace hv:Av x (F j).1=true:=hv;obtain⟨e1,e2⟩:=fe j hj;have hn:=Aox h0 hv hk e1;refine⟨by show(Am x (F j).1).2=0;rw[hn],by rw[hi];rfl,e2,.inr (.inl ⟨0,j,by show(Am x (F j).1).1=_;rw[hn];rfl,by omega,e1,rfl,hj,λhje=>?_,λhjl=>?_⟩)⟩
   ·have he:=Yn (i:=0) h0 hv (Ad4 hk.1 (cO 0) (by rw[hin];decide)) (Yo e1 λ_=>by unfold Gc;rw[aL hk.2.1,aL hk.2.2];exact e1) (by rw[hje];exact l1);have hv2:=(Wo (x:=x) (s:=(F j).1) (i:=0) (by rw[he])).1.1;show(Cg x (F j).1 0).2.2.2=0/\Nx _ _ _ (Cg x (F j).1 0).1 _ (Cg x (F j).1 0).2.1;rw[he]at hv2 ⊢;refine⟨rfl,by show oe.length=(F j).2.length;rw[hje];exact l2,0,by omega,hv2,.inr ⟨?_,rfl⟩⟩;show(e,[(j:Int)],Od (F j).2 oe)=_;rw[hje,l3]
   ·obtain⟨o,o1,o2,o3⟩:=fs j hjl;have hnn:Aj ((ins.getD 0 []).getD j 0)=false:=by
     have h9:=dA.1 g2 ((ins.getD 0 []).getD j 0) (Pu hjl);simpa using h9
    have ht:=Sn (i:=0) h0 hv (Ad2 hk.1 e1 (by rw[hn];rfl)) (Ad3 hk.1 hnn) o1;have hv2:=(Uo (x:=x) (s:=(F j).1) (i:=0) (n:=(ins.getD 0 []).getD j 0) (by rw[ht])).1;show(Bq x (F j).1 0 _).2.2=0/\Nx _ _ _ (Bq x (F j).1 0 _).1 _ (Bq x (F j).1 0 _).2.1;rw[ht]at hv2 ⊢;refine⟨rfl,o2,(ins.getD 0 []).length-(j+1)+1,by omega,hv2,.inl ⟨j+1,hjl, ?_,rfl⟩⟩;show((F (j+1)).1,[((j:Int)+1)],Od (F j).2 o)=_;rw[o3];rfl
  ·replace hv:Av x e=true:=hv;have hn:=U2 h0 hv l4;refine⟨by show(Am x e).2=0;rw[hn],by rw[hi];rfl, ?_,.inl ⟨by show(Am x e).1=[];rw[hn],l4,rfl,rfl⟩⟩;show((E8 x ins).length:Int)=_;have e2:=(fe _ (bA (ins.getD 0 []).length)).2;rw[<-l3,<-e2];unfold Od;rw[List.length_zipWith,l2,Nat.min_self]
theorem Hn{l:List Int}{j:Nat}(h:j<l.length):l.take (j+1)=l.take j++[l.getD j 0]:=Kh h
theorem Jn{k z:Int}{e:ExprT}{l:List Int}(hz:0<=z)(hz4:k=4->1<=z):Av (k,z,e,l) ([],0,false)=true:=by
 refine As.2 ⟨⟨cO 0, ?_, ?_⟩,rfl, ?_⟩
 ·show 0<=(E7 (k,z,e,l)).1;unfold E7
  repeat' split
  all_goals (dsimp only at *;omega)
 ·show((0:Nat):Int)<=(E7 (k,z,e,l)).2;unfold E7
  repeat' split
  all_goals (dsimp only at *;omega)
 ·unfold vk
  repeat' split
  all_goals first
   |rfl
   |(rename_i h;exact aT h (by simp))
theorem Ar8{z:Int}{e:ExprT}{l:List Int}{ins:List (List Int)}(h:(Ar (2,z,e,l) ins).2=0):R0 (2,z,e,l) ins:=by
 obtain⟨h0,hl,hs,hc,hb⟩:=Cy.1 h;have hi:ins.length=1:=by have h:(ins.length:Int)=1:=hl;omega
 have hz:=Ax h0;have ha:=hc.1 (.inl rfl);replace ha:∀a∈ins.getD 0 [],Qn e a=0:=ha;refine I9 h0 (show(2:Int)≠1/\(2:Int)≠8/\(2:Int)≠9 by decide) rfl hi hs (λj=>(([],0,false),[((ins.getD 0 []).take j).map (Aa3 e)])) ([],0,true) [[]] rfl (Jn hz.1 hz.2.2) (show(0:Int)<=1 by decide) (λj _=>⟨rfl,rfl⟩) (λj hj=>?_) ⟨rfl,rfl, ?_,rfl⟩
 ·have he:(evX e nmX ((ins.getD 0 []).getD j 0) 0).2=0:=ha _ (Pu hj);refine⟨[[Aa3 e ((ins.getD 0 []).getD j 0)]], ?_,rfl, ?_⟩
  ·show(_,[[(evX e nmX ((ins.getD 0 []).getD j 0) 0).1]],(evX e nmX ((ins.getD 0 []).getD j 0) 0).2)=_;rw[he];rfl
  ·show[_++[_]]=[((ins.getD 0 []).take (j+1)).map (Aa3 e)];rw[Hn hj,eL];rfl
 ·show[_++[]]=[(ins.getD 0 []).map (Aa3 e)];rw[cC,dD]
theorem Ar9{z:Int}{e:ExprT}{l:List Int}{ins:List (List Int)}(h:(Ar (3,z,e,l) ins).2=0):R0 (3,z,e,l) ins:=by
 obtain⟨h0,hl,hs,hc,hb⟩:=Cy.1 h;have hi:ins.length=1:=by have h:(ins.length:Int)=1:=hl;omega
 have hz:=Ax h0;have ha:=hc.1 (.inr (.inl rfl));replace ha:∀a∈ins.getD 0 [],Qn e a=0:=ha;refine I9 h0 (show(3:Int)≠1/\(3:Int)≠8/\(3:Int)≠9 by decide) rfl hi hs (λj=>(([],0,false),[((ins.getD 0 []).take j).filter (Ep e)])) ([],0,true) [[]] rfl (Jn hz.1 hz.2.2) (show(0:Int)<=1 by decide) (λj _=>⟨rfl,rfl⟩) (λj hj=>?_) ⟨rfl,rfl, ?_,rfl⟩
 ·have he:(evX e nmX ((ins.getD 0 []).getD j 0) 0).2=0:=ha _ (Pu hj);refine⟨[if Ep e ((ins.getD 0 []).getD j 0)=true then[(ins.getD 0 []).getD j 0]else[]], ?_,rfl, ?_⟩
  ·show(_,[if decide ((evX e nmX ((ins.getD 0 []).getD j 0) 0).1=1)=true then[(ins.getD 0 []).getD j 0]else[]],(evX e nmX ((ins.getD 0 []).getD j 0) 0).2)=_;rw[he];rfl
  ·show[_++(if _ then _ else _)]=[((ins.getD 0 []).take (j+1)).filter (Ep e)];rw[Hn hj,eC,dN];rfl
 ·show[_++[]]=[(ins.getD 0 []).filter (Ep e)];rw[cC,dD]
theorem Asa{z:Int}{e:ExprT}{l:List Int}{ins:List (List Int)}(h:(Ar (7,z,e,l) ins).2=0):R0 (7,z,e,l) ins:=by
 obtain⟨h0,hl,hs,hc,hb⟩:=Cy.1 h;have hi:ins.length=1:=by have h:(ins.length:Int)=1:=hl;omega
 have hz:=Ax h0;have ha:=hc.1 (.inr (.inr rfl));replace ha:∀a∈ins.getD 0 [],Qn e a=0:=ha;refine I9 h0 (show(7:Int)≠1/\(7:Int)≠8/\(7:Int)≠9 by decide) rfl hi hs (λj=>(([],0,false),[((ins.getD 0 []).take j).filter (Ep e),((ins.getD 0 []).take j).filter (λa=>!Ep e a)])) ([],0,true) [[],[]] rfl (Jn hz.1 hz.2.2) (show(0:Int)<=2 by decide) (λj _=>⟨rfl,rfl⟩) (λj hj=>?_) ⟨rfl,rfl, ?_,rfl⟩
 ·have he:(evX e nmX ((ins.getD 0 []).getD j 0) 0).2=0:=ha _ (Pu hj);refine⟨[if Ep e ((ins.getD 0 []).getD j 0)=true then[(ins.getD 0 []).getD j 0]else[],if Ep e ((ins.getD 0 []).getD j 0)=true then[]else[(ins.getD 0 []).getD j 0]], ?_,rfl, ?_⟩
  ·show(_,[if decide ((evX e nmX ((ins.getD 0 []).getD j 0) 0).1=1)=true then[(ins.getD 0 []).getD j 0]else[],if decide ((evX e nmX ((ins.getD 0 []).getD j 0) 0).1=1)=true then[]else[(ins.getD 0 []).getD j 0]],(evX e nmX ((ins.getD 0 []).getD j 0) 0).2)=_;rw[he];rfl
  ·show[_++(if _ then _ else _),_++(if _ then _ else _)]=[((ins.getD 0 []).take (j+1)).filter (Ep e),((ins.getD 0 []).take (j+1)).filter (λa=>!Ep e a)];rw[Hn hj,eC,eC,dN,dN];cases Ep e ((ins.getD 0 []).getD j 0)<;>rfl
 ·show[_++[],_++[]]=[(ins.getD 0 []).filter (Ep e),(ins.getD 0 []).filter (λa=>!Ep e a)];rw[cC,cC,dD]
theorem Asb{z:Int}{e:ExprT}{l:List Int}{ins:List (List Int)}(h:(Ar (5,z,e,l) ins).2=0):R0 (5,z,e,l) ins:=by
 obtain⟨h0,hl,hs,hc,hb⟩:=Cy.1 h;have hi:ins.length=1:=by have h:(ins.length:Int)=1:=hl;omega
 have hz:=Ax h0;refine I9 h0 (show(5:Int)≠1/\(5:Int)≠8/\(5:Int)≠9 by decide) rfl hi hs (λj=>(([],0,false),[((ins.getD 0 []).take j).flatMap (λa=>List.replicate z.toNat a)])) ([],0,true) [[]] rfl (Jn hz.1 hz.2.2) (show(0:Int)<=1 by decide) (λj _=>⟨rfl,rfl⟩) (λj hj=>?_) ⟨rfl,rfl, ?_,rfl⟩
 ·refine⟨[List.replicate z.toNat ((ins.getD 0 []).getD j 0)],rfl,rfl, ?_⟩;show[_++List.replicate _ _]=[((ins.getD 0 []).take (j+1)).flatMap (λa=>List.replicate z.toNat a)];rw[Hn hj,List.flatMap_append];simp
 ·show[_++[]]=[(ins.getD 0 []).flatMap (λa=>List.replicate z.toNat a)];rw[cC,dD]
theorem Aoy{z:Int}{e:ExprT}{l:List Int}{ins:List (List Int)}(h:(Ar (10,z,e,l) ins).2=0):R0 (10,z,e,l) ins:=by
 obtain⟨h0,hl,hs,hc,hb⟩:=Cy.1 h;have hi:ins.length=1:=by have h:(ins.length:Int)=1:=hl;omega
 have hz:=Ax h0;exact I9 h0 (show(10:Int)≠1/\(10:Int)≠8/\(10:Int)≠9 by decide) rfl hi hs (λj=>(([],0,false),[])) ([],0,true) [] rfl (Jn hz.1 hz.2.2) (show(0:Int)<=0 by decide) (λj _=>⟨rfl,rfl⟩) (λj hj=>⟨[],rfl,rfl,rfl⟩) ⟨rfl,rfl,rfl,rfl⟩
theorem Asc{z:Int}{e:ExprT}{l:List Int}{ins:List (List Int)}(h:(Ar (6,z,e,l) ins).2=0):R0 (6,z,e,l) ins:=by
 obtain⟨h0,hl,hs,hc,hb⟩:=Cy.1 h;have hi:ins.length=1:=by have h:(ins.length:Int)=1:=hl;omega
 have hz:=Ax h0;have hz0:0<=z:=hz.1;refine I9 h0 (show(6:Int)≠1/\(6:Int)≠8/\(6:Int)≠9 by decide) rfl hi hs (λj=>(([],((min j z.toNat:Nat):Int),false),[((ins.getD 0 []).take j).take z.toNat])) ([],((min (ins.getD 0 []).length z.toNat:Nat):Int),true) [[]] (by simp;rfl) (Jn hz.1 hz.2.2) (show(0:Int)<=1 by decide) (λj _=>⟨rfl,rfl⟩) (λj hj=>?_) ⟨rfl,rfl, ?_,rfl⟩
 ·by_cases hjz:j<z.toNat
  ·refine⟨[[(ins.getD 0 []).getD j 0]], ?_,rfl, ?_⟩
   ·rw[r6t (by show decide (((min j z.toNat:Nat):Int)<z)=true;rw[aX (by omega)])];show((([]:List Int),((min j z.toNat:Nat):Int)+1,false),_,_)=(([],((min (j+1) z.toNat:Nat):Int),false),_,_);rw[show((min j z.toNat:Nat):Int)+1=((min (j+1) z.toNat:Nat):Int) by omega]
   ·show[_++[_]]=[((ins.getD 0 []).take (j+1)).take z.toNat];rw[gG,gG,fS (by omega),fS (by omega),Hn hj]
  ·refine⟨[[]], ?_,rfl, ?_⟩
   ·rw[r6f (by show decide (((min j z.toNat:Nat):Int)<z)=false;rw[bE (by omega)])];show((([]:List Int),((min j z.toNat:Nat):Int),false),_,_)=(([],((min (j+1) z.toNat:Nat):Int),false),_,_);rw[show((min j z.toNat:Nat):Int)=((min (j+1) z.toNat:Nat):Int) by omega]
   ·show[_++[]]=[((ins.getD 0 []).take (j+1)).take z.toNat];rw[cC,gG,gG,eQ (by omega),eQ (by omega)]
 ·show[_++[]]=[(ins.getD 0 []).take z.toNat];rw[cC,dD]
theorem Abp(f:Int)(o:List Int)(v:Int):Jb f o v=o++Jb f [] v:=by
 unfold Jb;split<;>simp
theorem Amg(z:Int)(d o:List Int)(n:Int):Bp z (d,o,0) n=((Bp z (d,[],0) n).1,o++(Bp z (d,[],0) n).2.1,(Bp z (d,[],0) n).2.2):=by
 unfold Bp;split
 ·unfold Fx;dsimp only;rw[Abp]
 ·simp
theorem Abq(d o:List Int):Cf (d,o,0)=((Cf (d,[],0)).1,o++(Cf (d,[],0)).2.1,(Cf (d,[],0)).2.2):=by
 unfold Cf;split
 ·unfold Fx;dsimp only;rw[Abp]
 ·simp
theorem Aoz(z:Int)(s:List Int×List Int×Int)(a:Int)(h:(Bp z s a).2.2=0):s.2.2=0:=by
 unfold Bp at h;split at h
 ·exact(Afk h).1
 ·exact h
theorem Amh(z:Int):∀(l:List Int)(s:List Int×List Int×Int),(l.foldl (Bp z) s).2.2=0->s.2.2=0
 |[],s,h=>h
 |a::l,s,h=>Aoz z s a (Amh z l _ h)
theorem Asd{z:Int}{e:ExprT}{l:List Int}{ins:List (List Int)}(h:(Ar (4,z,e,l) ins).2=0):R0 (4,z,e,l) ins:=by
 obtain⟨h0,hl,hs,hc,hb⟩:=Cy.1 h;have hi:ins.length=1:=by have h:(ins.length:Int)=1:=hl;omega
 have hz:=Ax h0;have hcl:(Cf ((ins.getD 0 []).foldl (Bp z) ([],[],0))).2.2=0:=hc.2.2 rfl;have hfin:((ins.getD 0 []).foldl (Bp z) ([],[],0)).2.2=0:=by
  generalize (ins.getD 0 []).foldl (Bp z) ([],[],0)=s at *;unfold Cf at hcl;split at hcl
  ·exact(Afk hcl).1
  ·exact hcl
 have her:∀j,(((ins.getD 0 []).take j).foldl (Bp z) ([],[],0)).2.2=0:=λj=>by
  have h9:=hfin;rw[<-gR j (ins.getD 0 []),dO]at h9;exact Amh z _ _ h9
 have hst:∀j,((ins.getD 0 []).take j).foldl (Bp z) ([],[],0)=((((ins.getD 0 []).take j).foldl (Bp z) ([],[],0)).1,(((ins.getD 0 []).take j).foldl (Bp z) ([],[],0)).2.1,0):=λj=>Prod.ext rfl (Prod.ext rfl (her j))
 refine I9 h0 (show(4:Int)≠1/\(4:Int)≠8/\(4:Int)≠9 by decide) rfl hi hs (λj=>(((((ins.getD 0 []).take j).foldl (Bp z) ([],[],0)).1,0,false),[(((ins.getD 0 []).take j).foldl (Bp z) ([],[],0)).2.1]))
  ((Cf ((((ins.getD 0 []).take (ins.getD 0 []).length).foldl (Bp z) ([],[],0)).1,[],0)).1,0,true) [(Cf ((((ins.getD 0 []).take (ins.getD 0 []).length).foldl (Bp z) ([],[],0)).1,[],0)).2.1] rfl (Jn hz.1 hz.2.2) (show(0:Int)<=1 by decide) (λj _=>⟨rfl,rfl⟩) (λj hj=>?_) ⟨?_,rfl, ?_,rfl⟩
 ·obtain⟨d,o,hd⟩:∃d o,((ins.getD 0 []).take j).foldl (Bp z) ([],[],0)=(d,o,0):=⟨_,_,hst j⟩;have hn:((ins.getD 0 []).take (j+1)).foldl (Bp z) ([],[],0)=((Bp z (d,[],0) ((ins.getD 0 []).getD j 0)).1,o++(Bp z (d,[],0) ((ins.getD 0 []).getD j 0)).2.1,(Bp z (d,[],0) ((ins.getD 0 []).getD j 0)).2.2):=by
   rw[Hn hj,dO,hd,<-Amg];rfl
  have h1:=her (j+1);rw[hn]at h1;replace h1:(Bp z (d,[],0) ((ins.getD 0 []).getD j 0)).2.2=0:=h1;dsimp only;rw[hd,hn];refine⟨[(Bp z (d,[],0) ((ins.getD 0 []).getD j 0)).2.1], ?_,rfl,rfl⟩;show(((Bp z (d,[],0) ((ins.getD 0 []).getD j 0)).1,0,false),[(Bp z (d,[],0) ((ins.getD 0 []).getD j 0)).2.1],(Bp z (d,[],0) ((ins.getD 0 []).getD j 0)).2.2)=_;rw[h1]
 ·obtain⟨d,o,hd⟩:∃d o,((ins.getD 0 []).take (ins.getD 0 []).length).foldl (Bp z) ([],[],0)=(d,o,0):=⟨_,_,hst _⟩;have h1:=hcl;rw[<-dD (l:=ins.getD 0 []),hd,Abq]at h1;replace h1:(Cf (d,[],0)).2.2=0:=h1;dsimp only;rw[hd];show(((Cf (d,[],0)).1,0,true),[(Cf (d,[],0)).2.1],(Cf (d,[],0)).2.2)=_;rw[h1]
 ·obtain⟨d,o,hd⟩:∃d o,((ins.getD 0 []).take (ins.getD 0 []).length).foldl (Bp z) ([],[],0)=(d,o,0):=⟨_,_,hst _⟩;have h1:(ins.getD 0 []).foldl (Bp z) ([],[],0)=(d,o,0):=by rw[dD]at hd;exact hd
  have h2:E8 (4,z,e,l) ins=[(Cf (d,o,0)).2.1]:=by
   show[(Cf ((ins.getD 0 []).foldl (Bp z) ([],[],0))).2.1]=_;rw[h1]
  have h3:(Cf (d,o,0)).2.1=o++(Cf (d,[],0)).2.1:=bI (λs=>s.2.1) (Abq d o);rw[h2,h3];dsimp only;rw[hd];rfl
theorem Ase{z:Int}{e:ExprT}{l:List Int}{ins:List (List Int)}(h:(Ar (1,z,e,l) ins).2=0):R0 (1,z,e,l) ins:=by
 obtain⟨h0,hl,hs,hc,hb⟩:=Cy.1 h;have hi:ins.length=0:=by have h:(ins.length:Int)=0:=hl;omega
 have hz:=Ax h0;have hit:=(Hm h0).1;replace hit:l.length<=200:=hit;have vd:∀(c:Int)(en:Bool),0<=c->c<=(l.length:Int)->Av (1,z,e,l) ([],c,en)=true:=λc en h1 h2=>As.2 ⟨⟨h1,h2,by show((0:Nat):Int)<=0;decide⟩,rfl,rfl⟩
 have nd:∀(c:Int)(en:Bool),0<=c->c<=(l.length:Int)->Am (1,z,e,l) ([],c,en)=([],0):=λc en h1 h2=>ND2 (by simp[h0]) (by simp[vd c en h1 h2]) (by cases en<;>rfl)
 refine⟨λr t=>(∃j:Nat,j<=l.length/\t=(([],(j:Int),false),[],[l.take j])/\r=l.length-j+1)\/(t=(([],(l.length:Int),true),[],[l])/\r=0), ?_,by rw[show tot (1,z,e,l) ins=l.length+1 from aP rfl];exact .inl ⟨0,aV _,by rw[start,hi];rfl,by omega⟩⟩
 ·rintro r t (⟨j,hj,rfl,rfl⟩|⟨rfl,rfl⟩)
  ·have hn:=nd (j:Int) false (by omega) (by omega);have hv:=vd (j:Int) false (by omega) (by omega);refine⟨by show(Am (1,z,e,l) ([],(j:Int),false)).2=0;rw[hn],by rw[hi];rfl,rfl,.inr (.inr ⟨by show(Am (1,z,e,l) ([],(j:Int),false)).1=[];rw[hn],rfl,rfl,λhje=>?_,λhjl=>?_⟩)⟩
   ·have hje':(j:Int)=(l.length:Int):=hje;have he:=Yn (x:=(1,z,e,l)) (s:=([],(j:Int),false)) (i:=-1) (t:=([],(j:Int),true)) (o:=[[]]) h0 hv rfl (Yo rfl λh=>aT rfl h) rfl;show(Cg (1,z,e,l) ([],(j:Int),false) (-1)).2.2.2=0/\Nx _ _ _ (Cg (1,z,e,l) ([],(j:Int),false) (-1)).1 _ (Cg (1,z,e,l) ([],(j:Int),false) (-1)).2.1;rw[he];refine⟨rfl,rfl,0,by omega,.inr ⟨?_,rfl⟩⟩;show(([],(j:Int),true),[],[l.take j++[]])=_;rw[cC,hje',bL (by omega)]
   ·have hjl':¬(j:Int)=(l.length:Int):=hjl;have ht:=Sn (x:=(1,z,e,l)) (s:=([],(j:Int),false)) (i:=-1) (n:=0) (t:=([],(j:Int)+1,false)) (o:=[[l.getD (j:Int).toNat 0]]) h0 hv (by
     show(bif bif false then true else bif decide ((1:Int)=1)then bif !decide ((-1:Int)=-1)then true else decide ((j:Int)=(l.length:Int))else false then true else bif !decide ((1:Int)=1)then _ else false)=false;rw[bE hjl'];rfl) rfl rfl
    show(Bq (1,z,e,l) ([],(j:Int),false) (-1) 0).2.2=0/\Nx _ _ _ (Bq (1,z,e,l) ([],(j:Int),false) (-1) 0).1 _ (Bq (1,z,e,l) ([],(j:Int),false) (-1) 0).2.1;rw[ht];refine⟨rfl,rfl,l.length-(j+1)+1,by omega,.inl ⟨j+1,by omega, ?_,rfl⟩⟩;show(([],(j:Int)+1,false),[],[l.take j++[l.getD (j:Int).toNat 0]])=(([],((j+1:Nat):Int),false),[],[l.take (j+1)]);rw[Hn (by omega),bH];rfl
  ·have hn:=nd (l.length:Int) true (by omega) (by omega);exact⟨by show(Am (1,z,e,l) ([],(l.length:Int),true)).2=0;rw[hn],by rw[hi];rfl,rfl,.inl ⟨by show(Am (1,z,e,l) ([],(l.length:Int),true)).1=[];rw[hn],rfl,rfl,rfl⟩⟩
theorem Ro{x:StT}{ins:List (List Int)}{J:Nat->RT->Prop}{r:Nat}{t:RT}{k p:Nat}(hn:Am x t.1=([(k:Int)],0))(h1:t.2.1.length=ins.length)(h2:(t.2.2.length:Int)=(Ap x.1).2.1)(hk:k<ins.length)(he:t.1.2.2=false)
 (hp:t.2.1.getD k 0=(p:Int))(hl:p<=(ins.getD k []).length)(hE:p=(ins.getD k []).length->∃(s:SST)(o:List (List Int)),Cg x t.1 k=(s,o,s.2.2,0)/\Nx J r t s t.2.1 o)
 (hT:p<(ins.getD k []).length->∃(s:SST)(o:List (List Int)),Bq x t.1 k ((ins.getD k []).getD p 0)=(s,o,0)/\Nx J r t s (t.2.1.set k ((p:Int)+1)) o):Rnd x ins J r t:=by
 refine⟨by rw[hn],h1,h2,.inr (.inl ⟨k,p,by rw[hn],hk,he,hp,hl,λh=>?_,λh=>?_⟩)⟩
 ·obtain⟨s,o,g1,g2⟩:=hE h;rw[g1];exact⟨rfl,g2⟩
 ·obtain⟨s,o,g1,g2⟩:=hT h;rw[g1];exact⟨rfl,g2⟩
theorem Af4{x:StT}{ins:List (List Int)}{J:Nat->RT->Prop}{r:Nat}{t:RT}(hn:Am x t.1=([],0))(h1:t.2.1.length=ins.length)(h2:(t.2.2.length:Int)=(Ap x.1).2.1)(he:t.1.2.2=true)(ho:t.2.2=E8 x ins)(hr:r=0):Rnd x ins J r t:=
 ⟨by rw[hn],h1,h2,.inl ⟨by rw[hn],he,ho,hr⟩⟩
theorem Ie{l:List Int}(h:l.any Aj=false){j:Nat}(hj:j<l.length):Aj (l.getD j 0)=false:=by
 have h9:=dA.1 h (l.getD j 0) (Pu hj);simpa using h9
theorem Na{l:List Int}{j:Nat}(h:j<l.length):l.drop j=l.getD j 0::l.drop (j+1):=by
 rw[cG h];simp[aZ,aR h]
section
variable {z:Int}{e:ExprT}{l:List Int}{held:List Int}{c:Int}
theorem Yp(h0:Al (8,z,e,l)=0)(hv:Av (8,z,e,l) (held,c,false)=true):Am (8,z,e,l) (held,c,false)=([if held.any (isI c)=true then 1-c else c],0):=by
 by_cases h:held.any (isI c)=true
 ·rw[aP h];exact ND3 (by simp[h0]) (by simp[hv]) rfl h
 ·rw[aL h];have h':held.any (isI c)=false:=by simpa using h
  exact ND4 (by simp[h0]) (by simp[hv]) rfl h' rfl
theorem Yq(h0:Al (8,z,e,l)=0)(hv:Av (8,z,e,l) (held,c,false)=true){k:Int}(hn:(Am (8,z,e,l) (held,c,false)).1=[k]){n:Int}(hm:Aj n=false):Bq (8,z,e,l) (held,c,false) k n=((held,1-k,false),[[n]],0):=
 Sn h0 hv (Ad2 (by show(8:Int)≠1;decide) rfl (by rw[hn];simp[isI])) (Ad3 (by show(8:Int)≠1;decide) hm) rfl
theorem Yr(h0:Al (8,z,e,l)=0)(hv:Av (8,z,e,l) (held,c,false)=true){k:Int}(hk:0<=k/\k<2)(hh:held.any (isI k)=false){s:List Int}(hs:Gw (held++[k])=s):Cg (8,z,e,l) (held,c,false) k=((s,c,decide ((s.length:Int)=2)),[[]],decide ((s.length:Int)=2),0):=by
 subst hs;exact Yn h0 hv (Ad4 (by show(8:Int)≠1;decide) hk.1 hk.2) (Yo rfl λ_=>hh) rfl
theorem Af5(h:held=[]\/held=[0]\/held=[1])(hc:0<=c/\c<=1):Av (8,z,e,l) (held,c,false)=true:=by
 rcases h with rfl|rfl|rfl
 ·exact As.2 ⟨⟨hc.1,hc.2,by show((0:Nat):Int)<=2;decide⟩,rfl,rfl⟩
 ·exact As.2 ⟨⟨hc.1,hc.2,by show((1:Nat):Int)<=2;decide⟩,rfl,rfl⟩
 ·exact As.2 ⟨⟨hc.1,hc.2,by show((1:Nat):Int)<=2;decide⟩,rfl,rfl⟩
end
def MC(a b M:List Int)(held:List Int)(c:Int)(p q:Nat)(o:List Int):Prop:=
 (held=[]/\c=0/\o++Ed ((a.length-p)+(b.length-q)) (a.drop p) (b.drop q)=M)\/(held=[]/\c=1/\o++Ed ((a.length-p)+(b.length-q)) (b.drop q) (a.drop p)=M)\/
   (held=[0]/\p=a.length/\o++b.drop q=M)\/(held=[1]/\q=b.length/\o++a.drop p=M)
theorem Asf{z:Int}{e:ExprT}{l:List Int}{ins:List (List Int)}(h:(Ar (8,z,e,l) ins).2=0):R0 (8,z,e,l) ins:=by
 obtain⟨h0,hl,hs,hc,hb⟩:=Cy.1 h;have hi:ins.length=2:=by have h:(ins.length:Int)=2:=hl;omega
 obtain⟨ga1,ga2⟩:=Bi hs (show 0<ins.length by omega);obtain⟨gb1,gb2⟩:=Bi hs (show 1<ins.length by omega);replace ga1:(ins.getD 0 []).length<=200:=ga1;replace ga2:(ins.getD 0 []).any Aj=false:=ga2;replace gb1:(ins.getD 1 []).length<=200:=gb1;replace gb2:(ins.getD 1 []).any Aj=false:=gb2;have ho:E8 (8,z,e,l) ins=[Ed ((ins.getD 0 []).length+(ins.getD 1 []).length) (ins.getD 0 []) (ins.getD 1 [])]:=rfl;have d0:∀c:Int,0<=c/\c<=1->Av (8,z,e,l) ([0,1],c,true)=true:=λc hc=>As.2 ⟨⟨hc.1,hc.2,by show((2:Nat):Int)<=2;decide⟩,rfl,rfl⟩
 refine⟨λr t=>(∃(held:List Int)(c:Int)(p q:Nat)(o:List Int),t=((held,c,false),[(p:Int),(q:Int)],[o])/\(0<=c/\c<=1)/\(p<=(ins.getD 0 []).length/\q<=(ins.getD 1 []).length)/\
  MC (ins.getD 0 []) (ins.getD 1 []) (Ed ((ins.getD 0 []).length+(ins.getD 1 []).length) (ins.getD 0 []) (ins.getD 1 [])) held c p q o/\r+held.length=((ins.getD 0 []).length-p)+((ins.getD 1 []).length-q)+2)\/
  (∃c:Int,(0<=c/\c<=1)/\t=(([0,1],c,true),[((ins.getD 0 []).length:Int),((ins.getD 1 []).length:Int)],E8 (8,z,e,l) ins)/\r=0), ?_,by rw[Ap3 hi (by show(8:Int)≠1;decide)];exact .inl ⟨[],0,0,0,[],by rw[start,hi];rfl,by decide,⟨aV _,aV _⟩,.inl ⟨rfl,rfl,rfl⟩,rfl⟩⟩
 ·rintro r t (⟨held,c,p,q,o,rfl,hc,⟨hp,hq⟩,hm,hr⟩|⟨c,hc,rfl,rfl⟩)
  ·rcases hm with⟨rfl,rfl,hm⟩|⟨rfl,rfl,hm⟩|⟨rfl,rfl,hm⟩|⟨rfl,rfl,hm⟩
   ·have hv:=Af5 (z:=z) (e:=e) (l:=l) (.inl rfl) (show(0:Int)<=0/\(0:Int)<=1 by decide);have hn:Am (8,z,e,l) ([],0,false)=([0],0):=Yp h0 hv;refine Ro (k:=0) (p:=p) hn (by rw[hi];rfl) rfl (by omega) rfl rfl hp (λhpe=>⟨([0],0,false),[[]],Yr h0 hv (by decide) rfl (Adn 0),rfl,r-1,by simp only[List.length_nil,List.length_cons]at hr;omega,.inl ⟨[0],0,p,q,o++[],rfl,by decide,⟨hp,hq⟩,.inr (.inr (.inl ⟨rfl,hpe, ?_⟩)),by simp only[List.length_nil,List.length_cons]at hr ⊢;omega⟩⟩) λhpl=>⟨([],1,false),[[(ins.getD 0 []).getD p 0]],Yq h0 hv (by rw[hn];rfl) (Ie ga2 hpl),rfl,r-1,by simp only[List.length_nil,List.length_cons]at hr;omega,.inl ⟨[],1,p+1,q,o++[(ins.getD 0 []).getD p 0],rfl,by decide,⟨hpl,hq⟩,.inr (.inl ⟨rfl,rfl, ?_⟩),by simp only[List.length_nil,List.length_cons]at hr ⊢;omega⟩⟩
    ·rw[cC,<-hm,show(ins.getD 0 []).drop p=[]from bK (by omega),M5]
    ·rw[<-hm,Na hpl,show(ins.getD 0 []).length-p+((ins.getD 1 []).length-q)=((ins.getD 0 []).length-(p+1)+((ins.getD 1 []).length-q))+1 by omega];show _=o++(_::Ed _ _ _);rw[dR];rfl
   ·have hv:=Af5 (z:=z) (e:=e) (l:=l) (.inl rfl) (show(0:Int)<=1/\(1:Int)<=1 by decide);have hn:Am (8,z,e,l) ([],1,false)=([1],0):=Yp h0 hv;refine Ro (k:=1) (p:=q) hn (by rw[hi];rfl) rfl (by omega) rfl rfl hq (λhpe=>⟨([1],1,false),[[]],Yr h0 hv (by decide) rfl (Adn 1),rfl,r-1,by simp only[List.length_nil,List.length_cons]at hr;omega,.inl ⟨[1],1,p,q,o++[],rfl,by decide,⟨hp,hq⟩,.inr (.inr (.inr ⟨rfl,hpe, ?_⟩)),by simp only[List.length_nil,List.length_cons]at hr ⊢;omega⟩⟩) λhpl=>⟨([],0,false),[[(ins.getD 1 []).getD q 0]],Yq h0 hv (by rw[hn];rfl) (Ie gb2 hpl),rfl,r-1,by simp only[List.length_nil,List.length_cons]at hr;omega,.inl ⟨[],0,p,q+1,o++[(ins.getD 1 []).getD q 0],rfl,by decide,⟨hp,hpl⟩,.inl ⟨rfl,rfl, ?_⟩,by simp only[List.length_nil,List.length_cons]at hr ⊢;omega⟩⟩
    ·rw[cC,<-hm,show(ins.getD 1 []).drop q=[]from bK (by omega),M5]
    ·rw[<-hm,Na hpl,show(ins.getD 0 []).length-p+((ins.getD 1 []).length-q)=((ins.getD 0 []).length-p+((ins.getD 1 []).length-(q+1)))+1 by omega];show _=o++(_::Ed _ _ _);rw[dR];rfl
   ·have hv:=Af5 (z:=z) (e:=e) (l:=l) (held:=[0]) (.inr (.inl rfl)) hc;have hc2:c=0\/c=1:=by omega
    have hn:Am (8,z,e,l) ([0],c,false)=([1],0):=by
     rw[Yp h0 hv];rcases hc2 with rfl|rfl<;>rfl
    refine Ro (k:=1) (p:=q) hn (by rw[hi];rfl) rfl (by omega) rfl rfl hq (λhpe=>⟨([0,1],c,true),[[]],Yr h0 hv (by decide) rfl Afo,rfl,0,by simp only[List.length_nil,List.length_cons]at hr;omega,.inr ⟨c,hc, ?_,rfl⟩⟩) λhpl=>⟨([0],0,false),[[(ins.getD 1 []).getD q 0]],Yq h0 hv (by rw[hn];rfl) (Ie gb2 hpl),rfl,r-1,by simp only[List.length_nil,List.length_cons]at hr;omega,.inl ⟨[0],0,(ins.getD 0 []).length,q+1,o++[(ins.getD 1 []).getD q 0],rfl,by decide,⟨bA _,hpl⟩,.inr (.inr (.inl ⟨rfl,rfl, ?_⟩)),by simp only[List.length_nil,List.length_cons]at hr ⊢;omega⟩⟩
    ·show(([0,1],c,true),[((ins.getD 0 []).length:Int),(q:Int)],[o++[]])=_;rw[ho,<-hm,show(ins.getD 1 []).drop q=[]from bK (by omega),hpe]
    ·rw[<-hm,Na hpl,dR];rfl
   ·have hv:=Af5 (z:=z) (e:=e) (l:=l) (held:=[1]) (.inr (.inr rfl)) hc;have hc2:c=0\/c=1:=by omega
    have hn:Am (8,z,e,l) ([1],c,false)=([0],0):=by
     rw[Yp h0 hv];rcases hc2 with rfl|rfl<;>rfl
    refine Ro (k:=0) (p:=p) hn (by rw[hi];rfl) rfl (by omega) rfl rfl hp (λhpe=>⟨([0,1],c,true),[[]],Yr h0 hv (by decide) rfl Afp,rfl,0,by simp only[List.length_nil,List.length_cons]at hr;omega,.inr ⟨c,hc, ?_,rfl⟩⟩) λhpl=>⟨([1],1,false),[[(ins.getD 0 []).getD p 0]],Yq h0 hv (by rw[hn];rfl) (Ie ga2 hpl),rfl,r-1,by simp only[List.length_nil,List.length_cons]at hr;omega,.inl ⟨[1],1,p+1,(ins.getD 1 []).length,o++[(ins.getD 0 []).getD p 0],rfl,by decide,⟨hpl,bA _⟩,.inr (.inr (.inr ⟨rfl,rfl, ?_⟩)),by simp only[List.length_nil,List.length_cons]at hr ⊢;omega⟩⟩
    ·show(([0,1],c,true),[(p:Int),((ins.getD 1 []).length:Int)],[o++[]])=_;rw[ho,<-hm,show(ins.getD 0 []).drop p=[]from bK (by omega),hpe]
    ·rw[<-hm,Na hpl,dR];rfl
  ·exact Af4 (U2 h0 (d0 c hc) rfl) (by rw[hi];rfl) rfl rfl rfl rfl
section
variable {z:Int}{e:ExprT}{l:List Int}{held:List Int}{c:Int}
theorem Af6(h:held.length<=1)(hm:held.any Aj=false)(hc:c=0\/((c=1\/c=2)/\held=[])):Av (9,z,e,l) (held,c,false)=true:=by
 rcases hc with rfl|⟨rfl|rfl,rfl⟩
 ·exact As.2 ⟨⟨by show(0:Int)<=0;decide,by show(0:Int)<=3;decide,by show(held.length:Int)<=1;omega⟩,hm,rfl⟩
 ·exact As.2 ⟨⟨by show(0:Int)<=1;decide,by show(1:Int)<=3;decide,by show((0:Nat):Int)<=1;decide⟩,rfl,rfl⟩
 ·exact As.2 ⟨⟨by show(0:Int)<=2;decide,by show(2:Int)<=3;decide,by show((0:Nat):Int)<=1;decide⟩,rfl,rfl⟩
theorem Ys(h0:Al (9,z,e,l)=0)(hv:Av (9,z,e,l) (held,c,false)=true):Am (9,z,e,l) (held,c,false)=([if(bif decide (C8 .i64 (Nv .i64 c 0) 1=1)then true else decide (0<(held.length:Int)))=true then 1 else 0],0):=by
 by_cases h:(bif decide (C8 .i64 (Nv .i64 c 0) 1=1)then true else decide (0<(held.length:Int)))=true
 ·rw[aP h];refine ND5 (by simp[h0]) (by simp[hv]) rfl rfl rfl ?_;rw[Qo];exact h
 ·rw[aL h];have h':(bif decide (C8 .i64 (Nv .i64 c 0) 1=1)then true else decide (0<(held.length:Int)))=false:=by simpa using h
  refine ND6 (by simp[h0]) (by simp[hv]) rfl rfl rfl ?_;rw[Qo];exact h'
theorem Yt(h0:Al (9,z,e,l)=0)(hv:Av (9,z,e,l) (held,c,false)=true){k:Int}(hn:(Am (9,z,e,l) (held,c,false)).1=[k]){n:Int}(hm:Aj n=false){t:SST}{o:List (List Int)}(hr:Dr (9,z,e,l) (held,c,false) k n=(t,o,0)):Bq (9,z,e,l) (held,c,false) k n=(t,o,0):=
 Sn h0 hv (Ad2 (by show(9:Int)≠1;decide) rfl (by rw[hn];simp[isI])) (Ad3 (by show(9:Int)≠1;decide) hm) hr
theorem Yu(h0:Al (9,z,e,l)=0)(hv:Av (9,z,e,l) (held,c,false)=true){k:Int}(hk:0<=k/\k<2)(hh:decide (C8 .i64 (Nv .i64 c k) 1=1)=false){t:SST}(hr:Ei (9,z,e,l) (held,c,false) k=(t,[[]],0)):Cg (9,z,e,l) (held,c,false) k=(t,[[]],t.2.2,0):=
 Yn h0 hv (Ad4 (by show(9:Int)≠1;decide) hk.1 hk.2) (Yo rfl λ_=>by rw[Qo];exact hh) hr
end
theorem b00:Dc .i64 0 (Dd .i64 1 0)=1:=by decide
theorem b01:Dc .i64 0 (Dd .i64 1 1)=2:=by decide
theorem b11:Dc .i64 1 (Dd .i64 1 1)=3:=by decide
theorem b20:Dc .i64 2 (Dd .i64 1 0)=3:=by decide
theorem zip_snoc{f:Nat->Int}{j:Nat}:(List.range (j+1)).map f=(List.range j).map f++[f j]:=by
 rw[dL,eL];rfl
def ZC(a b:List Int)(f:Nat->Int)(held:List Int)(c:Int)(p q:Nat)(o:List Int):Prop:=
 (held=[]/\c=0/\p=q/\o=(List.range q).map f)\/(held=[a.getD q 0]/\c=0/\p=q+1/\q<a.length/\o=(List.range q).map f)\/
   (held=[]/\c=1/\p=a.length/\o=(List.range (min a.length b.length)).map f)\/(held=[]/\c=2/\q=b.length/\o=(List.range (min a.length b.length)).map f)
theorem Asg{z:Int}{e:ExprT}{l:List Int}{ins:List (List Int)}(h:(Ar (9,z,e,l) ins).2=0):R0 (9,z,e,l) ins:=by
 obtain⟨h0,hl,hs,hc,hb⟩:=Cy.1 h;have hi:ins.length=2:=by have h:(ins.length:Int)=2:=hl;omega
 obtain⟨ga1,ga2⟩:=Bi hs (show 0<ins.length by omega);obtain⟨gb1,gb2⟩:=Bi hs (show 1<ins.length by omega);replace ga1:(ins.getD 0 []).length<=200:=ga1;replace ga2:(ins.getD 0 []).any Aj=false:=ga2;replace gb1:(ins.getD 1 []).length<=200:=gb1;replace gb2:(ins.getD 1 []).any Aj=false:=gb2;have ha:=hc.2.1 rfl;replace ha:∀i,i<min (ins.getD 0 []).length (ins.getD 1 []).length->Ak2 e ((ins.getD 0 []).getD i 0) ((ins.getD 1 []).getD i 0)=0:=ha;obtain⟨f,hf⟩:∃f:Nat->Int,f=λi=>Arf e ((ins.getD 0 []).getD i 0) ((ins.getD 1 []).getD i 0):=⟨_,rfl⟩
 have ho:E8 (9,z,e,l) ins=[(List.range (min (ins.getD 0 []).length (ins.getD 1 []).length)).map f]:=by rw[hf];rfl
 have d0:Av (9,z,e,l) ([],3,true)=true:=As.2 ⟨⟨by show(0:Int)<=3;decide,by show(3:Int)<=3;decide,by show((0:Nat):Int)<=1;decide⟩,rfl,rfl⟩;refine⟨λr t=>(∃(held:List Int)(c:Int)(p q:Nat)(o:List Int),t=((held,c,false),[(p:Int),(q:Int)],[o])/\(p<=(ins.getD 0 []).length/\q<=(ins.getD 1 []).length)/\
  ZC (ins.getD 0 []) (ins.getD 1 []) f held c p q o/\r+(if c=0 then 0 else 1)=((ins.getD 0 []).length-p)+((ins.getD 1 []).length-q)+2)\/
  (t=(([],3,true),[((ins.getD 0 []).length:Int),((ins.getD 1 []).length:Int)],E8 (9,z,e,l) ins)/\r=0), ?_,by rw[Ap3 hi (by show(9:Int)≠1;decide)];exact .inl ⟨[],0,0,0,[],by rw[start,hi];rfl,⟨aV _,aV _⟩,.inl ⟨rfl,rfl,rfl,rfl⟩,rfl⟩⟩
 ·rintro r t (⟨held,c,p,q,o,rfl,⟨hp,hq⟩,hm,hr⟩|⟨rfl,rfl⟩)
  ·rcases hm with⟨rfl,rfl,rfl,rfl⟩|⟨rfl,rfl,rfl,hqa,rfl⟩|⟨rfl,rfl,rfl,rfl⟩|⟨rfl,rfl,rfl,rfl⟩
   ·have hv:=Af6 (z:=z) (e:=e) (l:=l) (held:=[]) (c:=0) (by decide) rfl (.inl rfl);have hn:Am (9,z,e,l) ([],0,false)=([0],0):=by rw[Ys h0 hv];rw[aL (by decide)]
    rw[aP rfl]at hr;refine Ro (k:=0) (p:=p) hn (by rw[hi];rfl) rfl (by omega) rfl rfl hp (λhpe=>⟨([],1,false),[[]],Yu h0 hv (by decide) (by decide) (by rw[e9f (by decide)];show(([],Dc .i64 0 (Dd .i64 1 0),decide (Dc .i64 0 (Dd .i64 1 0)=3)),[[]],(0:Int))=_;rw[b00];rfl),rfl,r-1,by omega,.inl ⟨[],1,p,p,(List.range p).map f++[],rfl,⟨hp,hq⟩,.inr (.inr (.inl ⟨rfl,rfl,hpe, ?_⟩)),by rw[aL (by decide)];omega⟩⟩) λhpl=>⟨([(ins.getD 0 []).getD p 0],0,false),[[]],Yt h0 hv (by rw[hn];rfl) (Ie ga2 hpl) (r9a (by decide) (by show decide (C8 .i64 0 2=0)=true;decide)),rfl,r-1,by omega,.inl ⟨[(ins.getD 0 []).getD p 0],0,p+1,p,(List.range p).map f++[],rfl,⟨hpl,hq⟩,.inr (.inl ⟨rfl,rfl,rfl,hpl,cC _⟩),by rw[aP rfl];omega⟩⟩
    rw[cC,eQ (by omega),hpe]
   ·have hmn:=Ie ga2 hqa;have hv:=Af6 (z:=z) (e:=e) (l:=l) (held:=[(ins.getD 0 []).getD q 0]) (c:=0) (by simp) (by simp only[eV,gT,gM];exact hmn) (.inl rfl);have hn:Am (9,z,e,l) ([(ins.getD 0 []).getD q 0],0,false)=([1],0):=by rw[Ys h0 hv];rw[aP (by rw[show decide (C8 .i64 (Nv .i64 0 0) 1=1)=false by decide];rfl)]
    rw[aP rfl]at hr;refine Ro (k:=1) (p:=q) hn (by rw[hi];rfl) rfl (by omega) rfl rfl hq (λhpe=>⟨([],2,false),[[]],Yu h0 hv (by decide) (by decide) (by rw[e9t (by decide)];show(([],Dc .i64 0 (Dd .i64 1 1),decide (Dc .i64 0 (Dd .i64 1 1)=3)),[[]],(0:Int))=_;rw[b01];rfl),rfl,r-1,by omega,.inl ⟨[],2,q+1,q,(List.range q).map f++[],rfl,⟨hp,hq⟩,.inr (.inr (.inr ⟨rfl,rfl,hpe, ?_⟩)),by rw[aL (by decide)];omega⟩⟩) λhpl=>⟨([],0,false),[[f q]],Yt h0 hv (by rw[hn];rfl) (Ie gb2 hpl) ?_,rfl,r-1,by omega,.inl ⟨[],0,q+1,q+1,(List.range q).map f++[f q],rfl,⟨hp,hpl⟩,.inl ⟨rfl,rfl,rfl,zip_snoc.symm⟩,by rw[aP rfl];omega⟩⟩
    ·rw[cC,fS (by omega),hpe]
    ·have he:(evX e D8 ((ins.getD 0 []).getD q 0) ((ins.getD 1 []).getD q 0)).2=0:=ha q (by omega);rw[r9c (by decide) (by show decide (((1:Nat):Int)=1)=true;decide)];show(_,[[(evX e D8 ((ins.getD 0 []).getD q 0) ((ins.getD 1 []).getD q 0)).1]],(evX e D8 ((ins.getD 0 []).getD q 0) ((ins.getD 1 []).getD q 0)).2)=_;rw[he,hf];rfl
   ·have hv:=Af6 (z:=z) (e:=e) (l:=l) (held:=[]) (c:=1) (by decide) rfl (.inr ⟨.inl rfl,rfl⟩);have hn:Am (9,z,e,l) ([],1,false)=([1],0):=by rw[Ys h0 hv];rw[aP (by decide)]
    rw[aL (by decide)]at hr;refine Ro (k:=1) (p:=q) hn (by rw[hi];rfl) rfl (by omega) rfl rfl hq (λhpe=>⟨([],3,true),[[]],Yu h0 hv (by decide) (by decide) (by rw[e9t (by decide)];show(([],Dc .i64 1 (Dd .i64 1 1),decide (Dc .i64 1 (Dd .i64 1 1)=3)),[[]],(0:Int))=_;rw[b11];rfl),rfl,0,by omega,.inr ⟨?_,rfl⟩⟩) λhpl=>⟨([],1,false),[[]],Yt h0 hv (by rw[hn];rfl) (Ie gb2 hpl) (r9d (by decide) rfl),rfl,r-1,by omega,.inl ⟨[],1,(ins.getD 0 []).length,q+1,_++[],rfl,⟨bA _,hpl⟩,.inr (.inr (.inl ⟨rfl,rfl,rfl,cC _⟩)),by rw[aL (by decide)];omega⟩⟩
    show(([],3,true),[((ins.getD 0 []).length:Int),(q:Int)],[_++[]])=_;rw[ho,cC,hpe]
   ·have hv:=Af6 (z:=z) (e:=e) (l:=l) (held:=[]) (c:=2) (by decide) rfl (.inr ⟨.inr rfl,rfl⟩);have hn:Am (9,z,e,l) ([],2,false)=([0],0):=by rw[Ys h0 hv];rw[aL (by decide)]
    rw[aL (by decide)]at hr;refine Ro (k:=0) (p:=p) hn (by rw[hi];rfl) rfl (by omega) rfl rfl hp (λhpe=>⟨([],3,true),[[]],Yu h0 hv (by decide) (by decide) (by rw[e9f (by decide)];show(([],Dc .i64 2 (Dd .i64 1 0),decide (Dc .i64 2 (Dd .i64 1 0)=3)),[[]],(0:Int))=_;rw[b20];rfl),rfl,0,by omega,.inr ⟨?_,rfl⟩⟩) λhpl=>⟨([],2,false),[[]],Yt h0 hv (by rw[hn];rfl) (Ie ga2 hpl) (r9b (by decide) (by show decide (C8 .i64 2 2=0)=false;decide)),rfl,r-1,by omega,.inl ⟨[],2,p+1,(ins.getD 1 []).length,_++[],rfl,⟨hpl,bA _⟩,.inr (.inr (.inr ⟨rfl,rfl,rfl,cC _⟩)),by rw[aL (by decide)];omega⟩⟩
    show(([],3,true),[(p:Int),((ins.getD 1 []).length:Int)],[_++[]])=_;rw[ho,cC,hpe]
  ·exact Af4 (U2 h0 d0 rfl) (by rw[hi];rfl) rfl rfl rfl rfl
theorem Af7{x:StT}{ins:List (List Int)}(h:(Ar x ins).2=0):R0 x ins:=by
 obtain⟨h0,-⟩:=Cy.1 h;have hk:=G6 (B1 h0);obtain⟨k,z,e,l⟩:=x;replace hk:k=1\/k=2\/k=3\/k=4\/k=5\/k=6\/k=7\/k=8\/k=9\/k=10:=hk;rcases hk with rfl|rfl|rfl|rfl|rfl|rfl|rfl|rfl|rfl|rfl
 ·exact Ase h
 ·exact Ar8 h
 ·exact Ar9 h
 ·exact Asd h
 ·exact Asb h
 ·exact Asc h
 ·exact Asa h
 ·exact Asf h
 ·exact Asg h
 ·exact Aoy h
theorem D3{α:Type}{l:List α}{k:Nat}{d:α}(h:l.length<=k):l.getD k d=d:=by
 rw[aZ,dW h];rfl
theorem Abr{a b:List (List Int)}(h:b.length=a.length):(Od a b).length=a.length:=by
 unfold Od;rw[List.length_zipWith,h,Nat.min_self]
theorem Abs{a b:List (List Int)}(h:b.length=a.length)(n:Nat):(Od a b).getD n []=a.getD n []++b.getD n []:=by
 by_cases hn:n<a.length
 ·have hl:=Abr h;rw[A1 (by omega),A1 hn,A1 (by omega)];unfold Od;rw[List.getElem_zipWith]
 ·have hl:=Abr h;rw[D3 (by omega),D3 (by omega),D3 (by omega)];rfl
section
variable {x:StT}{ins:List (List Int)}{J:Nat->RT->Prop}
theorem Yv{r:Nat}{t:RT}{s:SST}{at2:List Int}{o':List (List Int)}(ih:∀r'<r,∀t,J r' t->∀o,t.2.2.getD o [] <+: (E8 x ins).getD o [])(h:Nx J r t s at2 o')(o:Nat):t.2.2.getD o [] <+: (E8 x ins).getD o []:=by
 obtain⟨h1,r',h2,h3⟩:=h;have:=ih r' (by omega) _ h3 o;rw[show(s,at2,Od t.2.2 o').2.2=Od t.2.2 o' from rfl,Abs h1]at this;exact(List.prefix_append _ _).trans this
theorem At1(hJ:∀r t,J r t->Rnd x ins J r t)(r:Nat):∀t,J r t->∀o,t.2.2.getD o [] <+: (E8 x ins).getD o []:=by
 induction r using Nat.strongRecOn with
 |ind r ih=>
  intro t h o;obtain⟨-,-,-,⟨-,-,h1,-⟩|⟨k,p,-,-,-,-,h1,h2,h3⟩|⟨-,-,-,h2,h3⟩⟩:=hJ r t h
  ·rw[h1];exact List.prefix_refl _
  ·by_cases hp:p=(ins.getD k []).length
   ·exact Yv ih (h2 hp).2 o
   ·exact Yv ih (h3 (by omega)).2 o
  ·by_cases hp:t.1.2.1=(x.2.2.2.length:Int)
   ·exact Yv ih (h2 hp).2 o
   ·exact Yv ih (h3 hp).2 o
end
theorem Abt{y:StT}{t:SST}(h1:y.1=1):(Am y t).1=[]:=by
 unfold Am;split
 ·rfl
 ·split
  ·rfl
  ·rw[aP (by rw[h1];cases t.2.2<;>rfl)]
theorem U3{y:StT}{t:SST}(h1:y.1=1)(hn:(Am y t).2=0)(he:t.2.2=false)(hc:t.2.1≠(y.2.2.2.length:Int)):Bq y t (-1) 0=((t.1,t.2.1+1,t.2.2),[[y.2.2.2.getD t.2.1.toNat 0]],0):=by
 have hr:Dr y t (-1) 0=((t.1,t.2.1+1,t.2.2),[[y.2.2.2.getD t.2.1.toNat 0]],0):=aP h1;unfold Bq;rw[aL (by rw[hn];decide),aL (by unfold tk1;rw[he,h1,bE hc];exactλh=>aY h),aL (by unfold tk2;rw[h1];decide),hr];exact aL (λh=>aY h)
theorem Yw{y:StT}{t:SST}(h1:y.1=1)(hn:(Am y t).2=0)(he:t.2.2=false):Cg y t (-1)=((t.1,t.2.1,true),[[]],true,0):=by
 have hr:Ei y t (-1)=((t.1,t.2.1,true),[[]],0):=by
  unfold Ei;rw[aL (by omega),aL (by omega),aL (by omega),aL (by omega),aL (by omega)]
 unfold Cg;rw[aL (by rw[hn];decide),aL (by unfold te1;rw[h1];decide),aL (by unfold te2;rw[he,h1];exactλh=>aY h),hr];exact aL (λh=>aY h)
structure Kp(x x':PlT)(S:List (List Int))(J:Int->Nat->RT->Prop):Prop where
 w:WF x
 ct:∀i:Int,(sg x i).1≠1->sg x' i=sg x i
 cs:∀i:Int,(sg x i).1=1->∃n:Nat,n<=(sg x i).2.2.2.length/\sg x' i=((sg x i).1,(sg x i).2.1,(sg x i).2.2.1,(sg x i).2.2.2.take n)
 ps:x'.2=x.2
 ok:∀i:Int,0<=i->i<x.1.length->Al (sg x' i)=0
 so:∀i o:Int,0<=i->i<x.1.length->0<=o->o<stOut (sg x i)->S.getD (pOut x i o).toNat []=(E8 (sg x' i) (Bj x' S i)).getD o.toNat []
 jr:∀i:Int,0<=i->i<x.1.length->∀r t,J i r t->Rnd (sg x' i) (Bj x' S i) (J i) r t
 sl:∀k<x.2.length,(S.getD k []).length<=200
structure Kn(x x':PlT)(S:List (List Int))(J:Int->Nat->RT->Prop)(s:FsT)(r:Int->Nat)(T:Int->List Int)(O:Int->List (List Int)):Prop where
 st:∀i:Int,0<=i->i<x.1.length->J i (r i) (Ay s i,T i,O i)
 se:∀k<x.2.length,(s.2.1.getD k zCred).2.2.2.2.1=((O (x.2.getD k Ag).1).getD (x.2.getD k Ag).2.1.toNat []).drop ((T (x.2.getD k Ag).2.2.1).getD (x.2.getD k Ag).2.2.2.1.toNat 0).toNat
 tk:∀k<x.2.length,(s.2.1.getD k zCred).2.2.2.1=(T (x.2.getD k Ag).2.2.1).getD (x.2.getD k Ag).2.2.2.1.toNat 0
 le:∀k<x.2.length,(T (x.2.getD k Ag).2.2.1).getD (x.2.getD k Ag).2.2.2.1.toNat 0<=(((O (x.2.getD k Ag).1).getD (x.2.getD k Ag).2.1.toNat []).length:Int)
 ou:∀i:Int,0<=i->i<x.1.length->(sg x i).1=10->s.2.2.1.getD (Fy x i) []=((Bj x' S i).getD 0 []).take ((T i).getD 0 0).toNat
 en:∀i:Int,0<=i->i<x.1.length->(sg x i).1=10->(Ay s i).2.2=true->(T i).getD 0 0=(((Bj x' S i).getD 0 []).length:Int)
def R1(T:List Int)(m:MvT):List Int:=if m.2.2.2.1=true then T.set m.2.2.2.2.1.toNat (T.getD m.2.2.2.2.1.toNat 0+1)else T
section
variable {x x':PlT}{S:List (List Int)}{J:Int->Nat->RT->Prop}{s:FsT}{r:Int->Nat}{T:Int->List Int}{O:Int->List (List Int)}
theorem Kp.kind(p:Kp x x' S J)(i:Int):(sg x' i).1=(sg x i).1:=by
 by_cases h:(sg x i).1=1
 ·obtain⟨n,-,h1⟩:=p.cs i h;rw[h1]
 ·rw[p.ct i h]
theorem Kp.sti(p:Kp x x' S J){i:Int}(i0:0<=i)(iN:i<x.1.length):stIn (sg x' i)=stIn (sg x i)/\stOut (sg x' i)=stOut (sg x i):=by
 have h:=p.w.st i.toNat (by omega);have h:Al (sg x i)=0:=h;have h':=p.ok i i0 iN;rw[Nt h,Nt h',Ll h,Ll h',p.kind];exact⟨rfl,rfl⟩
theorem Kp.inp(p:Kp x x' S J)(i k:Int):pIn x' i k=pIn x i k:=by unfold pIn;rw[p.ps]
theorem Kp.ends(p:Kp x x' S J){k:Nat}(hk:k<x.2.length):(Bj x' S (x.2.getD k Ag).2.2.1).getD (x.2.getD k Ag).2.2.2.1.toNat []=S.getD k []/\(E8 (sg x' (x.2.getD k Ag).1) (Bj x' S (x.2.getD k Ag).1)).getD (x.2.getD k Ag).2.1.toNat []=S.getD k []:=by
 have q:=p.w.pipe hk;constructor
 ·have h1:=(p.sti q.t0 q.tn).1;have h2:(x.2.getD k Ag).2.2.2.1.toNat<(stIn (sg x' (x.2.getD k Ag).2.2.1)).toNat:=by have:=q.iN;have:=q.i0;omega
  unfold Bj;rw[A1 (by rw[bN,Ej];exact h2),eS];have h3:(ints (stIn (sg x' (x.2.getD k Ag).2.2.1)).toNat)[(x.2.getD k Ag).2.2.2.1.toNat]'(by rw[Ej];exact h2)=(x.2.getD k Ag).2.2.2.1:=by
   rw[<-A1 (d:=0),Abb h2];have:=q.i0;omega
  rw[h3,p.inp,q.inp,bH]
 ·rw[<-p.so _ _ q.f0 q.fn q.o0 q.on,q.out,bH]
theorem Kn.pre(n:Kn x x' S J s r T O)(p:Kp x x' S J){k:Nat}(hk:k<x.2.length):(O (x.2.getD k Ag).1).getD (x.2.getD k Ag).2.1.toNat [] <+: S.getD k []:=by
 have q:=p.w.pipe hk;have:=At1 (p.jr _ q.f0 q.fn) _ _ (n.st _ q.f0 q.fn) (x.2.getD k Ag).2.1.toNat
 rwa [(p.ends hk).2]at this
theorem Kn.done(n:Kn x x' S J s r T O)(p:Kp x x' S J){i:Int}(i0:0<=i)(iN:i<x.1.length)(he:(Ay s i).2.2=true):O i=E8 (sg x' i) (Bj x' S i):=by
 obtain⟨-,-,-,⟨-,-,h1,-⟩|⟨k,q,-,-,h1,-⟩|⟨-,h1,-⟩⟩:=p.jr i i0 iN _ _ (n.st i i0 iN)
 ·exact h1
 ·exact aT (he.symm.trans h1) (by decide)
 ·exact aT (he.symm.trans h1) (by decide)
theorem Kn.next(n:Kn x x' S J s r T O)(p:Kp x x' S J)(v:VS x s){i:Int}(i0:0<=i)(iN:i<x.1.length)(h:(A3 x s i).2=true)
 (hc:(sg x i).1=1->((s.2.2.2=true\/(Ay s i).2.1=(sg x i).2.2.2.length)<->(Ay s i).2.1=((sg x' i).2.2.2.length:Int))):
 (A3 x s i).1.2.2.2.2.2.2=0/\(A3 x s i).1.2.1.length=(O i).length/\(∃r',r'+1=r i/\J i r' ((A3 x s i).1.1,R1 (T i) (A3 x s i).1,Od (O i) (A3 x s i).1.2.1))/\
 ((A3 x s i).1.2.2.2.1=true->(sg x i).1≠1/\0<=(A3 x s i).1.2.2.2.2.1/\(A3 x s i).1.2.2.2.2.1<stIn (sg x i)/\0<=(T i).getD (A3 x s i).1.2.2.2.2.1.toNat 0/\
   ((T i).getD (A3 x s i).1.2.2.2.2.1.toNat 0).toNat<((Bj x' S i).getD (A3 x s i).1.2.2.2.2.1.toNat []).length/\(A3 x s i).1.2.2.2.2.2.1=((Bj x' S i).getD (A3 x s i).1.2.2.2.2.1.toNat []).getD ((T i).getD (A3 x s i).1.2.2.2.2.1.toNat 0).toNat 0)/\
 ((A3 x s i).1.2.2.1=true->(sg x i).1=10->(A3 x s i).1.2.2.2.1=false/\(T i).getD 0 0=(((Bj x' S i).getD 0 []).length:Int)):=by
 have hnd:(Am (sg x i) (Ay s i)).2=0:=by have:=v.nd i.toNat (by omega);rwa [show((i.toNat:Nat):Int)=i by omega]at this
 obtain⟨g1,g2,g3,g⟩:=p.jr i i0 iN _ _ (n.st i i0 iN);replace g1:(Am (sg x' i) (Ay s i)).2=0:=g1;replace g2:(T i).length=(Bj x' S i).length:=g2;have hil:((Bj x' S i).length:Int)=stIn (sg x i):=by
  rw[Af2,(p.sti i0 iN).1];have:=Ut (sg x i);omega
 obtain⟨h1,⟨h2,h3,h4⟩|⟨h2,h3,h4⟩|⟨h2,k,hk,⟨a,l,h5,h4⟩|⟨h5,h4⟩⟩⟩:=Lm h<;>rw[h4]
 ·have hk':(sg x' i).1=1:=by rw[p.kind,h2]
  have e1:=Yw h2 hnd h1;have e2:=Yw hk' g1 h1;have hcc:=(hc h2).1 h3;rcases g with⟨-,g5,-,-⟩|⟨k,q,g4,-⟩|⟨-,-,-,g4,-⟩
  ·exact aT (g5.symm.trans h1) (by decide)
  ·exact aT ((Abt hk').symm.trans g4) (by simp)
  ·obtain⟨g5,g6,r',g7,g8⟩:=g4 hcc;rw[show Cg (sg x' i) (Ay s i,T i,O i).1 (-1)=Cg (sg x' i) (Ay s i) (-1)from rfl,e2]at g6 g8;unfold Me;rw[e1];exact⟨rfl,g6,⟨r',g7,g8⟩,(λh=>by cases h),λ_ h=>aT (h2.symm.trans h) (by decide)⟩
 ·have hk':(sg x' i).1=1:=by rw[p.kind,h2]
  obtain⟨m,hm,hx⟩:=p.cs i h2;have hcc:(Ay s i).2.1≠((sg x' i).2.2.2.length:Int):=λh=>h3 ((hc h2).2 h)
  have hci:(Ay s i).2.1≠((sg x i).2.2.2.length:Int):=λh=>h3 (.inr h)
  have e1:=U3 h2 hnd h1 hci;have e2:=U3 hk' g1 h1 hcc;have hv:=(B0.1 g1).2;have hb:=(As.1 hv).1;have hle:(Ay s i).2.1<=((sg x' i).2.2.2.length:Int)/\0<=(Ay s i).2.1:=by
   obtain⟨b1,b2,-⟩:=hb;unfold E7 at b2;rw[aP hk']at b2;exact⟨b2,b1⟩
  have hget:(sg x' i).2.2.2.getD (Ay s i).2.1.toNat 0=(sg x i).2.2.2.getD (Ay s i).2.1.toNat 0:=by
   rw[hx]at hle hcc ⊢;replace hle:(Ay s i).2.1<=(((sg x i).2.2.2.take m).length:Int)/\0<=(Ay s i).2.1:=hle;replace hcc:(Ay s i).2.1≠(((sg x i).2.2.2.take m).length:Int):=hcc;have hlt:(Ay s i).2.1.toNat<((sg x i).2.2.2.take m).length:=by omega
   rw[A1 hlt,iB,<-A1]
  rcases g with⟨-,g5,-,-⟩|⟨k,q,g4,-⟩|⟨-,-,-,-,g4⟩
  ·exact aT (g5.symm.trans h1) (by decide)
  ·exact aT ((Abt hk').symm.trans g4) (by simp)
  ·obtain⟨g5,g6,r',g7,g8⟩:=g4 hcc;rw[show Bq (sg x' i) (Ay s i,T i,O i).1 (-1) 0=Bq (sg x' i) (Ay s i) (-1) 0 from rfl,e2,hget]at g6 g8;unfold Gz;rw[e1];exact⟨rfl,g6,⟨r',g7,g8⟩,(λh=>by cases h),λ_ h=>aT (h2.symm.trans h) (by decide)⟩
 ·have hy:=p.ct i h2;obtain⟨k',k1,k2,k3⟩:=Pl hnd h2 h1;have hkk:k=k':=by rw[k1]at hk;exact hk
  subst hkk;rcases g with⟨-,g5,-,-⟩|⟨k',q,g4,g5,-,g6,g7,-,g8⟩|⟨-,-,g5,-⟩
  ·exact aT (g5.symm.trans h1) (by decide)
  ·have hkk:(k':Int)=k:=by rw[hy]at g4;rw[k1]at g4;exact(List.cons.inj g4).1.symm
   obtain⟨z,z1,z2,z3,z4⟩:=p.w.ins i0 iN k2 k3;have e1:=(p.ends z1).1;rw[z3,z4,<-hkk,bH]at e1;replace g6:(T i).getD k' 0=(q:Int):=g6;have hse:=n.se z z1;have hpr:=n.pre p z1;rw[z3,z4,<-hkk,bH,g6,bH]at hse;rw[z2]at h5;unfold Co at h5;rw[bH,hse]at h5;obtain⟨tl,htl⟩:=hpr;rw[<-e1]at htl;have hlen:q<((O (x.2.getD z Ag).1).getD (x.2.getD z Ag).2.1.toNat []).length:=by
    rcases cN q ((O (x.2.getD z Ag).1).getD (x.2.getD z Ag).2.1.toNat []).length with h|h
    ·exact h
    ·rw[bK h]at h5;cases h5
   have hq:q<((Bj x' S i).getD k' []).length:=by rw[<-htl,bD];omega
   have ha:((Bj x' S i).getD k' []).getD q 0=a:=by
    rw[<-htl,A1 (by rw[bD];omega),List.getElem_append_left hlen];rw[cG hlen]at h5;exact(List.cons.inj h5).1
   obtain⟨g9,g10,r',g11,g12⟩:=g8 hq;rw[show Bq (sg x' i) (Ay s i,T i,O i).1=Bq (sg x i) (Ay s i) by rw[hy],ha,hkk]at g9 g10 g12;have ek:k.toNat=k':=by omega
   refine⟨g9,g10,⟨r',g11, ?_⟩,λ_=>⟨h2,k2,k3, ?_, ?_, ?_⟩,λh=>by cases h⟩
   ·have:R1 (T i) (Gz (sg x i) (Ay s i) true k a)=(T i).set k' ((q:Int)+1):=by
     show(if(true:Bool)=true then(T i).set k.toNat ((T i).getD k.toNat 0+1)else T i)=_;rw[aP rfl,ek,g6]
    rw[this];exact g12
   ·show 0<=(T i).getD k.toNat 0;rw[ek,g6];omega
   ·show((T i).getD k.toNat 0).toNat<((Bj x' S i).getD k.toNat []).length;rw[ek,g6,bH];exact hq
   ·show a=((Bj x' S i).getD k.toNat []).getD ((T i).getD k.toNat 0).toNat 0;rw[ek,g6,bH];exact ha.symm
  ·exact aT g5 (by rw[hy];exact h2)
 ·have hy:=p.ct i h2;obtain⟨k',k1,k2,k3⟩:=Pl hnd h2 h1;have hkk:k=k':=by rw[k1]at hk;exact hk
  subst hkk;rcases g with⟨-,g5,-,-⟩|⟨k',q,g4,g5,-,g6,g7,g8,-⟩|⟨-,-,g5,-⟩
  ·exact aT (g5.symm.trans h1) (by decide)
  ·have hkk:(k':Int)=k:=by rw[hy]at g4;rw[k1]at g4;exact(List.cons.inj g4).1.symm
   obtain⟨z,z1,z2,z3,z4⟩:=p.w.ins i0 iN k2 k3;have e1:=(p.ends z1).1;rw[z3,z4,<-hkk,bH]at e1;replace g6:(T i).getD k' 0=(q:Int):=g6;have hse:=n.se z z1;rw[z3,z4,<-hkk,bH,g6,bH]at hse;have hcr:=D2.1 (v.cr z z1);rw[z2]at h5;unfold Co at h5;rw[bH]at h5;obtain⟨-,h6,h7⟩:=M7.1 h5;rw[h6]at hcr;have q':=p.w.pipe z1;have hO:=n.done p q'.f0 q'.fn hcr.2.2.1.symm;rw[h7,hO,(p.ends z1).2,<-e1]at hse;have hq:q=((Bj x' S i).getD k' []).length:=by
    have:=bI List.length hse;rw[List.length_nil,cI]at this;replace g7:q<=((Bj x' S i).getD k' []).length:=g7;omega
   obtain⟨g9,g10,r',g11,g12⟩:=g8 hq;rw[show Cg (sg x' i) (Ay s i,T i,O i).1=Cg (sg x i) (Ay s i) by rw[hy],hkk]at g9 g10 g12;refine⟨g9,g10,⟨r',g11,g12⟩,(λh=>by cases h),λ_ h10=>⟨rfl, ?_⟩⟩;have hst:Al (sg x i)=0:=p.w.st i.toNat (by omega);rw[Nt hst,h10]at k3;replace k3:k<1:=k3;have hk0:k'=0:=by omega
   rw[hk0]at g6 hq;rw[g6,hq]
  ·exact aT g5 (by rw[hy];exact h2)
end
theorem Ao0{c:Cred}{v:Int}{l:List Int}(h:A8 c=0)(hl:c.2.2.2.2.1=v::l)(hg:c.2.2.2.2.2=false->c.2.1=c.2.2.2.1+c.1)(hb:c.2.2.2.1<=200):(G7 c).2=0:=by
 have h1:=Wq h hl;have h2:=(Aa7 (c:=c) (by rw[h1])).2.1;have b:=Fl h;unfold G7;rw[h1]at h2 ⊢;by_cases hc:c.2.2.2.2.2=true
 ·rw[aL (by simp[hc])]
 ·have hc':c.2.2.2.2.2=false:=by simpa using hc
  have hg:=hg hc';rw[aP ⟨rfl,hc'⟩,Aa8 h2 (cO 1) hc' (by show 1<=c.2.2.2.1+1+c.1-c.2.1;omega) (by show c.2.1+1<=1099511627776;omega)]
section
variable {x x':PlT}{S:List (List Int)}{J:Int->Nat->RT->Prop}{s:FsT}{r:Int->Nat}{T:Int->List Int}{O:Int->List (List Int)}
theorem Yx{y:StT}(h:Al y=0)(hk:y.1=10):stIn y=1:=by
 rw[Nt h,hk];rfl
theorem Kn.pipe(n:Kn x x' S J s r T O)(p:Kp x x' S J){i k:Int}(i0:0<=i)(iN:i<x.1.length)(k0:0<=k)(kN:k<stIn (sg x i)):
 ∃z,z<x.2.length/\pIn x i k=(z:Int)/\(x.2.getD z Ag).2.2.1=i/\(x.2.getD z Ag).2.2.2.1=k/\(s.2.1.getD z zCred).2.2.2.1=(T i).getD k.toNat 0/\(Bj x' S i).getD k.toNat []=S.getD z []:=by
 obtain⟨z,z1,z2,z3,z4⟩:=p.w.ins i0 iN k0 kN;have h1:=n.tk z z1;have h2:=(p.ends z1).1;rw[z3,z4]at h1 h2;exact⟨z,z1,z2,z3,z4,h1,h2⟩
theorem Kn.noerr(n:Kn x x' S J s r T O)(p:Kp x x' S J)(v:VS x s){i:Int}(i0:0<=i)(iN:i<x.1.length)(h:(Be x s i).2=true)
 (hc:(sg x i).1=1->((s.2.2.2=true\/(Ay s i).2.1=(sg x i).2.2.2.length)<->(Ay s i).2.1=((sg x' i).2.2.2.length:Int))):(Cs x s i).2=0:=by
 have h2:((A3 x s i).2&&(!decide ((A3 x s i).1.2.2.2.2.2.2=0)||Ea x s i (A3 x s i).1.2.1))=true:=h;rw[aS]at h2;obtain⟨e0,-,-,hk,-⟩:=n.next p v i0 iN h2.1 hc;have hm:(Be x s i).1=(A3 x s i).1:=rfl;have mv:=Pn v i0 iN h2.1 e0;unfold Cs;rw[aL (λh=>h (Bz.2 ⟨p.w,v⟩)),aL (λh=>h ⟨i0,iN⟩),aL (by rw[h];decide),hm,aL (λh=>h e0),aL,aL]
 ·intro he;apply he;unfold Cp;by_cases ht:(A3 x s i).1.2.2.2.1=false
  ·rw[aP ht]
  ·rw[aL ht];have ht:(A3 x s i).1.2.2.2.1=true:=by simpa using ht
   obtain⟨g1,g2,g3,g4,g5,-⟩:=hk ht;obtain⟨z,z1,z2,z3,z4,z5,z6⟩:=n.pipe p i0 iN g2 g3;obtain⟨-,-,l,hl⟩:=mv.tk ht;have hcr:=D2.1 (v.cr z z1);unfold Co at hl;rw[z2,bH]at hl ⊢;have hs:=p.sl z z1;rw[z6]at g5;exact Ao0 hcr.1 hl hcr.2.2.2 (by rw[z5];omega)
 ·rintro⟨hs,h200⟩;unfold Ur at hs;rw[aS]at hs;have hk10:(sg x i).1=10:=aM hs.1;obtain⟨g1,g2,g3,g4,g5,-⟩:=hk hs.2;have hst:Al (sg x i)=0:=p.w.st i.toNat (by omega);rw[Yx hst hk10]at g3;have k0:(A3 x s i).1.2.2.2.2.1.toNat=0:=by omega
  rw[k0]at g4 g5;rw[n.ou i i0 iN hk10,bP]at h200;obtain⟨z,z1,z2,z3,z4,z5,z6⟩:=n.pipe p i0 iN (cO 0) (show(0:Int)<stIn (sg x i) by rw[Yx hst hk10];decide);have hs:=p.sl z z1;rw[<-z6]at hs;replace hs:((Bj x' S i).getD 0 []).length<=200:=hs;omega
structure Bf(c:Cred)(a:List Int)(b:Int):Prop where
 se:c.2.2.2.2.1=a.drop b.toNat
 tk:c.2.2.2.1=b
 le:b<=(a.length:Int)
theorem Ami(x:PlT){i j:Int}(i0:0<=i)(j0:0<=j)(iN:i<x.1.length)(hi:(sg x i).1=10)(h:i<j):Fy x i<Fy x j\/Fy x i=Fy x j/\False:=by
 left;unfold Fy Bm;rw[bH,bH];have hl:i.toNat<(x.1.take j.toNat).length:=by rw[bP];omega
 have:=Ip isSink (x.1.take j.toNat) i.toNat zStg hl (by rw[A1 hl,iB,<-A1 (d:=zStg)];exact aX hi)
 rwa [gG,show min i.toNat j.toNat=i.toNat by omega]at this
theorem Ao1{x:PlT}{i j:Int}(i0:0<=i)(j0:0<=j)(iN:i<x.1.length)(jN:j<x.1.length)(hi:(sg x i).1=10)(hj:(sg x j).1=10)(h:Fy x i=Fy x j):i=j:=by
 rcases iC i j with h1|h1|h1
 ·rcases Ami x i0 j0 iN hi h1 with h2|⟨-,h2⟩
  ·omega
  ·exact h2.elim
 ·exact h1
 ·rcases Ami x j0 i0 jN hj h1 with h2|⟨-,h2⟩
  ·omega
  ·exact h2.elim
theorem Ash{x:PlT}{s:FsT}(v:VS x s){i:Int}(i0:0<=i)(iN:i<x.1.length)(hi:(sg x i).1=10):Fy x i<s.2.2.1.length:=by
 have hlo:=v.lo;have:=Ip isSink x.1 i.toNat zStg (by omega) (aX hi);unfold Fy;unfold Bm at hlo ⊢;rw[bH];omega
theorem Kn.step(n:Kn x x' S J s r T O)(p:Kp x x' S J)(v:VS x s){i:Int}(i0:0<=i)(iN:i<x.1.length)(h:(Be x s i).2=true)
 (hc:(sg x i).1=1->((s.2.2.2=true\/(Ay s i).2.1=(sg x i).2.2.2.length)<->(Ay s i).2.1=((sg x' i).2.2.2.length:Int))):
 (Cs x s i).2=0/\∃r' T' O',Kn x x' S J (Cs x s i).1 r' T' O'/\r' i+1=r i/\∀j,j≠i->r' j=r j:=by
 have hne:=n.noerr p v i0 iN h hc;refine⟨hne, ?_⟩;have rs:=Po hne;have h2:((A3 x s i).2&&(!decide ((A3 x s i).1.2.2.2.2.2.2=0)||Ea x s i (A3 x s i).1.2.1))=true:=h;rw[aS]at h2;obtain⟨e0,hol,⟨r',hr,hJ⟩,hk,hen⟩:=n.next p v i0 iN h2.1 hc;generalize (A3 x s i).1=m at rs e0 hol hJ hk hen;generalize (Cs x s i).1=t at rs;have mv:=rs.mv;have hl:i.toNat<s.1.length:=by have:=v.ls;omega
 have hss:∀j:Int,0<=j->Ay t j=if j=i then m.1 else Ay s j:=λj hj=>by
  unfold Ay;rw[rs.st,Cc];by_cases h:j=i
  ·subst h;rw[aP ⟨rfl,hl⟩,aP rfl]
  ·rw[aL (by omega),aL h]
 have hTl:((T i).length:Int)=stIn (sg x i):=by
  have h1:=(p.jr i i0 iN _ _ (n.st i i0 iN)).2.1;replace h1:(T i).length=(Bj x' S i).length:=h1;rw[h1,Af2,(p.sti i0 iN).1];have:=Ut (sg x i);omega
 have hB:∀k<x.2.length,Bf (t.2.1.getD k zCred) (((if(x.2.getD k Ag).1=i then Od (O i) m.2.1 else O (x.2.getD k Ag).1)).getD (x.2.getD k Ag).2.1.toNat [])
  ((if(x.2.getD k Ag).2.2.1=i then R1 (T i) m else T (x.2.getD k Ag).2.2.1).getD (x.2.getD k Ag).2.2.2.1.toNat 0):=λk hk'=>by
  have q:=p.w.pipe hk';have hnk:=p.w.ne hk';have b1:=n.se k hk';have b2:=n.tk k hk';have b3:=n.le k hk';rw[rs.cr k hk'];unfold crS;by_cases hf:(x.2.getD k Ag).1=i
  ·rw[aP hf,aP hf,aL (by omega),Abs hol];rw[hf]at b1 b3;refine⟨?_,b2,by rw[bD];omega⟩;show(s.2.1.getD k zCred).2.2.2.2.1++_=_;rw[b1,List.drop_append_of_le_length (by omega)]
  ·rw[aL hf,aL hf];by_cases ht:m.2.2.2.1=true/\(pIn x i m.2.2.2.2.1).toNat=k
   ·rw[aP ht];obtain⟨g1,g2,g3,g4,g5,g6⟩:=hk ht.1;obtain⟨z,z1,z2,z3,z4⟩:=p.w.ins i0 iN g2 g3;have hz:z=k:=by have:=ht.2;omega
    subst hz;obtain⟨-,-,l,hl⟩:=mv.tk ht.1;have hcr:=D2.1 (v.cr z z1);have htk:=rs.tk ht.1;unfold Co at hl htk;rw[z2,bH]at hl htk;obtain⟨-,k2⟩:=Uu hcr.1 hl htk;rw[k2,aP z3];rw[z3]at b1 b2 b3;rw[z4]at b1 b2 b3 ⊢;have hlt:m.2.2.2.2.1.toNat<(T i).length:=by omega
    have hgt:(R1 (T i) m).getD m.2.2.2.2.1.toNat 0=(T i).getD m.2.2.2.2.1.toNat 0+1:=by
     unfold R1;rw[aP ht.1,Cc,aP ⟨rfl,hlt⟩]
    rw[hgt];have hdl:((T i).getD m.2.2.2.2.1.toNat 0).toNat<((O (x.2.getD z Ag).1).getD (x.2.getD z Ag).2.1.toNat []).length:=by
     have:=bI List.length b1;rw[hl,List.length_cons,cI]at this;omega
    refine⟨?_,by show(s.2.1.getD z zCred).2.2.2.1+1=_;rw[b2],by omega⟩;show l=_;rw[hl,cG hdl]at b1;rw[(List.cons.inj b1).2,show((T i).getD m.2.2.2.2.1.toNat 0+1).toNat=((T i).getD m.2.2.2.2.1.toNat 0).toNat+1 by omega]
   ·rw[aL ht];have hsame:(if(x.2.getD k Ag).2.2.1=i then R1 (T i) m else T (x.2.getD k Ag).2.2.1).getD (x.2.getD k Ag).2.2.2.1.toNat 0=(T (x.2.getD k Ag).2.2.1).getD (x.2.getD k Ag).2.2.2.1.toNat 0:=by
     by_cases hti:(x.2.getD k Ag).2.2.1=i
     ·rw[aP hti,hti];unfold R1;by_cases hb:m.2.2.2.1=true
      ·rw[aP hb,Cc,aL];rintro⟨e,-⟩;obtain⟨g1,g2,g3,-⟩:=hk hb;refine ht ⟨hb, ?_⟩;have hq:=q.inp;have:=q.i0;rw[hti,show(x.2.getD k Ag).2.2.2.1=m.2.2.2.2.1 by omega]at hq;rw[hq,bH]
      ·rw[aL hb]
     ·rw[aL hti]
    rw[hsame];exact⟨b1,b2,b3⟩
 refine⟨λj=>if j=i then r' else r j,λj=>if j=i then R1 (T i) m else T j,λj=>if j=i then Od (O i) m.2.1 else O j,⟨λj j0 jN=>?_,λk hk=>(hB k hk).se,λk hk=>(hB k hk).tk,λk hk=>(hB k hk).le,λj j0 jN hj=>?_,λj j0 jN hj he=>?_⟩, ?_,λj hj=>aL hj⟩
 ·rw[hss j j0];by_cases h:j=i
  ·subst h;simp only[if_true];exact hJ
  ·simp only[aL h];exact n.st j j0 jN
 ·rw[rs.ou];unfold Rm;have hjl:=Ash v j0 jN hj;have hb:=n.ou j j0 jN hj;by_cases hs:Ur x i m=true
  ·have hs':=hs;unfold Ur at hs';rw[aS]at hs';have hk10:(sg x i).1=10:=aM hs'.1;rw[aP hs];by_cases h:j=i
   ·subst h;simp only[if_true];obtain⟨g1,g2,g3,g4,g5,g6⟩:=hk hs'.2;have hst:Al (sg x j)=0:=p.w.st j.toNat (by omega);have hin:=Yx hst hk10;rw[hin]at g3 hTl;have k0:m.2.2.2.2.1.toNat=0:=by omega
    rw[k0]at g4 g5 g6;have hgt:(R1 (T j) m).getD 0 0=(T j).getD 0 0+1:=by
     unfold R1;rw[aP hs'.2,k0,Cc,aP ⟨rfl,by omega⟩]
    rw[Cc,aP ⟨rfl,hjl⟩,hb,hgt,show((T j).getD 0 0+1).toNat=((T j).getD 0 0).toNat+1 by omega,bS g5,g6,A1 g5]
   ·simp only[aL h];rw[Cc,aL]
    ·exact hb
    ·rintro⟨e,-⟩;exact h (Ao1 i0 j0 iN jN hk10 hj e).symm
  ·rw[aL hs,hb];by_cases h:j=i
   ·subst h;simp only[if_true];have ht:m.2.2.2.1=false:=by
     cases hb:m.2.2.2.1
     ·rfl
     ·exact aT (by unfold Ur;rw[hb,aX hj];rfl) hs
    unfold R1;rw[aL (by rw[ht];decide)]
   ·simp only[aL h]
 ·rw[hss j j0]at he;by_cases h:j=i
  ·subst h;simp only[if_true]at he ⊢;obtain⟨ht,h1⟩:=hen (mv.fl.trans he) hj;unfold R1;rw[aL (by rw[ht];decide),h1]
  ·simp only[aL h]at he ⊢;exact n.en j j0 jN hj he
 ·simp only[if_true];exact hr
end
structure Fit(x:PlT)(S K:List (List Int))(a:List Int):Prop where
 sl:S.length=x.2.length
 kl:K.length=x.1.length
 ok:∀i∈a,(Ar (sg x i) (Bj x S i)).2=0
 out:∀i∈a,∀o:Int,0<=o->o<stOut (sg x i)->S.getD (pOut x i o).toNat []=(Ar (sg x i) (Bj x S i)).1.getD o.toNat []
 snk:∀i∈a,(sg x i).1=10->K.getD i.toNat []=(Bj x S i).getD 0 []
theorem Af8{x:PlT}(w:WF x){i:Int}(i0:0<=i)(iN:i<x.1.length){o:List (List Int)}:∀(N:Nat)(S:List (List Int)),(N:Int)<=stOut (sg x i)->S.length=x.2.length->
 ((List.range N).foldl (Qv x i o) S).length=S.length/\∀k<x.2.length,((List.range N).foldl (Qv x i o) S).getD k []=if(x.2.getD k Ag).1=i/\(x.2.getD k Ag).2.1<N then o.getD (x.2.getD k Ag).2.1.toNat []else S.getD k []
 |0,S,_,_=>⟨rfl,λk hk=>by
  have q:=w.pipe hk;rw[aL (by have:=q.o0;omega)];rfl⟩
 |N+1,S,hN,hl=>by
  obtain⟨h1,h2⟩:=Af8 w i0 iN (o:=o) N S (by omega) hl;rw[dL,dO];obtain⟨z,z1,z2,z3,z4⟩:=w.outs i0 iN (eB N) (show(N:Int)<stOut (sg x i) by omega);show(Qv x i o ((List.range N).foldl (Qv x i o) S) N).length=_/\∀k<x.2.length,(Qv x i o ((List.range N).foldl (Qv x i o) S) N).getD k []=_;unfold Qv at h1 h2 ⊢;rw[z2,bH,cE];refine⟨h1,λk hk=>?_⟩;have q:=w.pipe hk;rw[Cc];by_cases hz:z=k
  ·subst hz;rw[aP ⟨rfl,by rw[h1,hl];exact hk⟩,aP ⟨z3,by rw[z4];omega⟩,z4,bH]
  ·rw[aL (λh=>hz h.1),h2 k hk];by_cases hf:(x.2.getD k Ag).1=i/\(x.2.getD k Ag).2.1<N
   ·rw[aP hf,aP ⟨hf.1,by omega⟩]
   ·rw[aL hf,aL];rintro⟨a,b⟩;have hN:(x.2.getD k Ag).2.1=(N:Int):=by omega
    have:=q.out;rw[a,hN,z2]at this;omega
theorem Ain{x:PlT}{S S':List (List Int)}{i:Int}(h:∀n:Int,0<=n->n<stIn (sg x i)->S'.getD (pIn x i n).toNat []=S.getD (pIn x i n).toNat []):Bj x S' i=Bj x S i:=by
 unfold Bj;refine eJ λn hn=>?_
 have hn:=Dm.1 hn;exact h n hn.1 (by have:=Ut (sg x i);omega)
theorem Fit.step{x:PlT}(w:WF x){S K:List (List Int)}{a:List Int}{i:Int}(h:Fit x S K a)(ha:∀j∈a,0<=j/\j<x.1.length)(i0:0<=i)(iN:i<x.1.length)(hi:i ∉ a)
 (hp:∀e∈Dt x,e.2∈a->e.1∈a)(hpi:∀e∈Dt x,e.2=i->e.1∈a)(hm:(Ar (sg x i) (Bj x S i)).2=0):
 Fit x (Qw x i (Ar (sg x i) (Bj x S i)).1 S) (Ym x i ((Bj x S i).getD 0 []) K) (a++[i]):=by
 have hml:=Abn hm;obtain⟨h1,h2⟩:=Af8 w i0 iN (o:=(Ar (sg x i) (Bj x S i)).1) (Ar (sg x i) (Bj x S i)).1.length S (by omega) h.sl;have hed:∀k<x.2.length,((x.2.getD k Ag).1,(x.2.getD k Ag).2.2.1)∈Dt x:=λk hk=>by
  unfold Dt;exact cU.2 ⟨x.2.getD k Ag,by rw[A1 hk];exact cJ hk,rfl⟩
 have hin:∀j:Int,0<=j->j<x.1.length->(j=i\/j∈a)->Bj x (Qw x i (Ar (sg x i) (Bj x S i)).1 S) j=Bj x S j:=λj j0 jN hj=>Ain λn n0 nN=>by
  obtain⟨z,z1,z2,z3,z4⟩:=w.ins j0 jN n0 nN;rw[z2,bH];unfold Qw;rw[h2 z z1,aL];rintro⟨e,-⟩;have he:=hed z z1;rcases hj with hj|hj
  ·exact hi (by have:=hpi _ he (by rw[z3,hj]);rwa [e]at this)
  ·exact hi (by have:=hp _ he (by rw[z3];exact hj);rwa [e]at this)
 have hK:∀j,(Ym x i ((Bj x S i).getD 0 []) K).getD j []=if(sg x i).1=10/\i.toNat=j/\j<K.length then(Bj x S i).getD 0 []else K.getD j []:=λj=>by
  unfold Ym;by_cases h10:(sg x i).1=10
  ·rw[aP h10,Cc];by_cases hj:i.toNat=j/\j<K.length
   ·rw[aP hj,aP ⟨h10,hj⟩]
   ·rw[aL hj,aL (λh=>hj h.2)]
  ·rw[aL h10,aL (λh=>h10 h.1)]
 refine⟨by unfold Qw;rw[h1,h.sl], ?_,λj hj=>?_,λj hj o o0 oN=>?_,λj hj h10=>?_⟩
 ·unfold Ym;split
  ·rw[cE,h.kl]
  ·exact h.kl
 all_goals rcases dG.1 hj with hj|hj
 ·obtain⟨j0,jN⟩:=ha j hj;rw[hin j j0 jN (.inr hj)];exact h.ok j hj
 ·rw[bT.1 hj,hin i i0 iN (.inl rfl)];exact hm
 ·obtain⟨j0,jN⟩:=ha j hj;obtain⟨z,z1,z2,z3,z4⟩:=w.outs j0 jN o0 oN;rw[hin j j0 jN (.inr hj),<-h.out j hj o o0 oN,z2,bH];unfold Qw;rw[h2 z z1,aL];rintro⟨e,-⟩;rw[z3]at e;exact hi (e ▸ hj)
 ·have hj:=bT.1 hj;subst hj;obtain⟨z,z1,z2,z3,z4⟩:=w.outs i0 iN o0 oN;rw[hin j i0 iN (.inl rfl),z2,bH];unfold Qw;rw[h2 z z1,aP ⟨z3,by rw[z4];omega⟩,z4]
 ·obtain⟨j0,jN⟩:=ha j hj;rw[hin j j0 jN (.inr hj),hK,aL]
  ·exact h.snk j hj h10
  ·rintro⟨-,e,-⟩;exact hi (by rw[show i=j by omega];exact hj)
 ·have hj:=bT.1 hj;subst hj;rw[hin j i0 iN (.inl rfl),hK,aP ⟨h10,rfl,by rw[h.kl];omega⟩]
theorem Abu{x:PlT}(w:WF x)(t:Topo x.1.length (Dt x) (Ad x)):∀(l a:List Int)(S K:List (List Int)),Ad x=a++l->Fit x S K a->(F1 x l S K).2=0->∃S' K',Fit x S' K' (Ad x)/\(F1 x l S K).1=Abk x.1 K'
 |[],a,S,K,he,hf,_=>by
  rw[cC]at he;exact⟨S,K,by rw[he];exact hf,rfl⟩
 |i::l,a,S,K,he,hf,hm=>by
  have hi:=(t.all i).1 (by rw[he];simp);have hnd:=t.nd;rw[he,List.nodup_append]at hnd;have hia:i ∉ a:=λh=>hnd.2.2 i h i dK rfl
  have ha:∀j∈a,0<=j/\j<(x.1.length:Int):=λj hj=>(t.all j).1 (by rw[he];exact eU _ hj)
  have hp:∀e∈Dt x,e.2∈a->e.1∈a:=λe hee h=>by
   obtain⟨p,q,hpq⟩:=List.append_of_mem h;have:=t.pre p e.2 (q++i::l) (by rw[he,hpq];simp) e hee rfl;rw[hpq];exact eU _ this
  unfold F1 at hm ⊢;by_cases h0:(Ar (sg x i) (Bj x S i)).2=0
  ·rw[aL (λh=>h h0)]at hm ⊢;exact Abu w t l (a++[i]) _ _ (by rw[he];simp) (hf.step w ha hi.1 hi.2 hia hp (λe hee h=>t.pre a i l he e hee h) h0) hm
  ·rw[aP h0]at hm;exact aT hm h0
structure Sol(x:PlT)(S:List (List Int)):Prop where
 sl:S.length=x.2.length
 ok:∀i:Int,0<=i->i<x.1.length->(Ar (sg x i) (Bj x S i)).2=0
 out:∀i:Int,0<=i->i<x.1.length->∀o:Int,0<=o->o<stOut (sg x i)->S.getD (pOut x i o).toNat []=(E8 (sg x i) (Bj x S i)).getD o.toNat []
def G9(x:PlT)(S:List (List Int)):List (List Int):=((List.range x.1.length).filter λi=>isSink (x.1.getD i zStg)).map λi:Nat=>(Bj x S i).getD 0 []
theorem U4{x:PlT}(h:(B7 x).2=0):WF x/\∃S,Sol x S/\(B7 x).1=G9 x S:=by
 unfold B7 at h ⊢;by_cases h0:Fa x=0
 ·rw[aL (λh=>h h0)]at h ⊢;have w:=Cz.1 h0;have t:=U1 w;obtain⟨S,K,hf,hg⟩:=Abu w t (Ad x) [] _ _ rfl ⟨bZ,bZ,λi hi=>aT hi dB,λi hi=>aT hi dB,λi hi=>aT hi dB⟩ h;refine⟨w,S,⟨hf.sl,λi i0 iN=>hf.ok i ((t.all i).2 ⟨i0,iN⟩),λi i0 iN o o0 oN=>?_⟩, ?_⟩
  ·rw[hf.out i ((t.all i).2 ⟨i0,iN⟩) o o0 oN,Sk (hf.ok i ((t.all i).2 ⟨i0,iN⟩))]
  ·rw[hg];unfold Abk G9;refine eJ λi hi=>?_
   obtain⟨h1,h2⟩:=cW.1 hi;have:=hf.snk (i:Int) ((t.all i).2 ⟨by omega,by have:=cZ.1 h1;omega⟩) (aM h2)
   rwa [bH]at this
 ·rw[aP h0]at h;exact aT h h0
def Oe(x:PlT)(r:Int->Nat):Nat:=((List.range x.1.length).map λi:Nat=>r (i:Int)).sum
theorem Abv{r r':Int->Nat}{i:Nat}:∀n,i<n->r' (i:Int)+1=r (i:Int)->(∀j:Int,j≠(i:Int)->r' j=r j)->((List.range n).map λi:Nat=>r' (i:Int)).sum+1=((List.range n).map λi:Nat=>r (i:Int)).sum
 |0,h,_,_=>by omega
 |n+1,h,h1,h2=>by
  rw[dL,eL,eL,List.sum_append,List.sum_append];simp only[eD,List.map_nil,hY,List.sum_nil,dH];by_cases hi:i=n
  ·subst hi;have:((List.range i).map λi:Nat=>r' (i:Int))=((List.range i).map λi:Nat=>r (i:Int)):=eJ λj hj=>h2 j (by have:=cZ.1 hj;omega)
   rw[this];omega
  ·have:=Abv n (by omega) h1 h2;have h3:=h2 (n:Int) (by omega);omega
theorem U5{x:PlT}{r r':Int->Nat}{i:Int}(i0:0<=i)(iN:i<x.1.length)(h1:r' i+1=r i)(h2:∀j,j≠i->r' j=r j):Oe x r'+1=Oe x r:=by
 have hi:((i.toNat:Nat):Int)=i:=by omega
 exact Abv (i:=i.toNat) x.1.length (by omega) (by rw[hi];exact h1) (by rw[hi];exact h2)
def srcN(x:PlT)(s t:FsT):Prop:=∀i:Int,0<=i->i<x.1.length->(sg x i).1=1->(Ay s i).2.1<=(Ay t i).2.1/\(Ay t i).2.1<=((sg x i).2.2.2.length:Int)
theorem StepR.cnt{x:PlT}{s t:FsT}{i:Int}{m:MvT}(r:StepR x s i m t)(h1:(sg x i).1=1):(Ay t i).2.1=if s.2.2.2=true\/(Ay s i).2.1=(sg x i).2.2.2.length then(Ay s i).2.1 else(Ay s i).2.1+1:=by
 have hnd:(Am (sg x i) (Ay s i)).2=0:=by have:=r.v.nd i.toNat (by have:=r.i0;have:=r.iN;omega);rwa [show((i.toNat:Nat):Int)=i by have:=r.i0;omega]at this
 have hl:i.toNat<s.1.length:=by have:=r.v.ls;have:=r.i0;have:=r.iN;omega
 have ht:Ay t i=m.1:=by
  unfold Ay;rw[r.st,Cc,aP ⟨rfl,hl⟩]
 rw[ht];obtain⟨h2,⟨-,h3,h4⟩|⟨-,h3,h4⟩|⟨h3,-⟩⟩:=Lm (x:=x) (s:=s) (i:=i) (by rw[r.is])
 ·rw[aP h3];have hm:m=Me (sg x i) (Ay s i) (-1):=by have:=r.is;rw[h4]at this;exact(Prod.mk.inj this).1.symm
  rw[hm,Me,Yw h1 hnd h2]
 ·rw[aL h3];have hm:m=Gz (sg x i) (Ay s i) false (-1) 0:=by have:=r.is;rw[h4]at this;exact(Prod.mk.inj this).1.symm
  rw[hm,Gz,U3 h1 hnd h2 (λh=>h3 (.inr h))]
 ·exact aT h1 h3
theorem StepR.oth{x:PlT}{s t:FsT}{i:Int}{m:MvT}(r:StepR x s i m t){j:Int}(j0:0<=j)(h:j≠i):Ay t j=Ay s j:=by
 unfold Ay;rw[r.st,Cc,aL (by have:=r.i0;omega)]
theorem StepR.src{x:PlT}{s t:FsT}{i:Int}{m:MvT}(r:StepR x s i m t):srcN x s t:=λj j0 jN h1=>by
 have h2:=Qy r.vs j0 jN h1;refine⟨?_,h2.2⟩;by_cases h:j=i
 ·subst h;rw[r.cnt h1];split<;>omega
 ·rw[r.oth j0 h];omega
theorem srcN.trans{x:PlT}{s t u:FsT}(h1:srcN x s t)(h2:srcN x t u):srcN x s u:=λi i0 iN hk=>⟨Int.le_trans (h1 i i0 iN hk).1 (h2 i i0 iN hk).1,(h2 i i0 iN hk).2⟩
theorem Yy{x:PlT}{l:List Int}{k:Nat}{s:FsT}(h:¬G8 x s):Df x s=0/\0<=Ek x l k s/\Ek x l k s<x.1.length/\(Be x s (Ek x l k s)).2=true:=by
 unfold G8 at h;have hv:Df x s=0:=by
  refine Classical.byContradiction λhv=>h (.inl ?_)
  unfold Ak;rw[aP hv];exact hv
 have he:Ak x s=((ints x.1.length).filter (λi=>(Be x s i).2),0):=by
  unfold Ak;rw[aL (λh=>h hv)]
 have hne:(Ak x s).1.length≠0:=λh0=>h (.inr (cV h0))
 have hb:(Pk l k (Ak x s).1.length).toNat<(Ak x s).1.length:=by
  unfold Pk;split
  ·show 0<_;omega
  ·have hn:(0:Int)<((Ak x s).1.length:Int):=by omega
   have h1:=Int.lt_tmod_of_pos ((l.getD (k % l.length) 0)) hn;have h2:=hP ((l.getD (k % l.length) 0).tmod ((Ak x s).1.length:Int)+((Ak x s).1.length:Int)) hn;have h3:=Int.tmod_nonneg ((Ak x s).1.length:Int) (show 0<=(l.getD (k % l.length) 0).tmod ((Ak x s).1.length:Int)+((Ak x s).1.length:Int) by omega);omega
 have hm:Ek x l k s∈(Ak x s).1:=by
  unfold Ek;rw[A1 hb];exact cJ hb
 rw[he]at hm;obtain⟨h1,h2⟩:=cW.1 hm;exact⟨hv,(Dm.1 h1).1,(Dm.1 h1).2,h2⟩
theorem Af9{x:PlT}{l:List Int}:∀(m k:Nat)(s:FsT)(o:List Int),VS x s->(Dg x l m k s o).2.2=0->srcN x s (Dg x l m k s o).1
 |0,k,s,o,v,_=>λi i0 iN h1=>⟨cO _,(Qy v i0 iN h1).2⟩
 |m+1,k,s,o,v,h=>by
  by_cases hs:G8 x s
  ·rw[Km hs]
   exactλi i0 iN h1=>⟨cO _,(Qy v i0 iN h1).2⟩
  ·by_cases he:(Cs x s (Ek x l k s)).2=0
   ·rw[Pp hs he]at h ⊢;have rs:=Po he;exact rs.src.trans (Af9 m (k+1) _ _ rs.vs h)
   ·rw[Uv hs he]at h;exact aT h he
section
variable {x x':PlT}{S:List (List Int)}{J:Int->Nat->RT->Prop}
theorem Amj(p:Kp x x' S J){l:List Int}:∀(m k:Nat)(s:FsT)(o:List Int)(r:Int->Nat)(T:Int->List Int)(O:Int->List (List Int)),Kn x x' S J s r T O->VS x s->s.2.2.2=false->(Dg x l m k s o).2.2=0->
 (∀i:Int,0<=i->i<x.1.length->(sg x i).1=1->((sg x' i).2.2.2.length:Int)=(Ay (Dg x l m k s o).1 i).2.1)->
 ∃r' T' O',Kn x x' S J (Dg x l m k s o).1 r' T' O'/\VS x (Dg x l m k s o).1/\(Dg x l m k s o).1.2.2.2=false/\Oe x r'<=Oe x r
 |0,k,s,o,r,T,O,n,v,hd,_,_=>⟨r,T,O,n,v,hd,bA _⟩
 |m+1,k,s,o,r,T,O,n,v,hd,h,hx=>by
  by_cases hs:G8 x s
  ·rw[Km hs];exact⟨r,T,O,n,v,hd,bA _⟩
  ·obtain⟨hv,i0,iN,hen⟩:=Yy (l:=l) (k:=k) hs;by_cases he:(Cs x s (Ek x l k s)).2=0
   ·rw[Pp hs he]at h hx ⊢;have rs:=Po he;have hsr:=Af9 m (k+1) _ (o++[Ek x l k s]) rs.vs h;obtain⟨-,r',T',O',n',hr1,hr2⟩:=n.step p v i0 iN hen λh1=>by
     have hc:=rs.cnt h1;have hfin:=hsr _ i0 iN h1;have hxx:=hx _ i0 iN h1;have hb:=Qy v i0 iN h1;rw[hd]at hc ⊢;constructor
     ·rintro(h|h)
      ·cases h
      ·rw[aP (.inr h)]at hc;omega
     ·intro h;right;refine Classical.byContradiction λhne=>?_
      rw[aL (by rintro(h|h);cases h;exact hne h)]at hc;omega
    obtain⟨r2,T2,O2,a1,a2,a3,a4⟩:=Amj p m (k+1) _ (o++[Ek x l k s]) r' T' O' n' rs.vs (by rw[rs.dr,hd]) h hx;have:=U5 i0 iN hr1 hr2;exact⟨r2,T2,O2,a1,a2,a3,by omega⟩
   ·rw[Uv hs he]at h;exact aT h he
theorem Amk(p:Kp x x' S J){l:List Int}:∀(m k:Nat)(s:FsT)(o:List Int)(r:Int->Nat)(T:Int->List Int)(O:Int->List (List Int)),Kn x x' S J s r T O->VS x s->s.2.2.2=true->
 (∀i:Int,0<=i->i<x.1.length->(sg x i).1=1->((sg x' i).2.2.2.length:Int)=(Ay s i).2.1)->
 (Dg x l m k s o).2.2=0/\∃r' T' O',Kn x x' S J (Dg x l m k s o).1 r' T' O'/\VS x (Dg x l m k s o).1/\(Dg x l m k s o).1.2.2.2=true/\
   (∀i:Int,0<=i->i<x.1.length->(sg x i).1=1->(Ay (Dg x l m k s o).1 i).2.1=(Ay s i).2.1)/\(Dg x l m k s o).2.1.length+Oe x r'=o.length+Oe x r/\((Dg x l m k s o).2.1.length=o.length+m\/G8 x (Dg x l m k s o).1)
 |0,k,s,o,r,T,O,n,v,hd,_=>⟨rfl,r,T,O,n,v,hd,λ_ _ _ _=>rfl,rfl,.inl rfl⟩
 |m+1,k,s,o,r,T,O,n,v,hd,hx=>by
  by_cases hs:G8 x s
  ·rw[Km hs];exact⟨rfl,r,T,O,n,v,hd,λ_ _ _ _=>rfl,rfl,.inr hs⟩
  ·obtain⟨hv,i0,iN,hen⟩:=Yy (l:=l) (k:=k) hs;obtain⟨he,r',T',O',n',hr1,hr2⟩:=n.step p v i0 iN hen λh1=>⟨λ_=>(hx _ i0 iN h1).symm,λ_=>.inl hd⟩
   rw[Pp hs he];have rs:=Po he;have hcn:∀i:Int,0<=i->i<x.1.length->(sg x i).1=1->(Ay (Cs x s (Ek x l k s)).1 i).2.1=(Ay s i).2.1:=λi j0 jN h1=>by
    by_cases hi:i=Ek x l k s
    ·rw[hi]at h1 ⊢;rw[rs.cnt h1,aP (.inl hd)]
    ·rw[rs.oth j0 hi]
   obtain⟨a0,r2,T2,O2,a1,a2,a3,a4,a5,a6⟩:=Amk p (l:=l) m (k+1) _ (o++[Ek x l k s]) r' T' O' n' rs.vs (by rw[rs.dr,hd]) λi i0 iN h1=>by rw[hcn i i0 iN h1];exact hx i i0 iN h1
   have ht:=U5 i0 iN hr1 hr2;rw[bD,eG]at a5 a6;refine⟨a0,r2,T2,O2,a1,a2,a3,λi i0 iN h1=>(a4 i i0 iN h1).trans (hcn i i0 iN h1),by omega, ?_⟩;rcases a6 with a6|a6
   ·exact .inl (by omega)
   ·exact .inr a6
end
end Go.Proofs.YtpabcdbaffjcdaaGreat
