/- Pipelines. -/
import Derived.Test.YtckpldpombdkgaaGreatEZ9
import Derived.Test.YtckpldpombdkgaaGreatEZ7
import Derived.Test.YtckpldpombdkgaaGreatEG3
set_option linter.unusedSimpArgs false
set_option linter.unusedVariables false
set_option maxRecDepth 100000
namespace Go.Proofs.YtckpldpombdkgaaGreat
open Go.Sx
@[reducible] def RT:Type:=SST×List Int×List (List Int)
def Ok(a b:List (List Int)):List (List Int):=List.zipWith (·++·) a b
def Nx(J:Nat->RT->Prop)(r:Nat)(t:RT)(s:SST)(at2:List Int)(o:List (List Int)):Prop:=o.length=t.2.2.length/\∃r':Nat,r'+1=r/\J r' (s,at2,Ok t.2.2 o)
def Rnd(x:StT)(ins:List (List Int))(J:Nat->RT->Prop)(r:Nat)(t:RT):Prop:=
 (An x t.1).2=0/\t.2.1.length=ins.length/\(t.2.2.length:Int)=(Aq x.1).2.1/\
 (((An x t.1).1=[]/\t.1.2.2=true/\t.2.2=Id x ins/\r=0)\/
  (∃k p:Nat,(An x t.1).1=[(k:Int)]/\k<ins.length/\t.1.2.2=false/\t.2.1.getD k 0=(p:Int)/\p<=(ins.getD k []).length/\
    (p=(ins.getD k []).length->(Cg x t.1 k).2.2.2=0/\Nx J r t (Cg x t.1 k).1 t.2.1 (Cg x t.1 k).2.1)/\
    (p<(ins.getD k []).length->(Bs x t.1 k ((ins.getD k []).getD p 0)).2.2=0/\Nx J r t (Bs x t.1 k ((ins.getD k []).getD p 0)).1 (t.2.1.set k ((p:Int)+1)) (Bs x t.1 k ((ins.getD k []).getD p 0)).2.1))\/
  ((An x t.1).1=[]/\t.1.2.2=false/\x.1=1/\
     (t.1.2.1=(x.2.2.2.length:Int)->(Cg x t.1 (-1)).2.2.2=0/\Nx J r t (Cg x t.1 (-1)).1 t.2.1 (Cg x t.1 (-1)).2.1)/\
     (t.1.2.1≠(x.2.2.2.length:Int)->(Bs x t.1 (-1) 0).2.2=0/\Nx J r t (Bs x t.1 (-1) 0).1 t.2.1 (Bs x t.1 (-1) 0).2.1)))
def start(x:StT)(ins:List (List Int)):RT:=(([],0,false),List.replicate ins.length 0,List.replicate (Aq x.1).2.1.toNat [])
def tot(x:StT)(ins:List (List Int)):Nat:=if x.1=1 then x.2.2.2.length+1 else(ins.map List.length).sum+ins.length
theorem Aua{x:StT}{ins:List (List Int)}(h:ins.length=1)(hk:x.1≠1):tot x ins=(ins.getD 0 []).length+1:=by
 unfold tot;rw[aL hk]
 match ins,h with
 |[a],_=>simp
theorem Ap1{x:StT}{ins:List (List Int)}(h:ins.length=2)(hk:x.1≠1):tot x ins=(ins.getD 0 []).length+(ins.getD 1 []).length+2:=by
 unfold tot;rw[aL hk]
 match ins,h with
 |[a,b],_=>simp
def R9(x:StT)(ins:List (List Int)):Prop:=∃J:Nat->RT->Prop,(∀r t,J r t->Rnd x ins J r t)/\J (tot x ins) (start x ins)
theorem Sy{x:StT}{s:SST}{i n:Int}(h0:Ap x=0)(hv:Aw x s=true)(h1:tk1 x s (An x s).1 i=false)(h2:tk2 x n=false){t:SST}{o:List (List Int)}(hr:Dr x s i n=(t,o,0)):Bs x s i n=(t,o,0):=by
 have hn:=B3.2 ⟨h0,hv⟩;unfold Bs;rw[aL (by simp[hn]),aL (by rw[h1];simp),aL (by rw[h2];simp),hr,aL (by simp)]
theorem Y0{x:StT}{s:SST}{i:Int}(h0:Ap x=0)(hv:Aw x s=true)(h1:te1 x i=false)(h2:te2 x s i=false){t:SST}{o:List (List Int)}(hr:Eh x s i=(t,o,0)):Cg x s i=(t,o,t.2.2,0):=by
 have hn:=B3.2 ⟨h0,hv⟩;unfold Cg;rw[aL (by simp[hn]),aL (by rw[h1];simp),aL (by rw[h2];simp),hr,aL (by simp)]
theorem Ad3{x:StT}{s:SST}{nd:List Int}{i:Int}(hk:x.1≠1)(he:s.2.2=false)(hn:nd.any (isI i)=true):tk1 x s nd i=false:=by
 unfold tk1;rw[he,aZ hk,hn];rfl
theorem Ad4{x:StT}{n:Int}(hk:x.1≠1)(h:Ak n=false):tk2 x n=false:=by
 unfold tk2;unfold Ak at h;rw[aZ hk];cases hb:Ki n
 ·rw[hb]at h;cases h
 ·rfl
theorem Ad5{x:StT}{i:Int}(hk:x.1≠1)(h0:0<=i)(h1:i<(Aq x.1).1):te1 x i=false:=by
 unfold te1;rw[aZ hk,aZ (show ¬i<0 by omega),aZ (show ¬(Aq x.1).1<=i by omega)];rfl
theorem Y1{x:StT}{s:SST}{i:Int}(he:s.2.2=false)(h:x.1≠1->F7 x s i=false):te2 x s i=false:=by
 unfold te2;rw[he];by_cases hk:x.1=1
 ·rw[aW hk];rfl
 ·rw[aZ hk,h hk];rfl
theorem Ao2{x:StT}{s:SST}(h0:Ap x=0)(hv:Aw x s=true)(hk:x.1≠1/\x.1≠8/\x.1≠9)(he:s.2.2=false):An x s=([0],0):=
 ND6 (by simp[h0]) (by simp[hv]) (by rw[he,aZ hk.1];rfl) (by rw[aZ hk.2.1];rfl) (aZ hk.2.1) (by rw[aZ hk.2.2];rfl)
theorem Vc{x:StT}{s:SST}(h0:Ap x=0)(hv:Aw x s=true)(he:s.2.2=true):An x s=([],0):=ND2 (by simp[h0]) (by simp[hv]) (by rw[he];rfl)
theorem P3{l:List Int}{j:Nat}(h:j<l.length):l.getD j 0∈l:=by
 simp[aY,aQ h]
theorem Jd{x:StT}{ins:List (List Int)}(h0:Ap x=0)(hk:x.1≠1/\x.1≠8/\x.1≠9)(hin:(Aq x.1).1=1)(hi:ins.length=1)(hs:Bg ins=0)(F:Nat->SST×List (List Int))(e:SST)(oe:List (List Int))
 (f0:F 0=(([],0,false),List.replicate (Aq x.1).2.1.toNat []))(fv:Aw x ([],0,false)=true)(ho:0<=(Aq x.1).2.1)
 (fe:∀j,j<=(ins.getD 0 []).length->(F j).1.2.2=false/\((F j).2.length:Int)=(Aq x.1).2.1)
 (fs:∀j,j<(ins.getD 0 []).length->∃o,Dr x (F j).1 0 ((ins.getD 0 []).getD j 0)=((F (j+1)).1,o,0)/\o.length=(F j).2.length/\Ok (F j).2 o=(F (j+1)).2)
 (fl:Eh x (F (ins.getD 0 []).length).1 0=(e,oe,0)/\oe.length=(F (ins.getD 0 []).length).2.length/\Ok (F (ins.getD 0 []).length).2 oe=Id x ins/\e.2.2=true):R9 x ins:=by
 obtain⟨g1,g2⟩:=Bn hs (show 0<ins.length by omega);replace g1:(ins.getD 0 []).length<=200:=g1;replace g2:(ins.getD 0 []).any Ak=false:=g2;obtain⟨l1,l2,l3,l4⟩:=fl;refine⟨λr t=>Aw x t.1=true/\((∃j,j<=(ins.getD 0 []).length/\t=((F j).1,[(j:Int)],(F j).2)/\r=(ins.getD 0 []).length-j+1)\/(t=(e,[((ins.getD 0 []).length:Int)],Id x ins)/\r=0)), ?_,by rw[Aua hi hk.1];exact⟨fv,.inl ⟨0,aV _,by rw[f0,start,hi];rfl,by omega⟩⟩⟩
 ·rintro r t ⟨hv,⟨j,hj,rfl,rfl⟩|⟨rfl,rfl⟩⟩
  ·replace hv:Aw x (F j).1=true:=hv;obtain⟨e1,e2⟩:=fe j hj;have hn:=Ao2 h0 hv hk e1;refine⟨by show(An x (F j).1).2=0;rw[hn],by rw[hi];rfl,e2,.inr (.inl ⟨0,j,by show(An x (F j).1).1=_;rw[hn];rfl,by omega,e1,rfl,hj,λhje=>?_,λhjl=>?_⟩)⟩
   ·have he:=Y0 (i:=0) h0 hv (Ad5 hk.1 (cJ 0) (by rw[hin];decide)) (Y1 e1 λ_=>by unfold F7;rw[aL hk.2.1,aL hk.2.2];exact e1) (by rw[hje];exact l1);have hv2:=(Wz (x:=x) (s:=(F j).1) (i:=0) (by rw[he])).1.1;show(Cg x (F j).1 0).2.2.2=0/\Nx _ _ _ (Cg x (F j).1 0).1 _ (Cg x (F j).1 0).2.1;rw[he]at hv2 ⊢;refine⟨rfl,by show oe.length=(F j).2.length;rw[hje];exact l2,0,by omega,hv2,.inr ⟨?_,rfl⟩⟩;show(e,[(j:Int)],Ok (F j).2 oe)=_;rw[hje,l3]
   ·obtain⟨o,o1,o2,o3⟩:=fs j hjl;have hnn:Ak ((ins.getD 0 []).getD j 0)=false:=by
     have h9:=dJ.1 g2 ((ins.getD 0 []).getD j 0) (P3 hjl);simpa using h9
    have ht:=Sy (i:=0) h0 hv (Ad3 hk.1 e1 (by rw[hn];rfl)) (Ad4 hk.1 hnn) o1;have hv2:=(Uz (x:=x) (s:=(F j).1) (i:=0) (n:=(ins.getD 0 []).getD j 0) (by rw[ht])).1;show(Bs x (F j).1 0 _).2.2=0/\Nx _ _ _ (Bs x (F j).1 0 _).1 _ (Bs x (F j).1 0 _).2.1;rw[ht]at hv2 ⊢;refine⟨rfl,o2,(ins.getD 0 []).length-(j+1)+1,by omega,hv2,.inl ⟨j+1,hjl, ?_,rfl⟩⟩;show((F (j+1)).1,[((j:Int)+1)],Ok (F j).2 o)=_;rw[o3];rfl
  ·replace hv:Aw x e=true:=hv;have hn:=Vc h0 hv l4;refine⟨by show(An x e).2=0;rw[hn],by rw[hi];rfl, ?_,.inl ⟨by show(An x e).1=[];rw[hn],l4,rfl,rfl⟩⟩;show((Id x ins).length:Int)=_;have e2:=(fe _ (bB (ins.getD 0 []).length)).2;rw[<-l3,<-e2];unfold Ok;rw[List.length_zipWith,l2,Nat.min_self]
theorem Hn{l:List Int}{j:Nat}(h:j<l.length):l.take (j+1)=l.take j++[l.getD j 0]:=Kl h
theorem Jr{k z:Int}{e:ExprT}{l:List Int}(hz:0<=z)(hz4:k=4->1<=z):Aw (k,z,e,l) ([],0,false)=true:=by
 refine Au.2 ⟨⟨cJ 0, ?_, ?_⟩,rfl, ?_⟩
 ·show 0<=(Ew (k,z,e,l)).1;unfold Ew
  repeat' split
  all_goals (dsimp only at *;omega)
 ·show((0:Nat):Int)<=(Ew (k,z,e,l)).2;unfold Ew
  repeat' split
  all_goals (dsimp only at *;omega)
 ·unfold vk
  repeat' split
  all_goals first
   |rfl
   |(rename_i h;exact aS h (by simp))
theorem Ar2{z:Int}{e:ExprT}{l:List Int}{ins:List (List Int)}(h:(Av (2,z,e,l) ins).2=0):R9 (2,z,e,l) ins:=by
 obtain⟨h0,hl,hs,hc,hb⟩:=Eg.1 h;have hi:ins.length=1:=by have h:(ins.length:Int)=1:=hl;omega
 have hz:=Ay h0;have ha:=hc.1 (.inl rfl);replace ha:∀a∈ins.getD 0 [],Qw e a=0:=ha;refine Jd h0 (show(2:Int)≠1/\(2:Int)≠8/\(2:Int)≠9 by decide) rfl hi hs (λj=>(([],0,false),[((ins.getD 0 []).take j).map (Aba e)])) ([],0,true) [[]] rfl (Jr hz.1 hz.2.2) (show(0:Int)<=1 by decide) (λj _=>⟨rfl,rfl⟩) (λj hj=>?_) ⟨rfl,rfl, ?_,rfl⟩
 ·have he:(evX e nmX ((ins.getD 0 []).getD j 0) 0).2=0:=ha _ (P3 hj);refine⟨[[Aba e ((ins.getD 0 []).getD j 0)]], ?_,rfl, ?_⟩
  ·show(_,[[(evX e nmX ((ins.getD 0 []).getD j 0) 0).1]],(evX e nmX ((ins.getD 0 []).getD j 0) 0).2)=_;rw[he];rfl
  ·show[_++[_]]=[((ins.getD 0 []).take (j+1)).map (Aba e)];rw[Hn hj,eG];rfl
 ·show[_++[]]=[(ins.getD 0 []).map (Aba e)];rw[cB,dM]
theorem Ar3{z:Int}{e:ExprT}{l:List Int}{ins:List (List Int)}(h:(Av (3,z,e,l) ins).2=0):R9 (3,z,e,l) ins:=by
 obtain⟨h0,hl,hs,hc,hb⟩:=Eg.1 h;have hi:ins.length=1:=by have h:(ins.length:Int)=1:=hl;omega
 have hz:=Ay h0;have ha:=hc.1 (.inr (.inl rfl));replace ha:∀a∈ins.getD 0 [],Qw e a=0:=ha;refine Jd h0 (show(3:Int)≠1/\(3:Int)≠8/\(3:Int)≠9 by decide) rfl hi hs (λj=>(([],0,false),[((ins.getD 0 []).take j).filter (El e)])) ([],0,true) [[]] rfl (Jr hz.1 hz.2.2) (show(0:Int)<=1 by decide) (λj _=>⟨rfl,rfl⟩) (λj hj=>?_) ⟨rfl,rfl, ?_,rfl⟩
 ·have he:(evX e nmX ((ins.getD 0 []).getD j 0) 0).2=0:=ha _ (P3 hj);refine⟨[if El e ((ins.getD 0 []).getD j 0)=true then[(ins.getD 0 []).getD j 0]else[]], ?_,rfl, ?_⟩
  ·show(_,[if decide ((evX e nmX ((ins.getD 0 []).getD j 0) 0).1=1)=true then[(ins.getD 0 []).getD j 0]else[]],(evX e nmX ((ins.getD 0 []).getD j 0) 0).2)=_;rw[he];rfl
  ·show[_++(if _ then _ else _)]=[((ins.getD 0 []).take (j+1)).filter (El e)];rw[Hn hj,eA,cU];rfl
 ·show[_++[]]=[(ins.getD 0 []).filter (El e)];rw[cB,dM]
theorem Ar4{z:Int}{e:ExprT}{l:List Int}{ins:List (List Int)}(h:(Av (7,z,e,l) ins).2=0):R9 (7,z,e,l) ins:=by
 obtain⟨h0,hl,hs,hc,hb⟩:=Eg.1 h;have hi:ins.length=1:=by have h:(ins.length:Int)=1:=hl;omega
 have hz:=Ay h0;have ha:=hc.1 (.inr (.inr rfl));replace ha:∀a∈ins.getD 0 [],Qw e a=0:=ha;refine Jd h0 (show(7:Int)≠1/\(7:Int)≠8/\(7:Int)≠9 by decide) rfl hi hs (λj=>(([],0,false),[((ins.getD 0 []).take j).filter (El e),((ins.getD 0 []).take j).filter (λa=>!El e a)])) ([],0,true) [[],[]] rfl (Jr hz.1 hz.2.2) (show(0:Int)<=2 by decide) (λj _=>⟨rfl,rfl⟩) (λj hj=>?_) ⟨rfl,rfl, ?_,rfl⟩
 ·have he:(evX e nmX ((ins.getD 0 []).getD j 0) 0).2=0:=ha _ (P3 hj);refine⟨[if El e ((ins.getD 0 []).getD j 0)=true then[(ins.getD 0 []).getD j 0]else[],if El e ((ins.getD 0 []).getD j 0)=true then[]else[(ins.getD 0 []).getD j 0]], ?_,rfl, ?_⟩
  ·show(_,[if decide ((evX e nmX ((ins.getD 0 []).getD j 0) 0).1=1)=true then[(ins.getD 0 []).getD j 0]else[],if decide ((evX e nmX ((ins.getD 0 []).getD j 0) 0).1=1)=true then[]else[(ins.getD 0 []).getD j 0]],(evX e nmX ((ins.getD 0 []).getD j 0) 0).2)=_;rw[he];rfl
  ·show[_++(if _ then _ else _),_++(if _ then _ else _)]=[((ins.getD 0 []).take (j+1)).filter (El e),((ins.getD 0 []).take (j+1)).filter (λa=>!El e a)];rw[Hn hj,eA,eA,cU,cU];cases El e ((ins.getD 0 []).getD j 0)<;>rfl
 ·show[_++[],_++[]]=[(ins.getD 0 []).filter (El e),(ins.getD 0 []).filter (λa=>!El e a)];rw[cB,cB,dM]
theorem Ar5{z:Int}{e:ExprT}{l:List Int}{ins:List (List Int)}(h:(Av (5,z,e,l) ins).2=0):R9 (5,z,e,l) ins:=by
 obtain⟨h0,hl,hs,hc,hb⟩:=Eg.1 h;have hi:ins.length=1:=by have h:(ins.length:Int)=1:=hl;omega
 have hz:=Ay h0;refine Jd h0 (show(5:Int)≠1/\(5:Int)≠8/\(5:Int)≠9 by decide) rfl hi hs (λj=>(([],0,false),[((ins.getD 0 []).take j).flatMap (λa=>List.replicate z.toNat a)])) ([],0,true) [[]] rfl (Jr hz.1 hz.2.2) (show(0:Int)<=1 by decide) (λj _=>⟨rfl,rfl⟩) (λj hj=>?_) ⟨rfl,rfl, ?_,rfl⟩
 ·refine⟨[List.replicate z.toNat ((ins.getD 0 []).getD j 0)],rfl,rfl, ?_⟩;show[_++List.replicate _ _]=[((ins.getD 0 []).take (j+1)).flatMap (λa=>List.replicate z.toNat a)];rw[Hn hj,List.flatMap_append];simp
 ·show[_++[]]=[(ins.getD 0 []).flatMap (λa=>List.replicate z.toNat a)];rw[cB,dM]
theorem Ao3{z:Int}{e:ExprT}{l:List Int}{ins:List (List Int)}(h:(Av (10,z,e,l) ins).2=0):R9 (10,z,e,l) ins:=by
 obtain⟨h0,hl,hs,hc,hb⟩:=Eg.1 h;have hi:ins.length=1:=by have h:(ins.length:Int)=1:=hl;omega
 have hz:=Ay h0;exact Jd h0 (show(10:Int)≠1/\(10:Int)≠8/\(10:Int)≠9 by decide) rfl hi hs (λj=>(([],0,false),[])) ([],0,true) [] rfl (Jr hz.1 hz.2.2) (show(0:Int)<=0 by decide) (λj _=>⟨rfl,rfl⟩) (λj hj=>⟨[],rfl,rfl,rfl⟩) ⟨rfl,rfl,rfl,rfl⟩
theorem Ar6{z:Int}{e:ExprT}{l:List Int}{ins:List (List Int)}(h:(Av (6,z,e,l) ins).2=0):R9 (6,z,e,l) ins:=by
 obtain⟨h0,hl,hs,hc,hb⟩:=Eg.1 h;have hi:ins.length=1:=by have h:(ins.length:Int)=1:=hl;omega
 have hz:=Ay h0;have hz0:0<=z:=hz.1;refine Jd h0 (show(6:Int)≠1/\(6:Int)≠8/\(6:Int)≠9 by decide) rfl hi hs (λj=>(([],((min j z.toNat:Nat):Int),false),[((ins.getD 0 []).take j).take z.toNat])) ([],((min (ins.getD 0 []).length z.toNat:Nat):Int),true) [[]] (by simp;rfl) (Jr hz.1 hz.2.2) (show(0:Int)<=1 by decide) (λj _=>⟨rfl,rfl⟩) (λj hj=>?_) ⟨rfl,rfl, ?_,rfl⟩
 ·by_cases hjz:j<z.toNat
  ·refine⟨[[(ins.getD 0 []).getD j 0]], ?_,rfl, ?_⟩
   ·rw[r6t (by show decide (((min j z.toNat:Nat):Int)<z)=true;rw[aW (by omega)])];show((([]:List Int),((min j z.toNat:Nat):Int)+1,false),_,_)=(([],((min (j+1) z.toNat:Nat):Int),false),_,_);rw[show((min j z.toNat:Nat):Int)+1=((min (j+1) z.toNat:Nat):Int) by omega]
   ·show[_++[_]]=[((ins.getD 0 []).take (j+1)).take z.toNat];rw[gH,gH,fR (by omega),fR (by omega),Hn hj]
  ·refine⟨[[]], ?_,rfl, ?_⟩
   ·rw[r6f (by show decide (((min j z.toNat:Nat):Int)<z)=false;rw[aZ (by omega)])];show((([]:List Int),((min j z.toNat:Nat):Int),false),_,_)=(([],((min (j+1) z.toNat:Nat):Int),false),_,_);rw[show((min j z.toNat:Nat):Int)=((min (j+1) z.toNat:Nat):Int) by omega]
   ·show[_++[]]=[((ins.getD 0 []).take (j+1)).take z.toNat];rw[cB,gH,gH,eQ (by omega),eQ (by omega)]
 ·show[_++[]]=[(ins.getD 0 []).take z.toNat];rw[cB,dM]
theorem Abu(f:Int)(o:List Int)(v:Int):Jg f o v=o++Jg f [] v:=by
 unfold Jg;split<;>simp
theorem Amn(z:Int)(d o:List Int)(n:Int):Br z (d,o,0) n=((Br z (d,[],0) n).1,o++(Br z (d,[],0) n).2.1,(Br z (d,[],0) n).2.2):=by
 unfold Br;split
 ·unfold Fs;dsimp only;rw[Abu]
 ·simp
theorem Abv(d o:List Int):Cf (d,o,0)=((Cf (d,[],0)).1,o++(Cf (d,[],0)).2.1,(Cf (d,[],0)).2.2):=by
 unfold Cf;split
 ·unfold Fs;dsimp only;rw[Abu]
 ·simp
theorem Ao4(z:Int)(s:List Int×List Int×Int)(a:Int)(h:(Br z s a).2.2=0):s.2.2=0:=by
 unfold Br at h;split at h
 ·exact(Afq h).1
 ·exact h
theorem Amo(z:Int):∀(l:List Int)(s:List Int×List Int×Int),(l.foldl (Br z) s).2.2=0->s.2.2=0
 |[],s,h=>h
 |a::l,s,h=>Ao4 z s a (Amo z l _ h)
theorem Ar7{z:Int}{e:ExprT}{l:List Int}{ins:List (List Int)}(h:(Av (4,z,e,l) ins).2=0):R9 (4,z,e,l) ins:=by
 obtain⟨h0,hl,hs,hc,hb⟩:=Eg.1 h;have hi:ins.length=1:=by have h:(ins.length:Int)=1:=hl;omega
 have hz:=Ay h0;have hcl:(Cf ((ins.getD 0 []).foldl (Br z) ([],[],0))).2.2=0:=hc.2.2 rfl;have hfin:((ins.getD 0 []).foldl (Br z) ([],[],0)).2.2=0:=by
  generalize (ins.getD 0 []).foldl (Br z) ([],[],0)=s at *;unfold Cf at hcl;split at hcl
  ·exact(Afq hcl).1
  ·exact hcl
 have her:∀j,(((ins.getD 0 []).take j).foldl (Br z) ([],[],0)).2.2=0:=λj=>by
  have h9:=hfin;rw[<-List.take_append_drop j (ins.getD 0 []),dK]at h9;exact Amo z _ _ h9
 have hst:∀j,((ins.getD 0 []).take j).foldl (Br z) ([],[],0)=((((ins.getD 0 []).take j).foldl (Br z) ([],[],0)).1,(((ins.getD 0 []).take j).foldl (Br z) ([],[],0)).2.1,0):=λj=>Prod.ext rfl (Prod.ext rfl (her j))
 refine Jd h0 (show(4:Int)≠1/\(4:Int)≠8/\(4:Int)≠9 by decide) rfl hi hs (λj=>(((((ins.getD 0 []).take j).foldl (Br z) ([],[],0)).1,0,false),[(((ins.getD 0 []).take j).foldl (Br z) ([],[],0)).2.1]))
  ((Cf ((((ins.getD 0 []).take (ins.getD 0 []).length).foldl (Br z) ([],[],0)).1,[],0)).1,0,true) [(Cf ((((ins.getD 0 []).take (ins.getD 0 []).length).foldl (Br z) ([],[],0)).1,[],0)).2.1] rfl (Jr hz.1 hz.2.2) (show(0:Int)<=1 by decide) (λj _=>⟨rfl,rfl⟩) (λj hj=>?_) ⟨?_,rfl, ?_,rfl⟩
 ·obtain⟨d,o,hd⟩:∃d o,((ins.getD 0 []).take j).foldl (Br z) ([],[],0)=(d,o,0):=⟨_,_,hst j⟩;have hn:((ins.getD 0 []).take (j+1)).foldl (Br z) ([],[],0)=((Br z (d,[],0) ((ins.getD 0 []).getD j 0)).1,o++(Br z (d,[],0) ((ins.getD 0 []).getD j 0)).2.1,(Br z (d,[],0) ((ins.getD 0 []).getD j 0)).2.2):=by
   rw[Hn hj,dK,hd,<-Amn];rfl
  have h1:=her (j+1);rw[hn]at h1;replace h1:(Br z (d,[],0) ((ins.getD 0 []).getD j 0)).2.2=0:=h1;dsimp only;rw[hd,hn];refine⟨[(Br z (d,[],0) ((ins.getD 0 []).getD j 0)).2.1], ?_,rfl,rfl⟩;show(((Br z (d,[],0) ((ins.getD 0 []).getD j 0)).1,0,false),[(Br z (d,[],0) ((ins.getD 0 []).getD j 0)).2.1],(Br z (d,[],0) ((ins.getD 0 []).getD j 0)).2.2)=_;rw[h1]
 ·obtain⟨d,o,hd⟩:∃d o,((ins.getD 0 []).take (ins.getD 0 []).length).foldl (Br z) ([],[],0)=(d,o,0):=⟨_,_,hst _⟩;have h1:=hcl;rw[<-dM (l:=ins.getD 0 []),hd,Abv]at h1;replace h1:(Cf (d,[],0)).2.2=0:=h1;dsimp only;rw[hd];show(((Cf (d,[],0)).1,0,true),[(Cf (d,[],0)).2.1],(Cf (d,[],0)).2.2)=_;rw[h1]
 ·obtain⟨d,o,hd⟩:∃d o,((ins.getD 0 []).take (ins.getD 0 []).length).foldl (Br z) ([],[],0)=(d,o,0):=⟨_,_,hst _⟩;have h1:(ins.getD 0 []).foldl (Br z) ([],[],0)=(d,o,0):=by rw[dM]at hd;exact hd
  have h2:Id (4,z,e,l) ins=[(Cf (d,o,0)).2.1]:=by
   show[(Cf ((ins.getD 0 []).foldl (Br z) ([],[],0))).2.1]=_;rw[h1]
  have h3:(Cf (d,o,0)).2.1=o++(Cf (d,[],0)).2.1:=bG (λs=>s.2.1) (Abv d o);rw[h2,h3];dsimp only;rw[hd];rfl
theorem Ar8{z:Int}{e:ExprT}{l:List Int}{ins:List (List Int)}(h:(Av (1,z,e,l) ins).2=0):R9 (1,z,e,l) ins:=by
 obtain⟨h0,hl,hs,hc,hb⟩:=Eg.1 h;have hi:ins.length=0:=by have h:(ins.length:Int)=0:=hl;omega
 have hz:=Ay h0;have hit:=(Ip h0).1;replace hit:l.length<=200:=hit;have vd:∀(c:Int)(en:Bool),0<=c->c<=(l.length:Int)->Aw (1,z,e,l) ([],c,en)=true:=λc en h1 h2=>Au.2 ⟨⟨h1,h2,by show((0:Nat):Int)<=0;decide⟩,rfl,rfl⟩
 have nd:∀(c:Int)(en:Bool),0<=c->c<=(l.length:Int)->An (1,z,e,l) ([],c,en)=([],0):=λc en h1 h2=>ND2 (by simp[h0]) (by simp[vd c en h1 h2]) (by cases en<;>rfl)
 refine⟨λr t=>(∃j:Nat,j<=l.length/\t=(([],(j:Int),false),[],[l.take j])/\r=l.length-j+1)\/(t=(([],(l.length:Int),true),[],[l])/\r=0), ?_,by rw[show tot (1,z,e,l) ins=l.length+1 from aN rfl];exact .inl ⟨0,aV _,by rw[start,hi];rfl,by omega⟩⟩
 ·rintro r t (⟨j,hj,rfl,rfl⟩|⟨rfl,rfl⟩)
  ·have hn:=nd (j:Int) false (by omega) (by omega);have hv:=vd (j:Int) false (by omega) (by omega);refine⟨by show(An (1,z,e,l) ([],(j:Int),false)).2=0;rw[hn],by rw[hi];rfl,rfl,.inr (.inr ⟨by show(An (1,z,e,l) ([],(j:Int),false)).1=[];rw[hn],rfl,rfl,λhje=>?_,λhjl=>?_⟩)⟩
   ·have hje':(j:Int)=(l.length:Int):=hje;have he:=Y0 (x:=(1,z,e,l)) (s:=([],(j:Int),false)) (i:=-1) (t:=([],(j:Int),true)) (o:=[[]]) h0 hv rfl (Y1 rfl λh=>aS rfl h) rfl;show(Cg (1,z,e,l) ([],(j:Int),false) (-1)).2.2.2=0/\Nx _ _ _ (Cg (1,z,e,l) ([],(j:Int),false) (-1)).1 _ (Cg (1,z,e,l) ([],(j:Int),false) (-1)).2.1;rw[he];refine⟨rfl,rfl,0,by omega,.inr ⟨?_,rfl⟩⟩;show(([],(j:Int),true),[],[l.take j++[]])=_;rw[cB,hje',bL (by omega)]
   ·have hjl':¬(j:Int)=(l.length:Int):=hjl;have ht:=Sy (x:=(1,z,e,l)) (s:=([],(j:Int),false)) (i:=-1) (n:=0) (t:=([],(j:Int)+1,false)) (o:=[[l.getD (j:Int).toNat 0]]) h0 hv (by
     show(bif bif false then true else bif decide ((1:Int)=1)then bif !decide ((-1:Int)=-1)then true else decide ((j:Int)=(l.length:Int))else false then true else bif !decide ((1:Int)=1)then _ else false)=false;rw[aZ hjl'];rfl) rfl rfl
    show(Bs (1,z,e,l) ([],(j:Int),false) (-1) 0).2.2=0/\Nx _ _ _ (Bs (1,z,e,l) ([],(j:Int),false) (-1) 0).1 _ (Bs (1,z,e,l) ([],(j:Int),false) (-1) 0).2.1;rw[ht];refine⟨rfl,rfl,l.length-(j+1)+1,by omega,.inl ⟨j+1,by omega, ?_,rfl⟩⟩;show(([],(j:Int)+1,false),[],[l.take j++[l.getD (j:Int).toNat 0]])=(([],((j+1:Nat):Int),false),[],[l.take (j+1)]);rw[Hn (by omega),bE];rfl
  ·have hn:=nd (l.length:Int) true (by omega) (by omega);exact⟨by show(An (1,z,e,l) ([],(l.length:Int),true)).2=0;rw[hn],by rw[hi];rfl,rfl,.inl ⟨by show(An (1,z,e,l) ([],(l.length:Int),true)).1=[];rw[hn],rfl,rfl,rfl⟩⟩
theorem Rx{x:StT}{ins:List (List Int)}{J:Nat->RT->Prop}{r:Nat}{t:RT}{k p:Nat}(hn:An x t.1=([(k:Int)],0))(h1:t.2.1.length=ins.length)(h2:(t.2.2.length:Int)=(Aq x.1).2.1)(hk:k<ins.length)(he:t.1.2.2=false)
 (hp:t.2.1.getD k 0=(p:Int))(hl:p<=(ins.getD k []).length)(hE:p=(ins.getD k []).length->∃(s:SST)(o:List (List Int)),Cg x t.1 k=(s,o,s.2.2,0)/\Nx J r t s t.2.1 o)
 (hT:p<(ins.getD k []).length->∃(s:SST)(o:List (List Int)),Bs x t.1 k ((ins.getD k []).getD p 0)=(s,o,0)/\Nx J r t s (t.2.1.set k ((p:Int)+1)) o):Rnd x ins J r t:=by
 refine⟨by rw[hn],h1,h2,.inr (.inl ⟨k,p,by rw[hn],hk,he,hp,hl,λh=>?_,λh=>?_⟩)⟩
 ·obtain⟨s,o,g1,g2⟩:=hE h;rw[g1];exact⟨rfl,g2⟩
 ·obtain⟨s,o,g1,g2⟩:=hT h;rw[g1];exact⟨rfl,g2⟩
theorem Aga{x:StT}{ins:List (List Int)}{J:Nat->RT->Prop}{r:Nat}{t:RT}(hn:An x t.1=([],0))(h1:t.2.1.length=ins.length)(h2:(t.2.2.length:Int)=(Aq x.1).2.1)(he:t.1.2.2=true)(ho:t.2.2=Id x ins)(hr:r=0):Rnd x ins J r t:=
 ⟨by rw[hn],h1,h2,.inl ⟨by rw[hn],he,ho,hr⟩⟩
theorem Ig{l:List Int}(h:l.any Ak=false){j:Nat}(hj:j<l.length):Ak (l.getD j 0)=false:=by
 have h9:=dJ.1 h (l.getD j 0) (P3 hj);simpa using h9
theorem Nm{l:List Int}{j:Nat}(h:j<l.length):l.drop j=l.getD j 0::l.drop (j+1):=by
 rw[cE h];simp[aY,aQ h]
section
variable {z:Int}{e:ExprT}{l:List Int}{held:List Int}{c:Int}
theorem Y2(h0:Ap (8,z,e,l)=0)(hv:Aw (8,z,e,l) (held,c,false)=true):An (8,z,e,l) (held,c,false)=([if held.any (isI c)=true then 1-c else c],0):=by
 by_cases h:held.any (isI c)=true
 ·rw[aN h];exact ND3 (by simp[h0]) (by simp[hv]) rfl h
 ·rw[aL h];have h':held.any (isI c)=false:=by simpa using h
  exact ND4 (by simp[h0]) (by simp[hv]) rfl h' rfl
theorem Y3(h0:Ap (8,z,e,l)=0)(hv:Aw (8,z,e,l) (held,c,false)=true){k:Int}(hn:(An (8,z,e,l) (held,c,false)).1=[k]){n:Int}(hm:Ak n=false):Bs (8,z,e,l) (held,c,false) k n=((held,1-k,false),[[n]],0):=
 Sy h0 hv (Ad3 (by show(8:Int)≠1;decide) rfl (by rw[hn];simp[isI])) (Ad4 (by show(8:Int)≠1;decide) hm) rfl
theorem Y4(h0:Ap (8,z,e,l)=0)(hv:Aw (8,z,e,l) (held,c,false)=true){k:Int}(hk:0<=k/\k<2)(hh:held.any (isI k)=false){s:List Int}(hs:Gu (held++[k])=s):Cg (8,z,e,l) (held,c,false) k=((s,c,decide ((s.length:Int)=2)),[[]],decide ((s.length:Int)=2),0):=by
 subst hs;exact Y0 h0 hv (Ad5 (by show(8:Int)≠1;decide) hk.1 hk.2) (Y1 rfl λ_=>hh) rfl
theorem Agb(h:held=[]\/held=[0]\/held=[1])(hc:0<=c/\c<=1):Aw (8,z,e,l) (held,c,false)=true:=by
 rcases h with rfl|rfl|rfl
 ·exact Au.2 ⟨⟨hc.1,hc.2,by show((0:Nat):Int)<=2;decide⟩,rfl,rfl⟩
 ·exact Au.2 ⟨⟨hc.1,hc.2,by show((1:Nat):Int)<=2;decide⟩,rfl,rfl⟩
 ·exact Au.2 ⟨⟨hc.1,hc.2,by show((1:Nat):Int)<=2;decide⟩,rfl,rfl⟩
end
def MC(a b M:List Int)(held:List Int)(c:Int)(p q:Nat)(o:List Int):Prop:=
 (held=[]/\c=0/\o++Eb ((a.length-p)+(b.length-q)) (a.drop p) (b.drop q)=M)\/(held=[]/\c=1/\o++Eb ((a.length-p)+(b.length-q)) (b.drop q) (a.drop p)=M)\/
   (held=[0]/\p=a.length/\o++b.drop q=M)\/(held=[1]/\q=b.length/\o++a.drop p=M)
theorem Ar9{z:Int}{e:ExprT}{l:List Int}{ins:List (List Int)}(h:(Av (8,z,e,l) ins).2=0):R9 (8,z,e,l) ins:=by
 obtain⟨h0,hl,hs,hc,hb⟩:=Eg.1 h;have hi:ins.length=2:=by have h:(ins.length:Int)=2:=hl;omega
 obtain⟨ga1,ga2⟩:=Bn hs (show 0<ins.length by omega);obtain⟨gb1,gb2⟩:=Bn hs (show 1<ins.length by omega);replace ga1:(ins.getD 0 []).length<=200:=ga1;replace ga2:(ins.getD 0 []).any Ak=false:=ga2;replace gb1:(ins.getD 1 []).length<=200:=gb1;replace gb2:(ins.getD 1 []).any Ak=false:=gb2;have ho:Id (8,z,e,l) ins=[Eb ((ins.getD 0 []).length+(ins.getD 1 []).length) (ins.getD 0 []) (ins.getD 1 [])]:=rfl;have d0:∀c:Int,0<=c/\c<=1->Aw (8,z,e,l) ([0,1],c,true)=true:=λc hc=>Au.2 ⟨⟨hc.1,hc.2,by show((2:Nat):Int)<=2;decide⟩,rfl,rfl⟩
 refine⟨λr t=>(∃(held:List Int)(c:Int)(p q:Nat)(o:List Int),t=((held,c,false),[(p:Int),(q:Int)],[o])/\(0<=c/\c<=1)/\(p<=(ins.getD 0 []).length/\q<=(ins.getD 1 []).length)/\
  MC (ins.getD 0 []) (ins.getD 1 []) (Eb ((ins.getD 0 []).length+(ins.getD 1 []).length) (ins.getD 0 []) (ins.getD 1 [])) held c p q o/\r+held.length=((ins.getD 0 []).length-p)+((ins.getD 1 []).length-q)+2)\/
  (∃c:Int,(0<=c/\c<=1)/\t=(([0,1],c,true),[((ins.getD 0 []).length:Int),((ins.getD 1 []).length:Int)],Id (8,z,e,l) ins)/\r=0), ?_,by rw[Ap1 hi (by show(8:Int)≠1;decide)];exact .inl ⟨[],0,0,0,[],by rw[start,hi];rfl,by decide,⟨aV _,aV _⟩,.inl ⟨rfl,rfl,rfl⟩,rfl⟩⟩
 ·rintro r t (⟨held,c,p,q,o,rfl,hc,⟨hp,hq⟩,hm,hr⟩|⟨c,hc,rfl,rfl⟩)
  ·rcases hm with⟨rfl,rfl,hm⟩|⟨rfl,rfl,hm⟩|⟨rfl,rfl,hm⟩|⟨rfl,rfl,hm⟩
   ·have hv:=Agb (z:=z) (e:=e) (l:=l) (.inl rfl) (show(0:Int)<=0/\(0:Int)<=1 by decide);have hn:An (8,z,e,l) ([],0,false)=([0],0):=Y2 h0 hv;refine Rx (k:=0) (p:=p) hn (by rw[hi];rfl) rfl (by omega) rfl rfl hp (λhpe=>⟨([0],0,false),[[]],Y4 h0 hv (by decide) rfl (Adn 0),rfl,r-1,by simp only[List.length_nil,List.length_cons]at hr;omega,.inl ⟨[0],0,p,q,o++[],rfl,by decide,⟨hp,hq⟩,.inr (.inr (.inl ⟨rfl,hpe, ?_⟩)),by simp only[List.length_nil,List.length_cons]at hr ⊢;omega⟩⟩) λhpl=>⟨([],1,false),[[(ins.getD 0 []).getD p 0]],Y3 h0 hv (by rw[hn];rfl) (Ig ga2 hpl),rfl,r-1,by simp only[List.length_nil,List.length_cons]at hr;omega,.inl ⟨[],1,p+1,q,o++[(ins.getD 0 []).getD p 0],rfl,by decide,⟨hpl,hq⟩,.inr (.inl ⟨rfl,rfl, ?_⟩),by simp only[List.length_nil,List.length_cons]at hr ⊢;omega⟩⟩
    ·rw[cB,<-hm,show(ins.getD 0 []).drop p=[]from bI (by omega),Ni]
    ·rw[<-hm,Nm hpl,show(ins.getD 0 []).length-p+((ins.getD 1 []).length-q)=((ins.getD 0 []).length-(p+1)+((ins.getD 1 []).length-q))+1 by omega];show _=o++(_::Eb _ _ _);rw[dO];rfl
   ·have hv:=Agb (z:=z) (e:=e) (l:=l) (.inl rfl) (show(0:Int)<=1/\(1:Int)<=1 by decide);have hn:An (8,z,e,l) ([],1,false)=([1],0):=Y2 h0 hv;refine Rx (k:=1) (p:=q) hn (by rw[hi];rfl) rfl (by omega) rfl rfl hq (λhpe=>⟨([1],1,false),[[]],Y4 h0 hv (by decide) rfl (Adn 1),rfl,r-1,by simp only[List.length_nil,List.length_cons]at hr;omega,.inl ⟨[1],1,p,q,o++[],rfl,by decide,⟨hp,hq⟩,.inr (.inr (.inr ⟨rfl,hpe, ?_⟩)),by simp only[List.length_nil,List.length_cons]at hr ⊢;omega⟩⟩) λhpl=>⟨([],0,false),[[(ins.getD 1 []).getD q 0]],Y3 h0 hv (by rw[hn];rfl) (Ig gb2 hpl),rfl,r-1,by simp only[List.length_nil,List.length_cons]at hr;omega,.inl ⟨[],0,p,q+1,o++[(ins.getD 1 []).getD q 0],rfl,by decide,⟨hp,hpl⟩,.inl ⟨rfl,rfl, ?_⟩,by simp only[List.length_nil,List.length_cons]at hr ⊢;omega⟩⟩
    ·rw[cB,<-hm,show(ins.getD 1 []).drop q=[]from bI (by omega),Ni]
    ·rw[<-hm,Nm hpl,show(ins.getD 0 []).length-p+((ins.getD 1 []).length-q)=((ins.getD 0 []).length-p+((ins.getD 1 []).length-(q+1)))+1 by omega];show _=o++(_::Eb _ _ _);rw[dO];rfl
   ·have hv:=Agb (z:=z) (e:=e) (l:=l) (held:=[0]) (.inr (.inl rfl)) hc;have hc2:c=0\/c=1:=by omega
    have hn:An (8,z,e,l) ([0],c,false)=([1],0):=by
     rw[Y2 h0 hv];rcases hc2 with rfl|rfl<;>rfl
    refine Rx (k:=1) (p:=q) hn (by rw[hi];rfl) rfl (by omega) rfl rfl hq (λhpe=>⟨([0,1],c,true),[[]],Y4 h0 hv (by decide) rfl Afu,rfl,0,by simp only[List.length_nil,List.length_cons]at hr;omega,.inr ⟨c,hc, ?_,rfl⟩⟩) λhpl=>⟨([0],0,false),[[(ins.getD 1 []).getD q 0]],Y3 h0 hv (by rw[hn];rfl) (Ig gb2 hpl),rfl,r-1,by simp only[List.length_nil,List.length_cons]at hr;omega,.inl ⟨[0],0,(ins.getD 0 []).length,q+1,o++[(ins.getD 1 []).getD q 0],rfl,by decide,⟨bB _,hpl⟩,.inr (.inr (.inl ⟨rfl,rfl, ?_⟩)),by simp only[List.length_nil,List.length_cons]at hr ⊢;omega⟩⟩
    ·show(([0,1],c,true),[((ins.getD 0 []).length:Int),(q:Int)],[o++[]])=_;rw[ho,<-hm,show(ins.getD 1 []).drop q=[]from bI (by omega),hpe]
    ·rw[<-hm,Nm hpl,dO];rfl
   ·have hv:=Agb (z:=z) (e:=e) (l:=l) (held:=[1]) (.inr (.inr rfl)) hc;have hc2:c=0\/c=1:=by omega
    have hn:An (8,z,e,l) ([1],c,false)=([0],0):=by
     rw[Y2 h0 hv];rcases hc2 with rfl|rfl<;>rfl
    refine Rx (k:=0) (p:=p) hn (by rw[hi];rfl) rfl (by omega) rfl rfl hp (λhpe=>⟨([0,1],c,true),[[]],Y4 h0 hv (by decide) rfl Afv,rfl,0,by simp only[List.length_nil,List.length_cons]at hr;omega,.inr ⟨c,hc, ?_,rfl⟩⟩) λhpl=>⟨([1],1,false),[[(ins.getD 0 []).getD p 0]],Y3 h0 hv (by rw[hn];rfl) (Ig ga2 hpl),rfl,r-1,by simp only[List.length_nil,List.length_cons]at hr;omega,.inl ⟨[1],1,p+1,(ins.getD 1 []).length,o++[(ins.getD 0 []).getD p 0],rfl,by decide,⟨hpl,bB _⟩,.inr (.inr (.inr ⟨rfl,rfl, ?_⟩)),by simp only[List.length_nil,List.length_cons]at hr ⊢;omega⟩⟩
    ·show(([0,1],c,true),[(p:Int),((ins.getD 1 []).length:Int)],[o++[]])=_;rw[ho,<-hm,show(ins.getD 0 []).drop p=[]from bI (by omega),hpe]
    ·rw[<-hm,Nm hpl,dO];rfl
  ·exact Aga (Vc h0 (d0 c hc) rfl) (by rw[hi];rfl) rfl rfl rfl rfl
section
variable {z:Int}{e:ExprT}{l:List Int}{held:List Int}{c:Int}
theorem Agc(h:held.length<=1)(hm:held.any Ak=false)(hc:c=0\/((c=1\/c=2)/\held=[])):Aw (9,z,e,l) (held,c,false)=true:=by
 rcases hc with rfl|⟨rfl|rfl,rfl⟩
 ·exact Au.2 ⟨⟨by show(0:Int)<=0;decide,by show(0:Int)<=3;decide,by show(held.length:Int)<=1;omega⟩,hm,rfl⟩
 ·exact Au.2 ⟨⟨by show(0:Int)<=1;decide,by show(1:Int)<=3;decide,by show((0:Nat):Int)<=1;decide⟩,rfl,rfl⟩
 ·exact Au.2 ⟨⟨by show(0:Int)<=2;decide,by show(2:Int)<=3;decide,by show((0:Nat):Int)<=1;decide⟩,rfl,rfl⟩
theorem Y5(h0:Ap (9,z,e,l)=0)(hv:Aw (9,z,e,l) (held,c,false)=true):An (9,z,e,l) (held,c,false)=([if(bif decide (C9 .i64 (N4 .i64 c 0) 1=1)then true else decide (0<(held.length:Int)))=true then 1 else 0],0):=by
 by_cases h:(bif decide (C9 .i64 (N4 .i64 c 0) 1=1)then true else decide (0<(held.length:Int)))=true
 ·rw[aN h];refine ND5 (by simp[h0]) (by simp[hv]) rfl rfl rfl ?_;rw[Qx];exact h
 ·rw[aL h];have h':(bif decide (C9 .i64 (N4 .i64 c 0) 1=1)then true else decide (0<(held.length:Int)))=false:=by simpa using h
  refine ND6 (by simp[h0]) (by simp[hv]) rfl rfl rfl ?_;rw[Qx];exact h'
theorem Y6(h0:Ap (9,z,e,l)=0)(hv:Aw (9,z,e,l) (held,c,false)=true){k:Int}(hn:(An (9,z,e,l) (held,c,false)).1=[k]){n:Int}(hm:Ak n=false){t:SST}{o:List (List Int)}(hr:Dr (9,z,e,l) (held,c,false) k n=(t,o,0)):Bs (9,z,e,l) (held,c,false) k n=(t,o,0):=
 Sy h0 hv (Ad3 (by show(9:Int)≠1;decide) rfl (by rw[hn];simp[isI])) (Ad4 (by show(9:Int)≠1;decide) hm) hr
theorem Y7(h0:Ap (9,z,e,l)=0)(hv:Aw (9,z,e,l) (held,c,false)=true){k:Int}(hk:0<=k/\k<2)(hh:decide (C9 .i64 (N4 .i64 c k) 1=1)=false){t:SST}(hr:Eh (9,z,e,l) (held,c,false) k=(t,[[]],0)):Cg (9,z,e,l) (held,c,false) k=(t,[[]],t.2.2,0):=
 Y0 h0 hv (Ad5 (by show(9:Int)≠1;decide) hk.1 hk.2) (Y1 rfl λ_=>by rw[Qx];exact hh) hr
end
theorem b00:De .i64 0 (Df .i64 1 0)=1:=by decide
theorem b01:De .i64 0 (Df .i64 1 1)=2:=by decide
theorem b11:De .i64 1 (Df .i64 1 1)=3:=by decide
theorem b20:De .i64 2 (Df .i64 1 0)=3:=by decide
theorem zip_snoc{f:Nat->Int}{j:Nat}:(List.range (j+1)).map f=(List.range j).map f++[f j]:=by
 rw[dA,eG];rfl
def ZC(a b:List Int)(f:Nat->Int)(held:List Int)(c:Int)(p q:Nat)(o:List Int):Prop:=
 (held=[]/\c=0/\p=q/\o=(List.range q).map f)\/(held=[a.getD q 0]/\c=0/\p=q+1/\q<a.length/\o=(List.range q).map f)\/
   (held=[]/\c=1/\p=a.length/\o=(List.range (min a.length b.length)).map f)\/(held=[]/\c=2/\q=b.length/\o=(List.range (min a.length b.length)).map f)
theorem Asa{z:Int}{e:ExprT}{l:List Int}{ins:List (List Int)}(h:(Av (9,z,e,l) ins).2=0):R9 (9,z,e,l) ins:=by
 obtain⟨h0,hl,hs,hc,hb⟩:=Eg.1 h;have hi:ins.length=2:=by have h:(ins.length:Int)=2:=hl;omega
 obtain⟨ga1,ga2⟩:=Bn hs (show 0<ins.length by omega);obtain⟨gb1,gb2⟩:=Bn hs (show 1<ins.length by omega);replace ga1:(ins.getD 0 []).length<=200:=ga1;replace ga2:(ins.getD 0 []).any Ak=false:=ga2;replace gb1:(ins.getD 1 []).length<=200:=gb1;replace gb2:(ins.getD 1 []).any Ak=false:=gb2;have ha:=hc.2.1 rfl;replace ha:∀i,i<min (ins.getD 0 []).length (ins.getD 1 []).length->Ak8 e ((ins.getD 0 []).getD i 0) ((ins.getD 1 []).getD i 0)=0:=ha;obtain⟨f,hf⟩:∃f:Nat->Int,f=λi=>Arb e ((ins.getD 0 []).getD i 0) ((ins.getD 1 []).getD i 0):=⟨_,rfl⟩
 have ho:Id (9,z,e,l) ins=[(List.range (min (ins.getD 0 []).length (ins.getD 1 []).length)).map f]:=by rw[hf];rfl
 have d0:Aw (9,z,e,l) ([],3,true)=true:=Au.2 ⟨⟨by show(0:Int)<=3;decide,by show(3:Int)<=3;decide,by show((0:Nat):Int)<=1;decide⟩,rfl,rfl⟩;refine⟨λr t=>(∃(held:List Int)(c:Int)(p q:Nat)(o:List Int),t=((held,c,false),[(p:Int),(q:Int)],[o])/\(p<=(ins.getD 0 []).length/\q<=(ins.getD 1 []).length)/\
  ZC (ins.getD 0 []) (ins.getD 1 []) f held c p q o/\r+(if c=0 then 0 else 1)=((ins.getD 0 []).length-p)+((ins.getD 1 []).length-q)+2)\/
  (t=(([],3,true),[((ins.getD 0 []).length:Int),((ins.getD 1 []).length:Int)],Id (9,z,e,l) ins)/\r=0), ?_,by rw[Ap1 hi (by show(9:Int)≠1;decide)];exact .inl ⟨[],0,0,0,[],by rw[start,hi];rfl,⟨aV _,aV _⟩,.inl ⟨rfl,rfl,rfl,rfl⟩,rfl⟩⟩
 ·rintro r t (⟨held,c,p,q,o,rfl,⟨hp,hq⟩,hm,hr⟩|⟨rfl,rfl⟩)
  ·rcases hm with⟨rfl,rfl,rfl,rfl⟩|⟨rfl,rfl,rfl,hqa,rfl⟩|⟨rfl,rfl,rfl,rfl⟩|⟨rfl,rfl,rfl,rfl⟩
   ·have hv:=Agc (z:=z) (e:=e) (l:=l) (held:=[]) (c:=0) (by decide) rfl (.inl rfl);have hn:An (9,z,e,l) ([],0,false)=([0],0):=by rw[Y5 h0 hv];rw[aL (by decide)]
    rw[aN rfl]at hr;refine Rx (k:=0) (p:=p) hn (by rw[hi];rfl) rfl (by omega) rfl rfl hp (λhpe=>⟨([],1,false),[[]],Y7 h0 hv (by decide) (by decide) (by rw[e9f (by decide)];show(([],De .i64 0 (Df .i64 1 0),decide (De .i64 0 (Df .i64 1 0)=3)),[[]],(0:Int))=_;rw[b00];rfl),rfl,r-1,by omega,.inl ⟨[],1,p,p,(List.range p).map f++[],rfl,⟨hp,hq⟩,.inr (.inr (.inl ⟨rfl,rfl,hpe, ?_⟩)),by rw[aL (by decide)];omega⟩⟩) λhpl=>⟨([(ins.getD 0 []).getD p 0],0,false),[[]],Y6 h0 hv (by rw[hn];rfl) (Ig ga2 hpl) (r9a (by decide) (by show decide (C9 .i64 0 2=0)=true;decide)),rfl,r-1,by omega,.inl ⟨[(ins.getD 0 []).getD p 0],0,p+1,p,(List.range p).map f++[],rfl,⟨hpl,hq⟩,.inr (.inl ⟨rfl,rfl,rfl,hpl,cB _⟩),by rw[aN rfl];omega⟩⟩
    rw[cB,eQ (by omega),hpe]
   ·have hmn:=Ig ga2 hqa;have hv:=Agc (z:=z) (e:=e) (l:=l) (held:=[(ins.getD 0 []).getD q 0]) (c:=0) (by simp) (by simp only[eW,gT,gO];exact hmn) (.inl rfl);have hn:An (9,z,e,l) ([(ins.getD 0 []).getD q 0],0,false)=([1],0):=by rw[Y5 h0 hv];rw[aN (by rw[show decide (C9 .i64 (N4 .i64 0 0) 1=1)=false by decide];rfl)]
    rw[aN rfl]at hr;refine Rx (k:=1) (p:=q) hn (by rw[hi];rfl) rfl (by omega) rfl rfl hq (λhpe=>⟨([],2,false),[[]],Y7 h0 hv (by decide) (by decide) (by rw[e9t (by decide)];show(([],De .i64 0 (Df .i64 1 1),decide (De .i64 0 (Df .i64 1 1)=3)),[[]],(0:Int))=_;rw[b01];rfl),rfl,r-1,by omega,.inl ⟨[],2,q+1,q,(List.range q).map f++[],rfl,⟨hp,hq⟩,.inr (.inr (.inr ⟨rfl,rfl,hpe, ?_⟩)),by rw[aL (by decide)];omega⟩⟩) λhpl=>⟨([],0,false),[[f q]],Y6 h0 hv (by rw[hn];rfl) (Ig gb2 hpl) ?_,rfl,r-1,by omega,.inl ⟨[],0,q+1,q+1,(List.range q).map f++[f q],rfl,⟨hp,hpl⟩,.inl ⟨rfl,rfl,rfl,zip_snoc.symm⟩,by rw[aN rfl];omega⟩⟩
    ·rw[cB,fR (by omega),hpe]
    ·have he:(evX e D5 ((ins.getD 0 []).getD q 0) ((ins.getD 1 []).getD q 0)).2=0:=ha q (by omega);rw[r9c (by decide) (by show decide (((1:Nat):Int)=1)=true;decide)];show(_,[[(evX e D5 ((ins.getD 0 []).getD q 0) ((ins.getD 1 []).getD q 0)).1]],(evX e D5 ((ins.getD 0 []).getD q 0) ((ins.getD 1 []).getD q 0)).2)=_;rw[he,hf];rfl
   ·have hv:=Agc (z:=z) (e:=e) (l:=l) (held:=[]) (c:=1) (by decide) rfl (.inr ⟨.inl rfl,rfl⟩);have hn:An (9,z,e,l) ([],1,false)=([1],0):=by rw[Y5 h0 hv];rw[aN (by decide)]
    rw[aL (by decide)]at hr;refine Rx (k:=1) (p:=q) hn (by rw[hi];rfl) rfl (by omega) rfl rfl hq (λhpe=>⟨([],3,true),[[]],Y7 h0 hv (by decide) (by decide) (by rw[e9t (by decide)];show(([],De .i64 1 (Df .i64 1 1),decide (De .i64 1 (Df .i64 1 1)=3)),[[]],(0:Int))=_;rw[b11];rfl),rfl,0,by omega,.inr ⟨?_,rfl⟩⟩) λhpl=>⟨([],1,false),[[]],Y6 h0 hv (by rw[hn];rfl) (Ig gb2 hpl) (r9d (by decide) rfl),rfl,r-1,by omega,.inl ⟨[],1,(ins.getD 0 []).length,q+1,_++[],rfl,⟨bB _,hpl⟩,.inr (.inr (.inl ⟨rfl,rfl,rfl,cB _⟩)),by rw[aL (by decide)];omega⟩⟩
    show(([],3,true),[((ins.getD 0 []).length:Int),(q:Int)],[_++[]])=_;rw[ho,cB,hpe]
   ·have hv:=Agc (z:=z) (e:=e) (l:=l) (held:=[]) (c:=2) (by decide) rfl (.inr ⟨.inr rfl,rfl⟩);have hn:An (9,z,e,l) ([],2,false)=([0],0):=by rw[Y5 h0 hv];rw[aL (by decide)]
    rw[aL (by decide)]at hr;refine Rx (k:=0) (p:=p) hn (by rw[hi];rfl) rfl (by omega) rfl rfl hp (λhpe=>⟨([],3,true),[[]],Y7 h0 hv (by decide) (by decide) (by rw[e9f (by decide)];show(([],De .i64 2 (Df .i64 1 0),decide (De .i64 2 (Df .i64 1 0)=3)),[[]],(0:Int))=_;rw[b20];rfl),rfl,0,by omega,.inr ⟨?_,rfl⟩⟩) λhpl=>⟨([],2,false),[[]],Y6 h0 hv (by rw[hn];rfl) (Ig ga2 hpl) (r9b (by decide) (by show decide (C9 .i64 2 2=0)=false;decide)),rfl,r-1,by omega,.inl ⟨[],2,p+1,(ins.getD 1 []).length,_++[],rfl,⟨hpl,bB _⟩,.inr (.inr (.inr ⟨rfl,rfl,rfl,cB _⟩)),by rw[aL (by decide)];omega⟩⟩
    show(([],3,true),[(p:Int),((ins.getD 1 []).length:Int)],[_++[]])=_;rw[ho,cB,hpe]
  ·exact Aga (Vc h0 d0 rfl) (by rw[hi];rfl) rfl rfl rfl rfl
theorem Ao5{x:StT}{ins:List (List Int)}(h:(Av x ins).2=0):R9 x ins:=by
 obtain⟨h0,-⟩:=Eg.1 h;have hk:=G6 (B4 h0);obtain⟨k,z,e,l⟩:=x;replace hk:k=1\/k=2\/k=3\/k=4\/k=5\/k=6\/k=7\/k=8\/k=9\/k=10:=hk;rcases hk with rfl|rfl|rfl|rfl|rfl|rfl|rfl|rfl|rfl|rfl
 ·exact Ar8 h
 ·exact Ar2 h
 ·exact Ar3 h
 ·exact Ar7 h
 ·exact Ar5 h
 ·exact Ar6 h
 ·exact Ar4 h
 ·exact Ar9 h
 ·exact Asa h
 ·exact Ao3 h
theorem Je{α:Type}{l:List α}{k:Nat}{d:α}(h:l.length<=k):l.getD k d=d:=by
 rw[aY,dU h];rfl
theorem Abw{a b:List (List Int)}(h:b.length=a.length):(Ok a b).length=a.length:=by
 unfold Ok;rw[List.length_zipWith,h,Nat.min_self]
theorem Abx{a b:List (List Int)}(h:b.length=a.length)(n:Nat):(Ok a b).getD n []=a.getD n []++b.getD n []:=by
 by_cases hn:n<a.length
 ·have hl:=Abw h;rw[A1 (by omega),A1 hn,A1 (by omega)];unfold Ok;rw[List.getElem_zipWith]
 ·have hl:=Abw h;rw[Je (by omega),Je (by omega),Je (by omega)];rfl
section
variable {x:StT}{ins:List (List Int)}{J:Nat->RT->Prop}
theorem Y8{r:Nat}{t:RT}{s:SST}{at2:List Int}{o':List (List Int)}(ih:∀r'<r,∀t,J r' t->∀o,t.2.2.getD o [] <+: (Id x ins).getD o [])(h:Nx J r t s at2 o')(o:Nat):t.2.2.getD o [] <+: (Id x ins).getD o []:=by
 obtain⟨h1,r',h2,h3⟩:=h;have:=ih r' (by omega) _ h3 o;rw[show(s,at2,Ok t.2.2 o').2.2=Ok t.2.2 o' from rfl,Abx h1]at this;exact(gE _ _).trans this
theorem Aub(hJ:∀r t,J r t->Rnd x ins J r t)(r:Nat):∀t,J r t->∀o,t.2.2.getD o [] <+: (Id x ins).getD o []:=by
 induction r using Nat.strongRecOn with
 |ind r ih=>
  intro t h o;obtain⟨-,-,-,⟨-,-,h1,-⟩|⟨k,p,-,-,-,-,h1,h2,h3⟩|⟨-,-,-,h2,h3⟩⟩:=hJ r t h
  ·rw[h1];exact eN _
  ·by_cases hp:p=(ins.getD k []).length
   ·exact Y8 ih (h2 hp).2 o
   ·exact Y8 ih (h3 (by omega)).2 o
  ·by_cases hp:t.1.2.1=(x.2.2.2.length:Int)
   ·exact Y8 ih (h2 hp).2 o
   ·exact Y8 ih (h3 hp).2 o
end
theorem Aby{y:StT}{t:SST}(h1:y.1=1):(An y t).1=[]:=by
 unfold An;split
 ·rfl
 ·split
  ·rfl
  ·rw[aN (by rw[h1];cases t.2.2<;>rfl)]
theorem Vd{y:StT}{t:SST}(h1:y.1=1)(hn:(An y t).2=0)(he:t.2.2=false)(hc:t.2.1≠(y.2.2.2.length:Int)):Bs y t (-1) 0=((t.1,t.2.1+1,t.2.2),[[y.2.2.2.getD t.2.1.toNat 0]],0):=by
 have hr:Dr y t (-1) 0=((t.1,t.2.1+1,t.2.2),[[y.2.2.2.getD t.2.1.toNat 0]],0):=aN h1;unfold Bs;rw[aL (by rw[hn];decide),aL (by unfold tk1;rw[he,h1,aZ hc];exactλh=>aX h),aL (by unfold tk2;rw[h1];decide),hr];exact aL (λh=>aX h)
theorem Y9{y:StT}{t:SST}(h1:y.1=1)(hn:(An y t).2=0)(he:t.2.2=false):Cg y t (-1)=((t.1,t.2.1,true),[[]],true,0):=by
 have hr:Eh y t (-1)=((t.1,t.2.1,true),[[]],0):=by
  unfold Eh;rw[aL (by omega),aL (by omega),aL (by omega),aL (by omega),aL (by omega)]
 unfold Cg;rw[aL (by rw[hn];decide),aL (by unfold te1;rw[h1];decide),aL (by unfold te2;rw[he,h1];exactλh=>aX h),hr];exact aL (λh=>aX h)
structure Kp(x x':PlT)(S:List (List Int))(J:Int->Nat->RT->Prop):Prop where
 w:WF x
 ct:∀i:Int,(sg x i).1≠1->sg x' i=sg x i
 cs:∀i:Int,(sg x i).1=1->∃n:Nat,n<=(sg x i).2.2.2.length/\sg x' i=((sg x i).1,(sg x i).2.1,(sg x i).2.2.1,(sg x i).2.2.2.take n)
 ps:x'.2=x.2
 ok:∀i:Int,0<=i->i<x.1.length->Ap (sg x' i)=0
 so:∀i o:Int,0<=i->i<x.1.length->0<=o->o<stOut (sg x i)->S.getD (B8 x i o).toNat []=(Id (sg x' i) (B5 x' S i)).getD o.toNat []
 jr:∀i:Int,0<=i->i<x.1.length->∀r t,J i r t->Rnd (sg x' i) (B5 x' S i) (J i) r t
 sl:∀k<x.2.length,(S.getD k []).length<=200
structure Kn(x x':PlT)(S:List (List Int))(J:Int->Nat->RT->Prop)(s:FsT)(r:Int->Nat)(T:Int->List Int)(O:Int->List (List Int)):Prop where
 st:∀i:Int,0<=i->i<x.1.length->J i (r i) (Az s i,T i,O i)
 se:∀k<x.2.length,(s.2.1.getD k zCred).2.2.2.2.1=((O (x.2.getD k Ai).1).getD (x.2.getD k Ai).2.1.toNat []).drop ((T (x.2.getD k Ai).2.2.1).getD (x.2.getD k Ai).2.2.2.1.toNat 0).toNat
 tk:∀k<x.2.length,(s.2.1.getD k zCred).2.2.2.1=(T (x.2.getD k Ai).2.2.1).getD (x.2.getD k Ai).2.2.2.1.toNat 0
 le:∀k<x.2.length,(T (x.2.getD k Ai).2.2.1).getD (x.2.getD k Ai).2.2.2.1.toNat 0<=(((O (x.2.getD k Ai).1).getD (x.2.getD k Ai).2.1.toNat []).length:Int)
 ou:∀i:Int,0<=i->i<x.1.length->(sg x i).1=10->s.2.2.1.getD (Fu x i) []=((B5 x' S i).getD 0 []).take ((T i).getD 0 0).toNat
 en:∀i:Int,0<=i->i<x.1.length->(sg x i).1=10->(Az s i).2.2=true->(T i).getD 0 0=(((B5 x' S i).getD 0 []).length:Int)
def Sa(T:List Int)(m:MvT):List Int:=if m.2.2.2.1=true then T.set m.2.2.2.2.1.toNat (T.getD m.2.2.2.2.1.toNat 0+1)else T
section
variable {x x':PlT}{S:List (List Int)}{J:Int->Nat->RT->Prop}{s:FsT}{r:Int->Nat}{T:Int->List Int}{O:Int->List (List Int)}
theorem Kp.kind(p:Kp x x' S J)(i:Int):(sg x' i).1=(sg x i).1:=by
 by_cases h:(sg x i).1=1
 ·obtain⟨n,-,h1⟩:=p.cs i h;rw[h1]
 ·rw[p.ct i h]
theorem Kp.sti(p:Kp x x' S J){i:Int}(i0:0<=i)(iN:i<x.1.length):stIn (sg x' i)=stIn (sg x i)/\stOut (sg x' i)=stOut (sg x i):=by
 have h:=p.w.st i.toNat (by omega);have h:Ap (sg x i)=0:=h;have h':=p.ok i i0 iN;rw[Jb h,Jb h',Ja h,Ja h',p.kind];exact⟨rfl,rfl⟩
theorem Kp.inp(p:Kp x x' S J)(i k:Int):pIn x' i k=pIn x i k:=by unfold pIn;rw[p.ps]
theorem Kp.ends(p:Kp x x' S J){k:Nat}(hk:k<x.2.length):(B5 x' S (x.2.getD k Ai).2.2.1).getD (x.2.getD k Ai).2.2.2.1.toNat []=S.getD k []/\(Id (sg x' (x.2.getD k Ai).1) (B5 x' S (x.2.getD k Ai).1)).getD (x.2.getD k Ai).2.1.toNat []=S.getD k []:=by
 have q:=p.w.pipe hk;constructor
 ·have h1:=(p.sti q.t0 q.tn).1;have h2:(x.2.getD k Ai).2.2.2.1.toNat<(stIn (sg x' (x.2.getD k Ai).2.2.1)).toNat:=by have:=q.iN;have:=q.i0;omega
  unfold B5;rw[A1 (by rw[bM,Dk];exact h2),eL];have h3:(ints (stIn (sg x' (x.2.getD k Ai).2.2.1)).toNat)[(x.2.getD k Ai).2.2.2.1.toNat]'(by rw[Dk];exact h2)=(x.2.getD k Ai).2.2.2.1:=by
   rw[<-A1 (d:=0),Pt h2];have:=q.i0;omega
  rw[h3,p.inp,q.inp,bE]
 ·rw[<-p.so _ _ q.f0 q.fn q.o0 q.on,q.out,bE]
theorem Kn.pre(n:Kn x x' S J s r T O)(p:Kp x x' S J){k:Nat}(hk:k<x.2.length):(O (x.2.getD k Ai).1).getD (x.2.getD k Ai).2.1.toNat [] <+: S.getD k []:=by
 have q:=p.w.pipe hk;have:=Aub (p.jr _ q.f0 q.fn) _ _ (n.st _ q.f0 q.fn) (x.2.getD k Ai).2.1.toNat
 rwa [(p.ends hk).2]at this
theorem Kn.done(n:Kn x x' S J s r T O)(p:Kp x x' S J){i:Int}(i0:0<=i)(iN:i<x.1.length)(he:(Az s i).2.2=true):O i=Id (sg x' i) (B5 x' S i):=by
 obtain⟨-,-,-,⟨-,-,h1,-⟩|⟨k,q,-,-,h1,-⟩|⟨-,h1,-⟩⟩:=p.jr i i0 iN _ _ (n.st i i0 iN)
 ·exact h1
 ·exact aS (he.symm.trans h1) (by decide)
 ·exact aS (he.symm.trans h1) (by decide)
theorem Kn.next(n:Kn x x' S J s r T O)(p:Kp x x' S J)(v:VS x s){i:Int}(i0:0<=i)(iN:i<x.1.length)(h:(A4 x s i).2=true)
 (hc:(sg x i).1=1->((s.2.2.2=true\/(Az s i).2.1=(sg x i).2.2.2.length)<->(Az s i).2.1=((sg x' i).2.2.2.length:Int))):
 (A4 x s i).1.2.2.2.2.2.2=0/\(A4 x s i).1.2.1.length=(O i).length/\(∃r',r'+1=r i/\J i r' ((A4 x s i).1.1,Sa (T i) (A4 x s i).1,Ok (O i) (A4 x s i).1.2.1))/\
 ((A4 x s i).1.2.2.2.1=true->(sg x i).1≠1/\0<=(A4 x s i).1.2.2.2.2.1/\(A4 x s i).1.2.2.2.2.1<stIn (sg x i)/\0<=(T i).getD (A4 x s i).1.2.2.2.2.1.toNat 0/\
   ((T i).getD (A4 x s i).1.2.2.2.2.1.toNat 0).toNat<((B5 x' S i).getD (A4 x s i).1.2.2.2.2.1.toNat []).length/\(A4 x s i).1.2.2.2.2.2.1=((B5 x' S i).getD (A4 x s i).1.2.2.2.2.1.toNat []).getD ((T i).getD (A4 x s i).1.2.2.2.2.1.toNat 0).toNat 0)/\
 ((A4 x s i).1.2.2.1=true->(sg x i).1=10->(A4 x s i).1.2.2.2.1=false/\(T i).getD 0 0=(((B5 x' S i).getD 0 []).length:Int)):=by
 have hnd:(An (sg x i) (Az s i)).2=0:=by have:=v.nd i.toNat (by omega);rwa [show((i.toNat:Nat):Int)=i by omega]at this
 obtain⟨g1,g2,g3,g⟩:=p.jr i i0 iN _ _ (n.st i i0 iN);replace g1:(An (sg x' i) (Az s i)).2=0:=g1;replace g2:(T i).length=(B5 x' S i).length:=g2;have hil:((B5 x' S i).length:Int)=stIn (sg x i):=by
  rw[Yy,(p.sti i0 iN).1];have:=U3 (sg x i);omega
 obtain⟨h1,⟨h2,h3,h4⟩|⟨h2,h3,h4⟩|⟨h2,k,hk,⟨a,l,h5,h4⟩|⟨h5,h4⟩⟩⟩:=Lp h<;>rw[h4]
 ·have hk':(sg x' i).1=1:=by rw[p.kind,h2]
  have e1:=Y9 h2 hnd h1;have e2:=Y9 hk' g1 h1;have hcc:=(hc h2).1 h3;rcases g with⟨-,g5,-,-⟩|⟨k,q,g4,-⟩|⟨-,-,-,g4,-⟩
  ·exact aS (g5.symm.trans h1) (by decide)
  ·exact aS ((Aby hk').symm.trans g4) (by simp)
  ·obtain⟨g5,g6,r',g7,g8⟩:=g4 hcc;rw[show Cg (sg x' i) (Az s i,T i,O i).1 (-1)=Cg (sg x' i) (Az s i) (-1)from rfl,e2]at g6 g8;unfold Ml;rw[e1];exact⟨rfl,g6,⟨r',g7,g8⟩,(λh=>by cases h),λ_ h=>aS (h2.symm.trans h) (by decide)⟩
 ·have hk':(sg x' i).1=1:=by rw[p.kind,h2]
  obtain⟨m,hm,hx⟩:=p.cs i h2;have hcc:(Az s i).2.1≠((sg x' i).2.2.2.length:Int):=λh=>h3 ((hc h2).2 h)
  have hci:(Az s i).2.1≠((sg x i).2.2.2.length:Int):=λh=>h3 (.inr h)
  have e1:=Vd h2 hnd h1 hci;have e2:=Vd hk' g1 h1 hcc;have hv:=(B3.1 g1).2;have hb:=(Au.1 hv).1;have hle:(Az s i).2.1<=((sg x' i).2.2.2.length:Int)/\0<=(Az s i).2.1:=by
   obtain⟨b1,b2,-⟩:=hb;unfold Ew at b2;rw[aN hk']at b2;exact⟨b2,b1⟩
  have hget:(sg x' i).2.2.2.getD (Az s i).2.1.toNat 0=(sg x i).2.2.2.getD (Az s i).2.1.toNat 0:=by
   rw[hx]at hle hcc ⊢;replace hle:(Az s i).2.1<=(((sg x i).2.2.2.take m).length:Int)/\0<=(Az s i).2.1:=hle;replace hcc:(Az s i).2.1≠(((sg x i).2.2.2.take m).length:Int):=hcc;have hlt:(Az s i).2.1.toNat<((sg x i).2.2.2.take m).length:=by omega
   rw[A1 hlt,iA,<-A1]
  rcases g with⟨-,g5,-,-⟩|⟨k,q,g4,-⟩|⟨-,-,-,-,g4⟩
  ·exact aS (g5.symm.trans h1) (by decide)
  ·exact aS ((Aby hk').symm.trans g4) (by simp)
  ·obtain⟨g5,g6,r',g7,g8⟩:=g4 hcc;rw[show Bs (sg x' i) (Az s i,T i,O i).1 (-1) 0=Bs (sg x' i) (Az s i) (-1) 0 from rfl,e2,hget]at g6 g8;unfold Gy;rw[e1];exact⟨rfl,g6,⟨r',g7,g8⟩,(λh=>by cases h),λ_ h=>aS (h2.symm.trans h) (by decide)⟩
 ·have hy:=p.ct i h2;obtain⟨k',k1,k2,k3⟩:=Pu hnd h2 h1;have hkk:k=k':=by rw[k1]at hk;exact hk
  subst hkk;rcases g with⟨-,g5,-,-⟩|⟨k',q,g4,g5,-,g6,g7,-,g8⟩|⟨-,-,g5,-⟩
  ·exact aS (g5.symm.trans h1) (by decide)
  ·have hkk:(k':Int)=k:=by rw[hy]at g4;rw[k1]at g4;exact(List.cons.inj g4).1.symm
   obtain⟨z,z1,z2,z3,z4⟩:=p.w.ins i0 iN k2 k3;have e1:=(p.ends z1).1;rw[z3,z4,<-hkk,bE]at e1;replace g6:(T i).getD k' 0=(q:Int):=g6;have hse:=n.se z z1;have hpr:=n.pre p z1;rw[z3,z4,<-hkk,bE,g6,bE]at hse;rw[z2]at h5;unfold Cq at h5;rw[bE,hse]at h5;obtain⟨tl,htl⟩:=hpr;rw[<-e1]at htl;have hlen:q<((O (x.2.getD z Ai).1).getD (x.2.getD z Ai).2.1.toNat []).length:=by
    rcases cM q ((O (x.2.getD z Ai).1).getD (x.2.getD z Ai).2.1.toNat []).length with h|h
    ·exact h
    ·rw[bI h]at h5;cases h5
   have hq:q<((B5 x' S i).getD k' []).length:=by rw[<-htl,bD];omega
   have ha:((B5 x' S i).getD k' []).getD q 0=a:=by
    rw[<-htl,A1 (by rw[bD];omega),gF hlen];rw[cE hlen]at h5;exact(List.cons.inj h5).1
   obtain⟨g9,g10,r',g11,g12⟩:=g8 hq;rw[show Bs (sg x' i) (Az s i,T i,O i).1=Bs (sg x i) (Az s i) by rw[hy],ha,hkk]at g9 g10 g12;have ek:k.toNat=k':=by omega
   refine⟨g9,g10,⟨r',g11, ?_⟩,λ_=>⟨h2,k2,k3, ?_, ?_, ?_⟩,λh=>by cases h⟩
   ·have:Sa (T i) (Gy (sg x i) (Az s i) true k a)=(T i).set k' ((q:Int)+1):=by
     show(if(true:Bool)=true then(T i).set k.toNat ((T i).getD k.toNat 0+1)else T i)=_;rw[aN rfl,ek,g6]
    rw[this];exact g12
   ·show 0<=(T i).getD k.toNat 0;rw[ek,g6];omega
   ·show((T i).getD k.toNat 0).toNat<((B5 x' S i).getD k.toNat []).length;rw[ek,g6,bE];exact hq
   ·show a=((B5 x' S i).getD k.toNat []).getD ((T i).getD k.toNat 0).toNat 0;rw[ek,g6,bE];exact ha.symm
  ·exact aS g5 (by rw[hy];exact h2)
 ·have hy:=p.ct i h2;obtain⟨k',k1,k2,k3⟩:=Pu hnd h2 h1;have hkk:k=k':=by rw[k1]at hk;exact hk
  subst hkk;rcases g with⟨-,g5,-,-⟩|⟨k',q,g4,g5,-,g6,g7,g8,-⟩|⟨-,-,g5,-⟩
  ·exact aS (g5.symm.trans h1) (by decide)
  ·have hkk:(k':Int)=k:=by rw[hy]at g4;rw[k1]at g4;exact(List.cons.inj g4).1.symm
   obtain⟨z,z1,z2,z3,z4⟩:=p.w.ins i0 iN k2 k3;have e1:=(p.ends z1).1;rw[z3,z4,<-hkk,bE]at e1;replace g6:(T i).getD k' 0=(q:Int):=g6;have hse:=n.se z z1;rw[z3,z4,<-hkk,bE,g6,bE]at hse;have hcr:=D1.1 (v.cr z z1);rw[z2]at h5;unfold Cq at h5;rw[bE]at h5;obtain⟨-,h6,h7⟩:=Nk.1 h5;rw[h6]at hcr;have q':=p.w.pipe z1;have hO:=n.done p q'.f0 q'.fn hcr.2.2.1.symm;rw[h7,hO,(p.ends z1).2,<-e1]at hse;have hq:q=((B5 x' S i).getD k' []).length:=by
    have:=bG List.length hse;rw[List.length_nil,cH]at this;replace g7:q<=((B5 x' S i).getD k' []).length:=g7;omega
   obtain⟨g9,g10,r',g11,g12⟩:=g8 hq;rw[show Cg (sg x' i) (Az s i,T i,O i).1=Cg (sg x i) (Az s i) by rw[hy],hkk]at g9 g10 g12;refine⟨g9,g10,⟨r',g11,g12⟩,(λh=>by cases h),λ_ h10=>⟨rfl, ?_⟩⟩;have hst:Ap (sg x i)=0:=p.w.st i.toNat (by omega);rw[Jb hst,h10]at k3;replace k3:k<1:=k3;have hk0:k'=0:=by omega
   rw[hk0]at g6 hq;rw[g6,hq]
  ·exact aS g5 (by rw[hy];exact h2)
end
theorem Ao6{c:Cred}{v:Int}{l:List Int}(h:A8 c=0)(hl:c.2.2.2.2.1=v::l)(hg:c.2.2.2.2.2=false->c.2.1=c.2.2.2.1+c.1)(hb:c.2.2.2.1<=200):(G7 c).2=0:=by
 have h1:=W1 h hl;have h2:=(Abe (c:=c) (by rw[h1])).2.1;have b:=Fg h;unfold G7;rw[h1]at h2 ⊢;by_cases hc:c.2.2.2.2.2=true
 ·rw[aL (by simp[hc])]
 ·have hc':c.2.2.2.2.2=false:=by simpa using hc
  have hg:=hg hc';rw[aN ⟨rfl,hc'⟩,Abf h2 (cJ 1) hc' (by show 1<=c.2.2.2.1+1+c.1-c.2.1;omega) (by show c.2.1+1<=1099511627776;omega)]
section
variable {x x':PlT}{S:List (List Int)}{J:Int->Nat->RT->Prop}{s:FsT}{r:Int->Nat}{T:Int->List Int}{O:Int->List (List Int)}
theorem Sz{y:StT}(h:Ap y=0)(hk:y.1=10):stIn y=1:=by
 rw[Jb h,hk];rfl
theorem Kn.pipe(n:Kn x x' S J s r T O)(p:Kp x x' S J){i k:Int}(i0:0<=i)(iN:i<x.1.length)(k0:0<=k)(kN:k<stIn (sg x i)):
 ∃z,z<x.2.length/\pIn x i k=(z:Int)/\(x.2.getD z Ai).2.2.1=i/\(x.2.getD z Ai).2.2.2.1=k/\(s.2.1.getD z zCred).2.2.2.1=(T i).getD k.toNat 0/\(B5 x' S i).getD k.toNat []=S.getD z []:=by
 obtain⟨z,z1,z2,z3,z4⟩:=p.w.ins i0 iN k0 kN;have h1:=n.tk z z1;have h2:=(p.ends z1).1;rw[z3,z4]at h1 h2;exact⟨z,z1,z2,z3,z4,h1,h2⟩
theorem Kn.noerr(n:Kn x x' S J s r T O)(p:Kp x x' S J)(v:VS x s){i:Int}(i0:0<=i)(iN:i<x.1.length)(h:(Be x s i).2=true)
 (hc:(sg x i).1=1->((s.2.2.2=true\/(Az s i).2.1=(sg x i).2.2.2.length)<->(Az s i).2.1=((sg x' i).2.2.2.length:Int))):(Ci x s i).2=0:=by
 have h2:((A4 x s i).2&&(!decide ((A4 x s i).1.2.2.2.2.2.2=0)||D9 x s i (A4 x s i).1.2.1))=true:=h;rw[aR]at h2;obtain⟨e0,-,-,hk,-⟩:=n.next p v i0 iN h2.1 hc;have hm:(Be x s i).1=(A4 x s i).1:=rfl;have mv:=Px v i0 iN h2.1 e0;unfold Ci;rw[aL (λh=>h (Bh.2 ⟨p.w,v⟩)),aL (λh=>h ⟨i0,iN⟩),aL (by rw[h];decide),hm,aL (λh=>h e0),aL,aL]
 ·intro he;apply he;unfold Cr;by_cases ht:(A4 x s i).1.2.2.2.1=false
  ·rw[aN ht]
  ·rw[aL ht];have ht:(A4 x s i).1.2.2.2.1=true:=by simpa using ht
   obtain⟨g1,g2,g3,g4,g5,-⟩:=hk ht;obtain⟨z,z1,z2,z3,z4,z5,z6⟩:=n.pipe p i0 iN g2 g3;obtain⟨-,-,l,hl⟩:=mv.tk ht;have hcr:=D1.1 (v.cr z z1);unfold Cq at hl;rw[z2,bE]at hl ⊢;have hs:=p.sl z z1;rw[z6]at g5;exact Ao6 hcr.1 hl hcr.2.2.2 (by rw[z5];omega)
 ·rintro⟨hs,h200⟩;unfold R4 at hs;rw[aR]at hs;have hk10:(sg x i).1=10:=aM hs.1;obtain⟨g1,g2,g3,g4,g5,-⟩:=hk hs.2;have hst:Ap (sg x i)=0:=p.w.st i.toNat (by omega);rw[Sz hst hk10]at g3;have k0:(A4 x s i).1.2.2.2.2.1.toNat=0:=by omega
  rw[k0]at g4 g5;rw[n.ou i i0 iN hk10,bO]at h200;obtain⟨z,z1,z2,z3,z4,z5,z6⟩:=n.pipe p i0 iN (cJ 0) (show(0:Int)<stIn (sg x i) by rw[Sz hst hk10];decide);have hs:=p.sl z z1;rw[<-z6]at hs;replace hs:((B5 x' S i).getD 0 []).length<=200:=hs;omega
structure Bf(c:Cred)(a:List Int)(b:Int):Prop where
 se:c.2.2.2.2.1=a.drop b.toNat
 tk:c.2.2.2.1=b
 le:b<=(a.length:Int)
theorem Amp(x:PlT){i j:Int}(i0:0<=i)(j0:0<=j)(iN:i<x.1.length)(hi:(sg x i).1=10)(h:i<j):Fu x i<Fu x j\/Fu x i=Fu x j/\False:=by
 left;unfold Fu Bp;rw[bE,bE];have hl:i.toNat<(x.1.take j.toNat).length:=by rw[bO];omega
 have:=Ir isSink (x.1.take j.toNat) i.toNat zStg hl (by rw[A1 hl,iA,<-A1 (d:=zStg)];exact aW hi)
 rwa [gH,show min i.toNat j.toNat=i.toNat by omega]at this
theorem Agd{x:PlT}{i j:Int}(i0:0<=i)(j0:0<=j)(iN:i<x.1.length)(jN:j<x.1.length)(hi:(sg x i).1=10)(hj:(sg x j).1=10)(h:Fu x i=Fu x j):i=j:=by
 rcases iB i j with h1|h1|h1
 ·rcases Amp x i0 j0 iN hi h1 with h2|⟨-,h2⟩
  ·omega
  ·exact h2.elim
 ·exact h1
 ·rcases Amp x j0 i0 jN hj h1 with h2|⟨-,h2⟩
  ·omega
  ·exact h2.elim
theorem Asb{x:PlT}{s:FsT}(v:VS x s){i:Int}(i0:0<=i)(iN:i<x.1.length)(hi:(sg x i).1=10):Fu x i<s.2.2.1.length:=by
 have hlo:=v.lo;have:=Ir isSink x.1 i.toNat zStg (by omega) (aW hi);unfold Fu;unfold Bp at hlo ⊢;rw[bE];omega
theorem Kn.step(n:Kn x x' S J s r T O)(p:Kp x x' S J)(v:VS x s){i:Int}(i0:0<=i)(iN:i<x.1.length)(h:(Be x s i).2=true)
 (hc:(sg x i).1=1->((s.2.2.2=true\/(Az s i).2.1=(sg x i).2.2.2.length)<->(Az s i).2.1=((sg x' i).2.2.2.length:Int))):
 (Ci x s i).2=0/\∃r' T' O',Kn x x' S J (Ci x s i).1 r' T' O'/\r' i+1=r i/\∀j,j≠i->r' j=r j:=by
 have hne:=n.noerr p v i0 iN h hc;refine⟨hne, ?_⟩;have rs:=Lq hne;have h2:((A4 x s i).2&&(!decide ((A4 x s i).1.2.2.2.2.2.2=0)||D9 x s i (A4 x s i).1.2.1))=true:=h;rw[aR]at h2;obtain⟨e0,hol,⟨r',hr,hJ⟩,hk,hen⟩:=n.next p v i0 iN h2.1 hc;generalize (A4 x s i).1=m at rs e0 hol hJ hk hen;generalize (Ci x s i).1=t at rs;have mv:=rs.mv;have hl:i.toNat<s.1.length:=by have:=v.ls;omega
 have hss:∀j:Int,0<=j->Az t j=if j=i then m.1 else Az s j:=λj hj=>by
  unfold Az;rw[rs.st,Cn];by_cases h:j=i
  ·subst h;rw[aN ⟨rfl,hl⟩,aN rfl]
  ·rw[aL (by omega),aL h]
 have hTl:((T i).length:Int)=stIn (sg x i):=by
  have h1:=(p.jr i i0 iN _ _ (n.st i i0 iN)).2.1;replace h1:(T i).length=(B5 x' S i).length:=h1;rw[h1,Yy,(p.sti i0 iN).1];have:=U3 (sg x i);omega
 have hB:∀k<x.2.length,Bf (t.2.1.getD k zCred) (((if(x.2.getD k Ai).1=i then Ok (O i) m.2.1 else O (x.2.getD k Ai).1)).getD (x.2.getD k Ai).2.1.toNat [])
  ((if(x.2.getD k Ai).2.2.1=i then Sa (T i) m else T (x.2.getD k Ai).2.2.1).getD (x.2.getD k Ai).2.2.2.1.toNat 0):=λk hk'=>by
  have q:=p.w.pipe hk';have hnk:=p.w.ne hk';have b1:=n.se k hk';have b2:=n.tk k hk';have b3:=n.le k hk';rw[rs.cr k hk'];unfold crS;by_cases hf:(x.2.getD k Ai).1=i
  ·rw[aN hf,aN hf,aL (by omega),Abx hol];rw[hf]at b1 b3;refine⟨?_,b2,by rw[bD];omega⟩;show(s.2.1.getD k zCred).2.2.2.2.1++_=_;rw[b1,List.drop_append_of_le_length (by omega)]
  ·rw[aL hf,aL hf];by_cases ht:m.2.2.2.1=true/\(pIn x i m.2.2.2.2.1).toNat=k
   ·rw[aN ht];obtain⟨g1,g2,g3,g4,g5,g6⟩:=hk ht.1;obtain⟨z,z1,z2,z3,z4⟩:=p.w.ins i0 iN g2 g3;have hz:z=k:=by have:=ht.2;omega
    subst hz;obtain⟨-,-,l,hl⟩:=mv.tk ht.1;have hcr:=D1.1 (v.cr z z1);have htk:=rs.tk ht.1;unfold Cq at hl htk;rw[z2,bE]at hl htk;obtain⟨-,k2⟩:=U4 hcr.1 hl htk;rw[k2,aN z3];rw[z3]at b1 b2 b3;rw[z4]at b1 b2 b3 ⊢;have hlt:m.2.2.2.2.1.toNat<(T i).length:=by omega
    have hgt:(Sa (T i) m).getD m.2.2.2.2.1.toNat 0=(T i).getD m.2.2.2.2.1.toNat 0+1:=by
     unfold Sa;rw[aN ht.1,Cn,aN ⟨rfl,hlt⟩]
    rw[hgt];have hdl:((T i).getD m.2.2.2.2.1.toNat 0).toNat<((O (x.2.getD z Ai).1).getD (x.2.getD z Ai).2.1.toNat []).length:=by
     have:=bG List.length b1;rw[hl,List.length_cons,cH]at this;omega
    refine⟨?_,by show(s.2.1.getD z zCred).2.2.2.1+1=_;rw[b2],by omega⟩;show l=_;rw[hl,cE hdl]at b1;rw[(List.cons.inj b1).2,show((T i).getD m.2.2.2.2.1.toNat 0+1).toNat=((T i).getD m.2.2.2.2.1.toNat 0).toNat+1 by omega]
   ·rw[aL ht];have hsame:(if(x.2.getD k Ai).2.2.1=i then Sa (T i) m else T (x.2.getD k Ai).2.2.1).getD (x.2.getD k Ai).2.2.2.1.toNat 0=(T (x.2.getD k Ai).2.2.1).getD (x.2.getD k Ai).2.2.2.1.toNat 0:=by
     by_cases hti:(x.2.getD k Ai).2.2.1=i
     ·rw[aN hti,hti];unfold Sa;by_cases hb:m.2.2.2.1=true
      ·rw[aN hb,Cn,aL];rintro⟨e,-⟩;obtain⟨g1,g2,g3,-⟩:=hk hb;refine ht ⟨hb, ?_⟩;have hq:=q.inp;have:=q.i0;rw[hti,show(x.2.getD k Ai).2.2.2.1=m.2.2.2.2.1 by omega]at hq;rw[hq,bE]
      ·rw[aL hb]
     ·rw[aL hti]
    rw[hsame];exact⟨b1,b2,b3⟩
 refine⟨λj=>if j=i then r' else r j,λj=>if j=i then Sa (T i) m else T j,λj=>if j=i then Ok (O i) m.2.1 else O j,⟨λj j0 jN=>?_,λk hk=>(hB k hk).se,λk hk=>(hB k hk).tk,λk hk=>(hB k hk).le,λj j0 jN hj=>?_,λj j0 jN hj he=>?_⟩, ?_,λj hj=>aL hj⟩
 ·rw[hss j j0];by_cases h:j=i
  ·subst h;simp only[if_true];exact hJ
  ·simp only[aL h];exact n.st j j0 jN
 ·rw[rs.ou];unfold Pr;have hjl:=Asb v j0 jN hj;have hb:=n.ou j j0 jN hj;by_cases hs:R4 x i m=true
  ·have hs':=hs;unfold R4 at hs';rw[aR]at hs';have hk10:(sg x i).1=10:=aM hs'.1;rw[aN hs];by_cases h:j=i
   ·subst h;simp only[if_true];obtain⟨g1,g2,g3,g4,g5,g6⟩:=hk hs'.2;have hst:Ap (sg x j)=0:=p.w.st j.toNat (by omega);have hin:=Sz hst hk10;rw[hin]at g3 hTl;have k0:m.2.2.2.2.1.toNat=0:=by omega
    rw[k0]at g4 g5 g6;have hgt:(Sa (T j) m).getD 0 0=(T j).getD 0 0+1:=by
     unfold Sa;rw[aN hs'.2,k0,Cn,aN ⟨rfl,by omega⟩]
    rw[Cn,aN ⟨rfl,hjl⟩,hb,hgt,show((T j).getD 0 0+1).toNat=((T j).getD 0 0).toNat+1 by omega,bS g5,g6,A1 g5]
   ·simp only[aL h];rw[Cn,aL]
    ·exact hb
    ·rintro⟨e,-⟩;exact h (Agd i0 j0 iN jN hk10 hj e).symm
  ·rw[aL hs,hb];by_cases h:j=i
   ·subst h;simp only[if_true];have ht:m.2.2.2.1=false:=by
     cases hb:m.2.2.2.1
     ·rfl
     ·exact aS (by unfold R4;rw[hb,aW hj];rfl) hs
    unfold Sa;rw[aL (by rw[ht];decide)]
   ·simp only[aL h]
 ·rw[hss j j0]at he;by_cases h:j=i
  ·subst h;simp only[if_true]at he ⊢;obtain⟨ht,h1⟩:=hen (mv.fl.trans he) hj;unfold Sa;rw[aL (by rw[ht];decide),h1]
  ·simp only[aL h]at he ⊢;exact n.en j j0 jN hj he
 ·simp only[if_true];exact hr
end
structure Fit(x:PlT)(S K:List (List Int))(a:List Int):Prop where
 sl:S.length=x.2.length
 kl:K.length=x.1.length
 ok:∀i∈a,(Av (sg x i) (B5 x S i)).2=0
 out:∀i∈a,∀o:Int,0<=o->o<stOut (sg x i)->S.getD (B8 x i o).toNat []=(Av (sg x i) (B5 x S i)).1.getD o.toNat []
 snk:∀i∈a,(sg x i).1=10->K.getD i.toNat []=(B5 x S i).getD 0 []
theorem Age{x:PlT}(w:WF x){i:Int}(i0:0<=i)(iN:i<x.1.length){o:List (List Int)}:∀(N:Nat)(S:List (List Int)),(N:Int)<=stOut (sg x i)->S.length=x.2.length->
 ((List.range N).foldl (R7 x i o) S).length=S.length/\∀k<x.2.length,((List.range N).foldl (R7 x i o) S).getD k []=if(x.2.getD k Ai).1=i/\(x.2.getD k Ai).2.1<N then o.getD (x.2.getD k Ai).2.1.toNat []else S.getD k []
 |0,S,_,_=>⟨rfl,λk hk=>by
  have q:=w.pipe hk;rw[aL (by have:=q.o0;omega)];rfl⟩
 |N+1,S,hN,hl=>by
  obtain⟨h1,h2⟩:=Age w i0 iN (o:=o) N S (by omega) hl;rw[dA,dK];obtain⟨z,z1,z2,z3,z4⟩:=w.outs i0 iN (dQ N) (show(N:Int)<stOut (sg x i) by omega);show(R7 x i o ((List.range N).foldl (R7 x i o) S) N).length=_/\∀k<x.2.length,(R7 x i o ((List.range N).foldl (R7 x i o) S) N).getD k []=_;unfold R7 at h1 h2 ⊢;rw[z2,bE,cG];refine⟨h1,λk hk=>?_⟩;have q:=w.pipe hk;rw[Cn];by_cases hz:z=k
  ·subst hz;rw[aN ⟨rfl,by rw[h1,hl];exact hk⟩,aN ⟨z3,by rw[z4];omega⟩,z4,bE]
  ·rw[aL (λh=>hz h.1),h2 k hk];by_cases hf:(x.2.getD k Ai).1=i/\(x.2.getD k Ai).2.1<N
   ·rw[aN hf,aN ⟨hf.1,by omega⟩]
   ·rw[aL hf,aL];rintro⟨a,b⟩;have hN:(x.2.getD k Ai).2.1=(N:Int):=by omega
    have:=q.out;rw[a,hN,z2]at this;omega
theorem Ais{x:PlT}{S S':List (List Int)}{i:Int}(h:∀n:Int,0<=n->n<stIn (sg x i)->S'.getD (pIn x i n).toNat []=S.getD (pIn x i n).toNat []):B5 x S' i=B5 x S i:=by
 unfold B5;refine eS λn hn=>?_
 have hn:=Dl.1 hn;exact h n hn.1 (by have:=U3 (sg x i);omega)
theorem Fit.step{x:PlT}(w:WF x){S K:List (List Int)}{a:List Int}{i:Int}(h:Fit x S K a)(ha:∀j∈a,0<=j/\j<x.1.length)(i0:0<=i)(iN:i<x.1.length)(hi:i ∉ a)
 (hp:∀e∈Dc x,e.2∈a->e.1∈a)(hpi:∀e∈Dc x,e.2=i->e.1∈a)(hm:(Av (sg x i) (B5 x S i)).2=0):
 Fit x (Yx x i (Av (sg x i) (B5 x S i)).1 S) (Abr x i ((B5 x S i).getD 0 []) K) (a++[i]):=by
 have hml:=Abs hm;obtain⟨h1,h2⟩:=Age w i0 iN (o:=(Av (sg x i) (B5 x S i)).1) (Av (sg x i) (B5 x S i)).1.length S (by omega) h.sl;have hed:∀k<x.2.length,((x.2.getD k Ai).1,(x.2.getD k Ai).2.2.1)∈Dc x:=λk hk=>by
  unfold Dc;exact cR.2 ⟨x.2.getD k Ai,by rw[A1 hk];exact cI hk,rfl⟩
 have hin:∀j:Int,0<=j->j<x.1.length->(j=i\/j∈a)->B5 x (Yx x i (Av (sg x i) (B5 x S i)).1 S) j=B5 x S j:=λj j0 jN hj=>Ais λn n0 nN=>by
  obtain⟨z,z1,z2,z3,z4⟩:=w.ins j0 jN n0 nN;rw[z2,bE];unfold Yx;rw[h2 z z1,aL];rintro⟨e,-⟩;have he:=hed z z1;rcases hj with hj|hj
  ·exact hi (by have:=hpi _ he (by rw[z3,hj]);rwa [e]at this)
  ·exact hi (by have:=hp _ he (by rw[z3];exact hj);rwa [e]at this)
 have hK:∀j,(Abr x i ((B5 x S i).getD 0 []) K).getD j []=if(sg x i).1=10/\i.toNat=j/\j<K.length then(B5 x S i).getD 0 []else K.getD j []:=λj=>by
  unfold Abr;by_cases h10:(sg x i).1=10
  ·rw[aN h10,Cn];by_cases hj:i.toNat=j/\j<K.length
   ·rw[aN hj,aN ⟨h10,hj⟩]
   ·rw[aL hj,aL (λh=>hj h.2)]
  ·rw[aL h10,aL (λh=>h10 h.1)]
 refine⟨by unfold Yx;rw[h1,h.sl], ?_,λj hj=>?_,λj hj o o0 oN=>?_,λj hj h10=>?_⟩
 ·unfold Abr;split
  ·rw[cG,h.kl]
  ·exact h.kl
 all_goals rcases dD.1 hj with hj|hj
 ·obtain⟨j0,jN⟩:=ha j hj;rw[hin j j0 jN (.inr hj)];exact h.ok j hj
 ·rw[bP.1 hj,hin i i0 iN (.inl rfl)];exact hm
 ·obtain⟨j0,jN⟩:=ha j hj;obtain⟨z,z1,z2,z3,z4⟩:=w.outs j0 jN o0 oN;rw[hin j j0 jN (.inr hj),<-h.out j hj o o0 oN,z2,bE];unfold Yx;rw[h2 z z1,aL];rintro⟨e,-⟩;rw[z3]at e;exact hi (e ▸ hj)
 ·have hj:=bP.1 hj;subst hj;obtain⟨z,z1,z2,z3,z4⟩:=w.outs i0 iN o0 oN;rw[hin j i0 iN (.inl rfl),z2,bE];unfold Yx;rw[h2 z z1,aN ⟨z3,by rw[z4];omega⟩,z4]
 ·obtain⟨j0,jN⟩:=ha j hj;rw[hin j j0 jN (.inr hj),hK,aL]
  ·exact h.snk j hj h10
  ·rintro⟨-,e,-⟩;exact hi (by rw[show i=j by omega];exact hj)
 ·have hj:=bP.1 hj;subst hj;rw[hin j i0 iN (.inl rfl),hK,aN ⟨h10,rfl,by rw[h.kl];omega⟩]
theorem Abz{x:PlT}(w:WF x)(t:Topo x.1.length (Dc x) (Ae x)):∀(l a:List Int)(S K:List (List Int)),Ae x=a++l->Fit x S K a->(Mn x l S K).2=0->∃S' K',Fit x S' K' (Ae x)/\(Mn x l S K).1=Aoy x.1 K'
 |[],a,S,K,he,hf,_=>by
  rw[cB]at he;exact⟨S,K,by rw[he];exact hf,rfl⟩
 |i::l,a,S,K,he,hf,hm=>by
  have hi:=(t.all i).1 (by rw[he];simp);have hnd:=t.nd;rw[he,List.nodup_append]at hnd;have hia:i ∉ a:=λh=>hnd.2.2 i h i dP rfl
  have ha:∀j∈a,0<=j/\j<(x.1.length:Int):=λj hj=>(t.all j).1 (by rw[he];exact eV _ hj)
  have hp:∀e∈Dc x,e.2∈a->e.1∈a:=λe hee h=>by
   obtain⟨p,q,hpq⟩:=List.append_of_mem h;have:=t.pre p e.2 (q++i::l) (by rw[he,hpq];simp) e hee rfl;rw[hpq];exact eV _ this
  unfold Mn at hm ⊢;by_cases h0:(Av (sg x i) (B5 x S i)).2=0
  ·rw[aL (λh=>h h0)]at hm ⊢;exact Abz w t l (a++[i]) _ _ (by rw[he];simp) (hf.step w ha hi.1 hi.2 hia hp (λe hee h=>t.pre a i l he e hee h) h0) hm
  ·rw[aN h0]at hm;exact aS hm h0
structure Sol(x:PlT)(S:List (List Int)):Prop where
 sl:S.length=x.2.length
 ok:∀i:Int,0<=i->i<x.1.length->(Av (sg x i) (B5 x S i)).2=0
 out:∀i:Int,0<=i->i<x.1.length->∀o:Int,0<=o->o<stOut (sg x i)->S.getD (B8 x i o).toNat []=(Id (sg x i) (B5 x S i)).getD o.toNat []
def Ly(x:PlT)(S:List (List Int)):List (List Int):=((List.range x.1.length).filter λi=>isSink (x.1.getD i zStg)).map λi:Nat=>(B5 x S i).getD 0 []
theorem Ve{x:PlT}(h:(Fv x).2=0):WF x/\∃S,Sol x S/\(Fv x).1=Ly x S:=by
 unfold Fv at h ⊢;by_cases h0:Gf x=0
 ·rw[aL (λh=>h h0)]at h ⊢;have w:=Ez.1 h0;have t:=Va w;obtain⟨S,K,hf,hg⟩:=Abz w t (Ae x) [] _ _ rfl ⟨bY,bY,λi hi=>aS hi cY,λi hi=>aS hi cY,λi hi=>aS hi cY⟩ h;refine⟨w,S,⟨hf.sl,λi i0 iN=>hf.ok i ((t.all i).2 ⟨i0,iN⟩),λi i0 iN o o0 oN=>?_⟩, ?_⟩
  ·rw[hf.out i ((t.all i).2 ⟨i0,iN⟩) o o0 oN,Aoj (hf.ok i ((t.all i).2 ⟨i0,iN⟩))]
  ·rw[hg];unfold Aoy Ly;refine eS λi hi=>?_
   obtain⟨h1,h2⟩:=cS.1 hi;have:=hf.snk (i:Int) ((t.all i).2 ⟨by omega,by have:=cZ.1 h1;omega⟩) (aM h2)
   rwa [bE]at this
 ·rw[aN h0]at h;exact aS h h0
def Q6(x:PlT)(r:Int->Nat):Nat:=((List.range x.1.length).map λi:Nat=>r (i:Int)).sum
theorem Ab0{r r':Int->Nat}{i:Nat}:∀n,i<n->r' (i:Int)+1=r (i:Int)->(∀j:Int,j≠(i:Int)->r' j=r j)->((List.range n).map λi:Nat=>r' (i:Int)).sum+1=((List.range n).map λi:Nat=>r (i:Int)).sum
 |0,h,_,_=>by omega
 |n+1,h,h1,h2=>by
  rw[dA,eG,eG,List.sum_append,List.sum_append];simp only[eB,List.map_nil,hU,List.sum_nil,dG];by_cases hi:i=n
  ·subst hi;have:((List.range i).map λi:Nat=>r' (i:Int))=((List.range i).map λi:Nat=>r (i:Int)):=eS λj hj=>h2 j (by have:=cZ.1 hj;omega)
   rw[this];omega
  ·have:=Ab0 n (by omega) h1 h2;have h3:=h2 (n:Int) (by omega);omega
theorem Ab1{x:PlT}{r r':Int->Nat}{i:Int}(i0:0<=i)(iN:i<x.1.length)(h1:r' i+1=r i)(h2:∀j,j≠i->r' j=r j):Q6 x r'+1=Q6 x r:=by
 have hi:((i.toNat:Nat):Int)=i:=by omega
 exact Ab0 (i:=i.toNat) x.1.length (by omega) (by rw[hi];exact h1) (by rw[hi];exact h2)
def srcN(x:PlT)(s t:FsT):Prop:=∀i:Int,0<=i->i<x.1.length->(sg x i).1=1->(Az s i).2.1<=(Az t i).2.1/\(Az t i).2.1<=((sg x i).2.2.2.length:Int)
theorem StepR.cnt{x:PlT}{s t:FsT}{i:Int}{m:MvT}(r:StepR x s i m t)(h1:(sg x i).1=1):(Az t i).2.1=if s.2.2.2=true\/(Az s i).2.1=(sg x i).2.2.2.length then(Az s i).2.1 else(Az s i).2.1+1:=by
 have hnd:(An (sg x i) (Az s i)).2=0:=by have:=r.v.nd i.toNat (by have:=r.i0;have:=r.iN;omega);rwa [show((i.toNat:Nat):Int)=i by have:=r.i0;omega]at this
 have hl:i.toNat<s.1.length:=by have:=r.v.ls;have:=r.i0;have:=r.iN;omega
 have ht:Az t i=m.1:=by
  unfold Az;rw[r.st,Cn,aN ⟨rfl,hl⟩]
 rw[ht];obtain⟨h2,⟨-,h3,h4⟩|⟨-,h3,h4⟩|⟨h3,-⟩⟩:=Lp (x:=x) (s:=s) (i:=i) (by rw[r.is])
 ·rw[aN h3];have hm:m=Ml (sg x i) (Az s i) (-1):=by have:=r.is;rw[h4]at this;exact(Prod.mk.inj this).1.symm
  rw[hm,Ml,Y9 h1 hnd h2]
 ·rw[aL h3];have hm:m=Gy (sg x i) (Az s i) false (-1) 0:=by have:=r.is;rw[h4]at this;exact(Prod.mk.inj this).1.symm
  rw[hm,Gy,Vd h1 hnd h2 (λh=>h3 (.inr h))]
 ·exact aS h1 h3
theorem StepR.oth{x:PlT}{s t:FsT}{i:Int}{m:MvT}(r:StepR x s i m t){j:Int}(j0:0<=j)(h:j≠i):Az t j=Az s j:=by
 unfold Az;rw[r.st,Cn,aL (by have:=r.i0;omega)]
theorem StepR.src{x:PlT}{s t:FsT}{i:Int}{m:MvT}(r:StepR x s i m t):srcN x s t:=λj j0 jN h1=>by
 have h2:=Q5 r.vs j0 jN h1;refine⟨?_,h2.2⟩;by_cases h:j=i
 ·subst h;rw[r.cnt h1];split<;>omega
 ·rw[r.oth j0 h];omega
theorem srcN.trans{x:PlT}{s t u:FsT}(h1:srcN x s t)(h2:srcN x t u):srcN x s u:=λi i0 iN hk=>⟨Int.le_trans (h1 i i0 iN hk).1 (h2 i i0 iN hk).1,(h2 i i0 iN hk).2⟩
theorem Agf{x:PlT}{l:List Int}{k:Nat}{s:FsT}(h:¬G8 x s):Cl x s=0/\0<=D2 x l k s/\D2 x l k s<x.1.length/\(Be x s (D2 x l k s)).2=true:=by
 unfold G8 at h;have hv:Cl x s=0:=by
  refine Classical.byContradiction λhv=>h (.inl ?_)
  unfold Al;rw[aN hv];exact hv
 have he:Al x s=((ints x.1.length).filter (λi=>(Be x s i).2),0):=by
  unfold Al;rw[aL (λh=>h hv)]
 have hne:(Al x s).1.length≠0:=λh0=>h (.inr (dB h0))
 have hb:(Ps l k (Al x s).1.length).toNat<(Al x s).1.length:=by
  unfold Ps;split
  ·show 0<_;omega
  ·have hn:(0:Int)<((Al x s).1.length:Int):=by omega
   have h1:=Int.lt_tmod_of_pos ((l.getD (k % l.length) 0)) hn;have h2:=hP ((l.getD (k % l.length) 0).tmod ((Al x s).1.length:Int)+((Al x s).1.length:Int)) hn;have h3:=Int.tmod_nonneg ((Al x s).1.length:Int) (show 0<=(l.getD (k % l.length) 0).tmod ((Al x s).1.length:Int)+((Al x s).1.length:Int) by omega);omega
 have hm:D2 x l k s∈(Al x s).1:=by
  unfold D2;rw[A1 hb];exact cI hb
 rw[he]at hm;obtain⟨h1,h2⟩:=cS.1 hm;exact⟨hv,(Dl.1 h1).1,(Dl.1 h1).2,h2⟩
theorem S3{x:PlT}{l:List Int}:∀(m k:Nat)(s:FsT)(o:List Int),VS x s->(Ds x l m k s o).2.2=0->srcN x s (Ds x l m k s o).1
 |0,k,s,o,v,_=>λi i0 iN h1=>⟨cJ _,(Q5 v i0 iN h1).2⟩
 |m+1,k,s,o,v,h=>by
  by_cases hs:G8 x s
  ·rw[Hm hs]
   exactλi i0 iN h1=>⟨cJ _,(Q5 v i0 iN h1).2⟩
  ·by_cases he:(Ci x s (D2 x l k s)).2=0
   ·rw[Lr hs he]at h ⊢;have rs:=Lq he;exact rs.src.trans (S3 m (k+1) _ _ rs.vs h)
   ·rw[Ks hs he]at h;exact aS h he
section
variable {x x':PlT}{S:List (List Int)}{J:Int->Nat->RT->Prop}
theorem Amq(p:Kp x x' S J){l:List Int}:∀(m k:Nat)(s:FsT)(o:List Int)(r:Int->Nat)(T:Int->List Int)(O:Int->List (List Int)),Kn x x' S J s r T O->VS x s->s.2.2.2=false->(Ds x l m k s o).2.2=0->
 (∀i:Int,0<=i->i<x.1.length->(sg x i).1=1->((sg x' i).2.2.2.length:Int)=(Az (Ds x l m k s o).1 i).2.1)->
 ∃r' T' O',Kn x x' S J (Ds x l m k s o).1 r' T' O'/\VS x (Ds x l m k s o).1/\(Ds x l m k s o).1.2.2.2=false/\Q6 x r'<=Q6 x r
 |0,k,s,o,r,T,O,n,v,hd,_,_=>⟨r,T,O,n,v,hd,bB _⟩
 |m+1,k,s,o,r,T,O,n,v,hd,h,hx=>by
  by_cases hs:G8 x s
  ·rw[Hm hs];exact⟨r,T,O,n,v,hd,bB _⟩
  ·obtain⟨hv,i0,iN,hen⟩:=Agf (l:=l) (k:=k) hs;by_cases he:(Ci x s (D2 x l k s)).2=0
   ·rw[Lr hs he]at h hx ⊢;have rs:=Lq he;have hsr:=S3 m (k+1) _ (o++[D2 x l k s]) rs.vs h;obtain⟨-,r',T',O',n',hr1,hr2⟩:=n.step p v i0 iN hen λh1=>by
     have hc:=rs.cnt h1;have hfin:=hsr _ i0 iN h1;have hxx:=hx _ i0 iN h1;have hb:=Q5 v i0 iN h1;rw[hd]at hc ⊢;constructor
     ·rintro(h|h)
      ·cases h
      ·rw[aN (.inr h)]at hc;omega
     ·intro h;right;refine Classical.byContradiction λhne=>?_
      rw[aL (by rintro(h|h);cases h;exact hne h)]at hc;omega
    obtain⟨r2,T2,O2,a1,a2,a3,a4⟩:=Amq p m (k+1) _ (o++[D2 x l k s]) r' T' O' n' rs.vs (by rw[rs.dr,hd]) h hx;have:=Ab1 i0 iN hr1 hr2;exact⟨r2,T2,O2,a1,a2,a3,by omega⟩
   ·rw[Ks hs he]at h;exact aS h he
theorem Amr(p:Kp x x' S J){l:List Int}:∀(m k:Nat)(s:FsT)(o:List Int)(r:Int->Nat)(T:Int->List Int)(O:Int->List (List Int)),Kn x x' S J s r T O->VS x s->s.2.2.2=true->
 (∀i:Int,0<=i->i<x.1.length->(sg x i).1=1->((sg x' i).2.2.2.length:Int)=(Az s i).2.1)->
 (Ds x l m k s o).2.2=0/\∃r' T' O',Kn x x' S J (Ds x l m k s o).1 r' T' O'/\VS x (Ds x l m k s o).1/\(Ds x l m k s o).1.2.2.2=true/\
   (∀i:Int,0<=i->i<x.1.length->(sg x i).1=1->(Az (Ds x l m k s o).1 i).2.1=(Az s i).2.1)/\(Ds x l m k s o).2.1.length+Q6 x r'=o.length+Q6 x r/\((Ds x l m k s o).2.1.length=o.length+m\/G8 x (Ds x l m k s o).1)
 |0,k,s,o,r,T,O,n,v,hd,_=>⟨rfl,r,T,O,n,v,hd,λ_ _ _ _=>rfl,rfl,.inl rfl⟩
 |m+1,k,s,o,r,T,O,n,v,hd,hx=>by
  by_cases hs:G8 x s
  ·rw[Hm hs];exact⟨rfl,r,T,O,n,v,hd,λ_ _ _ _=>rfl,rfl,.inr hs⟩
  ·obtain⟨hv,i0,iN,hen⟩:=Agf (l:=l) (k:=k) hs;obtain⟨he,r',T',O',n',hr1,hr2⟩:=n.step p v i0 iN hen λh1=>⟨λ_=>(hx _ i0 iN h1).symm,λ_=>.inl hd⟩
   rw[Lr hs he];have rs:=Lq he;have hcn:∀i:Int,0<=i->i<x.1.length->(sg x i).1=1->(Az (Ci x s (D2 x l k s)).1 i).2.1=(Az s i).2.1:=λi j0 jN h1=>by
    by_cases hi:i=D2 x l k s
    ·rw[hi]at h1 ⊢;rw[rs.cnt h1,aN (.inl hd)]
    ·rw[rs.oth j0 hi]
   obtain⟨a0,r2,T2,O2,a1,a2,a3,a4,a5,a6⟩:=Amr p (l:=l) m (k+1) _ (o++[D2 x l k s]) r' T' O' n' rs.vs (by rw[rs.dr,hd]) λi i0 iN h1=>by rw[hcn i i0 iN h1];exact hx i i0 iN h1
   have ht:=Ab1 i0 iN hr1 hr2;rw[bD,eD]at a5 a6;refine⟨a0,r2,T2,O2,a1,a2,a3,λi i0 iN h1=>(a4 i i0 iN h1).trans (hcn i i0 iN h1),by omega, ?_⟩;rcases a6 with a6|a6
   ·exact .inl (by omega)
   ·exact .inr a6
end
end Go.Proofs.YtckpldpombdkgaaGreat
