/- Pipelines. -/
import Derived.Test.YtckpldpombdkgaaGreatEL6
import Derived.Test.YtckpldpombdkgaaGreatEK2
set_option linter.unusedSimpArgs false
set_option linter.unusedVariables false
set_option maxRecDepth 100000
namespace Go.Proofs.YtckpldpombdkgaaGreat
open Go.Sx
def H8(y:StT):Bool:=bif (bif decide (y.1=4)then true else decide (y.1=9))then true else decide (y.1=8)
theorem Ai3:Aj Tryz.prog ⟨Mm,[]⟩:=λ_ _ _ h=>by simp[Gg]at h
def cMx:Ctr:=fnC [dSt] rB (λ_=>True) (λy=>(H8 y.1,()))
theorem gMx:GoodC Tryz.prog 26 cMx:=by
 refine As Ai3 3 _ _ _ _ ⟨_,Tryz.func26,rfl,rfl⟩ λ(⟨⟨k,z,e,l⟩,_⟩:StT×Unit) _=>?_
 refine(aF (Aa rfl (by rfl)))
def cxMx1:Ctx:=⟨Mm,[(26,([],cMx))]⟩
theorem Aeb:Aj Tryz.prog cxMx1:=C0 (Ad gMx Ah)
def cIxM:Ctr:=fnC [.dat false (.sl tSt),.fn 26 [] []] rI (λ_=>True) (λy=>(Am H8 y.1 0,()))
theorem Av1:GoodC Tryz.prog 56 cIxM:=by
 refine As Aeb 3 _ _ _ _ ⟨_,Tryz.func56,rfl,rfl⟩ λ(⟨xs,_⟩:List StT×_×Unit) _=>?_
 refine(aF (λh0=>?_));refine ex4 _ (λi:Nat=>⟨[.sl tSt xs,.fn (Fn.func 26) [] [],.any,.any,.any,.any,.sl tSt xs,.int .i64 (↑xs.length:Int),.int .i64 (i:Int),.any,.any,.any,.any,.any,.any,.any,.any,.any,.any],[],0⟩) (λi=>i<=xs.length/\Am H8 xs 0=Am H8 (xs.drop i) i) (λi=>xs.length-i) (aI (eI (0) (eI ([]) (aI ?_ (aB (aI tT (by rfl)))))) ?_)
 ·exact⟨aV _,rfl⟩
 rintro i ⟨hi,ht⟩;replace hi:i<=xs.length:=hi;replace ht:Am H8 xs 0=Am H8 (xs.drop i) i:=ht;refine(aI (λk0=>(aO (aI tT (aI (λk1=>(Aa rfl ?_)) (λk1=>(aO ?_)))))) (λk0=>(Aa rfl ?_)))
 ·simp only[eta]at k1;have h1:i<xs.length:=by have:=aM k0;omega
  have h2:H8 (xs.getD i zStg)=true:=k1;show(Am H8 xs 0,())=_;rw[ht,A0 H8 zStg xs i h1,aN h2]
 ·simp only[eta]at k1;have h1:i<xs.length:=by have:=aM k0;omega
  have h2:H8 (xs.getD i zStg)=false:=k1;clear k0 k1;refine eI (i+1) (eI ([]) (aI ?_ (aI ?_ (aB (aI tT (by rfl))))))
  ·refine⟨h1, ?_⟩;show Am H8 xs 0=_;rw[ht,A0 H8 zStg xs i h1,aL (by rw[h2];decide)]
  ·show xs.length-(i+1)<xs.length-i;omega
 ·have h1:¬(i:Int)<(xs.length:Int):=aP k0;show(Am H8 xs 0,())=_;rw[ht,bI (by omega)];rfl
def cxMx2:Ctx:=⟨Mm,[(56,([],cIxM)),(26,([],cMx))]⟩
theorem Aec:Aj Tryz.prog cxMx2:=C0 (Ad Av1 (Ad gMx Ah))
def cCoM:Ctr:=fnC [.dat false (.sl tSt),.fn 26 [] []] rB (λ_=>True) (λy=>(y.1.any H8,()))
theorem Av2:GoodC Tryz.prog 25 cCoM:=by
 refine As Aec 3 _ _ _ _ ⟨_,Tryz.func25,rfl,rfl⟩ λ(⟨xs,_⟩:List StT×_×Unit) _=>?_
 refine(aF (aI tT (Aa rfl (by simp only;rw[Dq H8 _ 0 (by omega)]))))
theorem Ask{x:PlT}(h:x.1.any H8=false):∀i:Int,0<=i->i<x.1.length->(sg x i).1≠4/\(sg x i).1≠8/\(sg x i).1≠9:=λi i0 iN=>by
 have hl:i.toNat<x.1.length:=by omega
 have h1:=dJ.1 h _ (cI hl);rw[<-A1 (d:=zStg) hl]at h1;have h1:¬H8 (sg x i)=true:=h1;unfold H8 at h1;refine⟨λe=>h1 ?_,λe=>h1 ?_,λe=>h1 ?_⟩<;>rw[e]<;>decide
theorem Aed{x:PlT}{l:List Int}{m:Int}(h:(Af x l m).2.2=true){q:List Int}{m':Int}(hr:(Bm x (Af x l m).1 q m').2.2=0)(hf:(G3 x (Bm x (Af x l m).1 q m').1).2=0)(hm:x.1.any H8=false):
 P6 (Af x l m).2.1 (G3 x (Bm x (Af x l m).1 q m').1).1=true/\P6 (Af x l m).1.2.2.1 (Bm x (Af x l m).1 q m').1.2.2.1=true:=by
 obtain⟨hz,-,-,he,e⟩:=P5 h;obtain⟨w,v,-⟩:=Amz h;have hw:(Af x l m).2.1=(G3 x (Af x l m).1).1:=by rw[e]
 have he:(G3 x (Af x l m).1).2=0:=by rw[e];exact he
 rw[hw];generalize (Af x l m).1=s at *;obtain⟨-,e1⟩:=Ams hr;rw[e1]at hr hf ⊢;have hs:=S3 _ _ _ _ v hr;obtain⟨o1,o2⟩:=Ab3 (x:=x) (l:=q) _ _ _ _ hr;have vt:=(Bh.1 (Su _ _ _ _ (Bh.2 ⟨w,v⟩) hr)).2;generalize (Ds x q m'.toNat 0 s []).1=t at *;obtain⟨-,x1⟩:=Amt he;obtain⟨-,x2⟩:=Amt hf;rw[x1]at he ⊢;rw[x2]at hf ⊢;obtain⟨-,S,sol,e2⟩:=Ve he;obtain⟨-,S',sol',e3⟩:=Ve hf;rw[e2,e3];have hp:=Ao8 w (Ask hm) sol sol' hs (Ae x) [] rfl λi hi=>aS hi cY
 have l1:(Ly (Bz x s) S).length=s.2.2.1.length:=Kv v;have l2:(Ly (Bz x t) S').length=t.2.2.1.length:=Kv vt;refine⟨Vg (by omega) λj hj=>?_,Vg o1 λj _=>o2 j⟩;obtain⟨i,i0,iN,ik,a1,a2⟩:=S5 (x:=x) (y:=s) (S:=S) hj;obtain⟨i',i0',iN',ik',b1,b2⟩:=S5 (x:=x) (y:=t) (S:=S') (j:=j) (by omega);have hii:i=i':=Agd i0 i0' iN iN' ik ik' (a1.trans b1.symm);subst hii;rw[a2,b2];have hst:Ap (sg x i)=0:=w.st i.toNat (by omega);have h1:stIn (sg x i)=1:=Sz hst ik;obtain⟨z,z1,z2,z3,z4⟩:=w.ins i0 iN (cJ 0) (show(0:Int)<stIn (sg x i) by omega);have qz:=w.pipe z1;have hg:∀(u:FsT)(R:List (List Int)),(Av (sg (Bz x u) i) (B5 (Bz x u) R i)).2=0->(B5 (Bz x u) R i).getD 0 []=R.getD z []:=λu R hR=>by
  have k1:=(Gw hR).1;have hu:stIn (sg (Bz x u) i)=1:=by rw[Jb k1,G1,ik];rfl
  have hlt:0<(stIn (sg (Bz x u) i)).toNat:=by rw[hu];decide
  unfold B5;rw[A1 (by rw[bM,Dk];exact hlt),eL,<-A1 (d:=0),Pt hlt];show R.getD (pIn x i ((0:Nat):Int)).toNat []=_;rw[show pIn x i ((0:Nat):Int)=(z:Int)from z2,bE]
 rw[hg s S (sol.ok i i0 (by rw[Jt];exact iN)),hg t S' (sol'.ok i i0 (by rw[Jt];exact iN))];have:=hp _ qz.f0 qz.fn _ qz.o0 qz.on
 rwa [qz.out,bE]at this
theorem mx3{b c d:Bool}(h:(bif (bif !b then true else c)then true else d)=false):b=true/\c=false:=by cases b<;>cases c<;>first|exact⟨rfl,rfl⟩|cases h
def cxlKe:Ctx:=⟨Xg,[(21,([],cReach)),(14,([],cAwake)),(17,([],cRun)),(27,([],cExp)),(24,([],cBg)),(25,([],cCoM))]⟩
theorem Aee:Aj Tryz.prog cxlKe:=C0 (Ad Za (Ad Yz (Ad Amj (Ad Ar1 (Ad gBg (Ad Av2 Ah))))))
set_option maxHeartbeats 8000000 in
theorem Av3:Wk Tryz.prog 7 [tPl,tIs,tIs,.int .u8,.int .u8] [true,false,false,false,false]:=by
 refine⟨cxlKe,3,Aee,λ(⟨⟨st,ps⟩,l,q,m,m',_⟩:PlT×List Int×List Int×Int×Int×Unit) fine=>?_⟩;have fm:0<=m/\m<=255:=fine.2.2.2.1;have fm':0<=m'/\m'<=255:=fine.2.2.2.2.1;have hD:(Af (st,ps) l m).2.2=true->okO (st,ps):=λh=>by
  obtain⟨hz,hs,-⟩:=P5 h;exact Amy (Ez.1 hz) (Vf hs)
 refine(aF (aO (aI tT (λ(h0:(List (List Int×Int×Bool)×List (Int×Int×Int×Int×List Int×Bool)×List (List Int)×Bool) ×   List (List Int)×Bool×PUnit)=>(λh1=>(aI tT (λh2=>(aI (λh3=>(aI tT (Aa rfl ?_))) (λh3=>(aO (aI tT (λ(h4:(List (List Int×Int×Bool)×List (Int×Int×Int×Int×List Int×Bool)×List (List Int)×Bool) ×   List Int×Int×PUnit)=>(λh5=>(aI (λh6=>(aI tT (Aa rfl ?_))) (λh6=>(aI (λh7=>?_) (λ(h8:List (List Int)×Int×PUnit)=>(λh9=>(aI (λh10=>tT) (aI (λh11=>tT) (aI (λh12=>tT) (Aa rfl ?_))))))))))))))))))))))
 ·rfl
 ·rfl
 ·subst h1;exact hD (mx3 h3).1
 ·subst h1;obtain⟨r1,r2⟩:=mx3 h3;subst h5 h9;have hr:(Bm (st,ps) (Af (st,ps) l m).1 q m').2.2=0:=aM (Bw h6);show((true,()):Bool×Unit)=(bif bif !decide ((G3 (st,ps) (Bm (st,ps) (Af (st,ps) l m).1 q m').1).2=0)then true else bif P6 (Af (st,ps) l m).2.1 (G3 (st,ps) (Bm (st,ps) (Af (st,ps) l m).1 q m').1).1 then P6 (Af (st,ps) l m).1.2.2.1 (Bm (st,ps) (Af (st,ps) l m).1 q m').1.2.2.1 else false then true else false,());by_cases hf:(G3 (st,ps) (Bm (st,ps) (Af (st,ps) l m).1 q m').1).2=0
  ·obtain⟨g1,g2⟩:=Aed r1 hr hf r2;rw[g1,g2,hf];rfl
  ·rw[aZ hf];rfl
end Go.Proofs.YtckpldpombdkgaaGreat
