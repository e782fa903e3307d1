/- Pipelines. -/
import Derived.Test.YtckpldpombdkgaaGreatEQ3
import Derived.Test.YtckpldpombdkgaaGreatEZ7
import Derived.Test.YtckpldpombdkgaaGreatEG5
set_option linter.unusedSimpArgs false
set_option linter.unusedVariables false
set_option maxRecDepth 100000
namespace Go.Proofs.YtckpldpombdkgaaGreat
open Go.Sx
def grS(y:StT):Bool:=bif Ae6 y then true else(bif decide (20<(y.2.2.2.length:Int))then decide ((y.2.2.2.length:Int)<=200)else false)
def grP(x:PlT):Bool:=bif (bif decide (18<(x.1.length:Int))then true else decide (36<(x.2.length:Int)))then true else x.1.any grS
def cxhA:Ctx:=⟨Al9,[(63,([],c29))]⟩
theorem Aip:Aj Tryz.prog cxhA:=C0 (Ad Aqm Ah)
theorem Atw{α:Type}{p:α->Bool}{d:α}{l:List α}{i:Nat}(h:i<l.length)(h1:p (l.getD i d)=true):l.any p=true:=by
 rw[A1 h]at h1;exact fJ.2 ⟨_,cI h,h1⟩
theorem Atx{α:Type}{p:α->Bool}{d:α}{l:List α}{i:Nat}(h:i<l.length)(h0:(l.take i).any p=false)(h1:p (l.getD i d)=false):(l.take (i+1)).any p=false:=by
 rw[bS h,eR,h0];rw[A1 h]at h1;simp[h1]
def cGrP:Ctr:=fnC [dPl] rB (λ_=>True) (λy=>(grP y.1,()))
theorem Avq:GoodC Tryz.prog 37 cGrP:=by
 refine As Aip 3 _ _ _ _ ⟨_,Tryz.func37,rfl,rfl⟩ λ(⟨⟨st,ps⟩,_⟩:PlT×Unit) _=>?_
 refine(aF (λh0=>(λh1=>(aI (λh2=>(Aa rfl ?_)) (λh2=>?_)))))
 ·show(grP (st,ps),())=_;unfold grP;rw[h2];rfl
 have hb:(bif decide (18<(st.length:Int))then true else decide (36<(ps.length:Int)))=false:=h2;have hG:grP (st,ps)=st.any grS:=by unfold grP;rw[hb];rfl
 clear h0 h1 h2 hb;refine ex4 _ (λi:Nat=>⟨[.any,.ptr 0 0,.any,.int .i64 (i:Int)]++nA 43,[.cells [.sl tSt st,.sl A7 ps]],1⟩) (λi=>i<=st.length/\(st.take i).any grS=false) (λi=>st.length-i) (aI (eI (0) (eI ([some 0]) (aI ?_ (aB (aI (aG tT) (by rfl)))))) ?_)
 ·exact⟨aV _,by simp⟩
 rintro i ⟨hi,ha⟩;replace hi:i<=st.length:=hi;replace ha:(st.take i).any grS=false:=ha;have hlt:decide ((i:Int)<(st.length:Int))=true->i<st.length:=λh=>by have:=aM h;omega
 refine(λk0=>(aI (λk1=>(aO (aI tT (aI (λk2=>(by intros;(try subst_vars);(try simp only[nB]at *);(try simp only[inK,big,lim,nL]at *);omega)) (λk3=>(aI (λk4=>(by intros;(try subst_vars);(try simp only[nB]at *);(try simp only[inK,big,lim,nL]at *);omega)) (λk5=>(aI (λk6=>(Aa rfl ?_)) (λk6=>(aO ?_)))))))))) (λk1=>(Aa rfl ?_))))
 ·simp only[eta]at k6;show(grP (st,ps),())=_;rw[hG,Atw (d:=Ab tSt) (hlt k1) (show grS (st.getD (i:Int).toNat (Ab tSt))=true from k6)]
 ·simp only[eta]at k6;have h1:=hlt k1;have h2:=Atx (d:=Ab tSt) h1 ha (show grS (st.getD (i:Int).toNat (Ab tSt))=false from k6);clear k0 k1 k3 k5 k6;refine eI (i+1) (eI ([some 0]) (aI ?_ (aI ?_ (aB (aI (aG tT) (by rfl))))))
  ·exact⟨h1,h2⟩
  ·show st.length-(i+1)<st.length-i;omega
 ·have h1:¬(i:Int)<(st.length:Int):=aP k1;show(grP (st,ps),())=_;rw[hG];rw[bL (by omega)]at ha;rw[ha]
def cEq:Ctr:=fnC [dIs,dIs] rB (λ_=>True) (λy=>(decide (y.1=y.2.1),()))
theorem gEq:GoodC Tryz.prog 20 cEq:=by
 refine As Ah 3 _ _ _ _ ⟨_,Tryz.func20,rfl,rfl⟩ λ(⟨xs,ys,_⟩:List Int×List Int×Unit) _=>?_
 refine(aF (λh0=>(λh1=>(aI (λh2=>(Aa rfl ?_)) (λh2=>(λh3=>?_))))))
 ·have hl:xs≠ys:=λe=>by
   have h:(!decide ((xs.length:Int)=(ys.length:Int)))=true:=h2;rw[e]at h;simp at h
  show(decide (xs=ys),())=(false,());rw[aZ hl]
 have hl:xs.length=ys.length:=by
  have h:(!decide ((xs.length:Int)=(ys.length:Int)))=false:=h2;have:(xs.length:Int)=ys.length:=by simpa using h
  omega
 clear h0 h1 h2;refine ex4 _ (λi:Nat=>⟨[.sl (.int .i64) xs,.sl (.int .i64) ys,.any,.any,.any,.any,.any,.any,.any,.any,.any,.sl (.int .i64) xs,.int .i64 (↑xs.length:Int),.int .i64 (i:Int)]++nA 12,[],0⟩) (λi=>i<=xs.length/\xs.take i=ys.take i) (λi=>xs.length-i) (aI (eI (0) (eI ([]) (aI ?_ (aB (aI tT (by rfl)))))) ?_)
 ·exact⟨aV _,by simp⟩
 rintro i ⟨hi,ht⟩;replace hi:i<=xs.length:=hi;replace ht:xs.take i=ys.take i:=ht;refine(aI (λk0=>(aF (aO (aO (aI (λk1=>(Aa rfl ?_)) (λk1=>(aO ?_))))))) (λk0=>(Aa rfl ?_)))
 ·have hk:¬xs.getD (i:Int).toNat (Ab tI)=ys.getD (i:Int).toNat (Ab tI):=by have h:(!decide (xs.getD (i:Int).toNat (Ab tI)=ys.getD (i:Int).toNat (Ab tI)))=true:=k1;simpa using h
  have hne:xs≠ys:=λe=>hk (by rw[e])
  show(decide (xs=ys),())=(false,());rw[aZ hne]
 ·have hi':i<xs.length:=by have:=aM k0;omega
  have hk:xs.getD i 0=ys.getD i 0:=by have h:(!decide (xs.getD (i:Int).toNat (Ab tI)=ys.getD (i:Int).toNat (Ab tI)))=false:=k1;exact aM (Bw h)
  clear k0 k1;refine eI (i+1) (eI ([]) (aI ?_ (aI ?_ (aB (aI tT (by rfl))))))
  ·exact⟨hi',Vm hi' (hl ▸ hi') ht hk⟩
  ·show xs.length-(i+1)<xs.length-i;omega
 ·have hi':¬(i:Int)<(xs.length:Int):=aP k0;have he:xs=ys:=by
   rw[bL (by omega),bL (by omega)]at ht;exact ht
  show(decide (xs=ys),())=(true,());rw[aW he]
def Ap0:List (TypeId×Ty):=(53,tSt)::(30,tFs)::(31,tIs)::Mm
theorem Aiq:Aj Tryz.prog ⟨Ap0,[]⟩:=λ_ _ _ h=>by simp[Gg]at h
@[reducible] def rPl:List (Bool×Ty):=[(true,tPl)]
def cEx:Ctr:=fnC [] rPl (λ_=>True) (λ_=>(exX,()))
theorem gEx:GoodC Tryz.prog 39 cEx:=by
 refine As Aiq 3 _ _ _ _ ⟨_,Tryz.func39,rfl,rfl⟩ λy _=>?_
 refine(aF (Aa rfl (by rfl)))
def s0X:FsT:=([([],0,false),([],0,false),([],0,false)],[(3,3,0,0,[],false),(1,1,0,0,[],false)],[[]],false)
def s1X:FsT:=([([],3,false),([],0,false),([],0,false)],[(3,3,3,0,[1,2,3],false),(1,1,0,0,[],false)],[[]],false)
def s1D:FsT:=([([],3,false),([],0,false),([],0,false)],[(3,3,3,0,[1,2,3],false),(1,1,0,0,[],false)],[[]],true)
def s2X:FsT:=([([],3,true),([],0,true),([],0,true)],[(3,6,3,3,[],true),(1,2,2,2,[],true)],[[3,3]],true)
theorem Aty:F8 exX=(s0X,0):=by kernel_rfl
theorem Atz:Bm exX s0X [] 3=(s1X,[0,0,0],0):=by kernel_rfl
theorem At0:G3 exX s1X=([[3,3]],0):=by kernel_rfl
theorem At1:Hl exX s1X=(s1D,0):=by kernel_rfl
theorem At2:Bm exX s1D [1] 100=(s2X,[1,1,1,2,0,1,2,2],0):=by kernel_rfl
theorem At3:Abh exX s2X=true:=by kernel_rfl
theorem At4:okO exX:=by
 have e:Bu (Dc exX)=[(0,1),(1,2)]:=by kernel_rfl
 refine⟨by decide, ?_⟩;rw[e];refine⟨⟨⟨by decide,λk hk=>?_,λk hk=>?_⟩,by decide,by decide⟩,by decide⟩
 ·have hk:k<2:=hk;have:k=0\/k=1:=by omega
  rcases this with rfl|rfl<;>decide
 ·have hk:k+1<2:=hk;have:k=0:=by omega
  subst this
  decide
def cNewK:Ctr:=Pn [dPl] Atn (λ_=>0) [((exX,()),(s0X,0,()))]
theorem At5:GoodC Tryz.prog 40 cNewK:=Im Apx _ _ λp hp=>by
 rw[bP]at hp;subst hp;exact⟨trivial,by rw[Aty]⟩
def cRunK:Ctr:=Pn [dPl,dFs,dIs,dI] Ato (λy=>y.2.2.1.length) [((exX,s0X,[],3,()),(s1X,[0,0,0],0,())),((exX,s1D,[1],100,()),(s2X,[1,1,1,2,0,1,2,2],0,()))]
theorem At6:GoodC Tryz.prog 17 cRunK:=Im Amj _ _ λp hp=>by
 simp only[cN,cY,or_false]at hp;rcases hp with rfl|rfl
 ·exact⟨trivial,by rw[Atz]⟩
 ·exact⟨trivial,by rw[At2]⟩
def cExpK:Ctr:=Pn [dPl,dFs] Wx (λ_=>0) [((exX,s1X,()),([[3,3]],0,()))]
theorem At7:GoodC Tryz.prog 27 cExpK:=Im Ar1 _ _ λp hp=>by
 rw[bP]at hp;subst hp;exact⟨λ_=>At4,by rw[At0]⟩
def cBegK:Ctr:=Pn [dPl,dFs] Amh (λ_=>0) [((exX,s1X,()),(s1D,0,()))]
theorem At8:GoodC Tryz.prog 15 cBegK:=Im Ad1 _ _ λp hp=>by
 rw[bP]at hp;subst hp;exact⟨trivial,by rw[At1]⟩
def cFinK:Ctr:=Pn [dPl,dFs] rB (λ_=>0) [((exX,s2X,()),(true,()))]
theorem At9:GoodC Tryz.prog 22 cFinK:=Im Atm _ _ λp hp=>by
 rw[bP]at hp;subst hp;exact⟨trivial,by rw[At3]⟩
def cxhD:Ctx:=⟨Ap0,[(39,([],cEx)),(40,([],cNewK)),(17,([],cRunK)),(27,([],cExpK)),(15,([],cBegK)),(22,([],cFinK)),(20,([],cEq)),(23,([],c14))]⟩
theorem Air:Aj Tryz.prog cxhD:=C0 (Ad gEx (Ad At5 (Ad At6 (Ad At7 (Ad At8 (Ad At9 (Ad gEq (Ad Ak7 Ah))))))))
def cAwake:Ctr:=fnC [] rB (λ_=>True) (λ_=>(true,()))
set_option maxHeartbeats 8000000 in
theorem Yz:GoodC Tryz.prog 14 cAwake:=by
 refine As Air 4 _ _ _ _ ⟨_,Tryz.func14,rfl,rfl⟩ λy _=>?_
 refine(aF (aI tT (λ(h0:(List (Int×Int×ExprT×List Int)×List (Int×Int×Int×Int×Int))×PUnit)=>(λh1=>(aI (by omega) (aI ?_ (aI ?_ (aI ?_ (aI ?_ (aI (λh2=>tT) (aI (λh3=>tT) (aI (λh4=>tT) (aI (λh5=>?_) (Aa rfl ?_))))))))))))))
 iterate 5
  ·rw[h1]
 ·rfl
end Go.Proofs.YtckpldpombdkgaaGreat
