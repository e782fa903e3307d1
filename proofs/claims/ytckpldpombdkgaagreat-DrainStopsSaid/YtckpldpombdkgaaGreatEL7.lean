/- Pipelines. -/
import Derived.Test.YtckpldpombdkgaaGreatEL5
set_option linter.unusedSimpArgs false
set_option linter.unusedVariables false
set_option maxRecDepth 100000
namespace Go.Proofs.YtckpldpombdkgaaGreat
open Go.Sx
def Hx(s:StT):Bool:=decide (s.1=1)
def Lu(x:PlT)(s:FsT)(n:Nat):List Int:=((List.range n).filter λi=>Hx (x.1.getD i zStg)).map λi=>(s.1.getD i ([],0,false)).2.1
def Eo(x:PlT)(s:FsT):List Int×Int:=if Cl x s≠0 then([],1)else(Lu x s x.1.length,0)
def cxhL:Ctx:=⟨Xg,[(41,([],cDVal))]⟩
theorem Ai1:Aj Tryz.prog cxhL:=C0 (Ad Af8 Ah)
def cAcc:Ctr:=fnC [dPl,dFs] Aa4 (λ_=>True) (λy=>((Eo y.1 y.2.1).1,(Eo y.1 y.2.1).2,()))
set_option maxHeartbeats 4000000 in
theorem Av0:GoodC Tryz.prog 31 cAcc:=by
 refine As Ai1 3 _ _ _ _ ⟨_,Tryz.func31,rfl,rfl⟩ λ(⟨⟨st,ps⟩,⟨ss,cs,os,dr⟩,_⟩:PlT×FsT×Unit) _=>?_
 have hN:(!decide (Cl (st,ps) (ss,cs,os,dr)=0))=false->ss.length=st.length/\st.length<=16:=λh=>by
  obtain⟨w,v⟩:=Bh.1 (aM (Bw h));exact⟨v.ls,w.n16⟩
 refine(aF (aI tT (aI (λh0=>(Aa rfl ?_)) (λh0=>(λh1=>?_)))))
 ·have hc:Cl (st,ps) (ss,cs,os,dr)≠0:=λh=>by
   have h0:(!decide (Cl (st,ps) (ss,cs,os,dr)=0))=true:=h0;rw[h]at h0;cases h0
  show((Eo (st,ps) (ss,cs,os,dr)).1,(Eo (st,ps) (ss,cs,os,dr)).2,())=_;rw[show Eo (st,ps) (ss,cs,os,dr)=([],1)from aN hc]
 have hz:Cl (st,ps) (ss,cs,os,dr)=0:=aM (Bw h0);obtain⟨hsl,h16⟩:=hN h0;have hA:Eo (st,ps) (ss,cs,os,dr)=(Lu (st,ps) (ss,cs,os,dr) st.length,0):=aL (λh=>h hz);clear h0 hN;refine ex4 _ (λp:Nat×List Int=>⟨[.any,.any,.ptr 0 0,.ptr 1 0,.any,.any,.own 2,.any,.any,.any,.any,.any,.any,.ptr 0 0,.sl tSt st,.int .i64 (↑st.length:Int),.int .i64 (p.1:Int)]++nA 18,[.cells [.sl tSt st,.sl A7 ps],.cells [.sl tSS ss,.sl C4 cs,.sl (.sl (.int .i64)) os,.bool dr],.rows tI p.2],3⟩) (λp=>p.1<=st.length/\p.2=Lu (st,ps) (ss,cs,os,dr) p.1) (λp=>st.length-p.1) (aI (eI ((0,[])) (eI ([some 0,some 1,none]) (aI ?_ (aB (aI (aH (aA tT)) (by rfl)))))) ?_)
 ·exact⟨aV _,rfl⟩
 rintro⟨i,o⟩ ⟨hi,ho⟩;replace hi:i<=st.length:=hi;replace ho:o=Lu (st,ps) (ss,cs,os,dr) i:=ho;have hol:o.length<=16:=by
  rw[ho];unfold Lu;rw[bM];have:=eU (λi=>Hx (st.getD i zStg)) (List.range i);rw[dT]at this;exact cO this (by omega)
 have hlt:decide ((i:Int)<(st.length:Int))=true->i<st.length:=λh=>by have:=aM h;omega
 have hs:Lu (st,ps) (ss,cs,os,dr) (i+1)=o++if Hx (st.getD i zStg)=true then[(ss.getD i ([],0,false)).2.1]else[]:=by
  rw[ho];unfold Lu;rw[dA,eA,eG];by_cases h:Hx (st.getD i zStg)=true
  ·rw[aN h,cU,aN h];rfl
  ·rw[aL h,cU,aL h];rfl
 refine(aI (λk0=>(aO (aI (λk1=>(aO (aO (aO ?_)))) (λk1=>(aO ?_))))) (λk0=>(Aa rfl ?_)))
 ·have h1:=hlt k0;have h2:=hs.trans (bG _ (aN (show Hx (st.getD i zStg)=true from k1)));clear k0 k1 hs hlt;refine eI ((i+1,o++[(ss.getD (i:Int).toNat (Ab tSS)).2.1])) (eI ([some 0,some 1,some 5]) (aI ?_ (aI ?_ (aB (aI (aH (aA tT)) (by rfl))))))
  ·exact⟨h1,h2.symm⟩
  ·show st.length-(i+1)<st.length-i;omega
 ·have h1:=hlt k0;have h2:=hs.trans (bG _ (aL (λh=>aX ((show Hx (st.getD i zStg)=false from k1).symm.trans h))));rw[cB]at h2;clear k0 k1 hs hlt;refine eI ((i+1,o)) (eI ([some 0,some 1,some 2]) (aI ?_ (aI ?_ (aB (aI (aH (aA tT)) (by rfl))))))
  ·exact⟨h1,h2.symm⟩
  ·show st.length-(i+1)<st.length-i;omega
 ·have h1:¬(i:Int)<(st.length:Int):=aP k0;show((Eo (st,ps) (ss,cs,os,dr)).1,(Eo (st,ps) (ss,cs,os,dr)).2,())=_;rw[hA,ho,show i=st.length by omega]
def Mp(x:PlT)(i:Nat):Nat:=((List.range i).filter λi=>Hx (x.1.getD i zStg)).length
theorem Vh(x:PlT)(s:FsT)(n:Nat):(Lu x s n).length=Mp x n:=by unfold Lu Mp;rw[bM]
theorem Ad8(x:PlT)(i:Nat):Mp x (i+1)=if Hx (x.1.getD i zStg)=true then Mp x i+1 else Mp x i:=by
 unfold Mp;rw[dA,eA,bD];by_cases h:Hx (x.1.getD i zStg)=true
 ·rw[aN h,cU,aN h];rfl
 ·rw[aL h,cU,aL h];rfl
theorem Ad9{x:PlT}(s:FsT){i:Nat}(hs:Hx (x.1.getD i zStg)=true):∀n,i<n->Mp x i<Mp x n/\(Lu x s n).getD (Mp x i) 0=(s.1.getD i ([],0,false)).2.1
 |0,h=>by omega
 |n+1,h=>by
  have e:Lu x s (n+1)=Lu x s n++if Hx (x.1.getD n zStg)=true then[(s.1.getD n ([],0,false)).2.1]else[]:=by
   unfold Lu;rw[dA,eA,eG];by_cases h:Hx (x.1.getD n zStg)=true
   ·rw[aN h,cU,aN h];rfl
   ·rw[aL h,cU,aL h];rfl
  have hl:=Vh x s n;rw[Ad8,e];by_cases hi:i<n
  ·obtain⟨h1,h2⟩:=Ad9 s hs n hi;refine⟨by split<;>omega, ?_⟩;rw[A1 (by rw[bD];omega),gF (by omega),<-A1 (d:=0)];exact h2
  ·have hin:i=n:=by omega
   subst hin;rw[aN hs,aN hs];refine⟨by omega, ?_⟩;rw[A1 (by rw[bD,eD];omega),List.getElem_append_right (by omega)];simp[hl]
structure Stp(x:PlT)(s:FsT)(Ro Rd:FsT×List Int×Int):Prop where
 bf:Eo x s=(Lu x s x.1.length,0)
 bg:Hl x s=(drS s,0)
 e0:Rd.2.2=0
 af:Eo x Rd.1=(Lu x s x.1.length,0)
 dr:Rd.1.2.2.2=true
 lt:Ro.2.2=0->Eo x Ro.1=(Lu x Ro.1 x.1.length,0)/\∀i<x.1.length,Hx (x.1.getD i zStg)=true->(s.1.getD i ([],0,false)).2.1<=(Ro.1.1.getD i ([],0,false)).2.1/\(Ro.1.1.getD i ([],0,false)).2.1<=((x.1.getD i zStg).2.2.2.length:Int)
theorem Ai2{x:PlT}{l:List Int}{m:Int}(h:(Af x l m).2.2=true)(q:List Int){m':Int}(m0:0<=m')(mN:m'<=255):Stp x (Af x l m).1 (Bm x (Af x l m).1 q m') (Bm x (drS (Af x l m).1) q m'):=by
 obtain⟨h12,hw,S,J,r,T,O,w⟩:=Q8 h;have R:=w.run q m0 (show m'<=10000 by omega);have hv:=Bh.2 ⟨w.p.w,w.v⟩;refine⟨aL (λh=>h hv),w.beg,R.e0, ?_,R.dr,λho=>?_⟩
 ·have e:Eo x (Bm x (drS (Af x l m).1) q m').1=(Lu x (Bm x (drS (Af x l m).1) q m').1 x.1.length,0):=aL (λh=>h (Bh.2 ⟨w.p.w,R.v⟩));rw[e];refine bG (λa=>(a,(0:Int))) (eS λi hi=>?_);obtain⟨h1,h2⟩:=cS.1 hi;have hi:=cZ.1 h1;have:=R.cn (i:Int) (by omega) (by omega) (aM h2);unfold Az at this
  rwa [bE]at this
 ·obtain⟨-,e⟩:=Ams ho;rw[e]at ho ⊢;have hs:=S3 _ _ _ _ w.v ho;have hv2:=Su _ _ _ _ hv ho;refine⟨aL (λh=>h hv2),λi hi hk=>?_⟩;have:=hs (i:Int) (by omega) (by omega) (aM hk);unfold Az at this;rw[bE]at this;exact this
def cxlKd:Ctx:=⟨Xg,[(21,([],cReach)),(14,([],cAwake)),(15,([],cBegin)),(17,([],cRun)),(31,([],cAcc)),(20,([],cEq))]⟩
theorem Aea:Aj Tryz.prog cxlKd:=C0 (Ad Za (Ad Yz (Ad Ad1 (Ad Amj (Ad Av0 (Ad gEq Ah))))))
set_option maxHeartbeats 8000000 in
theorem Aug:Wk Tryz.prog 10 [tPl,tIs,tIs,.int .u8,.int .u8] [true,false,false,false,false]:=by
 refine⟨cxlKd,3,Aea,λ(⟨⟨st,ps⟩,l,q,m,m',_⟩:PlT×List Int×List Int×Int×Int×Unit) fine=>?_⟩;have fm:0<=m/\m<=255:=fine.2.2.2.1;have fm':0<=m'/\m'<=255:=fine.2.2.2.2.1;have hD:(Af (st,ps) l m).2.2=true->Stp (st,ps) (Af (st,ps) l m).1 (Bm (st,ps) (Af (st,ps) l m).1 q m') (Bm (st,ps) (drS (Af (st,ps) l m).1) q m'):=λh=>Ai2 h q fm'.1 fm'.2
 refine(aF (aO (aI tT (λ(h0:(List (List Int×Int×Bool)×List (Int×Int×Int×Int×List Int×Bool)×List (List Int)×Bool) ×   List (List Int)×Bool×PUnit)=>(λh1=>(λh2=>(aI (λh3=>(aI tT (Aa rfl ?_))) (λh3=>(aI tT (λ(h4:List Int×Int×PUnit)=>(λh5=>(aO (aI tT (λ(h6:(List (List Int×Int×Bool)×List (Int×Int×Int×Int×List Int×Bool)×List (List Int)×Bool) ×   List Int×Int×PUnit)=>(λh7=>(aI tT (λ(h8:(List (List Int×Int×Bool)×List (Int×Int×Int×Int×List Int×Bool)×List (List Int)×Bool)×Int×PUnit)=>(λh9=>(aO (aI tT (λ(h10:(List (List Int×Int×Bool)×List (Int×Int×Int×Int×List Int×Bool)×List (List Int)×Bool) ×   List Int×Int×PUnit)=>(λh11=>(aI (λh12=>(Aa rfl ?_)) (λh12=>(aI tT (λ(h13:List Int×Int×PUnit)=>(λh14=>(aI (λh15=>tT) (aI (λh16=>(Aa rfl ?_)) (λh16=>(aI (λh17=>(aI tT (Aa rfl ?_))) (λh17=>(aI tT (λ(h18:List Int×Int×PUnit)=>(λh19=>(λh20=>?_))))))))))))))))))))))))))))))))))))
 ·rfl
 all_goals
  subst h1;have D:=hD (rT h3);have e:=bgE h9 D.bg;clear h9;subst e h5 h7 h11
 ·have h12:(bif bif !decide ((Eo (st,ps) (Af (st,ps) l m).1).2=0)then true else !decide ((0:Int)=0)then true else !decide ((Bm (st,ps) (drS (Af (st,ps) l m).1) q m').2.2=0))=true:=h12;rw[D.bf,D.e0]at h12;cases h12
 all_goals subst h14
 ·have h16:(bif bif !decide ((Eo (st,ps) (Bm (st,ps) (drS (Af (st,ps) l m).1) q m').1).2=0)then true else !decide ((Eo (st,ps) (Af (st,ps) l m).1).1=(Eo (st,ps) (Bm (st,ps) (drS (Af (st,ps) l m).1) q m').1).1)then true else !(Bm (st,ps) (drS (Af (st,ps) l m).1) q m').1.2.2.2)=true:=h16;rw[D.bf,D.af,D.dr]at h16;simp at h16
 ·rfl
 have hf:(Bm (st,ps) (Af (st,ps) l m).1 q m').2.2=0:=aM (Bw h17);obtain⟨hL,hC⟩:=D.lt hf;have hB:(Eo (st,ps) (Af (st,ps) l m).1).1=Lu (st,ps) (Af (st,ps) l m).1 st.length:=bG Prod.fst D.bf;have hL1:(Eo (st,ps) (Bm (st,ps) (Af (st,ps) l m).1 q m').1).1=Lu (st,ps) (Bm (st,ps) (Af (st,ps) l m).1 q m').1 st.length:=bG Prod.fst hL;have hL2:(Eo (st,ps) (Bm (st,ps) (Af (st,ps) l m).1 q m').1).2=0:=bG Prod.snd hL;have hLl:(Eo (st,ps) (Bm (st,ps) (Af (st,ps) l m).1 q m').1).1.length=Mp (st,ps) st.length:=by rw[hL1,Vh]
 have hBl:(Eo (st,ps) (Af (st,ps) l m).1).1.length=Mp (st,ps) st.length:=by rw[hB,Vh]
 subst h19;clear h2 h3 h12 h16 h17 D hD hL;refine ex4 _ (λp:Nat×Nat=>⟨[.any,.any,.any,.any,.any,.ptr 0 0,.any,.any,.any,.any,.any,.any,.any,.any,.sl (.int .i64)   (Eo (st,ps)       ((Af (st,ps) l m).1.1,(Af (st,ps) l m).1.2.1,(Af (st,ps) l m).1.2.2.1,         (Af (st,ps) l m).1.2.2.2)).1,.any,.any,.any,.any,.any,.any,.any,.any,.any,.any,.sl (.int .i64)   (Eo (st,ps)       ((Bm (st,ps)               ((Af (st,ps) l m).1.1,(Af (st,ps) l m).1.2.1,(Af (st,ps) l m).1.2.2.1,                 (Af (st,ps) l m).1.2.2.2)               q m').1.1,         (Bm (st,ps)                 ((Af (st,ps) l m).1.1,(Af (st,ps) l m).1.2.1,(Af (st,ps) l m).1.2.2.1,                   (Af (st,ps) l m).1.2.2.2)                 q m').1.2.1,         (Bm (st,ps)                   ((Af (st,ps) l m).1.1,(Af (st,ps) l m).1.2.1,(Af (st,ps) l m).1.2.2.1,                     (Af (st,ps) l m).1.2.2.2)                   q m').1.2.2.1,         (Bm (st,ps)                   ((Af (st,ps) l m).1.1,(Af (st,ps) l m).1.2.1,(Af (st,ps) l m).1.2.2.1,                     (Af (st,ps) l m).1.2.2.2)                   q m').1.2.2.2)).1,.int .i64   (Eo (st,ps)       ((Bm (st,ps)               ((Af (st,ps) l m).1.1,(Af (st,ps) l m).1.2.1,(Af (st,ps) l m).1.2.2.1,                 (Af (st,ps) l m).1.2.2.2)               q m').1.1,         (Bm (st,ps)                 ((Af (st,ps) l m).1.1,(Af (st,ps) l m).1.2.1,(Af (st,ps) l m).1.2.2.1,                   (Af (st,ps) l m).1.2.2.2)                 q m').1.2.1,         (Bm (st,ps)                   ((Af (st,ps) l m).1.1,(Af (st,ps) l m).1.2.1,(Af (st,ps) l m).1.2.2.1,                     (Af (st,ps) l m).1.2.2.2)                   q m').1.2.2.1,         (Bm (st,ps)                   ((Af (st,ps) l m).1.1,(Af (st,ps) l m).1.2.1,(Af (st,ps) l m).1.2.2.1,                     (Af (st,ps) l m).1.2.2.2)                   q m').1.2.2.2)).2,.int .i64 (p.2:Int),.any,.any,.any,.any,.any,.any,.any,.any,.any,.any,.any,.any,.any,.any,.any,.any,.any,.any,.any,.any,.any,.any,.any,.any,.any,.any,.any,.any,.any,.any,.any,.any,.any,.any,.any,.any,.any,.any,.any,.any,.any,.any,.any,.any,.any,.any,.any,.any,.any,.any,.any,.any,.any,.any,.any,.any,.any,.any,.any,.any,.any,.any,.any,.any,.any,.any,.any,.any,.any,.any,.any,.any,.any,.any,.any,.any,.any,.any,.any,.any,.any,.any,.any,.any,.any,.any,.any,.any,.any,.ptr 0 0,.sl tSt st,.int .i64 (↑st.length:Int),.int .i64 (p.1:Int)]++nA 45,[.cells [.sl tSt st,.sl A7 ps],.cells   [.sl tSS (Af (st,ps) l m).1.1,.sl C4 (Af (st,ps) l m).1.2.1,     .sl (.sl (.int .i64)) (Af (st,ps) l m).1.2.2.1,.bool (Af (st,ps) l m).1.2.2.2],.cells   [.sl tSS       (Bm (st,ps)             ((Af (st,ps) l m).1.1,(Af (st,ps) l m).1.2.1,(Af (st,ps) l m).1.2.2.1,               (Af (st,ps) l m).1.2.2.2)             q m').1.1,     .sl C4       (Bm (st,ps)               ((Af (st,ps) l m).1.1,(Af (st,ps) l m).1.2.1,(Af (st,ps) l m).1.2.2.1,                 (Af (st,ps) l m).1.2.2.2)               q m').1.2.1,     .sl (.sl (.int .i64))       (Bm (st,ps)                 ((Af (st,ps) l m).1.1,(Af (st,ps) l m).1.2.1,(Af (st,ps) l m).1.2.2.1,                   (Af (st,ps) l m).1.2.2.2)                 q m').1.2.2.1,     .bool       (Bm (st,ps)                 ((Af (st,ps) l m).1.1,(Af (st,ps) l m).1.2.1,(Af (st,ps) l m).1.2.2.1,                   (Af (st,ps) l m).1.2.2.2)                 q m').1.2.2.2],.cells   [.sl tSS       (Bm (st,ps)             ((drS                   ((Af (st,ps) l m).1.1,(Af (st,ps) l m).1.2.1,(Af (st,ps) l m).1.2.2.1,                     (Af (st,ps) l m).1.2.2.2)).1,               (drS                     ((Af (st,ps) l m).1.1,(Af (st,ps) l m).1.2.1,(Af (st,ps) l m).1.2.2.1,                       (Af (st,ps) l m).1.2.2.2)).2.1,               (drS                       ((Af (st,ps) l m).1.1,(Af (st,ps) l m).1.2.1,(Af (st,ps) l m).1.2.2.1,                         (Af (st,ps) l m).1.2.2.2)).2.2.1,               (drS                       ((Af (st,ps) l m).1.1,(Af (st,ps) l m).1.2.1,(Af (st,ps) l m).1.2.2.1,                         (Af (st,ps) l m).1.2.2.2)).2.2.2)             q m').1.1,     .sl C4       (Bm (st,ps)               ((drS                     ((Af (st,ps) l m).1.1,(Af (st,ps) l m).1.2.1,(Af (st,ps) l m).1.2.2.1,                       (Af (st,ps) l m).1.2.2.2)).1,                 (drS                       ((Af (st,ps) l m).1.1,(Af (st,ps) l m).1.2.1,(Af (st,ps) l m).1.2.2.1,                         (Af (st,ps) l m).1.2.2.2)).2.1,                 (drS                         ((Af (st,ps) l m).1.1,(Af (st,ps) l m).1.2.1,(Af (st,ps) l m).1.2.2.1,                           (Af (st,ps) l m).1.2.2.2)).2.2.1,                 (drS                         ((Af (st,ps) l m).1.1,(Af (st,ps) l m).1.2.1,(Af (st,ps) l m).1.2.2.1,                           (Af (st,ps) l m).1.2.2.2)).2.2.2)               q m').1.2.1,     .sl (.sl (.int .i64))       (Bm (st,ps)                 ((drS                       ((Af (st,ps) l m).1.1,(Af (st,ps) l m).1.2.1,(Af (st,ps) l m).1.2.2.1,                         (Af (st,ps) l m).1.2.2.2)).1,                   (drS                         ((Af (st,ps) l m).1.1,(Af (st,ps) l m).1.2.1,(Af (st,ps) l m).1.2.2.1,                           (Af (st,ps) l m).1.2.2.2)).2.1,                   (drS                           ((Af (st,ps) l m).1.1,(Af (st,ps) l m).1.2.1,(Af (st,ps) l m).1.2.2.1,                             (Af (st,ps) l m).1.2.2.2)).2.2.1,                   (drS                           ((Af (st,ps) l m).1.1,(Af (st,ps) l m).1.2.1,(Af (st,ps) l m).1.2.2.1,                             (Af (st,ps) l m).1.2.2.2)).2.2.2)                 q m').1.2.2.1,     .bool       (Bm (st,ps)                 ((drS                       ((Af (st,ps) l m).1.1,(Af (st,ps) l m).1.2.1,(Af (st,ps) l m).1.2.2.1,                         (Af (st,ps) l m).1.2.2.2)).1,                   (drS                         ((Af (st,ps) l m).1.1,(Af (st,ps) l m).1.2.1,(Af (st,ps) l m).1.2.2.1,                           (Af (st,ps) l m).1.2.2.2)).2.1,                   (drS                           ((Af (st,ps) l m).1.1,(Af (st,ps) l m).1.2.1,(Af (st,ps) l m).1.2.2.1,                             (Af (st,ps) l m).1.2.2.2)).2.2.1,                   (drS                           ((Af (st,ps) l m).1.1,(Af (st,ps) l m).1.2.1,(Af (st,ps) l m).1.2.2.1,                             (Af (st,ps) l m).1.2.2.2)).2.2.2)                 q m').1.2.2.2]],4⟩) (λp=>p.1<=st.length/\p.2=Mp (st,ps) p.1) (λp=>st.length-p.1) (aI (eI ((0,0)) (eI ([some 0,some 1,some 2,some 3]) (aI ?_ (aB (aI (aJ tT) (by rfl)))))) ?_)
 ·exact⟨aV _,rfl⟩
 rintro⟨i,k⟩ ⟨hi,hk⟩;replace hi:i<=st.length:=hi;replace hk:k=Mp (st,ps) i:=hk;have hlt:decide ((i:Int)<(st.length:Int))=true->i<st.length:=λh=>by have:=aM h;omega
 have hsrc:i<st.length->Hx (st.getD i zStg)=true->k<Mp (st,ps) st.length/\(Eo (st,ps) (Af (st,ps) l m).1).1.getD k 0<=(Eo (st,ps) (Bm (st,ps) (Af (st,ps) l m).1 q m').1).1.getD k 0/\
  (Eo (st,ps) (Bm (st,ps) (Af (st,ps) l m).1 q m').1).1.getD k 0<=((st.getD i zStg).2.2.2.length:Int):=λh1 h2=>by
  obtain⟨a1,a2⟩:=Ad9 (x:=(st,ps)) (Af (st,ps) l m).1 h2 st.length h1;obtain⟨-,a3⟩:=Ad9 (x:=(st,ps)) (Bm (st,ps) (Af (st,ps) l m).1 q m').1 h2 st.length h1;rw[hB,hL1,hk,a2,a3];exact⟨a1,hC i h1 h2⟩
 refine(aI (λk0=>(aO (aI (λk1=>(aO ?_)) (λk1=>(aF (aI (λk2 k3=>(by intros;(try subst_vars);(try simp only[nB]at *);(try simp only[inK,big,lim,nL]at *);omega)) (aI (λk4 k5=>?_) (aI (λk6 k7=>(by intros;(try subst_vars);(try simp only[nB]at *);(try simp only[inK,big,lim,nL]at *);omega)) (λk8=>(λk9=>(aI (λk10=>(Aa rfl ?_)) (λk10=>(aO (aO ?_)))))))))))))) (λk0=>(λk11=>(aI (λk12=>tT) (Aa rfl ?_)))))
 ·have h1:=hlt k0;have h2:¬Hx (st.getD i zStg)=true:=λh=>by
   have k1:(!Hx (st.getD i zStg))=true:=k1;rw[h]at k1;cases k1
  clear k0 k1 hlt hsrc hC;refine eI ((i+1,k)) (eI ([some 0,some 1,some 2,some 3]) (aI ?_ (aI ?_ (aB (aI (aJ tT) (by rfl))))))
  ·refine⟨h1, ?_⟩;show k=Mp (st,ps) (i+1);rw[Ad8,aL h2];exact hk
  ·show st.length-(i+1)<st.length-i;omega
 ·obtain⟨a1,-⟩:=hsrc (hlt k0) (Bw k1);have hBl:(Eo (st,ps) (Af (st,ps) l m).1).1.length=Mp (st,ps) st.length:=hBl;exact⟨dQ k,show(k:Int)<((Eo (st,ps) (Af (st,ps) l m).1).1.length:Int) by omega⟩
 ·obtain⟨a1,a2,a3⟩:=hsrc (hlt k0) (Bw k1);have k10:(bif (bif decide (((Eo (st,ps) (Bm (st,ps) (Af (st,ps) l m).1 q m').1).1.length:Int)<=(k:Int))then true else decide ((Eo (st,ps) (Bm (st,ps) (Af (st,ps) l m).1 q m').1).1.getD k 0<(Eo (st,ps) (Af (st,ps) l m).1).1.getD k 0))then true else decide (((st.getD i zStg).2.2.2.length:Int)<(Eo (st,ps) (Bm (st,ps) (Af (st,ps) l m).1 q m').1).1.getD k 0))=true:=k10;rw[aZ (show ¬((Eo (st,ps) (Bm (st,ps) (Af (st,ps) l m).1 q m').1).1.length:Int)<=(k:Int) by omega),aZ (fB.2 a2),aZ (fB.2 a3)]at k10;cases k10
 ·have h1:=hlt k0;have h2:Hx (st.getD i zStg)=true:=Bw k1;clear k0 k1 k8 k9 k10 hlt hsrc hC;refine eI ((i+1,k+1)) (eI ([some 0,some 1,some 2,some 3]) (aI ?_ (aI ?_ (aB (aI (aJ tT) (by rfl))))))
  ·refine⟨h1, ?_⟩;show k+1=Mp (st,ps) (i+1);rw[Ad8,aN h2,hk]
  ·show st.length-(i+1)<st.length-i;omega
 ·have h1:¬(i:Int)<(st.length:Int):=aP k0;have h2:i=st.length:=by omega
  show((true,()):Bool×Unit)=(bif bif decide ((Eo (st,ps) (Bm (st,ps) (Af (st,ps) l m).1 q m').1).2=0)then decide ((k:Int)=((Eo (st,ps) (Bm (st,ps) (Af (st,ps) l m).1 q m').1).1.length:Int))else false then true else false,());rw[hL2,hLl,hk,h2,aW rfl,aW rfl];rfl
end Go.Proofs.YtckpldpombdkgaaGreat
