/- Pipelines. -/
import Derived.Test.YtpabcdbaffjcdaaGreatJL2
import Derived.Test.YtpabcdbaffjcdaaGreatJQ3
set_option linter.unusedSimpArgs false
set_option linter.unusedVariables false
set_option maxRecDepth 100000
namespace Go.Proofs.YtpabcdbaffjcdaaGreat
open Go.Sx
def Agg(x:PlT)(k:Int):Prop:=x.1.length<=12/\(B7 x).2=0/\(∀i:Int,0<=i->i<x.1.length->Rq (sg x i))/\0<=k/\k<=10000
def sp1(x:PlT)(l m:List Int)(k:Int):List (List Int):=(B2 x (drS (B2 x (Ca x).1 l k).1) m 5000).1.2.2.1
def sp2(x:PlT)(l:List Int)(k:Int):List (List Int):=(B2 (El x (B2 x (Ca x).1 l k).1) (Ca (El x (B2 x (Ca x).1 l k).1)).1 l 5000).1.2.2.1
theorem Amu{x:PlT}(h:Fa x=0):(Ca x).2=0:=by rw[Ig (Cz.1 h)]
theorem Ab2{x:PlT}(he:(B7 x).2=0):Fa x=0:=Classical.byContradiction λhn=>by
 unfold B7 at he;rw[aP hn]at he;exact hn he
@[reducible] def Amv:List (Bool×Ty):=[(false,Va),(false,Va),(false,.bool)]
def cxRc:Ctx:=⟨Amf,[(18,([],cPNew)),(19,([],cRun)),(20,([],cBegin)),(21,([],cRest)),(22,([],cFin))]⟩
theorem Aiw:Ai Tryz.prog cxRc:=Dl (Ae Atr (Ae Avf (Ae Aru (Ae At7 (Ae Ava Ah)))))
def cSplit:Ctr:=fnC [dPl,dIs,dIs,dI] Amv (λy=>Agg y.1 y.2.2.2.1) (λy=>(sp1 y.1 y.2.1 y.2.2.1 y.2.2.2.1,sp2 y.1 y.2.1 y.2.2.2.1,true,()))
set_option maxHeartbeats 8000000 in
theorem Amw:GoodC Tryz.prog 7 cSplit:=by
 refine Au Aiw 3 _ _ _ _ ⟨_,Tryz.func7,rfl,rfl⟩ λ(⟨⟨st,ps⟩,l,m,k,_⟩:PlT×List Int×List Int×Int×Unit) hn=>?_
 obtain⟨hx,he,hm,k0,kN⟩:Agg (st,ps) k:=hn;have a:=again hx he hm l m k0 kN;have hc:=Ab2 he;have w:=Cz.1 hc;have hv:=(Amq he l k0 kN).v;refine(aF (aI tT (λ(h0:(List (List Int×Int×Bool)×List (Int×Int×Int×Int×List Int×Bool)×List (List Int)×Bool)×Int×PUnit)=>(λh1=>(aI tT (λ(h2:(List (List Int×Int×Bool)×List (Int×Int×Int×Int×List Int×Bool)×List (List Int)×Bool) ×   List Int×Int×PUnit)=>(λh3=>(aI (λh4=>(Aa rfl ?_)) (λh4=>(aI tT (λ(h5:(List (List Int×Int×Bool)×List (Int×Int×Int×Int×List Int×Bool)×List (List Int)×Bool)×Int×PUnit)=>(λh6=>(aI tT (λ(h7:(List (List Int×Int×Bool)×List (Int×Int×Int×Int×List Int×Bool)×List (List Int)×Bool) ×   List Int×Int×PUnit)=>(λh8=>(aI ?_ (λ(h9:(List (Int×Int×ExprT×List Int)×List (Int×Int×Int×Int×Int))×PUnit)=>(λh10=>(aI tT (λ(h11:(List (List Int×Int×Bool)×List (Int×Int×Int×Int×List Int×Bool)×List (List Int)×Bool)×Int×PUnit)=>(λh12=>(aI tT (λ(h13:(List (List Int×Int×Bool)×List (Int×Int×Int×Int×List Int×Bool)×List (List Int)×Bool) ×   List Int×Int×PUnit)=>(λh14=>(aI (λh15=>tT) (aI (λh16=>tT) (aF (Aa rfl ?_))))))))))))))))))))))))))))
 ·subst h1 h3;have h4:(bif !decide ((Ca (st,ps)).2=0)then true else !decide ((B2 (st,ps) (Ca (st,ps)).1 l k).2.2=0))=true:=h4;rw[Amu hc,a.e1]at h4;cases h4
 ·subst h1 h3;exact Bz.2 ⟨w,hv⟩
 ·subst h1 h3 h6 h8 h10 h12 h14;show _=((B2 (st,ps) (Jw (st,ps) (B2 (st,ps) (Ca (st,ps)).1 l k).1).1 m 5000).1.2.2.1,_,bif bif bif bif bif decide ((Jw (st,ps) (B2 (st,ps) (Ca (st,ps)).1 l k).1).2=0)then decide ((B2 (st,ps) (Jw (st,ps) (B2 (st,ps) (Ca (st,ps)).1 l k).1).1 m 5000).2.2=0)else false then decide ((Ca (El (st,ps) (B2 (st,ps) (Ca (st,ps)).1 l k).1)).2=0)else false then
   decide ((B2 (El (st,ps) (B2 (st,ps) (Ca (st,ps)).1 l k).1) (Ca (El (st,ps) (B2 (st,ps) (Ca (st,ps)).1 l k).1)).1 l 5000).2.2=0)else false then Rx (st,ps) (B2 (st,ps) (Jw (st,ps) (B2 (st,ps) (Ca (st,ps)).1 l k).1).1 m 5000).1 else false then
   Rx (El (st,ps) (B2 (st,ps) (Ca (st,ps)).1 l k).1) (B2 (El (st,ps) (B2 (st,ps) (Ca (st,ps)).1 l k).1) (Ca (El (st,ps) (B2 (st,ps) (Ca (st,ps)).1 l k).1)).1 l 5000).1 else false,())
  rw[a.bg];show _=((B2 (st,ps) (drS (B2 (st,ps) (Ca (st,ps)).1 l k).1) m 5000).1.2.2.1,_,bif bif bif bif bif decide ((0:Int)=0)then decide ((B2 (st,ps) (drS (B2 (st,ps) (Ca (st,ps)).1 l k).1) m 5000).2.2=0)else false then _ else false then _ else false then Rx (st,ps) (B2 (st,ps) (drS (B2 (st,ps) (Ca (st,ps)).1 l k).1) m 5000).1 else false then _ else false,());rw[a.e2,a.f2,Amu a.c3,a.e3,a.f3];rfl
end Go.Proofs.YtpabcdbaffjcdaaGreat
