/- Pipelines. -/
import Derived.Test.YtckpldpombdkgaaGreatEL4
set_option linter.unusedSimpArgs false
set_option linter.unusedVariables false
set_option maxRecDepth 100000
namespace Go.Proofs.YtckpldpombdkgaaGreat
open Go.Sx
def cxlK:Ctx:=⟨Xg,[(21,([],cReach)),(14,([],cAwake)),(15,([],cBegin)),(17,([],cRun)),(22,([],cFin)),(23,([],c14))]⟩
theorem Xi:Aj Tryz.prog cxlK:=C0 (Ad Za (Ad Yz (Ad Ad1 (Ad Amj (Ad Atm (Ad Ak7 Ah))))))
theorem rT{b c:Bool}(h:(bif !b then true else c)=false):b=true:=by cases b<;>first|rfl|cases h
theorem rT2{b c d:Bool}(h:(bif (bif !b then true else c)then true else d)=false):b=true:=by cases b<;>first|rfl|cases h
theorem bgE{x:PlT}{s:FsT}{z:H5 Amh}(h:z=((Hl x s).1,(Hl x s).2,()))(b:Hl x s=(drS s,0)):z=(drS s,0,()):=by rw[h,b]
section
variable {x:PlT}{l:List Int}{m:Int}{n:Nat}{R:FsT×List Int×Int}(D:Dlv x l m n R)
include D
theorem Avu(h:(bif !decide ((0:Int)=0)then true else !decide (R.2.2=0))=true):((true,()):Bool×Unit)=(false,()):=by
 rw[D.e0]at h;cases h
theorem Avv:((true,()):Bool×Unit)=(bif bif bif decide ((R.2.1.length:Int)<5000)then Abh x R.1 else false then decide (R.1.2.2.1=(Af x l m).2.1)else false then true else false,()):=by
 have h1:=D.ln;have h2:=D.n5;rw[aW (show(R.2.1.length:Int)<5000 by omega),D.fi,aW D.ou];rfl
theorem Avw{R':FsT×List Int×Int}(D':Dlv x l m n R'):((true,()):Bool×Unit)=(bif bif bif bif bif decide ((0:Int)=0)then decide (R.2.2=0)else false then decide (R'.2.2=0)else false then decide (R.1.2.2.1=R'.1.2.2.1)else false then decide ((R.2.1.length:Int)=(R'.2.1.length:Int))else false then true else false,()):=by
 rw[D.e0,D'.e0,D.ou,D'.ou,D.ln,D'.ln,aW rfl,aW rfl,aW rfl];rfl
end
set_option maxHeartbeats 8000000 in
theorem Avx:Wk Tryz.prog 4 [tPl,tIs,tIs,.int .u8] [true,false,false,false]:=by
 refine⟨cxlK,3,Xi,λ(⟨⟨st,ps⟩,l,q,m,_⟩:PlT×List Int×List Int×Int×Unit) fine=>?_⟩;have fm:0<=m/\m<=255:=fine.2.2.2.1;have hD:(Af (st,ps) l m).2.2=true->Hl (st,ps) (Af (st,ps) l m).1=(drS (Af (st,ps) l m).1,0)/\∃n,∀l':List Int,Dlv (st,ps) l m n (Bm (st,ps) (drS (Af (st,ps) l m).1) l' 5000):=λh=>Xh h
 refine(aF (aO (aI tT (λ(h0:(List (List Int×Int×Bool)×List (Int×Int×Int×Int×List Int×Bool)×List (List Int)×Bool) ×   List (List Int)×Bool×PUnit)=>(λh1=>(λh2=>(aI (λh3=>(aI tT (Aa rfl ?_))) (λh3=>(aI tT (λ(h4:(List (List Int×Int×Bool)×List (Int×Int×Int×Int×List Int×Bool)×List (List Int)×Bool)×Int×PUnit)=>(λh5=>(aI tT (λ(h6:(List (List Int×Int×Bool)×List (Int×Int×Int×Int×List Int×Bool)×List (List Int)×Bool) ×   List Int×Int×PUnit)=>(λh7=>(aI (λh8=>(Aa rfl ?_)) (λh8=>(λh9=>(aI (λh10=>tT) (aI (λh11=>tT) (aI (λh12=>tT) (Aa rfl ?_)))))))))))))))))))))
 ·rfl
 ·subst h1;obtain⟨b,n,D⟩:=hD (rT h3);have e:=bgE h5 b;clear h5;subst e h7;exact Avu (D q) h8
 ·subst h1;obtain⟨b,n,D⟩:=hD (rT h3);have e:=bgE h5 b;clear h5;subst e h7;exact Avv (D q)
set_option maxHeartbeats 8000000 in
theorem Avy:Wk Tryz.prog 5 [tPl,tIs,tIs,tIs,.int .u8] [true,false,false,false,false]:=by
 refine⟨cxlK,3,Xi,λ(⟨⟨st,ps⟩,l,q,q',m,_⟩:PlT×List Int×List Int×List Int×Int×Unit) fine=>?_⟩;have fm:0<=m/\m<=255:=fine.2.2.2.2.1;have hD:(Af (st,ps) l m).2.2=true->Hl (st,ps) (Af (st,ps) l m).1=(drS (Af (st,ps) l m).1,0)/\∃n,∀l':List Int,Dlv (st,ps) l m n (Bm (st,ps) (drS (Af (st,ps) l m).1) l' 5000):=λh=>Xh h
 refine(aF (aO (aI tT (λ(h0:(List (List Int×Int×Bool)×List (Int×Int×Int×Int×List Int×Bool)×List (List Int)×Bool) ×   List (List Int)×Bool×PUnit)=>(λh1=>(λh2=>(λh3=>(aI (λh4=>(aI tT (Aa rfl ?_))) (λh4=>(aI tT (λ(h5:(List (List Int×Int×Bool)×List (Int×Int×Int×Int×List Int×Bool)×List (List Int)×Bool)×Int×PUnit)=>(λh6=>(aI tT (λ(h7:(List (List Int×Int×Bool)×List (Int×Int×Int×Int×List Int×Bool)×List (List Int)×Bool) ×   List Int×Int×PUnit)=>(λh8=>(aI tT (λ(h9:(List (List Int×Int×Bool)×List (Int×Int×Int×Int×List Int×Bool)×List (List Int)×Bool) ×   List Int×Int×PUnit)=>(λh10=>(aI (λh11=>tT) (λh12=>(λh13=>(aI (λh14=>tT) (Aa rfl ?_)))))))))))))))))))))))
 ·rfl
 ·subst h1;obtain⟨b,n,D⟩:=hD (rT2 h4);have e:=bgE h6 b;clear h6;subst e h8 h10;exact Avw (D q) (D q')
end Go.Proofs.YtckpldpombdkgaaGreat
