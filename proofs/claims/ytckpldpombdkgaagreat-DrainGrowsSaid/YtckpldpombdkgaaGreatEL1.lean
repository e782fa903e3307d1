/- Pipelines. -/
import Derived.Test.YtckpldpombdkgaaGreatEG3
set_option linter.unusedSimpArgs false
set_option linter.unusedVariables false
set_option maxRecDepth 100000
namespace Go.Proofs.YtckpldpombdkgaaGreat
open Go.Sx
theorem Ao9{c:Int}{l:List Int}(h:c≠0):Jc (c::l)=c:=aN h
theorem Auc{l:List Int}:Jc (0::l)=Jc l:=aL (λh=>h rfl)
theorem Agh{a b:EdgT}:R5 a b<0<->(a.1<b.1\/a.1=b.1/\a.2<b.2):=by
 unfold R5 Aou;rcases iB a.1 b.1 with h|h|h
 ·rw[aN h,Ao9 (by decide)];exact⟨λ_=>.inl h,λ_=>by decide⟩
 ·rw[aL (by omega),aL (by omega),Auc];rcases iB a.2 b.2 with g|g|g
  ·rw[aN g,Ao9 (by decide)];exact⟨λ_=>.inr ⟨h,g⟩,λ_=>by decide⟩
  ·rw[aL (by omega),aL (by omega),Auc];exact⟨λk=>aS k (by decide),λk=>by omega⟩
  ·rw[aL (by omega),aN g,Ao9 (by decide)];exact⟨λk=>aS k (by decide),λk=>by omega⟩
 ·rw[aL (by omega),aN h,Ao9 (by decide)];exact⟨λk=>aS k (by decide),λk=>by omega⟩
def leE(a b:EdgT):Prop:=¬R5 b a<0
def QI(i j:Nat)(d:List EdgT):Prop:=(∀k,k+1<=i->k+1≠j->leE (d.getD k (0,0)) (d.getD (k+1) (0,0)))/\(1<=j->j+1<=i->leE (d.getD (j-1) (0,0)) (d.getD (j+1) (0,0)))
theorem Agi{i:Nat}:∀(j:Nat)(d:List EdgT),j<=i->i<d.length->QI i j d->(Kt j d).length=d.length/\∀k,k+1<=i->leE ((Kt j d).getD k (0,0)) ((Kt j d).getD (k+1) (0,0))
 |0,d,_,_,h=>⟨rfl,λk hk=>h.1 k hk (by omega)⟩
 |j+1,d,hj,hi,h=>by
  unfold Kt;by_cases hc:R5 (d.getD (j+1) (0,0)) (d.getD j (0,0))<0
  ·rw[aN hc];have hg:∀k,((d.set (j+1) (d.getD j (0,0))).set j (d.getD (j+1) (0,0))).getD k (0,0)=if k=j then d.getD (j+1) (0,0)else if k=j+1 then d.getD j (0,0)else d.getD k (0,0):=λk=>by
    rw[Cn,Cn,cG];by_cases h1:k=j
    ·subst h1;rw[aN ⟨rfl,by omega⟩,aN rfl]
    ·rw[aL (by omega),aL h1];by_cases h2:k=j+1
     ·subst h2;rw[aN ⟨rfl,by omega⟩,aN rfl]
     ·rw[aL (by omega),aL h2]
   have hq:QI i j ((d.set (j+1) (d.getD j (0,0))).set j (d.getD (j+1) (0,0))):=by
    refine⟨λk hk hkj=>?_,λh1 h2=>?_⟩
    ·rw[hg,hg];by_cases e1:k=j
     ·subst e1;rw[aN rfl,aL (by omega),aN rfl];unfold leE;rw[Agh]at hc ⊢;omega
     ·rw[aL e1];by_cases e2:k=j+1
      ·subst e2;rw[aN rfl,aL (by omega),aL (by omega)];have:=h.2 (by omega) hk
       rwa [Nat.add_sub_cancel]at this
      ·rw[aL e2,aL (by omega),aL (by omega)];exact h.1 k hk (by omega)
    ·rw[hg,hg,aL (by omega),aL (by omega),aL (by omega),aN rfl];have:=h.1 (j-1) (by omega) (by omega)
     rwa [show j-1+1=j by omega]at this
   obtain⟨r1,r2⟩:=Agi j _ (by omega) (by rw[cG,cG];exact hi) hq;exact⟨by rw[r1,cG,cG],r2⟩
  ·rw[aL hc];refine⟨rfl,λk hk=>?_⟩;by_cases e:k+1=j+1
   ·have e:k=j:=by omega
    subst e;exact hc
   ·exact h.1 k hk e
theorem Agj:∀(k i:Nat)(d:List EdgT),i+k=d.length->(∀a,a+1<i->leE (d.getD a (0,0)) (d.getD (a+1) (0,0)))->∀a,a+1<d.length->leE ((R6 k i d).getD a (0,0)) ((R6 k i d).getD (a+1) (0,0))
 |0,i,d,h,hs=>λa ha=>hs a (by omega)
 |k+1,i,d,h,hs=>by
  obtain⟨r1,r2⟩:=Agi (i:=i) i d (bB _) (by omega) ⟨λa ha hne=>hs a (by omega),λh1 h2=>by omega⟩;intro a ha;exact Agj k (i+1) (Kt i d) (by rw[r1];omega) (λb hb=>r2 b (by omega)) a (by rw[r1];exact ha)
theorem Apa(d:List EdgT):∀a,a+1<(Bu d).length->leE ((Bu d).getD a (0,0)) ((Bu d).getD (a+1) (0,0)):=λa ha=>by
 have hl:=(Ku d).length_eq;exact Agj (d.length-1) 1 d (by omega) (λb hb=>by omega) a (by omega)
theorem Aiu{α:Type}{p:α->Bool}{l:List α}{i j:Nat}{d:α}(hij:i<j)(hj:j<l.length)(h1:p (l.getD i d)=true)(h2:p (l.getD j d)=true):2<=l.countP p:=by
 have a:=Ir p l j d hj h2;have hi:i<(l.take j).length:=by rw[bO];omega
 have b:0<(l.take j).countP p:=gU.2 ⟨(l.take j)[i],cI hi,by rw[iA,<-A1 (d:=d)];exact h1⟩;omega
theorem Aiv{x:PlT}(w:WF x):(Dc x).Nodup:=by
 unfold Dc;rw[List.Nodup,List.pairwise_map,fY];intro i j hi hj hij e;have e1:=(Prod.mk.inj e).1;have e2:=(Prod.mk.inj e).2;have q:=w.pipe hi;have hb:∀{k:Nat}(hk:k<x.2.length),(x.2.getD k Ai).1=(x.2.getD i Ai).1->(x.2.getD k Ai).2.2.1=(x.2.getD i Ai).2.2.1->F9 [(x.2.getD i Ai).1,(x.2.getD i Ai).2.2.1] (x.2.getD k Ai)=true:=λhk h1 h2=>by
  unfold F9;rw[h1,h2];simp
 have h2:=Aiu (p:=F9 [(x.2.getD i Ai).1,(x.2.getD i Ai).2.2.1]) hij hj (hb hi rfl rfl) (hb hj (by rw[A1 hi,A1 hj];exact e1.symm) (by rw[A1 hi,A1 hj];exact e2.symm));have h3:=U2 (B:=[(x.2.getD i Ai).1,(x.2.getD i Ai).2.2.1]) (l:=x.2) (n:=x.1.length) (by simp) (λv hv=>by
  rcases cN.1 hv with rfl|hv
  ·exact⟨q.f0,q.fn⟩
  ·rw[bP.1 hv];exact⟨q.t0,q.tn⟩) w.tree
 simp only[List.length_cons,List.length_nil]at h3;omega
theorem Amx{x:PlT}(w:WF x):x.2.length<x.1.length:=by
 have hn:=w.n1;have h:=U2 (B:=ints x.1.length) (l:=x.2) (n:=x.1.length) (λh=>by
  have:=bG List.length h;rw[Dk,List.length_nil]at this;omega) (λv hv=>Dl.1 hv) w.tree
 rw[Dk]at h;have hc:x.2.countP (F9 (ints x.1.length))=x.2.length:=by
  rw[List.countP_eq_length];intro y hy;obtain⟨k,hk,rfl⟩:=dN.1 hy;have q:=w.pipe hk;rw[A1 hk]at q;unfold F9;rw[aW (Dl.2 ⟨q.f0,q.fn⟩),aW (Dl.2 ⟨q.t0,q.tn⟩)];rfl
 omega
theorem Amy{x:PlT}(w:WF x)(h:x.1.length<=12):okO x:=by
 have hp:=Amx w;have hn:=w.n1;have hm:∀e,e∈Bu (Dc x)<->e∈Dc x:=λe=>(Ku _).mem_iff
 have hlen:(Bu (Dc x)).length=x.2.length:=by rw[(Ku _).length_eq];unfold Dc;rw[bM]
 have hk:∀e∈Bu (Dc x),(0<=e.1/\e.1<x.1.length)/\(0<=e.2/\e.2<x.1.length)/\e.1≠e.2:=λe he=>by
  obtain⟨y,hy,rfl⟩:=cR.1 ((hm e).1 he);obtain⟨k,hk,rfl⟩:=dN.1 hy;have q:=w.pipe hk;have ne:=w.ne hk;rw[A1 hk]at q ne;exact⟨⟨q.f0,q.fn⟩,⟨q.t0,q.tn⟩,ne⟩
 have hd:(Bu (Dc x)).Nodup:=(Ku _).nodup_iff.2 (Aiv w);refine⟨by omega,⟨⟨⟨by omega,by omega,by omega⟩,λk hkl=>?_,λk hkl=>?_⟩,by omega,by omega⟩,λe he=>(hk e he).2.2⟩
 ·have:=hk _ (cI hkl);rw[A1 hkl];exact⟨this.1,this.2.1⟩
 ·have h1:=Apa (Dc x) k hkl;unfold leE at h1;rw[Agh]at h1;have h2:(Bu (Dc x)).getD k (0,0)≠(Bu (Dc x)).getD (k+1) (0,0):=by
   rw[A1 (by omega),A1 hkl];intro e;have:=(fY.1 hd) k (k+1) (by omega) hkl (by omega);exact this e
  have h3:¬(((Bu (Dc x)).getD k (0,0)).1=((Bu (Dc x)).getD (k+1) (0,0)).1/\((Bu (Dc x)).getD k (0,0)).2=((Bu (Dc x)).getD (k+1) (0,0)).2):=λ⟨a,b⟩=>h2 (Prod.ext a b)
  omega
end Go.Proofs.YtckpldpombdkgaaGreat
