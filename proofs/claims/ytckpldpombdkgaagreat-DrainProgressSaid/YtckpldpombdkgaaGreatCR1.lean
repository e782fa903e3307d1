/- Pipelines. -/
import Derived.Test.YtckpldpombdkgaaGreatCY
import Derived.Test.YtckpldpombdkgaaGreatCG3
set_option linter.unusedSimpArgs false
set_option linter.unusedVariables false
set_option maxRecDepth 100000
namespace Go.Proofs.YtckpldpombdkgaaGreat
open Go.Sx
theorem or_1{c:Int}{l:List Int}(h:c≠0):J9 (c::l)=c:=if_pos h
theorem or_0{l:List Int}:J9 (0::l)=J9 l:=if_neg (λh=>h rfl)
theorem cmpE_lt{a b:EdgT}:X9 a b<0<->(a.1<b.1\/a.1=b.1/\a.2<b.2):=by
 unfold X9 Ams;rcases Int.lt_trichotomy a.1 b.1 with h|h|h
 ·rw[if_pos h,or_1 (by decide)];exact⟨λ_=>.inl h,λ_=>by decide⟩
 ·rw[if_neg (by omega),if_neg (by omega),or_0];rcases Int.lt_trichotomy a.2 b.2 with g|g|g
  ·rw[if_pos g,or_1 (by decide)];exact⟨λ_=>.inr ⟨h,g⟩,λ_=>by decide⟩
  ·rw[if_neg (by omega),if_neg (by omega),or_0];exact⟨λk=>absurd k (by decide),λk=>by omega⟩
  ·rw[if_neg (by omega),if_pos g,or_1 (by decide)];exact⟨λk=>absurd k (by decide),λk=>by omega⟩
 ·rw[if_neg (by omega),if_pos h,or_1 (by decide)];exact⟨λk=>absurd k (by decide),λk=>by omega⟩
def leE(a b:EdgT):Prop:=¬X9 b a<0
def QI(i j:Nat)(d:List EdgT):Prop:=(∀k,k+1<=i->k+1≠j->leE (d.getD k (0,0)) (d.getD (k+1) (0,0)))/\(1<=j->j+1<=i->leE (d.getD (j-1) (0,0)) (d.getD (j+1) (0,0)))
theorem insJ_ok{i:Nat}:∀(j:Nat) (d:List EdgT),j<=i->i<d.length->QI i j d->(Mw j d).length=d.length/\∀k,k+1<=i->leE ((Mw j d).getD k (0,0)) ((Mw j d).getD (k+1) (0,0))
 |0,d,_,_,h=>⟨rfl,λk hk=>h.1 k hk (by omega)⟩
 |j+1,d,hj,hi,h=>by
  unfold Mw;by_cases hc:X9 (d.getD (j+1) (0,0)) (d.getD j (0,0))<0
  ·rw[if_pos hc];have hg:∀k,((d.set (j+1) (d.getD j (0,0))).set j (d.getD (j+1) (0,0))).getD k (0,0)=if k=j then d.getD (j+1) (0,0)else if k=j+1 then d.getD j (0,0)else d.getD k (0,0):=λk=>by
    rw[Ii,Ii,List.length_set];by_cases h1:k=j
    ·subst h1;rw[if_pos ⟨rfl,by omega⟩,if_pos rfl]
    ·rw[if_neg (by omega),if_neg h1];by_cases h2:k=j+1
     ·subst h2;rw[if_pos ⟨rfl,by omega⟩,if_pos rfl]
     ·rw[if_neg (by omega),if_neg h2]
   have hq:QI i j ((d.set (j+1) (d.getD j (0,0))).set j (d.getD (j+1) (0,0))):=by
    refine⟨λk hk hkj=>?_,λh1 h2=>?_⟩
    ·rw[hg,hg];by_cases e1:k=j
     ·subst e1;rw[if_pos rfl,if_neg (by omega),if_pos rfl];unfold leE;rw[cmpE_lt]at hc ⊢;omega
     ·rw[if_neg e1];by_cases e2:k=j+1
      ·subst e2;rw[if_pos rfl,if_neg (by omega),if_neg (by omega)];have:=h.2 (by omega) hk
       rwa [Nat.add_sub_cancel]at this
      ·rw[if_neg e2,if_neg (by omega),if_neg (by omega)];exact h.1 k hk (by omega)
    ·rw[hg,hg,if_neg (by omega),if_neg (by omega),if_neg (by omega),if_pos rfl];have:=h.1 (j-1) (by omega) (by omega)
     rwa [show j-1+1=j by omega]at this
   obtain⟨r1,r2⟩:=insJ_ok j _ (by omega) (by rw[List.length_set,List.length_set];exact hi) hq;exact⟨by rw[r1,List.length_set,List.length_set],r2⟩
  ·rw[if_neg hc];refine⟨rfl,λk hk=>?_⟩;by_cases e:k+1=j+1
   ·have e:k=j:=by omega
    subst e;exact hc
   ·exact h.1 k hk e
theorem insG_ok:∀(k i:Nat) (d:List EdgT),i+k=d.length->(∀a,a+1<i->leE (d.getD a (0,0)) (d.getD (a+1) (0,0)))->∀a,a+1<d.length->leE ((Sy k i d).getD a (0,0)) ((Sy k i d).getD (a+1) (0,0))
 |0,i,d,h,hs=>λa ha=>hs a (by omega)
 |k+1,i,d,h,hs=>by
  obtain⟨r1,r2⟩:=insJ_ok (i:=i) i d (Nat.le_refl _) (by omega) ⟨λa ha hne=>hs a (by omega),λh1 h2=>by omega⟩;intro a ha;exact insG_ok k (i+1) (Mw i d) (by rw[r1];omega) (λb hb=>r2 b (by omega)) a (by rw[r1];exact ha)
theorem sort_ok(d:List EdgT):∀a,a+1<(B4 d).length->leE ((B4 d).getD a (0,0)) ((B4 d).getD (a+1) (0,0)):=λa ha=>by
 have hl:=(Ad8 d).length_eq;exact insG_ok (d.length-1) 1 d (by omega) (λb hb=>by omega) a (by omega)
theorem two_count{α:Type}{p:α->Bool}{l:List α}{i j:Nat}{d:α}(hij:i<j)(hj:j<l.length)(h1:p (l.getD i d)=true)(h2:p (l.getD j d)=true):2<=l.countP p:=by
 have a:=O3 p l j d hj h2;have hi:i<(l.take j).length:=by rw[List.length_take];omega
 have b:0<(l.take j).countP p:=List.countP_pos_iff.2 ⟨(l.take j)[i],List.getElem_mem hi,by rw[List.getElem_take,<-Bt (d:=d)];exact h1⟩;omega
theorem edg_nodup{x:PlT}(w:WF x):(Hb x).Nodup:=by
 unfold Hb;rw[List.Nodup,List.pairwise_map,List.pairwise_iff_getElem];intro i j hi hj hij e;have e1:=(Prod.mk.inj e).1;have e2:=(Prod.mk.inj e).2;have q:=w.pipe hi;have hb:∀{k:Nat}(hk:k<x.2.length),(x.2.getD k Aw).1=(x.2.getD i Aw).1->(x.2.getD k Aw).2.2.1=(x.2.getD i Aw).2.2.1->Ky [(x.2.getD i Aw).1,(x.2.getD i Aw).2.2.1] (x.2.getD k Aw)=true:=λhk h1 h2=>by
  unfold Ky;rw[h1,h2];simp
 have h2:=two_count (p:=Ky [(x.2.getD i Aw).1,(x.2.getD i Aw).2.2.1]) hij hj (hb hi rfl rfl) (hb hj (by rw[Bt hi,Bt hj];exact e1.symm) (by rw[Bt hi,Bt hj];exact e2.symm));have h3:=Ahe (B:=[(x.2.getD i Aw).1,(x.2.getD i Aw).2.2.1]) (l:=x.2) (n:=x.1.length) (by simp) (λv hv=>by
  rcases List.mem_cons.1 hv with rfl|hv
  ·exact⟨q.f0,q.fn⟩
  ·rw[List.mem_singleton.1 hv];exact⟨q.t0,q.tn⟩) w.tree
 simp only[List.length_cons,List.length_nil]at h3;omega
theorem pipes_lt{x:PlT}(w:WF x):x.2.length<x.1.length:=by
 have hn:=w.n1;have h:=Ahe (B:=ints x.1.length) (l:=x.2) (n:=x.1.length) (λh=>by
  have:=congrArg List.length h;rw[H5,List.length_nil]at this;omega) (λv hv=>Jf.1 hv) w.tree
 rw[H5]at h;have hc:x.2.countP (Ky (ints x.1.length))=x.2.length:=by
  rw[List.countP_eq_length];intro y hy;obtain⟨k,hk,rfl⟩:=List.mem_iff_getElem.1 hy;have q:=w.pipe hk;rw[Bt hk]at q;unfold Ky;rw[decide_eq_true (Jf.2 ⟨q.f0,q.fn⟩),decide_eq_true (Jf.2 ⟨q.t0,q.tn⟩)];rfl
 omega
theorem okO_of{x:PlT}(w:WF x)(h:x.1.length<=12):okO x:=by
 have hp:=pipes_lt w;have hn:=w.n1;have hm:∀e,e∈B4 (Hb x)<->e∈Hb x:=λe=>(Ad8 _).mem_iff
 have hlen:(B4 (Hb x)).length=x.2.length:=by rw[(Ad8 _).length_eq];unfold Hb;rw[List.length_map]
 have hk:∀e∈B4 (Hb x),(0<=e.1/\e.1<x.1.length)/\(0<=e.2/\e.2<x.1.length)/\e.1≠e.2:=λe he=>by
  obtain⟨y,hy,rfl⟩:=List.mem_map.1 ((hm e).1 he);obtain⟨k,hk,rfl⟩:=List.mem_iff_getElem.1 hy;have q:=w.pipe hk;have ne:=w.ne hk;rw[Bt hk]at q ne;exact⟨⟨q.f0,q.fn⟩,⟨q.t0,q.tn⟩,ne⟩
 have hd:(B4 (Hb x)).Nodup:=(Ad8 _).nodup_iff.2 (edg_nodup w);refine⟨by omega,⟨⟨⟨by omega,by omega,by omega⟩,λk hkl=>?_,λk hkl=>?_⟩,by omega,by omega⟩,λe he=>(hk e he).2.2⟩
 ·have:=hk _ (List.getElem_mem hkl);rw[Bt hkl];exact⟨this.1,this.2.1⟩
 ·have h1:=sort_ok (Hb x) k hkl;unfold leE at h1;rw[cmpE_lt]at h1;have h2:(B4 (Hb x)).getD k (0,0)≠(B4 (Hb x)).getD (k+1) (0,0):=by
   rw[Bt (by omega),Bt hkl];intro e;have:=(List.pairwise_iff_getElem.1 hd) k (k+1) (by omega) hkl (by omega);exact this e
  have h3:¬(((B4 (Hb x)).getD k (0,0)).1=((B4 (Hb x)).getD (k+1) (0,0)).1/\((B4 (Hb x)).getD k (0,0)).2=((B4 (Hb x)).getD (k+1) (0,0)).2):=λ⟨a,b⟩=>h2 (Prod.ext a b)
  omega
end Go.Proofs.YtckpldpombdkgaaGreat
