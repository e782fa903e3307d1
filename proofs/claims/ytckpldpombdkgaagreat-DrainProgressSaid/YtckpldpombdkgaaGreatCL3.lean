/- Pipelines. -/
import Derived.Test.YtckpldpombdkgaaGreatCY
import Derived.Test.YtckpldpombdkgaaGreatCR2
set_option linter.unusedSimpArgs false
set_option linter.unusedVariables false
set_option maxRecDepth 100000
namespace Go.Proofs.YtckpldpombdkgaaGreat
open Go.Sx
theorem reach_ok{x:PlT}{l:List Int}{m:Int}(h:(reachG x l m).2.2=true):It x=0/\smallG x=true/\(Sg x (Ag8 x).1 l m).2.2=0/\(Vw x (Sg x (Ag8 x).1 l m).1).2=0/\reachG x l m=((Sg x (Ag8 x).1 l m).1,(Vw x (Sg x (Ag8 x).1 l m).1).1,true):=by
 by_cases hc:grP x=true\/It x≠0\/smallG x=false\/60<(l.length:Int)
 ·rw[show reachG x l m=(zFs,[],false)from if_pos hc]at h;cases h
 ·have e:reachG x l m=_:=if_neg hc;have hz:It x=0:=Classical.byContradiction λh=>hc (.inr (.inl h))
  have hs:smallG x=true:=by
   cases hb:smallG x
   ·exact absurd (.inr (.inr (.inl hb))) hc
   ·rfl
  rw[e]at h ⊢;have h:(bif (bif decide ((Ag8 x).2=0)then decide ((Sg x (Ag8 x).1 l m).2.2=0)else false)then decide ((Vw x (Sg x (Ag8 x).1 l m).1).2=0)else false)=true:=h;obtain⟨h1,h2⟩:=Vu h;obtain⟨h3,h4⟩:=Vu h1;exact⟨hz,hs,of_decide_eq_true h4,of_decide_eq_true h2,by rw[h]⟩
theorem run_dr0{x:PlT}{l:List Int}:∀(m k:Nat) (s:FsT) (o:List Int),(Kd x l m k s o).2.2=0->(Kd x l m k s o).1.2.2.2=s.2.2.2
 |0,_,_,_,_=>rfl
 |m+1,k,s,o,h=>by
  by_cases hs:Ub x s
  ·rw[Ado hs]
  ·by_cases he:(Du x s (J8 x l k s)).2=0
   ·rw[Ajw hs he]at h ⊢;rw[run_dr0 m (k+1) _ _ h,(step_ok he).dr]
   ·rw[Ahj hs he]at h;exact absurd h he
theorem new_dr(x:PlT):(Ag8 x).1.2.2.2=false:=by unfold Ag8;split <;> rfl
theorem reach_vs{x:PlT}{l:List Int}{m:Int}(h:(reachG x l m).2.2=true):WF x/\VS x (reachG x l m).1/\(reachG x l m).1.2.2.2=false:=by
 obtain⟨hz,-,hr,-,e⟩:=reach_ok h;rw[e];show WF x/\VS x (Sg x (Ag8 x).1 l m).1/\(Sg x (Ag8 x).1 l m).1.2.2.2=false;unfold Sg at hr ⊢;by_cases h1:Cv x (Ag8 x).1=0
 ·rw[if_neg (λh=>h h1)]at hr ⊢;by_cases h2:m<0\/10000<m
  ·rw[if_pos h2]at hr;exact absurd hr (by decide)
  ·rw[if_neg h2]at hr ⊢;have hv:=runG_vs _ _ _ _ h1 hr;exact⟨(Cg.1 hv).1,(Cg.1 hv).2,(run_dr0 _ _ _ _ hr).trans (new_dr x)⟩
 ·rw[if_pos h1]at hr;exact absurd hr (by decide)
theorem fin_none{x:PlT}{s:FsT}(w:WF x)(v:VS x s)(h:s.1.all (λt=>t.2.2)=true):(Al x s).1=[]/\(Mu x s).1=0:=by
 have hall:∀i:Int,0<=i->i<x.1.length->(Ci s i).2.2=true:=λi i0 iN=>by
  have hl:i.toNat<s.1.length:=by have:=v.ls;omega
  have:=List.all_eq_true.1 h _ (List.getElem_mem hl);unfold Ci;rw[Bt hl];exact this
 have hv:=Cg.2 ⟨w,v⟩;constructor
 ·unfold Al;rw[if_neg (λh=>h hv)];show(ints x.1.length).filter _=[];rw[List.filter_eq_nil_iff];intro i hi;have hi:=Jf.1 hi;unfold Bk Cy;rw[if_pos (hall i hi.1 hi.2)];simp
 ·unfold Mu;rw[if_neg (λh=>h hv)];have he:∀c∈s.2.1,c.2.2.2.2.1=[]:=λc hc=>by
   obtain⟨k,hk,rfl⟩:=List.mem_iff_getElem.1 hc;have hk2:k<x.2.length:=by have:=v.lc;omega
   have q:=w.pipe hk2;have hst:=w.st (x.2.getD k Aw).2.2.1.toNat (by have:=q.t0;have:=q.tn;omega);have hk1:(sg x (x.2.getD k Aw).2.2.1).1≠1:=λh1=>by
    have h2:=q.iN;rw[show stIn (sg x (x.2.getD k Aw).2.2.1)=(Ao (sg x (x.2.getD k Aw).2.2.1).1).1 from Abo hst,h1]at h2;have h3:(x.2.getD k Aw).2.2.2.1<0:=h2;have:=q.i0;omega
   have hnd:(Ar (sg x (x.2.getD k Aw).2.2.1) (Ci s (x.2.getD k Aw).2.2.1)).2=0:=by
    have:=v.nd (x.2.getD k Aw).2.2.1.toNat (by have:=q.t0;have:=q.tn;omega)
    rwa [show(((x.2.getD k Aw).2.2.1.toNat:Nat):Int)=(x.2.getD k Aw).2.2.1 by have:=q.t0;omega]at this
   have hno:=st_noted hnd hk1 (hall _ q.t0 q.tn) q.i0 q.iN;have hen:=v.no (x.2.getD k Aw).2.2.1.toNat (by have:=q.t0;have:=q.tn;omega) (x.2.getD k Aw).2.2.2.1 (by
    rw[show(((x.2.getD k Aw).2.2.1.toNat:Nat):Int)=(x.2.getD k Aw).2.2.1 by have:=q.t0;omega];exact hno)
   rw[show(((x.2.getD k Aw).2.2.1.toNat:Nat):Int)=(x.2.getD k Aw).2.2.1 by have:=q.t0;omega,q.inp]at hen;unfold Dt at hen;rw[Int.toNat_natCast,Bt hk]at hen;exact(Adn.1 hen).2.2
  have:∀(l:List Cred) (n:Int),(∀c∈l,c.2.2.2.2.1=[])->l.foldl (λn c=>n+(c.2.2.2.2.1.length:Int)) n=n:=by
   intro l
   induction l with
   |nil=>intro n _;rfl
   |cons c l ih =>
    intro n h;rw[List.foldl_cons,ih _ (λd hd=>h d (List.mem_cons_of_mem c hd)),h c List.mem_cons_self];simp
  exact this s.2.1 0 he
theorem not_fin{x:PlT}{s:FsT}(w:WF x)(v:VS x s)(h:s.1.all (λt=>t.2.2)=false):0<(Al x s).1.length:=by
 obtain⟨t,ht,hne⟩:=List.all_eq_false.1 h;obtain⟨i,hi,rfl⟩:=List.mem_iff_getElem.1 ht;have hil:i<x.1.length:=by have:=v.ls;omega
 obtain⟨j,j0,jN,hj⟩:=progress w v (i0:=(i:Int)) (by omega) (by omega) (by
  unfold Ci;rw[Int.toNat_natCast,Bt hi];simpa using hne)
 unfold Al;rw[if_neg (λh=>h (Cg.2 ⟨w,v⟩))];exact List.length_pos_of_mem (List.mem_filter.2 ⟨Jf.2 ⟨j0,jN⟩,hj⟩)
section
variable {x:PlT}{s:FsT}(w:WF x)(v:VS x s)
include w v
theorem pg_0:(Al x s).2=0/\(Mu x s).2=0:=by
 unfold Al Mu;rw[if_neg (λh=>h (Cg.2 ⟨w,v⟩)),if_neg (λh=>h (Cg.2 ⟨w,v⟩))];exact⟨rfl,rfl⟩
theorem pg_1(h:(bif !decide ((Al x s).2=0)then true else !decide ((Mu x s).2=0))=true):((true,()):Bool×Unit)=(false,()):=by
 rw[(pg_0 w v).1,(pg_0 w v).2]at h;cases h
theorem pg_2(h:Ag9 x s=true):((true,()):Bool×Unit)=(bif bif decide (((Al x s).1.length:Int)=0)then decide ((Mu x s).1=0)else false then true else false,()):=by
 unfold Ag9 at h;rw[Bool.and_eq_true]at h;obtain⟨h1,h2⟩:=fin_none w v h.2;rw[h1,h2];rfl
theorem pg_3(h:Ag9 x s=false):((true,()):Bool×Unit)=(bif decide (0<((Al x s).1.length:Int))then true else false,()):=by
 unfold Ag9 at h;rw[decide_eq_true (Cg.2 ⟨w,v⟩),Bool.true_and]at h;have h1:(0:Int)<((Al x s).1.length:Int):=Int.ofNat_lt.2 (not_fin w v h);rw[decide_eq_true h1];rfl
theorem pg_b(hd:s.2.2.2=false):Vs x s=((s.1,s.2.1,s.2.2.1,true),0)/\VS x (s.1,s.2.1,s.2.2.1,true):=by
 unfold Vs;rw[if_neg (λh=>h (Cg.2 ⟨w,v⟩)),if_neg (by rw[hd];decide)];exact⟨rfl,v.ls,v.lc,v.lo,v.nd,v.os,v.cr,v.no⟩
end
def tysLG:List (TypeId×Ty):=(30,tFs)::(31,tIs)::O7
def cxlG:Ctx:=⟨tysLG,[(21,([],cReach)),(14,([],cAwake)),(15,([],cBegin)),(28,([],cEnabled)),(29,([],cBufd)),(22,([],cFin))]⟩
theorem cxlG_good:Ah Tryz.prog cxlG:=C7 (Ae gReach (Ae Am4 (Ae Amp (Ae Ahs (Ae An5 (Ae App Ag))))))
set_option maxHeartbeats 8000000 in
theorem law8:Akk Tryz.prog 8 [tPl,tIs,.int .u8,.bool] [true,false,false,false]:=by
 refine⟨cxlG,3,cxlG_good,λ(⟨⟨st,ps⟩,l,m,b,_⟩:PlT×List Int×Int×Bool×Unit) fine=>?_⟩;have fm:0<=m/\m<=255:=fine.2.2.1;have hR:(!(reachG (st,ps) l m).2.2)=false->WF (st,ps)/\VS (st,ps) (reachG (st,ps) l m).1/\(reachG (st,ps) l m).1.2.2.2=false:=λh=>reach_vs (Bw h)
 refine(aF (aO (aI tT (λ(h0:(List (List Int×Int×Bool)×List (Int×Int×Int×Int×List Int×Bool)×List (List Int)×Bool) ×   List (List Int)×Bool×PUnit)=>(λh1=>(aI (λh2=>(aI tT (Aa rfl ?_))) (λh2=>(aI (λh3=>(aI tT (λ(h4:(List (List Int×Int×Bool)×List (Int×Int×Int×Int×List Int×Bool)×List (List Int)×Bool)×Int×PUnit)=>(λh5=>(aI (λh6=>(Aa rfl ?_)) (λh6=>(aI tT (λ(h7:List Int×Int×PUnit)=>(λh8=>(aI tT (aI (λh9=>(Aa rfl ?_)) (λh9=>(aI tT (aI (λh10=>(λh11=>(aI (λh12=>tT) (Aa rfl ?_)))) (λh10=>(λh13=>(aI (λh14=>tT) (Aa rfl ?_)))))))))))))))))) (λh3=>(aI tT (λ(h15:List Int×Int×PUnit)=>(λh16=>(aI tT (aI (λh17=>(Aa rfl ?_)) (λh17=>(aI tT (aI (λh18=>(λh19=>(aI (λh20=>tT) (Aa rfl ?_)))) (λh18=>(λh21=>(aI (λh22=>tT) (Aa rfl ?_)))))))))))))))))))))
 ·rfl
 all_goals
  subst h1;obtain⟨w,v,hd⟩:=hR h2;obtain⟨b1,b2⟩:=pg_b w v hd
 ·subst h5;have h6:(!decide ((Vs (st,ps) (reachG (st,ps) l m).1).2=0))=true:=h6;rw[b1]at h6;cases h6
 ·have e5:h4=_:=h5.trans (show _=(((reachG (st,ps) l m).1.1,(reachG (st,ps) l m).1.2.1,(reachG (st,ps) l m).1.2.2.1,true),(0:Int),())from congrArg (λz:FsT×Int=>(z.1,z.2,())) b1);clear h5;subst e5 h8;exact pg_1 w b2 h9
 ·have e5:h4=_:=h5.trans (show _=(((reachG (st,ps) l m).1.1,(reachG (st,ps) l m).1.2.1,(reachG (st,ps) l m).1.2.2.1,true),(0:Int),())from congrArg (λz:FsT×Int=>(z.1,z.2,())) b1);clear h5;subst e5 h8;exact pg_2 w b2 h10
 ·have e5:h4=_:=h5.trans (show _=(((reachG (st,ps) l m).1.1,(reachG (st,ps) l m).1.2.1,(reachG (st,ps) l m).1.2.2.1,true),(0:Int),())from congrArg (λz:FsT×Int=>(z.1,z.2,())) b1);clear h5;subst e5 h8;exact pg_3 w b2 h10
 ·subst h16;exact pg_1 w v h17
 ·subst h16;exact pg_2 w v h18
 ·subst h16;exact pg_3 w v h18
end Go.Proofs.YtckpldpombdkgaaGreat
