/- Pipelines. -/
import Derived.Test.YtpabcdbaffjcdaaGreatJG1
set_option linter.unusedSimpArgs false
set_option linter.unusedVariables false
set_option maxRecDepth 100000
namespace Go.Proofs.YtpabcdbaffjcdaaGreat
open Go.Sx
set_option linter.unusedVariables false
@[reducible] def tGr:Ty:=.pair tI Va
def cBuild:Ctr:=fnC [dI,.dat false (.sl tE)] [(true,tGr),(false,.bool)] (λy=>Wz y.1 y.2.1/\1<=y.1/\y.1<=12) (λy=>((y.1,(List.range y.1.toNat).map (Bw y.2.1)),true,()))
def cxE6:Ctx:=⟨(122,tGr)::Avl,[(102,([],cDgC))]⟩
theorem Aig:Ai Tryz.prog cxE6:=Dl (Ae Avk En)
theorem Aih{H:List Ob}{n:Nat}{N:Int}{id m:Nat}{xss:List (List Int)}{l:List Nat}{b:Bool}{zz:Ib [(true,tGr),(false,.bool)]}(h:An H (.csl tI id m)=some (.sl tIs xss,l))(hz:zz=((N,xss),b,())):
 H0 ⟨none,none,[],Fu [(true,tGr),(false,.bool)] zz⟩ (.tup [.agg [.int .i64 N,.csl tI id m],.bool b]) H n:=by
 subst hz;refine⟨trivial,rfl,l,[], ?_,rfl,trivial,by simp[Sx.distinct,Sx.keeps]⟩;have e:frV l H (.csl tI id m)=.sl tIs xss:=Aag h λi hi=>hi
 have e2:frV l H (.tup [.agg [.int .i64 N,.csl tI id m],.bool b])=.tup [.agg [.int .i64 N,.sl tIs xss],.bool b]:=by
  show AV.tup [.agg [_,frV l H (.csl tI id m)],_]=_;rw[e];rfl
 have e3:noW (frV l H (.tup [.agg [.int .i64 N,.csl tI id m],.bool b]))=.tup [.agg [.int .i64 N,.sl tIs xss],.bool b]:=by rw[e2];rfl
 rw[e3];rfl
theorem bld{n:Int}{l:List EdgT}{R:Nat->List Int}{i:Nat}(hgd:Wz n l)(hn:n<=12)(hR:∀v,R v=Bw (l.take i) v)(h:decide ((i:Int)<(l.length:Int))=true):
 ∃z:Int,(l.getD (i:Int).toNat (Ab tE)).1=z/\(0<=z/\z<n)/\(z=0\/z=1\/z=2\/z=3\/z=4\/z=5\/z=6\/z=7\/z=8\/z=9\/z=10\/z=11)/\(∀v,((R v).length+1)*8<=lim)/\(i+1<=l.length/\∀v,(if v=z.toNat then R v++[(l.getD (i:Int).toNat (Ab tE)).2]else R v)=Bw (l.take (i+1)) v)/\l.length-(i+1)<l.length-i/\
  (∀P:Nat×(Nat->List Int)->Prop,P (i+1,λv=>if v=z.toNat then R v++[(l.getD (i:Int).toNat (Ab tE)).2]else R v)->∃p,P p)/\
  (∀P:List (Option Nat)->Prop,P ([some 0,some 1,some 2]++(List.range n.toNat).map λk=>if k=z.toNat then some (n.toNat+5)else some (k+3))->∃p,P p):=by
 have hi':i<l.length:=by have:=aM h;omega
 have h1:=(hgd.2.1 i hi').1;replace h1:0<=(l.getD (i:Int).toNat (Ab tE)).1/\(l.getD (i:Int).toNat (Ab tE)).1<n:=h1;refine⟨(l.getD (i:Int).toNat (Ab tE)).1,rfl,h1,by omega,λv=>?_,⟨hi',λv=>?_⟩,by omega,λP h=>⟨_,h⟩,λP h=>⟨_,h⟩⟩
 ·have h4:(R v).length<=16:=by
   rw[hR v];unfold Bw;have h2:=fA (λe:EdgT=>e.1==(v:Int)) (l.take i);have h3:=hgd.1.2.2;rw[bP]at h2;rw[bN];omega
  exact cP (cY 8 (Nat.succ_le_succ h4)) (show(16+1)*8<=lim by decide)
 ·rw[hR v];unfold Bw;rw[bS hi',eC,eL];have e:l[i]=l.getD (i:Int).toNat (Ab tE):=by
   rw[bH,aZ,aR hi'];rfl
  rw[e];by_cases hv:v=(l.getD (i:Int).toNat (Ab tE)).1.toNat
  ·rw[aP hv,dN,aP (by rw[beq_iff_eq];omega)];rfl
  ·rw[aL hv,dN,aL (by rw[beq_iff_eq];omega)];exact(cC _).symm
theorem Aos{l:List EdgT}{R:Nat->List Int}{i:Nat}(hi:i<=l.length)(hR:∀v,R v=Bw (l.take i) v)(h:decide ((i:Int)<(l.length:Int))=false):∀v,R v=Bw l v:=λv=>by
 have:¬(i:Int)<(l.length:Int):=aQ h;rw[hR v,show i=l.length by omega,dD]
theorem Aot{H:List Ob}{n:Nat}{N:Int}{id m:Nat}{l:List Nat}{d:List EdgT}{R:Nat->List Int}(hR:∀v,R v=Bw d v)(h:An H (.csl tI id m)=some (.sl tIs ((List.range N.toNat).map R),l)):
 H0 ⟨none,none,[],Fu [(true,tGr),(false,.bool)] ((N,(List.range N.toNat).map (Bw d)),true,())⟩ (.tup [.agg [.int .i64 N,.csl tI id m],.bool true]) H n:=
 Aih h (by rw[eJ λv _=>hR v])
set_option maxHeartbeats 64000000 in
theorem Ar0:GoodC Tryz.prog 65 cBuild:=by
 refine Au Aig 8 _ _ _ _ ⟨_,Tryz.func65,rfl,rfl⟩ λ(⟨n,l,()⟩:Int×List EdgT×Unit) hg=>?_
 obtain⟨hgd,n1,n12⟩:Wz n l/\1<=n/\n<=12:=hg;have hb:=@bld n l;have hn:n=1\/n=2\/n=3\/n=4\/n=5\/n=6\/n=7\/n=8\/n=9\/n=10\/n=11\/n=12:=by omega
 rcases hn with rfl|rfl|rfl|rfl|rfl|rfl|rfl|rfl|rfl|rfl|rfl|rfl
 all_goals
  refine(aF (aI (by omega) (aI (λh0=>nG h0) (λh0=>(aI (aI (by dsimp only;decide) (aI rfl (aI (by dsimp only;decide) (by dsimp only;decide)))) (λh1=>?_))))));clear h0
 refine ex4 _ (λp:Nat×(Nat->List Int)=>⟨[.any,.sl tE l,.any,.any,.ptr 0 0,.any,.ptr 2 0,.any,.any,.any,.any,.any,.any,.any,.any,.any,.csl tI 1 1,.agg [.int .i64 1,.csl tI 1 1],.sl tE l,.int .i64 (↑l.length:Int),.int .i64 (p.1:Int)]++nA 20,[.cells [.int .i64 0,.cap0],.cells [.own 3],.cells [.int .i64 1,.csl tI 1 1],.rows tI (p.2 0)],4⟩) (λp=>p.1<=l.length/\∀v,p.2 v=Bw (l.take p.1) v) (λp=>l.length-p.1) (aI (eI ((0,λ_=>[])) (eI ([some 0,some 1,some 2,none]) (aI ⟨aV _,λv=>rfl⟩ (aB (aI (by repeat' (first|exact tT|refine aI ?_ ?_|rfl)) (by rfl)))))) ?_)
 rotate_left
 refine ex4 _ (λp:Nat×(Nat->List Int)=>⟨[.any,.sl tE l,.any,.any,.ptr 0 0,.any,.ptr 2 0,.any,.any,.any,.any,.any,.any,.any,.any,.any,.csl tI 1 2,.agg [.int .i64 2,.csl tI 1 2],.sl tE l,.int .i64 (↑l.length:Int),.int .i64 (p.1:Int)]++nA 20,[.cells [.int .i64 0,.cap0],.cells [.own 3,.own 4],.cells [.int .i64 2,.csl tI 1 2],.rows tI (p.2 0),.rows tI (p.2 1)],5⟩) (λp=>p.1<=l.length/\∀v,p.2 v=Bw (l.take p.1) v) (λp=>l.length-p.1) (aI (eI ((0,λ_=>[])) (eI ([some 0,some 1,some 2,none,none]) (aI ⟨aV _,λv=>rfl⟩ (aB (aI (by repeat' (first|exact tT|refine aI ?_ ?_|rfl)) (by rfl)))))) ?_)
 rotate_left
 refine ex4 _ (λp:Nat×(Nat->List Int)=>⟨[.any,.sl tE l,.any,.any,.ptr 0 0,.any,.ptr 2 0,.any,.any,.any,.any,.any,.any,.any,.any,.any,.csl tI 1 3,.agg [.int .i64 3,.csl tI 1 3],.sl tE l,.int .i64 (↑l.length:Int),.int .i64 (p.1:Int)]++nA 20,[.cells [.int .i64 0,.cap0],.cells [.own 3,.own 4,.own 5],.cells [.int .i64 3,.csl tI 1 3],.rows tI (p.2 0),.rows tI (p.2 1),.rows tI (p.2 2)],6⟩) (λp=>p.1<=l.length/\∀v,p.2 v=Bw (l.take p.1) v) (λp=>l.length-p.1) (aI (eI ((0,λ_=>[])) (eI ([some 0,some 1,some 2,none,none,none]) (aI ⟨aV _,λv=>rfl⟩ (aB (aI (by repeat' (first|exact tT|refine aI ?_ ?_|rfl)) (by rfl)))))) ?_)
 rotate_left
 refine ex4 _ (λp:Nat×(Nat->List Int)=>⟨[.any,.sl tE l,.any,.any,.ptr 0 0,.any,.ptr 2 0,.any,.any,.any,.any,.any,.any,.any,.any,.any,.csl tI 1 4,.agg [.int .i64 4,.csl tI 1 4],.sl tE l,.int .i64 (↑l.length:Int),.int .i64 (p.1:Int)]++nA 20,[.cells [.int .i64 0,.cap0],.cells [.own 3,.own 4,.own 5,.own 6],.cells [.int .i64 4,.csl tI 1 4],.rows tI (p.2 0),.rows tI (p.2 1),.rows tI (p.2 2),.rows tI (p.2 3)],7⟩) (λp=>p.1<=l.length/\∀v,p.2 v=Bw (l.take p.1) v) (λp=>l.length-p.1) (aI (eI ((0,λ_=>[])) (eI ([some 0,some 1,some 2,none,none,none,none]) (aI ⟨aV _,λv=>rfl⟩ (aB (aI (by repeat' (first|exact tT|refine aI ?_ ?_|rfl)) (by rfl)))))) ?_)
 rotate_left
 refine ex4 _ (λp:Nat×(Nat->List Int)=>⟨[.any,.sl tE l,.any,.any,.ptr 0 0,.any,.ptr 2 0,.any,.any,.any,.any,.any,.any,.any,.any,.any,.csl tI 1 5,.agg [.int .i64 5,.csl tI 1 5],.sl tE l,.int .i64 (↑l.length:Int),.int .i64 (p.1:Int)]++nA 20,[.cells [.int .i64 0,.cap0],.cells [.own 3,.own 4,.own 5,.own 6,.own 7],.cells [.int .i64 5,.csl tI 1 5],.rows tI (p.2 0),.rows tI (p.2 1),.rows tI (p.2 2),.rows tI (p.2 3),.rows tI (p.2 4)],8⟩) (λp=>p.1<=l.length/\∀v,p.2 v=Bw (l.take p.1) v) (λp=>l.length-p.1) (aI (eI ((0,λ_=>[])) (eI ([some 0,some 1,some 2,none,none,none,none,none]) (aI ⟨aV _,λv=>rfl⟩ (aB (aI (by repeat' (first|exact tT|refine aI ?_ ?_|rfl)) (by rfl)))))) ?_)
 rotate_left
 refine ex4 _ (λp:Nat×(Nat->List Int)=>⟨[.any,.sl tE l,.any,.any,.ptr 0 0,.any,.ptr 2 0,.any,.any,.any,.any,.any,.any,.any,.any,.any,.csl tI 1 6,.agg [.int .i64 6,.csl tI 1 6],.sl tE l,.int .i64 (↑l.length:Int),.int .i64 (p.1:Int)]++nA 20,[.cells [.int .i64 0,.cap0],.cells [.own 3,.own 4,.own 5,.own 6,.own 7,.own 8],.cells [.int .i64 6,.csl tI 1 6],.rows tI (p.2 0),.rows tI (p.2 1),.rows tI (p.2 2),.rows tI (p.2 3),.rows tI (p.2 4),.rows tI (p.2 5)],9⟩) (λp=>p.1<=l.length/\∀v,p.2 v=Bw (l.take p.1) v) (λp=>l.length-p.1) (aI (eI ((0,λ_=>[])) (eI ([some 0,some 1,some 2,none,none,none,none,none,none]) (aI ⟨aV _,λv=>rfl⟩ (aB (aI (by repeat' (first|exact tT|refine aI ?_ ?_|rfl)) (by rfl)))))) ?_)
 rotate_left
 refine ex4 _ (λp:Nat×(Nat->List Int)=>⟨[.any,.sl tE l,.any,.any,.ptr 0 0,.any,.ptr 2 0,.any,.any,.any,.any,.any,.any,.any,.any,.any,.csl tI 1 7,.agg [.int .i64 7,.csl tI 1 7],.sl tE l,.int .i64 (↑l.length:Int),.int .i64 (p.1:Int)]++nA 20,[.cells [.int .i64 0,.cap0],.cells [.own 3,.own 4,.own 5,.own 6,.own 7,.own 8,.own 9],.cells [.int .i64 7,.csl tI 1 7],.rows tI (p.2 0),.rows tI (p.2 1),.rows tI (p.2 2),.rows tI (p.2 3),.rows tI (p.2 4),.rows tI (p.2 5),.rows tI (p.2 6)],10⟩) (λp=>p.1<=l.length/\∀v,p.2 v=Bw (l.take p.1) v) (λp=>l.length-p.1) (aI (eI ((0,λ_=>[])) (eI ([some 0,some 1,some 2,none,none,none,none,none,none,none]) (aI ⟨aV _,λv=>rfl⟩ (aB (aI (by repeat' (first|exact tT|refine aI ?_ ?_|rfl)) (by rfl)))))) ?_)
 rotate_left
 refine ex4 _ (λp:Nat×(Nat->List Int)=>⟨[.any,.sl tE l,.any,.any,.ptr 0 0,.any,.ptr 2 0,.any,.any,.any,.any,.any,.any,.any,.any,.any,.csl tI 1 8,.agg [.int .i64 8,.csl tI 1 8],.sl tE l,.int .i64 (↑l.length:Int),.int .i64 (p.1:Int)]++nA 20,[.cells [.int .i64 0,.cap0],.cells [.own 3,.own 4,.own 5,.own 6,.own 7,.own 8,.own 9,.own 10],.cells [.int .i64 8,.csl tI 1 8],.rows tI (p.2 0),.rows tI (p.2 1),.rows tI (p.2 2),.rows tI (p.2 3),.rows tI (p.2 4),.rows tI (p.2 5),.rows tI (p.2 6),.rows tI (p.2 7)],11⟩) (λp=>p.1<=l.length/\∀v,p.2 v=Bw (l.take p.1) v) (λp=>l.length-p.1) (aI (eI ((0,λ_=>[])) (eI ([some 0,some 1,some 2,none,none,none,none,none,none,none,none]) (aI ⟨aV _,λv=>rfl⟩ (aB (aI (by repeat' (first|exact tT|refine aI ?_ ?_|rfl)) (by rfl)))))) ?_)
 rotate_left
 refine ex4 _ (λp:Nat×(Nat->List Int)=>⟨[.any,.sl tE l,.any,.any,.ptr 0 0,.any,.ptr 2 0,.any,.any,.any,.any,.any,.any,.any,.any,.any,.csl tI 1 9,.agg [.int .i64 9,.csl tI 1 9],.sl tE l,.int .i64 (↑l.length:Int),.int .i64 (p.1:Int)]++nA 20,[.cells [.int .i64 0,.cap0],.cells [.own 3,.own 4,.own 5,.own 6,.own 7,.own 8,.own 9,.own 10,.own 11],.cells [.int .i64 9,.csl tI 1 9],.rows tI (p.2 0),.rows tI (p.2 1),.rows tI (p.2 2),.rows tI (p.2 3),.rows tI (p.2 4),.rows tI (p.2 5),.rows tI (p.2 6),.rows tI (p.2 7),.rows tI (p.2 8)],12⟩) (λp=>p.1<=l.length/\∀v,p.2 v=Bw (l.take p.1) v) (λp=>l.length-p.1) (aI (eI ((0,λ_=>[])) (eI ([some 0,some 1,some 2,none,none,none,none,none,none,none,none,none]) (aI ⟨aV _,λv=>rfl⟩ (aB (aI (by repeat' (first|exact tT|refine aI ?_ ?_|rfl)) (by rfl)))))) ?_)
 rotate_left
 refine ex4 _ (λp:Nat×(Nat->List Int)=>⟨[.any,.sl tE l,.any,.any,.ptr 0 0,.any,.ptr 2 0,.any,.any,.any,.any,.any,.any,.any,.any,.any,.csl tI 1 10,.agg [.int .i64 10,.csl tI 1 10],.sl tE l,.int .i64 (↑l.length:Int),.int .i64 (p.1:Int)]++nA 20,[.cells [.int .i64 0,.cap0],.cells [.own 3,.own 4,.own 5,.own 6,.own 7,.own 8,.own 9,.own 10,.own 11,.own 12],.cells [.int .i64 10,.csl tI 1 10],.rows tI (p.2 0),.rows tI (p.2 1),.rows tI (p.2 2),.rows tI (p.2 3),.rows tI (p.2 4),.rows tI (p.2 5),.rows tI (p.2 6),.rows tI (p.2 7),.rows tI (p.2 8),.rows tI (p.2 9)],13⟩) (λp=>p.1<=l.length/\∀v,p.2 v=Bw (l.take p.1) v) (λp=>l.length-p.1) (aI (eI ((0,λ_=>[])) (eI ([some 0,some 1,some 2,none,none,none,none,none,none,none,none,none,none]) (aI ⟨aV _,λv=>rfl⟩ (aB (aI (by repeat' (first|exact tT|refine aI ?_ ?_|rfl)) (by rfl)))))) ?_)
 rotate_left
 refine ex4 _ (λp:Nat×(Nat->List Int)=>⟨[.any,.sl tE l,.any,.any,.ptr 0 0,.any,.ptr 2 0,.any,.any,.any,.any,.any,.any,.any,.any,.any,.csl tI 1 11,.agg [.int .i64 11,.csl tI 1 11],.sl tE l,.int .i64 (↑l.length:Int),.int .i64 (p.1:Int)]++nA 20,[.cells [.int .i64 0,.cap0],.cells [.own 3,.own 4,.own 5,.own 6,.own 7,.own 8,.own 9,.own 10,.own 11,.own 12,.own 13],.cells [.int .i64 11,.csl tI 1 11],.rows tI (p.2 0),.rows tI (p.2 1),.rows tI (p.2 2),.rows tI (p.2 3),.rows tI (p.2 4),.rows tI (p.2 5),.rows tI (p.2 6),.rows tI (p.2 7),.rows tI (p.2 8),.rows tI (p.2 9),.rows tI (p.2 10)],14⟩) (λp=>p.1<=l.length/\∀v,p.2 v=Bw (l.take p.1) v) (λp=>l.length-p.1) (aI (eI ((0,λ_=>[])) (eI ([some 0,some 1,some 2,none,none,none,none,none,none,none,none,none,none,none]) (aI ⟨aV _,λv=>rfl⟩ (aB (aI (by repeat' (first|exact tT|refine aI ?_ ?_|rfl)) (by rfl)))))) ?_)
 rotate_left
 refine ex4 _ (λp:Nat×(Nat->List Int)=>⟨[.any,.sl tE l,.any,.any,.ptr 0 0,.any,.ptr 2 0,.any,.any,.any,.any,.any,.any,.any,.any,.any,.csl tI 1 12,.agg [.int .i64 12,.csl tI 1 12],.sl tE l,.int .i64 (↑l.length:Int),.int .i64 (p.1:Int)]++nA 20,[.cells [.int .i64 0,.cap0],.cells [.own 3,.own 4,.own 5,.own 6,.own 7,.own 8,.own 9,.own 10,.own 11,.own 12,.own 13,.own 14],.cells [.int .i64 12,.csl tI 1 12],.rows tI (p.2 0),.rows tI (p.2 1),.rows tI (p.2 2),.rows tI (p.2 3),.rows tI (p.2 4),.rows tI (p.2 5),.rows tI (p.2 6),.rows tI (p.2 7),.rows tI (p.2 8),.rows tI (p.2 9),.rows tI (p.2 10),.rows tI (p.2 11)],15⟩) (λp=>p.1<=l.length/\∀v,p.2 v=Bw (l.take p.1) v) (λp=>l.length-p.1) (aI (eI ((0,λ_=>[])) (eI ([some 0,some 1,some 2,none,none,none,none,none,none,none,none,none,none,none,none]) (aI ⟨aV _,λv=>rfl⟩ (aB (aI (by repeat' (first|exact tT|refine aI ?_ ?_|rfl)) (by rfl)))))) ?_)
 rotate_left
 all_goals
  rintro⟨i,R⟩ ⟨hi,hR⟩;replace hi:i<=l.length:=hi;replace hR:∀v,R v=Bw (l.take i) v:=hR;refine(aI (λk0=>(aO (aK (aI (by obtain⟨z,hz,h2,-⟩:=hb hgd (by decide) hR k0;rw[hz];exact h2) ?_)))) (λk0=>?_))
  ·obtain⟨z,hz,h2,h3,h4,h5,h6,h7,h8⟩:=hb hgd (by decide) hR k0;clear hb k0;rw[hz];clear hz;rcases h3 with rfl|rfl|rfl|rfl|rfl|rfl|rfl|rfl|rfl|rfl|rfl|rfl
   all_goals first
    |exact aT h2.2 (by decide)
    |skip
   all_goals
    refine(aD (aE (aD (aC (aE (aB (aI ?_ (aE (aE (aC (aA (aO ?_))))))))))))
    ·exact h4 _
    refine h7 _ (h8 _ (aI h5 (aI h6 (aB (aI (by repeat' (first|exact tT|refine aI ?_ ?_|rfl)) (by rfl))))))
  ·have hR2:=Aos hi hR k0;exact Aot hR2 (by rfl)
end Go.Proofs.YtpabcdbaffjcdaaGreat
