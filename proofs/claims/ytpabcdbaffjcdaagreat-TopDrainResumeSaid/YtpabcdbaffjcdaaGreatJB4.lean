/- Symbolic steps. -/
import Derived.Test.YtpabcdbaffjcdaaGreatJB3
import Derived.Tactics
import Derived.WalkSpells
import Derived.Sort.LoopGhostIn
import Derived.RangeFuncLeaves
set_option linter.unusedSimpArgs false
set_option linter.unusedVariables false
set_option maxRecDepth 100000
namespace Go.Sx
theorem Q8(n:Nat)(k:Nat->Prop):∀l,Ok n k l=k n
 |[]=>rfl
 |a::l=>by
  simp only[Ok];split
  ·rename_i h;rw[bB h]
  ·exact Q8 n k l
theorem C7(n:Nat)(k:Nat->Prop):Fo n k=k n:=Q8 n k Asq
theorem Ge:∀(l:List PV)(k:List PV->Prop),Fp l k=k l
 |[],_=>rfl
 |.int _ _::l,k=>by simp only[Fp];exact Ge l _
 |.bool _::l,k=>by simp only[Fp];exact Ge l _
 |.str _::l,k=>by simp only[Fp];exact Ge l _
 |.sl _ _::l,k=>by simp only[Fp];exact Ge l _
 |.nils::l,k=>by simp only[Fp];exact Ge l _
 |.val _::l,k=>by simp only[Fp];exact Ge l _
 |.fn _::l,k=>by simp only[Fp];exact Ge l _
mutual
theorem Fd:∀(v:AV)(k:AV->Prop),Cd v k=k v
 |.any,_=>rfl
 |.int _ _,_=>rfl
 |.bool _,_=>rfl
 |.str _,_=>rfl
 |.val _,_=>rfl
 |.nils,_=>rfl
 |.cap0,_=>rfl
 |.sl _ _,_=>rfl
 |.ptr _ _,_=>by simp only[Cd,C7]
 |.rptr _ _ _ _,_=>by simp only[Cd,C7]
 |.eptr cs,_=>by simp only[Cd,Ge]
 |.own _,_=>by simp only[Cd,C7]
 |.ownp _ _ _ _,_=>by simp only[Cd,C7]
 |.mp _,_=>by simp only[Cd,C7]
 |.fn f a b,k=>by simp only[Cd];rw[Fe a];exact Fe b _
 |.agg cs,k=>by simp only[Cd];exact Fe cs _
 |.tup vs,k=>by simp only[Cd];exact Fe vs _
 |.when _ _ _ v,k=>by simp only[Cd];exact Fd v _
 |.yld _,_=>by simp only[Cd,C7]
 |.rnd _,_=>by simp only[Cd,C7]
 |.grow _ _,_=>by simp only[Cd,C7]
 |.gptr _ _ _,_=>by simp only[Cd,C7]
 |.ownc _ _ _ _,_=>by simp only[Cd,C7]
 |.csl _ _ _,_=>by simp only[Cd,C7]
 |.slf _ _,_=>rfl
 |.dmp _,_=>rfl
theorem Fe:∀(l:List AV)(k:List AV->Prop),Hz l k=k l
 |[],_=>rfl
 |x::l,k=>by simp only[Hz];rw[Fd x];exact Fe l _
end
theorem Vr:∀(l:List (Int×AV))(k:List (Int×AV)->Prop),W9 l k=k l
 |[],_=>rfl
 |(q,x)::l,k=>by simp only[W9];rw[Fd x];exact Vr l _
theorem Ci:∀(l:List Ob)(k:List Ob->Prop),C4 l k=k l
 |[],_=>rfl
 |.dead::l,k=>by simp only[C4];exact Ci l _
 |.cells cs::l,k=>by simp only[C4];rw[Fe];exact Ci l _
 |.rows _ _::l,k=>by simp only[C4];exact Ci l _
 |.froz _ _::l,k=>by simp only[C4];exact Ci l _
 |.fmap _::l,k=>by simp only[C4];rw[Vr];exact Ci l _
 |.grid _ _ _::l,k=>by simp only[C4];exact Ci l _
 |.loop _ _ _ _ _ _::l,k=>by simp only[C4];rw[Fe];exact Ci l _
theorem Xm{α:Type}(v:α):∀(l:List α)(k:List α->Prop)(d:Nat),Agh v k l d=k (B3 v l d)
 |[],_,_=>by simp[Agh,B3]
 |_::_,_,0=>by simp[Agh,B3]
 |a::l,k,d+1=>by simp only[Agh,B3];exact Xm v l _ d
theorem Ji:∀(l:List AV)(k:List AV->Prop),J0 l k=k (l.map noW)
 |[],_=>rfl
 |x::l,k=>by
  cases x<;>simp only[J0,eD,noW]<;>exact Ji l _
theorem Vs(r:Res)(H:List Ob)(n:Nat)(K:List Ob->Nat->Prop):Xb r H n K=K (r.heap H) (n+r.news.length):=by
 unfold Xb;split
 ·rename_i h;simp only[Res.quiet,aS,List.isEmpty_iff,Option.isNone_iff_eq_none]at h;obtain⟨⟨⟨h1,h2⟩,h3⟩,h4⟩:=h;simp[Res.heap,h1,h2,h3,h4,stH,Jh,Gj]
 ·rw[Ci,C7]
theorem Qb{o:Option Prop}{p:Prop}:Y4 o p<->A7 o/\p:=by cases o<;>simp[Y4,A7]
theorem Tg{o:Option Prop}{p:Prop}:Xa o p<->(A7 o->p):=by cases o<;>simp[Xa,A7]
theorem Dy{α:Type}(d v:α):∀(l:List α)(n m:Nat),Aq d (B3 v l n) m=if n=m/\n<l.length then v else Aq d l m
 |[],n,m=>by simp[B3]
 |a::l,0,0=>by simp[B3,Aq]
 |a::l,0,m+1=>by simp[B3,Aq]
 |a::l,n+1,0=>by simp[B3,Aq]
 |a::l,n+1,m+1=>by
  simp only[B3,Aq];rw[Dy d v l n m];simp
theorem By{α:Type}(v:α):∀(l:List α)(n:Nat),(B3 v l n).length=l.length
 |[],_=>rfl
 |_::_,0=>rfl
 |a::l,n+1=>by simp only[B3,List.length_cons,By v l n]
theorem Q9{α:Type}(d:α)(l m:List α)(i:Nat):Aq d (l++m) i=if i<l.length then Aq d l i else Aq d m (i-l.length):=by
 rw[Bn,Bn,Bn,eA];split<;>rfl
theorem B4{α:Type}(d:α){l:List α}{i:Nat}(h:l.length<=i):Aq d l i=d:=by
 rw[Bn,dW h];rfl
end Go.Sx
namespace Go.Sx
open Go.RowKit
structure EnvOk(E:Env)(H:List Ob)(n:Nat):Prop where
 len:H.length=n
 ns:∀id,E.A id->id<n
 live:∀id,Ac H id≠.dead->E.L id
 wr:∀id,(Ac H id).wr->E.W id
 ok:∀id,E.L id->Ac H id≠.dead->OkOb E id (Ac H id)
 sub:∀id,E.L id->E.A id
 wl:∀id,E.W id->E.L id
 injO:∀id id' b,E.L id->E.L id'->E.Own id b->E.Own id' b->id=id'
 ltO:∀id b,E.L id->E.Own id b->E.B<=b/\b<E.w.heap.size
 f0:∀b o,E.F0 b o->b<E.B
 B:E.B<=E.w.heap.size
 hid:∀id b,E.L id->E.Own id b->¬E.Hd b
 hlt:∀b,E.Hd b->b<E.w.heap.size
theorem EnvOk.inj{E:Env}{H:List Ob}{n:Nat}(hr:EnvOk E H n)(id id':Nat)(h h':Hdr)(hl:E.L id)(hl':E.L id')(hρ:E.ρ id=some h)(hρ':E.ρ id'=some h')(hne:id≠id'):h.blk≠h'.blk:=λe=>
 hne (hr.injO id id' h.blk hl hl' (.inl ⟨h,hρ,rfl⟩) (.inl ⟨h',hρ',e.symm⟩))
theorem EnvOk.lt{E:Env}{H:List Ob}{n:Nat}(hr:EnvOk E H n)(id:Nat)(h:Hdr)(hl:E.L id)(hρ:E.ρ id=some h):E.B<=h.blk/\h.blk<E.w.heap.size:=hr.ltO id h.blk hl (.inl ⟨h,hρ,rfl⟩)
theorem EnvOk.ready{E:Env}{H:List Ob}{n:Nat}(h:EnvOk E H n)(m:Nat):Ready E n m:=
 ⟨h.sub,h.wl,h.injO,h.ltO,h.f0,h.B,λid h1 _ ha=>hX _ (cA (h.ns id ha) h1),h.hid,h.hlt⟩
theorem EnvOk.fin{E:Env}{H:List Ob}{n:Nat}(h:EnvOk E H n):∃N,∀id,E.A id->id<N:=⟨n,h.ns⟩
def Frz(o o':Ob):Prop:=o'=o\/(∃t xs,o=.rows t xs/\o'=.froz t xs)\/o'=.dead
theorem Frz.trans{a b c:Ob}(h:Frz a b)(k:Frz b c):Frz a c:=by
 rcases k with rfl|⟨t,xs,rfl,rfl⟩|rfl
 ·exact h
 ·rcases h with h|⟨_,_,_,h⟩|h
  ·exact .inr (.inl ⟨t,xs,h.symm,rfl⟩)
  ·cases h
  ·cases h
 ·exact .inr (.inr rfl)
theorem Frz.ok{E:Env}{id:Nat}{o o':Ob}(h:Frz o o')(hne:o'≠.dead)(hok:OkOb E id o):OkOb E id o':=by
 rcases h with rfl|⟨t,xs,rfl,rfl⟩|rfl
 ·exact hok
 ·exact hok
 ·exact aT rfl hne
theorem Frz.dead{o:Ob}(h:Frz .dead o):o=.dead:=by
 rcases h with rfl|⟨t,xs,h,_⟩|rfl
 ·rfl
 ·cases h
 ·rfl
theorem B8(ob:Ob)(H:List Ob)(i id:Nat):Ac (B3 ob H i) id=if i=id/\i<H.length then ob else Ac H id:=Dy _ _ _ _ _
theorem Agv(H:List Ob)(i id:Nat):Frz (Ac H id) (Ac (Vh H i) id)/\(i=id->¬(Ac (Vh H i) id).wr)/\(Vh H i).length=H.length:=by
 have lt:Ac H i≠.dead->i<H.length:=by
  intro h;rcases cN i H.length with h1|h1
  ·exact h1
  ·exact aT (B4 _ h1) h
 unfold Vh;split
 ·rename_i t xs hob;have hi:=lt (by rw[hob];simp);refine⟨?_, ?_,By _ _ _⟩
  ·rw[B8];split
   ·rename_i h;rw[<-h.1,hob];exact .inr (.inl ⟨t,xs,rfl,rfl⟩)
   ·exact .inl rfl
  ·rintro rfl;rw[B8,aP ⟨rfl,hi⟩];exact id
 ·rename_i cs hob;have hi:=lt (by rw[hob];simp);refine⟨?_, ?_,By _ _ _⟩
  ·rw[B8];split
   ·exact .inr (.inr rfl)
   ·exact .inl rfl
  ·rintro rfl;rw[B8,aP ⟨rfl,hi⟩];exact id
 ·rename_i es hob;have hi:=lt (by rw[hob];simp);refine⟨?_, ?_,By _ _ _⟩
  ·rw[B8];split
   ·exact .inr (.inr rfl)
   ·exact .inl rfl
  ·rintro rfl;rw[B8,aP ⟨rfl,hi⟩];exact id
 ·rename_i t m xss hob;have hi:=lt (by rw[hob];simp);refine⟨?_, ?_,By _ _ _⟩
  ·rw[B8];split
   ·exact .inr (.inr rfl)
   ·exact .inl rfl
  ·rintro rfl;rw[B8,aP ⟨rfl,hi⟩];exact id
 ·rename_i a1 a2 a3 a4 a5 a6 hob;have hi:=lt (by rw[hob];simp);refine⟨?_, ?_,By _ _ _⟩
  ·rw[B8];split
   ·exact .inr (.inr rfl)
   ·exact .inl rfl
  ·rintro rfl;rw[B8,aP ⟨rfl,hi⟩];exact id
 ·rename_i h1 h2 h3 h4 h5;refine⟨.inl rfl, ?_,rfl⟩;rintro rfl;cases hob:Ac H i with
  |grid t m xss=>exact aT hob (h4 t m xss)
  |loop a1 a2 a3 a4 a5 a6=>exact aT hob (h5 a1 a2 a3 a4 a5 a6)
  |fmap es=>exact aT hob (h3 es)
  |cells cs=>exact aT hob (h2 cs)
  |rows t xs=>exact aT hob (h1 t xs)
  |_=>exact id
theorem Frz.wr{o o':Ob}(h:Frz o o')(hw:o'.wr):o.wr:=by
 rcases h with rfl|⟨t,xs,rfl,rfl⟩|rfl
 ·exact hw
 ·trivial
 ·exact aT hw id
theorem Dq:∀(ids:List Nat)(H:List Ob)(id:Nat),Frz (Ac H id) (Ac (Gj ids H) id)/\(id∈ids->¬(Ac (Gj ids H) id).wr)/\(Gj ids H).length=H.length
 |[],H,id=>⟨.inl rfl,by simp,rfl⟩
 |i::ids,H,id=>by
  obtain⟨h1,h2,h3⟩:=Agv H i id;obtain⟨k1,k2,k3⟩:=Dq ids (Vh H i) id;refine⟨h1.trans k1,λhid hw=>?_,k3.trans h3⟩;rcases cT.1 hid with rfl|hid
  ·exact h2 rfl (k1.wr hw)
  ·exact k2 hid hw
theorem Agw(k:Option Nat)(H:List Ob)(id:Nat)(hlt:∀i,k=some i->i<H.length):Ac (Jh k H) id=if k=some id then .dead else Ac H id:=by
 cases k with
 |none=>simp[Jh]
 |some i=>
  simp only[Jh,B8,aU];have:=hlt i rfl;simp[this]
theorem K9(k:Option Nat)(H:List Ob):(Jh k H).length=H.length:=by
 cases k<;>simp[Jh,By]
theorem La(st:Option (Nat×Ob))(H:List Ob):(stH st H).length=H.length:=by
 cases st<;>simp[stH,By]
theorem Anb(st:Option (Nat×Ob))(H:List Ob)(id:Nat)(hlt:∀p,st=some p->p.1<H.length):(∃ob,st=some (id,ob)/\Ac (stH st H) id=ob)\/((∀p,st=some p->p.1≠id)/\Ac (stH st H) id=Ac H id):=by
 cases st with
 |none=>exact .inr ⟨λp h=>(by cases h),rfl⟩
 |some p=>
  obtain⟨i,ob⟩:=p;by_cases h:i=id
  ·subst h;have:=hlt _ rfl;exact .inl ⟨ob,rfl,by show Ac (B3 ob H i) i=ob;rw[B8,aP ⟨rfl,this⟩]⟩
  ·refine .inr ⟨λp hp=>(by cases hp;exact h), ?_⟩;simp only[stH,B8];rw[aL (λh'=>h h'.1)]
structure TurnOk(E:Env)(H:List Ob)(r:Res):Prop where
 kill:∀id,r.kill=some id->E.A id/\(Ac H id).wr
 st:∀p,r.st=some p->E.A p.1/\(Ac H p.1).wr
theorem Dz{o:Ob}(h:o.wr):o≠.dead:=by rintro rfl;exact h
theorem Cw{H:List Ob}{id:Nat}(h:Ac H id≠.dead):id<H.length:=by
 rcases cN id H.length with h1|h1
 ·exact h1
 ·exact aT (B4 _ h1) h
section
variable {E E':Env}{H:List Ob}{n:Nat}{r:Res}
def Xn(n:Nat)(r:Res):Nat->Prop:=λid=>(Ac r.news (id-n)).wr
theorem Hu(hl:H.length=n)(ht:TurnOk E H r)(id:Nat):
 (∃j,id=n+j/\Ac (r.heap H) id=Ac r.news j)\/
   (id<n/\∃ob,((∃ob',r.st=some (id,ob')/\ob=ob')\/((∀p,r.st=some p->p.1≠id)/\ob=Ac H id))/\
     (r.kill=some id->Ac (r.heap H) id=.dead)/\(r.kill≠some id->Frz ob (Ac (r.heap H) id))/\(id∈r.frz->¬(Ac (r.heap H) id).wr)):=by
 have hst:∀p,r.st=some p->p.1<H.length:=λp hp=>Cw (Dz (ht.st p hp).2)
 have hk:∀i,r.kill=some i->i<(stH r.st H).length:=λi hi=>by rw[La];exact Cw (Dz (ht.kill i hi).2)
 have hlen:(Gj r.frz (Jh r.kill (stH r.st H))).length=n:=by rw[(Dq _ _ 0).2.2,K9,La,hl]
 unfold Res.heap;have hget:Ac (Gj r.frz (Jh r.kill (stH r.st H))++r.news) id=if id<n then Ac (Gj r.frz (Jh r.kill (stH r.st H))) id else Ac r.news (id-n):=by
  unfold Ac;rw[Q9,hlen]
 by_cases hid:id<n
 ·right;rw[aP hid]at hget;rw[hget];obtain⟨g1,g2,_⟩:=Dq r.frz (Jh r.kill (stH r.st H)) id;rw[Agw _ _ _ hk]at g1;have:∃ob,((∃ob',r.st=some (id,ob')/\ob=ob')\/((∀p,r.st=some p->p.1≠id)/\ob=Ac H id))/\Ac (stH r.st H) id=ob:=by
   rcases Anb r.st H id hst with⟨ob,h1,h2⟩|⟨h1,h2⟩
   ·exact⟨ob,.inl ⟨ob,h1,rfl⟩,h2⟩
   ·exact⟨Ac H id,.inr ⟨h1,rfl⟩,h2⟩
  obtain⟨ob,h1,h2⟩:=this;refine⟨hid,ob,h1,λh=>?_,λh=>?_,g2⟩
  ·rw[aP h]at g1;exact g1.dead
  ·rw[aL h,h2]at g1;exact g1
 ·left;rw[aL hid]at hget;exact⟨id-n,by omega,hget⟩
theorem EnvOk.step(h:EnvOk E H n)(hx:Ext E n r (Xn n r) E')(ht:TurnOk E H r):EnvOk E' (r.heap H) (n+r.news.length):=by
 have hB:E'.B=E.B:=(hx.evo 0).B;have hF:E'.F0=E.F0:=(hx.evo 0).F0;have newlt:∀j,Ac r.news j≠.dead->j<r.news.length:=λj hj=>Cw hj
 have stL:∀p,r.st=some p->E.L p.1:=λp hp=>h.live p.1 (Dz (ht.st p hp).2)
 refine⟨?_, ?_, ?_, ?_, ?_, ?_, ?_,hx.injO,hx.ltO, ?_, ?_,hx.hid,λb hb=>cA (h.hlt b (by rw[<-(hx.evo 0).Hd];exact hb)) (hx.evo 0).below.size⟩
 ·unfold Res.heap;rw[bD,(Dq _ _ 0).2.2,K9,La,h.len]
 ·intro id ha;rcases(hx.A id).1 ha with ha|⟨_,h2⟩
  ·have:=h.ns id ha;omega
  ·exact h2
 ·intro id hne;rcases Hu h.len ht id with⟨j,rfl,hg⟩|⟨hid,ob,hob,hk,hf,_⟩
  ·rw[hg]at hne;exact(hx.L _).2 (.inr ⟨by omega,by have:=newlt j hne;omega⟩)
  ·have hnk:r.kill≠some id:=λhk'=>hne (hk hk')
   refine(hx.L _).2 (.inl ⟨?_,hnk⟩);rcases hob with⟨ob',hst,rfl⟩|⟨_,rfl⟩
   ·exact stL _ hst
   ·refine h.live id λhd=>hne ?_
    have:=hf hnk;rw[hd]at this;exact this.dead
 ·intro id hw;rcases Hu h.len ht id with⟨j,rfl,hg⟩|⟨hid,ob,hob,hk,hf,hfw⟩
  ·rw[hg]at hw;refine(hx.W _).2 (.inr ⟨by omega,by have:=newlt j (Dz hw);omega, ?_⟩);show(Ac r.news (n+j-n)).wr;rw[eM];exact hw
  ·have hnk:r.kill≠some id:=λhk'=>Dz hw (hk hk')
   refine(hx.W _).2 (.inl ⟨?_,hnk,λhm=>hfw hm hw⟩);rcases hob with⟨ob',hst,rfl⟩|⟨_,rfl⟩
   ·exact h.wr id (ht.st _ hst).2
   ·exact h.wr id ((hf hnk).wr hw)
 ·intro id hl hne;rcases Hu h.len ht id with⟨j,rfl,hg⟩|⟨hid,ob,hob,hk,hf,hfw⟩
  ·rw[hg]at hne ⊢;exact hx.new j _ (C1 (newlt j hne))
  ·have hnk:r.kill≠some id:=λhk'=>hne (hk hk')
   refine(hf hnk).ok hne ?_;rcases hob with⟨ob',hst,rfl⟩|⟨hst,rfl⟩
   ·exact hx.st id _ hst
   ·have hl':E.L id:=(((hx.L id).1 hl).resolve_right λh'=>by omega).1;refine hx.old id _ hl' hnk hst (h.ok id hl' λhd=>hne ?_);have:=hf hnk;rw[hd]at this;exact this.dead
 ·intro id hl;rcases(hx.L id).1 hl with⟨h1,_⟩|h1
  ·exact(hx.A id).2 (.inl (h.sub id h1))
  ·exact(hx.A id).2 (.inr h1)
 ·intro id hw;rcases(hx.W id).1 hw with⟨h1,h2,_⟩|⟨h1,h2,_⟩
  ·exact(hx.L id).2 (.inl ⟨h.wl id h1,h2⟩)
  ·exact(hx.L id).2 (.inr ⟨h1,h2⟩)
 ·intro b o hb;rw[hF]at hb;rw[hB];exact h.f0 b o hb
 ·rw[hB];exact cP h.B (hx.evo 0).below.size
end
structure Marks(E:Env)(ds:List Deferred):Prop where
 each:∀d∈ds,∃b,d={ target:=.collected b,args:=#[] }/\E.M<=b/\E.Nb b/\E.w.heap[b]?=some (.deferred (some []))
 two:ds.Pairwise (λd d'=>d.target≠d'.target)
theorem Marks.nil(E:Env):Marks E []:=⟨λd h=>by simp at h,.nil⟩
theorem Marks.mono{n:Nat}{E E':Env}{ds:List Deferred}(h:Marks E ds)(hE:Evo n E E'):Marks E' ds:=by
 refine⟨λd hd=>?_,h.two⟩;obtain⟨b,h1,h2,h3,h4⟩:=h.each d hd;obtain⟨h5,h6⟩:=hE.hp b h3;exact⟨b,h1,by rw[hE.M];exact h2,h5,h6.trans h4⟩
structure SlOk(E:Env)(a:Act)(sl:List AV):Prop where
 size:a.tmps.size=sl.length
 rd:∀t,RdA E (a.eval (.tmp t)) (Aq .any sl t)
 stat:Iy sl
 defers:Marks E a.defers
theorem SlOk.mono{E E':Env}{a:Act}{sl:List AV}{n:Nat}(h:SlOk E a sl)(hE:Evo n E E')(hA:∀id,E.A id->id<n):SlOk E' a sl:=
 ⟨h.size,λt=>(h.rd t).mono hE hA,h.stat,h.defers.mono hE⟩
theorem Qc{d:Nat}:∀{sl:List AV},Sy d sl=true->∀(t:Nat) c s w v,sl[t]?=some (.when c s w v)->s≠d
 |[],_,t,c,s,w,v,h=>by simp at h
 |x::l,h0,0,c,s,w,v,h=>by
  cases h;simp only[Sy]at h0;split at h0
  ·cases h0
  ·rename_i hne;intro e;subst e;exact hne (gD s)
 |x::l,h0,t+1,c,s,w,v,h=>by
  refine Qc (sl:=l) ?_ t c s w v (by simpa using h);cases x<;>simp only[Sy]at h0<;>first|exact h0|(split at h0<;>first|cases h0|exact h0)
theorem SlOk.put{E:Env}{a:Act}{sl:List AV}{dst:Option Tmp}{u:Value}{v:AV}{K:List AV->Prop}(h:SlOk E a sl)(hv:RdA E u v)
 (hw:∀c s w x,v=.when c s w x->F4 sl s w=some c/\∀c' s' w' v',x≠.when c' s' w' v')(hk:N1 dst v sl K):∃sl',K sl'/\SlOk E (a.put dst u) sl'/\sl'.length=sl.length:=by
 cases dst with
 |none=>exact⟨sl,hk,h,rfl⟩
 |some d=>
  simp only[N1]at hk;split at hk
  ·rename_i hc;simp only[aS]at hc;obtain⟨h1,h2,h3⟩:=hc;have hd:d<sl.length:=cB h1;rw[Xm]at hk;have cond:∀s w,s≠d->F4 (B3 v sl d) s w=F4 sl s w:=by
    intro s w hs;unfold F4;rw[Dy,aL (λh=>hs h.1.symm)]
   refine⟨_,hk,⟨?_, ?_, ?_,h.defers⟩,By _ _ _⟩
   ·simp[Act.put,By,h.size]
   ·intro t;rw[Dy];by_cases ht:d=t
    ·subst ht;rw[aP ⟨rfl,hd⟩];have:(a.put (some d) u).eval (.tmp d)=u:=by
      have hd':d<a.tmps.size:=by rw[h.size];exact hd
      simp[Act.put,Act.eval,bR,hd']
     rw[this];exact hv
    ·rw[aL (λh=>ht h.1)];have:(a.put (some d) u).eval (.tmp t)=a.eval (.tmp t):=by
      simp only[Act.put,Act.eval,bR,dV];rw[aL ht]
     rw[this];exact h.rd t
   ·intro t c s w x ht;have hg:Aq .any (B3 v sl d) t=.when c s w x:=by rw[Bn,ht];rfl
    rw[Dy]at hg;by_cases htd:d=t
    ·subst htd;rw[aP ⟨rfl,hd⟩]at hg;subst hg;have hs:s≠d:=by
      simp only[R4,bM,]at h3;intro e;subst e;rw[gD]at h3;cases h3
     rw[cond s w hs];exact hw c s w x rfl
    ·rw[aL (λh=>htd h.1)]at hg;have ht':sl[t]?=some (.when c s w x):=by
      rw[Bn]at hg;cases hg2:sl[t]? with
      |none=>rw[hg2]at hg;cases hg
      |some y=>rw[hg2]at hg;simp only[dC]at hg;rw[hg]
     rw[cond s w (Qc h2 t c s w x ht')];exact h.stat t c s w x ht'
  ·exact hk.elim
end Go.Sx
namespace Go.Sx
open Go.RowKit
theorem Anc{n:Nat}{news:List Ob}{x y:AV}(h:Nf n news x=some y):∀c s w v,y≠.when c s w v:=by
 intro c s w v hy;subst hy;cases x with
 |fn f xs ys=>
  simp only[Nf]at h;split at h<;>cases h
 |_=>
  simp only[Nf]at h
  repeat' split at h
  all_goals first
   |cases h;done
   |(simp only[bC]at h;obtain⟨_,_,h⟩:=h;cases h)
def And(P:Program)(call:CallSem):Prop:=
 ∀g args H n K,call g args H n K->∀(E:Env)(vs:Array Value),EnvOk E H n->vs.size=args.length->(∀(i:Nat) v x,vs[i]?=some v->args[i]?=some x->RdA E v x)->
  (∃fn,P.funcs[g]?=some fn/\fn.body.isSome=true/\(fn.name == "runtime.NumGoroutine")=false)/\
  Calls P g vs E.w (λen w'=>∃v E' x H' n',en=.returned v/\E'.w=w'/\n<=n'/\EnvOk E' H' n'/\RdA E' v x/\Evo n E E'/\K x H' n')
def Ane(P:Program)(call:CallSem):Prop:=
 ∀id args H n K,call 0 (.rnd id::args) H n K->∀(E:Env)(vs:Array Value),EnvOk E H n->vs.size=args.length->(∀(i:Nat) v x,vs[i]?=some v->args[i]?=some x->RdA E v x)->
  Ac H id≠.dead/\∀hd,E.ρ id=some hd->∃fn tmps x y,(Instr.yield hd.blk vs).run P E.w=.ok (.round hd.blk fn tmps x y) E.w/\
   RoundIn (fen none) 0 P hd.blk fn tmps x y E.w (λen w'=>∃v E' z H' n',en=.returned v/\E'.w=w'/\n<=n'/\EnvOk E' H' n'/\RdA E' v z/\Evo n E E'/\K z H' n')
def Bb(P:Program)(call:CallSem):Prop:=And P call/\Ane P call
section
variable {P:Program}{cx:Ctx}{call:CallSem}{E:Env}{a:Act}{dr:Bool}{ops:List Oper}{opsA:Array Oper}{o:Oper}{sl:List AV}{H:List Ob}{n:Nat}{r:Res}
 {K:Ls}{K':Act->World->Prop}{Q:Exit->Act->World->Prop}{ro:Option Nat}
theorem Th(h:Ew cx P dr ops o sl H n=some r){c:Prop}{s:Nat}{w:Bool}{x:AV}(hv:r.val=.when c s w x):F4 sl s w=some c/\∀c' s' w' v',x≠.when c' s' w' v':=by
 unfold Ew at h;split at h
 ·split at h
  ·cases h;exact aT hv (H5 _ _ _ _ _)
  ·cases h
 ·repeat' split at h
  all_goals first
   |cases h;done
   |(cases h;cases hv;exact⟨‹_›,Anc ‹_›⟩)
theorem Lb(hrd:∀t∈Dj ops o,RdA E (a.eval (.tmp t)) (Aq .any sl t))(h:Ew cx P dr ops o sl H n=some r):TurnOk E H r:=by
 unfold Ew at h;split at h
 ·split at h
  ·rename_i q g v news kill st frz hev;cases h;have hrd':∀x∈o.op.operands.toList,RdA E (a.eval x) (ev sl x):=Apk λt ht=>hrd t (Ka ht)
   obtain⟨h1,h2⟩:=K8 hev;refine⟨λid hid=>?_,λp hp=>?_⟩
   ·obtain⟨⟨x,hx,hn⟩,t,xs,hob⟩:=h1 id hid;exact⟨Sb (hrd' x hx) hn,by rw[hob];trivial⟩
   ·obtain⟨⟨x,hx,hn⟩,hob⟩:=h2 p hp;exact⟨Sb (hrd' x hx) hn,hob⟩
  ·cases h
 ·repeat' split at h
  all_goals first
   |cases h;done
   |(cases h;exact⟨λid hid=>(by cases hid),λp hp=>(by cases hp)⟩)
theorem StPre.of(hcx:Ai P cx)(hE:EnvOk E H n)(hs:SlOk E a sl)(hn:A7 r.need):StPre P cx E a dr ops o sl H n r:=
 ⟨hcx,λm _=>hE.ready m,hE.fin,λid _=>hE.live id,hE.ok,λid _ _=>hE.wr id,λt _=>hs.rd t,hs.stat,hn⟩
theorem Aeo{x:AV}{q:Prop}{v:Value}(hE:EnvOk E H n)(hx:RdA E v x)(h:nilQ.nilF H x=some q):∃a m c,v=.slice a m c/\(a=none->q):=by
 unfold nilQ.nilF at h;split at h
 ·cases h;rcases hx.sl_inv.sl_inv with⟨rfl,b,c,rfl⟩|⟨b,o,c,g,rfl,_⟩
  ·exact⟨_,_,_,rfl,λ_=>rfl⟩
  ·exact⟨_,_,_,rfl,λh=>by cases h⟩
 ·cases h;obtain⟨b,rfl⟩:=hx.cap0_inv;exact⟨_,_,_,rfl,λ_=>trivial⟩
 ·cases h;obtain⟨b,c,rfl⟩:=hx.nils_inv;exact⟨_,_,_,rfl,λ_=>trivial⟩
 ·rename_i id;have key:∀(t:Ty)(xs:List t.den),Ac H id≠.dead->RowsAt E t xs (E.ρ id)->∃a m c,v=.slice a m c/\(a=none->xs=[]):=by
   intro t xs hne hrow;have hv:=hx.own_inv.2.2 (hE.live id hne);cases hρ:E.ρ id with
   |none=>
    rw[hρ]at hv hrow;obtain⟨b,rfl⟩:=hv;exact⟨_,_,_,rfl,λ_=>hrow⟩
   |some hd=>
    rw[hρ]at hv;exact⟨_,_,_,hv,λh=>by cases h⟩
  split at h
  ·rename_i t xs hob;cases h;have hne:Ac H id≠.dead:=by rw[hob];simp
   have hok:=hE.ok id (hE.live id hne) hne;rw[hob]at hok;exact key t xs hne hok
  ·rename_i t xs hob;cases h;have hne:Ac H id≠.dead:=by rw[hob];simp
   have hok:=hE.ok id (hE.live id hne) hne;rw[hob]at hok;exact key t xs hne hok
  ·cases h
 ·cases h
theorem Anf{op:BinOp}{t:TypeId}{x:AV}{eq:Bool}{q:Prop}{v:Value}(hE:EnvOk E H n)(hx:RdA E v x)(h:nilQ P H op t x=some (eq,q))(w:World):
 ∃b,(binOp op t v (.slice none 0 0)).run P w=.ok (.bool b) w/\(b=eq->q):=by
 unfold nilQ at h;cases ht:P.underlying t with
 |none=>rw[ht]at h;cases h
 |some u=>
  rw[ht]at h;cases u with
  |slice e=>
   cases op with
   |eql=>
    simp only[bC,bG]at h;obtain⟨q',hq,rfl,rfl⟩:=h;obtain⟨a,m,c,rfl,hn⟩:=Aeo hE hx hq;exact⟨_,Lib.run_eql_slice_nil w t e a m c 0 0 ht,λh=>hn (by simpa using h)⟩
   |neq=>
    simp only[bC,bG]at h;obtain⟨q',hq,rfl,rfl⟩:=h;obtain⟨a,m,c,rfl,hn⟩:=Aeo hE hx hq;exact⟨_,run_neq_slice_nil_any w t e a m c 0 0 ht,λh=>hn (by simpa using h)⟩
   |_=>cases h
  |_=>cases h
theorem Ang(hcx:Ai P cx)(h:Ew cx P dr ops o sl H n=some r){k:AV->Prop}(hk:Ap7 cx H n o sl r.val k):k r.val:=by
 unfold Ap7 at hk;split at hk
 ·rename_i c hg hop;split at hk
  ·rename_i f hcal;split at hk
   ·rename_i g xs ys hf;split at hk
    ·rename_i shs C hC;split at hk
     ·rename_i args' ids hlow;split at hk
      ·rename_i cr gen hcr;have hgood:=(hcx g shs C hC).gen _ _ hcr _ hk;have hval:r.val=noW (shift n cr.res):=by
        obtain⟨dst,op',ty,pos,after,guard⟩:=o;obtain⟨callee,args,ts⟩:=c;simp only at hop hcal hg;subst hop;subst hcal;subst hg;simp only[Ew,evOp]at h;rw[hf]at h;simp only[Q2,hC,hlow,hcr]at h
        repeat' split at h
        all_goals first
         |cases h;done
         | (rename_i heq;repeat' split at heq
            all_goals first
             |cases heq;done
             | (cases heq;cases h;rfl))
       rw[hval];exact hgood
      ·exact hk
     ·exact hk
    ·exact hk
   ·exact hk
  ·exact hk
 ·exact hk
theorem Aep{kk:IntKind}{ok:Bool}{q:Int}{zr:AV}{k:AV->Prop}:∀(l:List MapEntry)(es:List (Int×AV))(i:Nat),l.length=es.length->
 (∀(i:Nat) m p,l[i]?=some m->es[i]?=some p->m.key=.int .i64 p.1/\RdA E m.val p.2)->Vi ok q zr k es->
 (∃j u x,Instr.findNow (.int kk) (.int .i64 q) l i=some (some (j,u))/\RdA E u x/\k (match ok with|true=>.tup [x,.bool true]|false=>x))\/
 (Instr.findNow (.int kk) (.int .i64 q) l i=some none/\k (match ok with|true=>.tup [zr,.bool false]|false=>zr))
 |[],[],_,_,_,h=>.inr ⟨rfl,h⟩
 |[],_::_,_,hl,_,_=>by simp at hl
 |_::_,[],_,hl,_,_=>by simp at hl
 |m::l,p::es,i,hl,hk,h=>by
  obtain⟨h1,h2⟩:=hk 0 m p rfl rfl;simp only[Vi,bO,bF]at h;by_cases hq:q=p.1
  ·refine .inl ⟨i,m.val,p.2, ?_,h2,h.1 hq⟩;simp[Instr.findNow,h1,Instr.sameNow,hq]
  ·have h3:(q==p.1)=false:=by simpa using hq
   simp only[Instr.findNow,h1,Instr.sameNow,if_true,h3];exact Aep l es (i+1) (by simpa using hl) (λi m p hm hp=>hk (i+1) m p (by simpa using hm) (by simpa using hp)) (h.2 hq)
theorem Agx{t:TypeId}{m x:AV}{ok:Bool}{vm vx:Value}{es:List (Int×AV)}{q:Int}{k:AV->Prop}(hE:EnvOk E H n)(hm:RdA E vm m)(hx:RdA E vx x)(h:Ap6 P H t m x=some (es,q))
 (hk:Vi ok q (Ol P t) k es\/∃v,N0 q (Ol P t) es=some v/\k (Sw ok v (Nz q es))):
 ∃v y,(Instr.lookup t vm vx ok).run P E.w=.ok v E.w/\RdA E v y/\k y:=by
 unfold Ap6 at h;split at h
 ·rename_i kt et hu;split at h
  ·rename_i kk z id q' hkt hz;split at h
   ·rename_i es' hob;cases h;have hA:=hm.mp_inv.1;have hne:Ac H id≠.dead:=by rw[hob];simp
    have hl:=hE.live id hne;have hok:=hE.ok id hl hne;rw[hob]at hok;obtain⟨hd,hρ,ms,clock,hb,hsz,hes⟩:=hok;obtain⟨hd',hρ',hval⟩:=hm.mp_inv.2.2 hl;rw[hρ]at hρ';cases hρ';have hxv:=hx.int_inv;subst hval;subst hxv;have hck:=λb=>K0 (P:=P) hkt b q E.w
    have hzr:=J5 hz E.w;have hZ:RdA E z (Ol P t):=by
     unfold Ol;rw[hu];simp only[hz];exact Iw z
    rcases hk with hk|⟨y,hy,hk⟩
    ·rcases Aep (kk:=kk) ms.toList es 0 (by simpa using hsz) (λi m p hm hp=>hes i m p (by simpa using hm) hp) hk with⟨j,u,y,h1,h2,h3⟩|⟨h1,h2⟩
     ·cases ok
      ·exact⟨u,y,by simp[Instr.lookup,run_underlying hu,run_underlying hkt,Instr.findKey,h1,hck,getObj,Sem.run,hb],h2,h3⟩
      ·exact⟨_,_,by simp[Instr.lookup,run_underlying hu,run_underlying hkt,Instr.findKey,h1,hck,getObj,Sem.run,hb],Mn true h2,h3⟩
     ·cases ok
      ·exact⟨z,_,by simp[Instr.lookup,run_underlying hu,run_underlying hkt,Instr.findKey,h1,hck,getObj,Sem.run,hb,hzr],hZ,h2⟩
      ·exact⟨_,_,by simp[Instr.lookup,run_underlying hu,run_underlying hkt,Instr.findKey,h1,hck,getObj,Sem.run,hb,hzr],Mn false hZ,h2⟩
    ·rcases Ach (kk:=kk) (q:=q) (zr:=Ol P t) ms.toList es 0 (by simpa using hsz) (λi m p hm hp=>hes i m p (by simpa using hm) hp)with⟨j,u,h1,h2,h3⟩|⟨h1,h2,h3⟩
     ·rw[h3]at hk;cases ok
      ·exact⟨u,y,by simp[Instr.lookup,run_underlying hu,run_underlying hkt,Instr.findKey,h1,hck,getObj,Sem.run,hb],Ij hy h2,hk⟩
      ·exact⟨_,_,by simp[Instr.lookup,run_underlying hu,run_underlying hkt,Instr.findKey,h1,hck,getObj,Sem.run,hb],Mn true (Ij hy h2),hk⟩
     ·rw[h3]at hk;have hZ':=Ij hy (by rw[h2];exact hZ);cases ok
      ·exact⟨z,_,by simp[Instr.lookup,run_underlying hu,run_underlying hkt,Instr.findKey,h1,hck,getObj,Sem.run,hb,hzr],hZ',hk⟩
      ·exact⟨_,_,by simp[Instr.lookup,run_underlying hu,run_underlying hkt,Instr.findKey,h1,hck,getObj,Sem.run,hb,hzr],Mn false hZ',hk⟩
   ·cases h
  ·cases h
 ·cases h
theorem Jj{as:Act}(hs:SlOk E as sl)(hag:∀t∈Dj ops o,a.eval (.tmp t)=as.eval (.tmp t)):∀x∈o.op.operands.toList,RdA E (a.eval x) (ev sl x):=λx hx=>by
 cases x with
 |tmp t=>rw[hag t (Ka hx)];exact hs.rd t
 |const v=>exact Iw v
 |global g=>exact .any _
 |func f=>exact .fn _ _ _ _ _ rfl rfl (λi v x hv _=>by simp at hv) (λi v x hv _=>by simp at hv)
theorem Zo(hcall:Bb P call)(hE:EnvOk E H n){dst:Option Tmp}{f:Operand}{args:Array Operand}{ts:Array TypeId}{ty:TypeId}{pos:String}{after:Array Go.Edge}{guard:Option (Nat×Bool)}{x:AV}{e:Operand->AV}{k:AV->List Ob->Nat->Prop}
 (hf:RdA E (a.eval f) x)(hx:∀y∈args.toList,RdA E (a.eval y) (e y))(h:Aee call x (args.toList.map e) H n k)
 (hK:∀E' v z H' n',RdA E' v z->k z H' n'->EnvOk E' H' n'->Evo n E E'->n<=n'->K' (a.put dst v) E'.w):
 (⟨dst,.call ⟨.value f,args,ts⟩,ty,pos,after,guard⟩:Oper).wpI ro P a E.w K' Q:=by
 unfold Aee at h;split at h
 ·rename_i g xs ys;obtain⟨vs,h1,h2,h3⟩:=Vq (P:=P) (args:=args) (e:=e) hf hx;obtain⟨⟨fn,g1,g2,g3⟩,hc⟩:=hcall.1 g _ H n _ h E vs hE h2 h3;refine Aeg (w':=E.w) (f:=g) (args:=vs) (by rw[h1,F7 g1 g2 g3]) (hc.mono λen w' hpost=>?_);obtain⟨v,E',z,H',n',rfl,rfl,hn',hE',hv,hevo,hk⟩:=hpost;exact⟨v,rfl,hK E' v z H' n' hv hk hE' hevo hn'⟩
 ·rename_i id;have hm:=P3 (a:=a) (E:=E) (e:=e) (l:=args) hx;obtain⟨hne,hr⟩:=hcall.2 id _ H n _ h E (args.map a.eval) hE (by simp) (λi v y hv hy=>hm.2 i v y hv hy);have hl:=hE.live id hne;obtain⟨hd,hρ,hval⟩:=hf.yld_inv.2.2 hl;obtain⟨fn,tmps,x,y,h1,h2⟩:=hr hd hρ;refine Ai5 (w':=E.w) (l:=hd.blk) (f:=fn) (tmps:=tmps) (x:=x) (y:=y) ?_ (h2.mono λen w' hpost=>?_)
  ·have:(execOp a.eval ⟨dst,.call ⟨.value f,args,ts⟩,ty,pos,after,guard⟩).run P E.w=(Instr.yield hd.blk (args.map a.eval)).run P E.w:=by
    simp[execOp,Go.resolve,hval,Deferred.ofValue,invoke]
   rw[this];exact h1
  ·obtain⟨v,E',z,H',n',rfl,rfl,hn',hE',hv,hevo,hk⟩:=hpost;exact⟨v,rfl,hK E' v z H' n' hv hk hE' hevo hn'⟩
 ·exact h.elim
theorem Zp{as:Act}(hcx:Ai P cx)(hcall:Bb P call)(hE:EnvOk E H n)(hs:SlOk E as sl)(hag:∀t∈Dj opsA.toList o,a.eval (.tmp t)=as.eval (.tmp t))(h:Vj cx P call opsA.toList o sl H n K)
 (hK:∀E' v sl' H' n',K sl' H' n'->EnvOk E' H' n'->SlOk E' (as.put o.dst v) sl'->Evo n E E'->n<=n'->K' (a.put o.dst v) E'.w):
 (Region.wanted o (yielded opsA a.tmps)=true/\o.wpI ro P a E.w K' Q)\/(Region.wanted o (yielded opsA a.tmps)=false/\K' (a.put o.dst undef) E.w):=by
 unfold Vj at h;split at h
 ·rename_i r hr;rw[Qb,Tg]at h;obtain⟨hn,h⟩:=h;refine Tf (wn:=Xn n r) ⟨hcx,λm _=>hE.ready m,hE.fin,λid _=>hE.live id,hE.ok,λid _ _=>hE.wr id,λt ht=>(by rw[hag t ht];exact hs.rd t),hs.stat,hn⟩ hr λE' v hx hgiv hv=>?_
  have h:=h hgiv;rw[Vs]at h;have h:=Ang hcx hr h;rw[Fd]at h;obtain⟨sl',h1,h2,_⟩:=(hs.mono (hx.evo n) hE.ns).put hv (λc s w x hw=>Th hr hw) h;exact hK E' _ sl' _ _ h1 (hE.step hx (Lb (E:=E) (a:=as) (λt _=>hs.rd t) hr)) h2 (hx.evo n) (iE _ _)
 ·split at h
  ·rename_i c hg hop;left;refine⟨by simp[Region.wanted,hg], ?_⟩;split at h
   ·rename_i f hcal;obtain⟨dst,op,ty,pos,after,guard⟩:=o;obtain⟨callee,args,ts⟩:=c;simp only at hop hcal hg;subst hop;subst hcal;subst hg;have rd:=Jj (a:=a) hs hag;refine Zo hcall hE (rd f (by simp[Op.operands,Call.operands])) (λx hm=>rd x (by simp only[Op.operands,Call.operands];simp;exact .inr (by simpa using hm))) h λE' v z H' n' hv hk hE' hevo hn'=>?_
    obtain⟨sl',k1,k2,_⟩:=(hs.mono hevo hE.ns).put (F8 hv) (λc s w x hw=>aT hw (H5 _ _ _ _ _)) hk;exact hK E' _ sl' H' n' k1 hE' k2 hevo hn'
   ·exact h.elim
  ·rename_i j w c hg hop;split at h
   ·rename_i f hcal;split at h
    ·exact h.elim
    ·rename_i s hs0;split at h
     ·rename_i e hev;obtain⟨dst,op,ty,pos,after,guard⟩:=o;obtain⟨callee,args,ts⟩:=c;simp only at hop hcal hg;subst hop;subst hcal;subst hg;have rd:=Jj (a:=a) hs hag;have hlook:s∈Dj opsA.toList ⟨dst,.call ⟨.value f,args,ts⟩,ty,pos,after,some (j,w)⟩:=by
       unfold Dj;refine fQ _ ?_;simp[hs0]
      have hsv:a.eval (.tmp s)=.bool e:=by
       have:=hs.rd s;rw[hev]at this;rw[hag s hlook];exact this.bool_inv
      have hc:F4 sl s w=some (e=w):=by unfold F4;rw[hev]
      have hwt:=Td (a:=a) (o:=⟨dst,.call ⟨.value f,args,ts⟩,ty,pos,after,some (j,w)⟩) (opsA:=opsA) rfl hs0;by_cases hew:e=w
      ·left;have hsw:a.eval (.tmp s)=.bool w:=by rw[hsv,hew]
       refine⟨hwt.2 hsw, ?_⟩;have un:∀x∈(Op.call ⟨.value f,args,ts⟩).operands.toList,RdA E (a.eval x) (Ku s w (ev sl x)):=λx hx=>by
        refine Mi (rd x hx) (λc' w' v'' hx' hv'=>?_) hsw;obtain⟨t,rfl,ht⟩:=Sa hx';have hrs:RdA E (a.eval (.tmp s)) (Aq .any sl s):=by rw[hsv,hev];exact .bool _
        exact(Mq (hs.stat t c' s w' v'' ht).1 hrs).1 hv'
       refine Zo hcall hE (un f (by simp[Op.operands,Call.operands])) (λx hm=>un x (by simp only[Op.operands,Call.operands];simp;exact .inr (by simpa using hm))) (h.1 hew) λE' v z H' n' hv hk hE' hevo hn'=>?_
       obtain⟨sl',k1,k2,_⟩:=(hs.mono hevo hE.ns).put (RdA.when v (e=w) s w (noW z) (λ_=>F8 hv) (λhn=>aT hew hn)) (λc s' w' x hw=>by
        cases hw;exact⟨hc,λ_ _ _ _=>H5 _ _ _ _ _⟩) hk
       exact hK E' _ sl' H' n' k1 hE' k2 hevo hn'
      ·right;have hnw:Region.wanted ⟨dst,.call ⟨.value f,args,ts⟩,ty,pos,after,some (j,w)⟩ (yielded opsA a.tmps)=false:=by
        rw[fM];intro h2;have:=hwt.1 h2;rw[hsv]at this;cases this;exact hew rfl
       refine⟨hnw, ?_⟩;have he2:e=!w:=by cases e<;>cases w<;>simp_all
       obtain⟨sl',k1,k2,_⟩:=hs.put (RdA.when undef (e=w) s w (Ab6 P ty) (λh=>aT h hew) (λ_=>rfl)) (λc s' w' x hw=>by
        cases hw;refine⟨hc,λc' s'' w'' v' hv'=>?_⟩;unfold Ab6 at hv';split at hv'<;>cases hv') (h.2 he2)
       exact hK E undef sl' H n k1 hE k2 (Evo.refl _ _) (bA _)
     ·exact h.elim
   ·exact h.elim
  ·rename_i op t x u hg hop;left;refine⟨by simp[Region.wanted,hg], ?_⟩;split at h
   ·rename_i eq q hq;obtain⟨dst,op',ty,pos,after,guard⟩:=o;simp only at hop hg;subst hop;subst hg;have rd:=Jj (a:=a) hs hag x (by simp[Op.operands]);obtain⟨b,hb,hbq⟩:=Anf (P:=P) hE rd hq E.w;have hgd:(eqGuard op t x (.const (.slice none 0 0)) (a.eval x) (.slice none 0 0)).run P E.w=.ok () E.w:=by
     unfold eqGuard;split<;>simp
    generalize hval:a.eval x=val at hb hgd;have hcn:a.eval (.const (.slice none 0 0))=.slice none 0 0:=rfl;refine Cu (v:=.bool b) (w':=E.w) (by simp[execOp,hval,hcn,hgd,hb]) ?_;obtain⟨sl',k1,k2,_⟩:=hs.put (RdA.bool b) (λc s w x hw=>by cases hw) (h b hbq);exact hK E _ sl' H n k1 hE k2 (Evo.refl _ _) (bA _)
   ·exact h.elim
  ·rename_i t m k ok hg hop;left;refine⟨by simp[Region.wanted,hg], ?_⟩;split at h
   ·rename_i es q hq;obtain⟨dst,op',ty,pos,after,guard⟩:=o;simp only at hop hg;subst hop;subst hg;have rd:=Jj (a:=a) hs hag;have h':=Or.imp_right (a:=Vi ok q (Ol P t) (λv=>Cd (noW v) (λv'=>N1 dst v' sl (λsl'=>K sl' H n))) es) (c:=∃v,N0 q (Ol P t) es=some v/\(λv=>Cd (noW v) (λv'=>N1 dst v' sl (λsl'=>K sl' H n))) (Sw ok v (Nz q es))) (λ⟨v,h1,h2⟩=>by
     refine⟨v,h1, ?_⟩;have:noW (Sw ok v (Nz q es))=Sw ok v (Nz q es):=by
      cases ok
      ·unfold N0 at h1
       repeat' split at h1
       all_goals first
        |cases h1;done
        |(cases h1;rfl)
      ·rfl
     show Cd (noW (Sw ok v (Nz q es))) _;rw[this];exact h2) h
    clear h;have h:=h';obtain⟨v,y,h1,h2,h3⟩:=Agx hE (rd m (by simp[Op.operands])) (rd k (by simp[Op.operands])) hq h;rw[Fd]at h3;refine Cu (v:=v) (w':=E.w) (by simp[execOp,h1]) ?_;obtain⟨sl',k1,k2,_⟩:=hs.put (F8 h2) (λc s w x hw=>aT hw (H5 _ _ _ _ _)) h3;exact hK E _ sl' H n k1 hE k2 (Evo.refl _ _) (bA _)
   ·exact h.elim
  ·exact h.elim
theorem Ajm(hcx:Ai P cx)(hcall:Bb P call)(hE:EnvOk E H n)(hs:SlOk E a sl)(h:Vj cx P call opsA.toList o sl H n K)
 (hK:∀E' a' sl' H' n',K sl' H' n'->EnvOk E' H' n'->SlOk E' a' sl'->Evo n E E'->n<=n'->K' a' E'.w):
 (Region.wanted o (yielded opsA a.tmps)=true/\o.wpI ro P a E.w K' Q)\/(Region.wanted o (yielded opsA a.tmps)=false/\K' (a.put o.dst undef) E.w):=
 Zp hcx hcall hE hs (λ_ _=>rfl) h λE' v sl' H' n'=>hK E' _ sl' H' n'
theorem Vt(hcx:Ai P cx)(hcall:Bb P call):∀(rest:List Oper){E:Env}{a:Act}{sl:List AV}{H:List Ob}{n:Nat}{K:Ls},EnvOk E H n->SlOk E a sl->Ab7 cx P call opsA.toList rest sl H n K->
 (∀E' a' sl' H' n',K sl' H' n'->EnvOk E' H' n'->SlOk E' a' sl'->Evo n E E'->n<=n'->Q .normal a' E'.w)->wpListIn (fen ro) 0 P opsA Q rest a E.w
 |[],E,a,sl,H,n,K,hE,hs,h,hK=>hK E a sl H n h hE hs (Evo.refl _ _) (bA _)
 |o::rest,E,a,sl,H,n,K,hE,hs,h,hK=>by
  have:=Ajm (ro:=ro) (K':=wpListIn (fen ro) 0 P opsA Q rest) (Q:=Q) hcx hcall hE hs h λE' a' sl' H' n' hk hE' hs' hevo hn=>by
   exact Vt hcx hcall rest hE' hs' hk λE'' a'' sl'' H'' n'' hk' hE'' hs'' hevo' hn'=>
    hK E'' a'' sl'' H'' n'' hk' hE'' hs'' (hevo.trans (hevo'.mono hn)) (cP hn hn')
  simp only[wpListIn];rcases this with⟨h1,h2⟩|⟨h1,h2⟩
  ·rw[aP h1];exact h2
  ·rw[aL (by rw[h1];simp)];exact⟨λ_ _=>trivial,h2⟩
end
end Go.Sx
namespace Go.Sx
open Go.RowKit
theorem L2(n:Nat)(E:Env):Evo n E { E with w:={ E.w with drawn:=E.w.drawn+1 } }:=
 ⟨rfl,rfl,rfl,(Below.refl _ _).drew,λ_ _ h=>h,λ_ _ _ h=>⟨h,rfl⟩,λ_ _ _ _ _ _ h=>h,λ_ h=>⟨h,rfl⟩,rfl,λ_ _=>rfl⟩
theorem EnvOk.drew{E:Env}{H:List Ob}{n:Nat}(h:EnvOk E H n):EnvOk { E with w:={ E.w with drawn:=E.w.drawn+1 } } H n:=
 ⟨h.len,h.ns,h.live,h.wr,λid hl hne=>OkOb.mono (L2 n E) h.ns (h.sub id hl) hl rfl (λ_ _=>rfl) (h.ok id hl hne),h.sub,h.wl,h.injO,h.ltO,h.f0,h.B,h.hid,h.hlt⟩
section
variable {P:Program}{cx:Ctx}{call:CallSem}{E:Env}{a:Act}{opsA:Array Oper}{sl:List AV}{H:List Ob}{n:Nat}{r:Res}{e:Operand->AV}
 {K:Ls}{Q:Exit->Act->World->Prop}{ro:Option Nat}
theorem Ti{o:Oper}(hL:∀id,E.A id->Ac H id≠.dead->E.L id)(hH:∀id,E.L id->Ac H id≠.dead->OkOb E id (Ac H id))(hx:∀x∈o.op.operands.toList,RdA E (a.eval x) (e x))(hn:A7 r.need)
 (hst:Xc o.op=true)(h:evOp cx P e H n o=some r):PureRun P E a o r:=by
 obtain⟨dst,op,ty,pos,after,guard⟩:=o;cases op with
 |move x=>exact Ai6 (hx x (by simp[Op.operands])) h
 |assign x=>exact Zd (hx x (by simp[Op.operands])) h
 |extract x i=>exact Vk (hx x (by simp[Op.operands])) h
 |makeFunc f xs ys=>exact S5 (λx hm=>hx x (by simp only[Op.operands,fZ,dG];exact .inl hm)) (λx hm=>hx x (by simp only[Op.operands,fZ,dG];exact .inr hm)) h
 |load t x=>exact Aja hL hH (hx x (by simp[Op.operands])) hn h
 |nilCheck x=>exact S6 (hx x (by simp[Op.operands])) h
 |binOp op t x y u=>exact Aei (hx x (by simp[Op.operands])) (hx y (by simp[Op.operands])) hn h
 |unOp op t x=>exact Ai9 (hx x (by simp[Op.operands])) hn h
 |convert s d x=>exact Vl (hx x (by simp[Op.operands])) hn h
 |fieldAddr t x f=>exact Q5 (hx x (by simp[Op.operands])) h
 |field t x f=>exact Aeh (hx x (by simp[Op.operands])) h
 |index t x ix=>exact Aej (hx x (by simp[Op.operands])) (hx ix (by simp[Op.operands])) hn h
 |indexAddr t x ix=>exact Q6 hL hH (hx x (by simp[Op.operands])) (hx ix (by simp[Op.operands])) hn h
 |slice t x lo hi mx=>exact Aek hL hH (hx x (by simp[Op.operands])) (λo ho=>hx o (by simp[Op.operands,ho])) (λo ho=>hx o (by simp[Op.operands,ho])) (λo ho=>hx o (by simp[Op.operands,ho])) hn h
 |call c=>
  obtain⟨callee,args,ts⟩:=c;cases callee with
  |builtin b=>
   cases b with
   |len=>exact Api rfl hL hH (λx hm=>hx x (by simp only[Op.operands,Call.operands];simpa using hm)) hn h
   |_=>cases hst
  |_=>cases hst
 |_=>cases hst
end
end Go.Sx
namespace Go.Sx
open Go.RowKit
theorem Qd{σ:List (Option Nat)}{H:List Ob}:∀{τ:List (Option Nat)}{l:List Ob},Eh σ H τ l->∀i,Ac l i≠.dead->
 (∃j,Aq none τ i=some j/\((∃cs ds,Ac l i=.cells cs/\Ac H j=.cells ds/\Oo cs ds=Hb σ cs/\cs.length=ds.length)\/(∃t xs,Ac l i=.rows t xs/\Ac H j=.rows t xs)\/
   (∃t xs,Ac l i=.froz t xs/\(Ac H j=.rows t xs\/Ac H j=.froz t xs))\/(∃t m xss,Ac l i=.grid t m xss/\Ac H j=.grid t m xss)\/
   ∃st pe ps x y sl sl',Ac l i=.loop st pe ps x y sl/\Ac H j=.loop st pe ps x y sl'/\Oo sl sl'=Hb σ sl/\sl.length=sl'.length))\/(Aq none τ i=none/\∃t,Ac l i=.rows t [])
 |τ,[],_,i,hne=>aT (B4 _ (by simp)) hne
 |[],ob::l,h,i,_=>by cases ob<;>exact h.elim
 |x::τ,ob::l,h,i,hne=>by
  have tail:∀{k},Eh σ H τ l->Ac (ob::l) (k+1)≠.dead->_:=λ{k} h0 hne=>Qd (i:=k) h0 hne
  have t0:∀k,Ac (ob::l) (k+1)=Ac l k:=λ_=>rfl
  cases i with
  |succ k=>
   have h0:Eh σ H τ l:=by
    cases x<;>cases ob<;>simp only[Eh]at h<;>first|exact h.2|exact h|exact h.elim
   exact tail h0 hne
  |zero=>
   cases x with
   |none=>
    right;cases ob with
    |rows t xs=>simp only[Eh]at h;obtain⟨rfl,_⟩:=h;exact⟨rfl,t,rfl⟩
    |dead=>exact aT rfl hne
    |_=>simp only[Eh]at h
   |some j=>
    left;refine⟨j,rfl, ?_⟩;cases ob with
    |dead=>exact aT rfl hne
    |cells cs=>
     simp only[Eh]at h;obtain⟨h1,_⟩:=h;cases hob:Ac H j with
     |cells ds=>rw[hob]at h1;exact .inl ⟨cs,ds,rfl,rfl,h1⟩
     |_=>rw[hob]at h1;exact h1.elim
    |fmap es=>simp only[Eh]at h
    |rows t xs=>simp only[Eh]at h;exact .inr (.inl ⟨t,xs,rfl,h.1⟩)
    |froz t xs=>
     simp only[Eh]at h;obtain⟨h1,_⟩:=h;refine .inr (.inr (.inl ⟨t,xs,rfl, ?_⟩));cases hob:Ac H j with
     |rows t' ys=>rw[hob]at h1;cases h1;exact .inl rfl
     |froz t' ys=>rw[hob]at h1;exact .inr h1
     |_=>rw[hob]at h1;exact h1.elim
    |grid t m xss=>simp only[Eh]at h;exact .inr (.inr (.inr (.inl ⟨t,m,xss,rfl,h.1⟩)))
    |loop st pe ps x y sl=>
     simp only[Eh]at h;obtain⟨h1,_⟩:=h;cases hob:Ac H j with
     |loop st' pe' ps' x' y' sl'=>
      rw[hob]at h1;obtain⟨⟨rfl,rfl,rfl,rfl,rfl⟩,h2,h3⟩:=h1;exact .inr (.inr (.inr (.inr ⟨_,_,_,_,_,_,_,rfl,rfl,h2,h3⟩)))
     |_=>rw[hob]at h1;exact h1.elim
theorem Gp:∀{τ:List (Option Nat)}{l:List Ob}{seen:List Nat},distinct τ l seen=true->τ.length=l.length/\
 (∀i j,Ac l i≠.dead->Aq none τ i=some j->j ∉ seen)/\∀i i' j,Ac l i≠.dead->Ac l i'≠.dead->Aq none τ i=some j->Aq none τ i'=some j->i=i'
 |[],[],_,_=>⟨rfl,λi j h=>aT (B4 _ (by simp)) h,λi i' j h=>aT (B4 _ (by simp)) h⟩
 |[],ob::l,_,h=>by simp[distinct]at h
 |x::τ,[],_,h=>by cases x<;>simp[distinct]at h
 |none::τ,ob::l,seen,h=>by
  simp only[distinct]at h;obtain⟨h1,h2,h3⟩:=Gp h;refine⟨by simp[h1],λi j hne hj=>?_,λi i' j hne hne' hj hj'=>?_⟩
  ·cases i with
   |zero=>cases hj
   |succ i=>exact h2 i j hne hj
  ·cases i with
   |zero=>cases hj
   |succ i=>
    cases i' with
    |zero=>cases hj'
    |succ i'=>exact bI (· + 1) (h3 i i' j hne hne' hj hj')
 |some k::τ,ob::l,seen,h=>by
  by_cases hd:ob=.dead
  ·subst hd;simp only[distinct]at h;obtain⟨h1,h2,h3⟩:=Gp h;refine⟨by simp[h1],λi j hne hj=>?_,λi i' j hne hne' hj hj'=>?_⟩
   ·cases i with
    |zero=>exact aT rfl hne
    |succ i=>exact h2 i j hne hj
   ·cases i with
    |zero=>exact aT rfl hne
    |succ i=>
     cases i' with
     |zero=>exact aT rfl hne'
     |succ i'=>exact bI (· + 1) (h3 i i' j hne hne' hj hj')
  ·have h':k ∉ seen/\distinct τ l (k::seen)=true:=by
    cases ob<;>first|exact aT rfl hd|(simp only[distinct,aS,bM,List.contains_eq_mem,bF]at h;exact h)
   obtain⟨hk,h⟩:=h';obtain⟨h1,h2,h3⟩:=Gp h;refine⟨by simp[h1],λi j hne hj=>?_,λi i' j hne hne' hj hj'=>?_⟩
   ·cases i with
    |zero=>cases hj;exact hk
    |succ i=>exactλhm=>h2 i j hne hj (dQ _ hm)
   ·cases i with
    |zero=>
     cases i' with
     |zero=>rfl
     |succ i'=>cases hj;exact aT (dK) (h2 i' _ hne' hj')
    |succ i=>
     cases i' with
     |zero=>cases hj';exact aT (dK) (h2 i _ hne hj)
     |succ i'=>exact bI (· + 1) (h3 i i' j hne hne' hj hj')
theorem Mr:∀{n0 k:Nat}{τ:List (Option Nat)}{l:List Ob},keeps n0 k τ l=true->∀i,i<n0->Ac l i≠.dead->Aq none τ i=some (k+i)
 |0,_,_,_,_,i,hi,_=>aT hi (eE i)
 |n0+1,k,τ,[],_,i,_,hne=>aT (B4 _ (by simp)) hne
 |n0+1,k,[],ob::l,h,i,_,_=>by simp[keeps]at h
 |n0+1,k,none::τ,ob::l,h,i,hi,hne=>by
  simp only[keeps,aS]at h;cases i with
  |zero=>cases ob<;>first|exact aT rfl hne|(simp at h)
  |succ i=>
   have:=Mr h.2 i (by omega) hne;show Aq none τ i=_;rw[this];congr 1;omega
 |n0+1,k,some j::τ,ob::l,h,i,hi,hne=>by
  simp only[keeps,aS]at h;cases i with
  |zero=>
   have:Nat.beq k j=true:=by
    cases ob<;>first|exact aT rfl hne|exact h.1
   show some j=_;rw[bB this];rfl
  |succ i=>
   have:=Mr h.2 i (by omega) hne;show Aq none τ i=_;rw[this];congr 1;omega
theorem L3(σ:List (Option Nat)):∀(l:List AV),(Hb σ l).length=l.length/\∀i:Nat,(Hb σ l)[i]?=(l[i]?).map (ren σ)
 |[]=>⟨rfl,λi=>by simp[Hb]⟩
 |x::l=>by
  have ih:=L3 σ l;refine⟨by simp[Hb,ih.1],λi=>?_⟩;cases i with
  |zero=>simp[Hb]
  |succ i=>simpa[Hb]using ih.2 i
theorem Ox{σ:List (Option Nat)}:∀{l m c:List AV},l.length=m.length->Oo l m=Hb σ c->l=c->∀(i:Nat) x y,l[i]?=some x->m[i]?=some y->x=.any\/y=ren σ x\/y=.cap0/\∃t,x=.sl t []
 |[],m,_,_,_,_,i,x,y,hx,_=>by simp at hx
 |x0::l,[],_,h,_,_,i,x,y,_,_=>by simp at h
 |x0::l,y0::m,_,h,h',rfl,i,x,y,hx,hy=>by
  have hl:l.length=m.length:=by simpa using h
  have hc:(x0=.any\/y0=ren σ x0\/y0=.cap0/\∃t,x0=.sl t [])/\Oo l m=Hb σ l:=by
   cases x0 with
   |sl t xs=>
    cases y0 with
    |cap0=>
     simp only[Oo,Hb,List.cons.injEq]at h';exact⟨.inr (.inr ⟨rfl,t,h'.1.symm⟩),h'.2⟩
    |_=>
     simp only[Oo,Hb,List.cons.injEq]at h';exact⟨.inr (.inl h'.1),h'.2⟩
   |_=>simp only[Oo,Hb,List.cons.injEq]at h'<;>first|exact⟨.inl rfl,h'.2⟩|exact⟨.inr (.inl h'.1),h'.2⟩
  cases i with
  |zero=>cases hx;cases hy;exact hc.1
  |succ i=>exact Ox hl hc.2 rfl i x y (by simpa using hx) (by simpa using hy)
theorem RdA.tup_inv{E:Env}{v:Value}{xs:List AV}(h:RdA E v (.tup xs)):∃vs:Array Value,v=.tuple vs/\vs.size=xs.length/\∀(i:Nat) u x,vs[i]?=some u->xs[i]?=some x->RdA E u x:=
 match h with|.tup vs _ h1 h2=>⟨vs,rfl,h1,h2⟩
theorem RdA.bad{E:Env}{v:Value}(h:RdA E v bad):False:=by
 unfold Sx.bad at h;cases h;rename_i h;exact aT h (by simp[Value.oneCell'])
def Env.retell(E:Env)(σ:List (Option Nat))(T:List Ob):Env where
 w:=E.w
 B:=E.B
 F0:=E.F0
 ρ:=λid=>match Aq none σ id with|some j=>E.ρ j|none=>none
 L:=λid=>Ac T id≠.dead
 W:=λid=>(Ac T id).wr
 A:=λid=>id<T.length
 K:=λid=>match Aq none σ id with|some j=>E.K j|none=>λ_=>none
 M:=E.M
 Hd:=E.Hd
section
variable {E:Env}{H T:List Ob}{n n0:Nat}{σ:List (Option Nat)}
theorem Bo(hE:EnvOk E H n)(ho:Eh σ H σ T){id j:Nat}(hne:Ac T id≠.dead)(hj:Aq none σ id=some j):E.L j/\((Ac T id).wr->E.W j):=by
 rcases Qd ho id hne with⟨j',hj',h⟩|⟨hj',_⟩
 ·rw[hj]at hj';cases hj';rcases h with⟨cs,ds,h1,h2,_⟩|⟨t,xs,h1,h2⟩|⟨t,xs,h1,h2⟩|⟨t,m,xss,h1,h2⟩|⟨_,_,_,_,_,_,_,h1,h2,_⟩
  ·exact⟨hE.live j (by rw[h2];simp),λ_=>hE.wr j (by rw[h2];trivial)⟩
  ·exact⟨hE.live j (by rw[h2];simp),λ_=>hE.wr j (by rw[h2];trivial)⟩
  ·refine⟨hE.live j ?_,λhw=>?_⟩
   ·rcases h2 with h2|h2<;>rw[h2]<;>simp
   ·rw[h1]at hw;exact hw.elim
  ·exact⟨hE.live j (by rw[h2];simp),λ_=>hE.wr j (by rw[h2];trivial)⟩
  ·exact⟨hE.live j (by rw[h2];simp),λ_=>hE.wr j (by rw[h2];trivial)⟩
 ·rw[hj]at hj';cases hj'
theorem Iz{id b:Nat}(h:(E.retell σ T).Own id b):∃j,Aq none σ id=some j/\E.Own j b:=by
 rcases h with⟨hd,hρ,hb⟩|⟨i,hd,hK,hb⟩
 ·simp only[Env.retell]at hρ;split at hρ
  ·rename_i j hj;exact⟨j,hj,.inl ⟨hd,hρ,hb⟩⟩
  ·cases hρ
 ·simp only[Env.retell]at hK;cases hj:Aq none σ id with
  |some j=>rw[hj]at hK;exact⟨j,rfl,.inr ⟨i,hd,hK,hb⟩⟩
  |none=>rw[hj]at hK;cases hK
theorem Ms(hE:EnvOk E H n)(ho:Eh σ H σ T){b:Nat}(h:E.Nb b):(E.retell σ T).Nb b:=by
 refine⟨h.1,λid hW hown=>?_,h.2.2⟩;have hW':(Ac T id).wr:=hW;obtain⟨j,hj,h2⟩:=Iz hown;exact h.2.1 j ((Bo hE ho (Dz hW') hj).2 hW') h2
theorem Hf(hE:EnvOk E H n)(ho:Eh σ H σ T){b o:Nat}(h:E.Fz b o):(E.retell σ T).Fz b o:=by
 rcases h with⟨h1,h2⟩|⟨h1,h2⟩
 ·exact .inl ⟨h1,h2⟩
 ·exact .inr ⟨h1,Ms hE ho h2⟩
mutual
theorem Xo(hE:EnvOk E H n)(ho:Eh σ H σ T)(hl:σ.length=T.length):∀(y:AV){v:Value},RdA E v (ren σ y)->RdA (E.retell σ T) v y
 |.any,v,_=>.any v
 |.int _ _,v,h=>by rw[show v=_ from RdA.int_inv h];exact .int _ _
 |.bool _,v,h=>by rw[show v=_ from RdA.bool_inv h];exact .bool _
 |.str _,v,h=>by simp only[ren]at h;cases h;exact .str _
 |.val _,v,h=>by simp only[ren]at h;cases h;exact .val _ ‹_›
 |.nils,v,h=>by obtain⟨_,_,rfl⟩:=RdA.nils_inv h;exact .nils _ _
 |.cap0,v,h=>by obtain⟨_,rfl⟩:=RdA.cap0_inv h;exact .cap0 _
 |.sl t xs,v,h=>.sl _ _ _ ((RdA.sl_inv h).monoF λb o hb=>Hf hE ho hb)
 |.eptr cs,v,h=>by
  simp only[ren]at h;cases h;rename_i b o g hcell hrd;exact .eptr b o cs g (λj hj=>⟨Hf hE ho (hcell j hj).1,(hcell j hj).2⟩) (λj p hp=>(hrd j p hp).monoF λb o hb=>Hf hE ho hb)
 |.ptr id off,v,h=>by
  simp only[ren]at h;split at h
  ·rename_i j hj;obtain⟨h1,h2,h3⟩:=h.ptr_inv;have hlt:id<T.length:=by
    rcases cN id σ.length with h|h
    ·omega
    ·rw[B4 _ h]at hj;cases hj
   refine .ptr _ id off hlt h2 λhl=>?_
   obtain⟨hd,h4,h5⟩:=h3 (Bo hE ho hl hj).1;exact⟨hd,by simp only[Env.retell,hj];exact h4,h5⟩
  ·exact h.bad.elim
 |.rptr id k row off,v,h=>by
  simp only[ren]at h;split at h
  ·rename_i j hj;obtain⟨h1,h2,h3⟩:=h.rptr_inv;have hlt:id<T.length:=by
    rcases cN id σ.length with h|h
    ·omega
    ·rw[B4 _ h]at hj;cases hj
   refine .rptr _ id k row off hlt h2 λhl=>?_
   obtain⟨hd,h4,h5⟩:=h3 (Bo hE ho hl hj).1;exact⟨hd,by simp only[Env.retell,hj];exact h4,h5⟩
  ·exact h.bad.elim
 |.own id,v,h=>by
  simp only[ren]at h;split at h
  ·rename_i hlt;have hlt':id<T.length:=by rw[<-hl];exact cB hlt
   split at h
   ·rename_i j hj;obtain⟨h1,h2,h3⟩:=h.own_inv;refine .own _ id hlt' h2 λhl=>?_
    have:=h3 (Bo hE ho hl hj).1;simp only[Env.retell,hj];exact this
   ·rename_i hj;obtain⟨ba,rfl⟩:=RdA.cap0_inv h;refine .own _ id hlt' rfl λ_=>?_
    simp only[Env.retell,hj];exact⟨ba,rfl⟩
  ·exact h.bad.elim
 |.ownp id k lo m,v,h=>by
  simp only[ren]at h;split at h
  ·rename_i j hj;obtain⟨h1,h2,h3⟩:=h.ownp_inv;have hlt:id<T.length:=by
    rcases cN id σ.length with h|h
    ·omega
    ·rw[B4 _ h]at hj;cases hj
   refine .ownp _ id k lo m hlt h2 λhl=>?_
   have:=h3 (Bo hE ho hl hj).1;simp only[Env.retell,hj];exact this
  ·exact h.bad.elim
 |.mp id,v,h=>by
  simp only[ren]at h;split at h
  ·rename_i j hj;obtain⟨h1,h2,h3⟩:=h.mp_inv;have hlt:id<T.length:=by
    rcases cN id σ.length with h|h
    ·omega
    ·rw[B4 _ h]at hj;cases hj
   refine .mp _ id hlt h2 λhl=>?_
   have:=h3 (Bo hE ho hl hj).1;simp only[Env.retell,hj];exact this
  ·exact h.bad.elim
 |.fn f a b,v,h=>by
  simp only[ren]at h;obtain⟨vs,ws,rfl,h1,h2,h3,h4⟩:=Acl h;have ga:=L3 σ a;have gb:=L3 σ b;exact .fn f vs ws a b (by rw[h1,ga.1]) (by rw[h2,gb.1]) (λi u x hu hx=>Oy hE ho hl a i u x hx (h3 i u _ hu (by rw[ga.2,hx];rfl)))
   (λi u x hu hx=>Oy hE ho hl b i u x hx (h4 i u _ hu (by rw[gb.2,hx];rfl)))
 |.agg cs,v,h=>by
  simp only[ren]at h;obtain⟨vs,rfl,h1,h2,h3⟩:=h.agg_inv;have g:=L3 σ cs;exact .agg vs cs (by rw[h1,g.1]) h2 (λi u x hu hx=>Oy hE ho hl cs i u x hx (h3 i u _ hu (by rw[g.2,hx];rfl)))
 |.tup cs,v,h=>by
  simp only[ren]at h;obtain⟨vs,rfl,h1,h3⟩:=h.tup_inv;have g:=L3 σ cs;exact .tup vs cs (by rw[h1,g.1]) (λi u x hu hx=>Oy hE ho hl cs i u x hx (h3 i u _ hu (by rw[g.2,hx];rfl)))
 |.when _ _ _ _,v,h=>by simp only[ren]at h;exact h.bad.elim
 |.rnd _,v,h=>by simp only[ren]at h;exact h.bad.elim
 |.dmp es,v,h=>by
  show RdA _ v (.dmp es);cases h with
  |dmp b _ ms clock hB hb hh hsz hes=>exact .dmp b es ms clock hB (Ms hE ho hb) hh hsz hes
 |.slf t xs,v,h=>by
  simp only[ren]at h;obtain⟨⟨ba,rfl⟩,h2⟩:=h.slf_inv;exact .slf t xs ba (h2.monoF λb o hb=>Hf hE ho hb)
 |.yld id,v,h=>by
  simp only[ren]at h;split at h
  ·rename_i j hj;obtain⟨h1,h2,h3⟩:=h.yld_inv;have hlt:id<T.length:=by
    rcases cN id σ.length with h|h
    ·omega
    ·rw[B4 _ h]at hj;cases hj
   refine .yld _ id hlt h2 λhl=>?_
   have:=h3 (Bo hE ho hl hj).1;simp only[Env.retell,hj];exact this
  ·exact h.bad.elim
 |.grow id i,v,h=>by
  simp only[ren]at h;split at h
  ·rename_i j hj;obtain⟨h1,h2,h3⟩:=h.grow_inv;have hlt:id<T.length:=by
    rcases cN id σ.length with h|h
    ·omega
    ·rw[B4 _ h]at hj;cases hj
   refine .grow _ id i hlt h2 λhl=>?_
   have:=h3 (Bo hE ho hl hj).1;simp only[Env.retell,hj];exact this
  ·exact h.bad.elim
 |.gptr id i k,v,h=>by
  simp only[ren]at h;split at h
  ·rename_i j hj;obtain⟨h1,h2,h3⟩:=h.gptr_inv;have hlt:id<T.length:=by
    rcases cN id σ.length with h|h
    ·omega
    ·rw[B4 _ h]at hj;cases hj
   refine .gptr _ id i k hlt h2 λhl=>?_
   have:=h3 (Bo hE ho hl hj).1;simp only[Env.retell,hj];exact this
  ·exact h.bad.elim
 |.csl t id m,v,h=>by
  simp only[ren]at h;split at h
  ·rename_i j hj;obtain⟨h1,h2,h3⟩:=h.csl_inv;have hlt:id<T.length:=by
    rcases cN id σ.length with h|h
    ·omega
    ·rw[B4 _ h]at hj;cases hj
   refine .csl _ t id m hlt h2 λhl=>?_
   have:=h3 (Bo hE ho hl hj).1;simp only[Env.retell,hj];exact this
  ·exact h.bad.elim
 |.ownc id k lo m,v,h=>by
  simp only[ren]at h;split at h
  ·rename_i j hj;obtain⟨h1,h2,h3⟩:=h.ownc_inv;have hlt:id<T.length:=by
    rcases cN id σ.length with h|h
    ·omega
    ·rw[B4 _ h]at hj;cases hj
   refine .ownc _ id k lo m hlt h2 λhl=>?_
   have:=h3 (Bo hE ho hl hj).1;simp only[Env.retell,hj];exact this
  ·exact h.bad.elim
theorem Oy(hE:EnvOk E H n)(ho:Eh σ H σ T)(hl:σ.length=T.length):∀(l:List AV)(i:Nat)(u:Value)(x:AV),l[i]?=some x->RdA E u (ren σ x)->RdA (E.retell σ T) u x
 |[],i,u,x,hx,_=>by simp at hx
 |y::l,0,u,x,hx,h=>by
  have:y=x:=by simpa using hx
  subst this;exact Xo hE ho hl y h
 |y::l,i+1,u,x,hx,h=>Oy hE ho hl l i u x (by simpa using hx) h
end
theorem Qe{a:Act}{sl:List AV}{S:St}(hE:EnvOk E H n)(hs:SlOk E a sl)(h:J1 n0 σ sl H n S):
 EnvOk (E.retell σ S.H) S.H S.n/\SlOk (E.retell σ S.H) a S.sl/\Evo n0 E (E.retell σ S.H)/\n0<=S.n:=by
 obtain⟨T,TH,m⟩:=S;obtain⟨h1,h2,ho,h4⟩:=h;simp only at h1 h2 ho h4 ⊢;simp only[aS]at h4;obtain⟨⟨⟨⟨h5,h6⟩,h7⟩,h8⟩,h9⟩:=h4;have h7':=bB h7;subst h7';have h8':=cB h8;obtain⟨d1,d2,d3⟩:=Gp h5;have evo:Evo n0 E (E.retell σ TH):=by
  refine⟨rfl,rfl,rfl,Below.refl _ _,λid hi _=>cA hi h8',λid hi ha hl=>?_,λid hi ha hl i o hio=>?_,λb hb=>⟨Ms hE ho hb,rfl⟩,rfl,λ_ _=>rfl⟩
  ·have hj:=Mr h6 id hi hl;rw[dF]at hj;exact⟨(Bo hE ho hl hj).1,by simp only[Env.retell,hj]⟩
  ·have hj:=Mr h6 id hi hl;rw[dF]at hj;simp only[Env.retell,hj];exact hio
 refine⟨?_, ?_, ?_,h8'⟩
 ·refine⟨rfl,λid h=>h,λid h=>h,λid h=>h, ?_,λid h=>Cw h,λid h=>Dz h, ?_, ?_,hE.f0,hE.B,λid b hl ho1=>(Iz ho1).elim λj hj=>hE.hid j b (Bo hE ho hl hj.1).1 hj.2,hE.hlt⟩
  ·intro id hl hne;rcases Qd ho id hne with⟨j,hj,h⟩|⟨hj,t,h⟩
   ·have hρ:(E.retell σ TH).ρ id=E.ρ j:=by simp only[Env.retell,hj]
    have hK:(E.retell σ TH).K id=E.K j:=by simp only[Env.retell,hj]
    rcases h with⟨cs,ds,g1,g2,g3,g4⟩|⟨t,xs,g1,g2⟩|⟨t,xs,g1,g2⟩|⟨t,mo,xss,g1,g2⟩|⟨st,pe,ps,x,y,sl1,sl2,g1,g2,g3,g4⟩
    rotate_left 3
    ·rw[g1];have hok:=hE.ok j (hE.live j (by rw[g2];simp)) (by rw[g2];simp);rw[g2]at hok;obtain⟨hd,k1,k2⟩:=hok;refine⟨hd,hρ.trans k1, ?_⟩;rw[hK];exact k2.mono (λb o hb=>⟨Hf hE ho hb,rfl⟩) rfl (λ_ _ _=>rfl)
    ·rw[g1];have hok:=hE.ok j (hE.live j (by rw[g2];simp)) (by rw[g2];simp);rw[g2]at hok;obtain⟨hd,k1,r,k2,k3,k4,k5,k6,k7,k8,k9⟩:=hok;refine⟨hd,hρ.trans k1,r,k2,k3,k4,k5,k6,k7,by rw[k8,g4],λi v s hv hs=>?_⟩;have hlt:i<sl2.length:=by rw[<-g4];exact(aW.1 hs).1
     have k10:=k9 i v _ hv (aR hlt);rcases Ox g4 g3 rfl i s _ hs (aR hlt)with rfl|hr|⟨hr,t,rfl⟩
     ·exact .any _
     ·rw[hr]at k10;exact Xo hE ho d1 s k10
     ·rw[hr]at k10;obtain⟨a',rfl⟩:=k10.cap0_inv;exact .sl _ _ _ (.sl0 _ _ _)
    ·rw[g1];have hok:=hE.ok j (hE.live j (by rw[g2];simp)) (by rw[g2];simp);rw[g2]at hok;obtain⟨hd,k1,arr,el,k2,k3,k4⟩:=hok;refine⟨hd,hρ.trans k1,arr,el,k2,by rw[k3,g4],λi v x hv hx=>?_⟩;have hlt:i<ds.length:=by rw[<-g4];exact(aW.1 hx).1
     obtain⟨k5,k6⟩:=k4 i v _ hv (aR hlt);refine⟨k5, ?_⟩;rcases Ox g4 g3 rfl i x _ hx (aR hlt)with rfl|hr|⟨hr,t,rfl⟩
     rotate_left 2
     ·rw[hr]at k6;obtain⟨a',rfl⟩:=k6.cap0_inv;exact .sl _ _ _ (.sl0 _ _ _)
     ·exact .any _
     ·rw[hr]at k6;exact Xo hE ho d1 x k6
    ·rw[g1];have hok:=hE.ok j (hE.live j (by rw[g2];simp)) (by rw[g2];simp);rw[g2]at hok;have hrow:RowsAt E t xs (E.ρ j):=hok;show RowsAt _ t xs _;rw[hρ];exact RowsAt.mono (λb o hb=>⟨Hf hE ho hb,rfl⟩) (λ_ _=>rfl) hrow
    ·rw[g1];have hrow:RowsAt E t xs (E.ρ j):=by
      rcases g2 with g2|g2
      ·have hok:=hE.ok j (hE.live j (by rw[g2];simp)) (by rw[g2];simp);rw[g2]at hok;exact hok
      ·have hok:=hE.ok j (hE.live j (by rw[g2];simp)) (by rw[g2];simp);rw[g2]at hok;exact hok
     show RowsAt _ t xs _;rw[hρ];exact RowsAt.mono (λb o hb=>⟨Hf hE ho hb,rfl⟩) (λ_ _=>rfl) hrow
   ·rw[h];show RowsAt _ t [] _;have hρ:(E.retell σ TH).ρ id=none:=by simp only[Env.retell,hj]
    rw[hρ];rfl
  ·intro id id' b hl hl' ho1 ho2;obtain⟨j,hj,k1⟩:=Iz ho1;obtain⟨j',hj',k2⟩:=Iz ho2;have e:=hE.injO j j' b (Bo hE ho hl hj).1 (Bo hE ho hl' hj').1 k1 k2;subst e;exact d3 id id' j hl hl' hj hj'
  ·intro id b hl ho1;obtain⟨j,hj,k1⟩:=Iz ho1;exact hE.ltO j b (Bo hE ho hl hj).1 k1
 ·have key:∀t x,T[t]?=some x->x=.any\/RdA E (a.eval (.tmp t)) (ren σ x):=by
   intro t x hx;have hlt:t<sl.length:=by rw[<-h2];exact(aW.1 hx).1
   have hy:=aR hlt;rcases Ox h2 h1 rfl t x _ hx hy with h|h|⟨h,t',rfl⟩
   rotate_left 2
   ·right;have:=hs.rd t;rw[Bn,hy]at this;simp only[dC]at this;rw[h]at this;obtain⟨a',ha'⟩:=this.cap0_inv;rw[ha'];exact .sl _ _ _ (.sl0 _ _ _)
   ·exact .inl h
   ·right;have:=hs.rd t;rw[Bn,hy]at this;rw[<-h];exact this
  refine⟨by rw[hs.size,h2],λt=>?_,λt c s w v ht=>?_,hs.defers.mono evo⟩
  ·cases hx:T[t]? with
   |none=>rw[Bn,hx];exact .any _
   |some x=>
    rw[Bn,hx];rcases key t x hx with rfl|h
    ·exact .any _
    ·exact Xo hE ho d1 x h
  ·rcases key t _ ht with h|h
   ·cases h
   ·simp only[ren]at h;exact h.bad.elim
 ·exact evo
theorem Aco{a:Act}{sl:List AV}{S:St}(hE:EnvOk E H n)(hs:SlOk E a sl)(h:J1 n0 σ sl H n S):
 ∃E',E'.w=E.w/\EnvOk E' S.H S.n/\SlOk E' a S.sl/\Evo n0 E E'/\n0<=S.n/\(∀id,E'.L id<->Ac S.H id≠.dead)/\(∀id,E'.W id<->(Ac S.H id).wr)/\∀id,E'.A id<->id<S.H.length:=by
 obtain⟨h1,h2,h3,h4⟩:=Qe hE hs h;exact⟨E.retell σ S.H,rfl,h1,h2,h3,h4,λ_=>Iff.rfl,λ_=>Iff.rfl,λ_=>Iff.rfl⟩
end
end Go.Sx
namespace Go.Sx
open Go.RowKit
def Zq(P:Program)(cx:Ctx):Prop:=
 ∀(ro:Option Nat)(opsA:Array Oper)(id:Nat)(E:Env)(a:Act)(sl:List AV)(H:List Ob)(n:Nat)(K:Ls)(Q:Exit->Act->World->Prop),EnvOk E H n->SlOk E a sl->
  (P.follows .mixedOrders&&Sz opsA.toList 0 (Hs opsA.toList))=true->Mf cx P opsA.toList (Hs opsA.toList) 0 [] [] sl H n K->
  (∀E' a' sl' H' n',K sl' H' n'->EnvOk E' H' n'->SlOk E' a' sl'->Evo n E E'->n<=n'->Q .normal a' E'.w)->(Code.region id opsA true).wpI ro P Q a E.w
def Zr(P:Program)(cx:Ctx):Prop:=
 ∀(call:CallSem),Bb P call->∀(ro:Option Nat)(opsA:Array Oper)(id:Nat)(E:Env)(a:Act)(sl:List AV)(H:List Ob)(n:Nat)(K:Ls)(Q:Exit->Act->World->Prop),EnvOk E H n->SlOk E a sl->
  (P.follows .mixedOrders&&Am3 opsA.toList)=true->P0 cx P call opsA.toList (Acb opsA.toList) sl H n K->
  (∀E' a' sl' H' n',K sl' H' n'->EnvOk E' H' n'->SlOk E' a' sl'->Evo n E E'->n<=n'->Q .normal a' E'.w)->(Code.region id opsA true).wpI ro P Q a E.w
def Mt(P:Program)(cx:Ctx):Prop:=Zq P cx/\Zr P cx
def Aud:Ex->Exit
 |.normal=>.normal
 |.ret=>.ret
 |.exit n=>.exit n
theorem Gq(sl:List AV)(t:Nat):Aq .any (sl.map noW) t=noW (Aq .any sl t):=by
 rw[Bn,Bn,cL];cases sl[t]?<;>rfl
theorem SlOk.noW{E:Env}{a:Act}{sl:List AV}(h:SlOk E a sl):SlOk E a (sl.map Sx.noW):=by
 refine⟨by rw[bN];exact h.size,λt=>?_,λt c s w v ht=>?_,h.defers⟩
 ·rw[Gq];exact F8 (h.rd t)
 ·rw[cL,bC]at ht;obtain⟨x,_,hx⟩:=ht;exact aT hx (H5 _ _ _ _ _)
theorem Xp{E:Env}{a:Act}{sl:List AV}(hs:SlOk E a sl)(x:Operand):RdA E (a.eval x) (ev sl x):=by
 cases x with
 |tmp t=>exact hs.rd t
 |const v=>exact Iw v
 |global g=>exact .any _
 |func f=>exact .fn _ _ _ _ _ rfl rfl (λi v x hv _=>by simp at hv) (λi v x hv _=>by simp at hv)
section
variable {P:Program}{E:Env}{H:List Ob}{n:Nat}
theorem Lc{B l:Nat}{w:World}{o:Obj}(h:B<=l):Below B w (w.putObj l o):=
 ⟨rfl,rfl,rfl,by simp,λk hk=>World.putObj_heap_other (by omega)⟩
theorem Tj{id:Nat}{st st':LoopState}{pe pe':Jump}{ps:List Nat}{x y:Code}{sl:List AV}{hd:Hdr}{r r':Loop}(hE:EnvOk E H n)(hob:Ac H id=.loop st pe ps x y sl)(hρ:E.ρ id=some hd)(hr:E.w.heap[hd.blk]?=some (.loop r))
 (h1:r'.state=st')(h2:r'.pending=Gl pe')(h3:r'.params=r.params)(h4:r'.assign=r.assign)(h5:r'.body=r.body)(h6:r'.tmps=r.tmps):
 ∃E',E'.w=E.w.putObj hd.blk (.loop r')/\EnvOk E' (B3 (.loop st' pe' ps x y sl) H id) n/\∀k,Evo k E E':=by
 have hne:Ac H id≠.dead:=by rw[hob];simp
 have hW:E.W id:=hE.wr id (by rw[hob];trivial);have hl:=hE.live id hne;have hlt:=hE.lt id hd hl hρ;let res:Res:=⟨none,none,.any,[],none,some (id,.loop st' pe' ps x y sl),[]⟩;have hs:Step E n res (E.w.putObj hd.blk (.loop r')) (λ_=>none):=by
  refine⟨Lc hlt.1,λb hb hno=>World.putObj_heap_other λe=>hno id hW (.inr rfl) (.inl ⟨hd,hρ,e.symm⟩), ?_, ?_,λi hi=>(by cases hi),λp hp=>(by cases hp;exact hW)⟩
  ·intro j h hj;simp[res]at hj
  ·intro j j' h h' hj;simp[res]at hj
 have hready:Ready E n res.news.length:=hE.ready _;obtain⟨N,hN⟩:=hE.fin;have hx:=hs.ext (wn:=Xn n res) hready ⟨N,hN⟩ (λ_ j ob hj=>by simp[res]at hj) (λhevo i ob hi=>by
  cases hi;have hok:=hE.ok id hl hne;rw[hob]at hok;obtain⟨hd',k1,r0,k2,k3,k4,k5,k6,k7,k8,k9⟩:=hok;rw[hρ]at k1;cases k1;rw[hr]at k2;cases k2;refine⟨hd, ?_,r',World.putObj_heap_same hlt.2,h1,h2,by rw[h3];exact k5,h4.trans k6,h5.trans k7,by rw[h6];exact k8,λi v s hv hs=>?_⟩
  ·simp only[Env.ext];rw[aL (by simp[res])];exact hρ
  ·rw[h6]at hv;exact(k9 i v s hv hs).mono (hevo N) hN)
 have ht:TurnOk E H res:=⟨λi hi=>(by cases hi),λp hp=>(by cases hp;exact⟨hE.sub id hl,by rw[hob];trivial⟩)⟩;have:=hE.step hx ht;refine⟨_,rfl, ?_,hx.evo⟩;simpa[Res.heap,res,stH,Jh,Gj]using this
theorem Ajn{id:Nat}{st:LoopState}{pe:Jump}{ps:List Nat}{x y:Code}{sl:List AV}{hd:Hdr}(hE:EnvOk E H n)(hob:Ac H id=.loop st pe ps x y sl)(hst:st≠.busy)(hρ:E.ρ id=some hd):
 ∃E',(Instr.endLoop hd.blk).run P E.w=.ok (Gl pe) E'.w/\EnvOk E' (B3 .dead H id) n/\∀k,Evo k E E':=by
 have hne:Ac H id≠.dead:=by rw[hob];simp
 have hW:E.W id:=hE.wr id (by rw[hob];trivial);have hl:=hE.live id hne;have hlt:=hE.lt id hd hl hρ;have hok:=hE.ok id hl hne;rw[hob]at hok;obtain⟨hd',k1,r,k2,k3,k4,_⟩:=hok;rw[hρ]at k1;cases k1;let res:Res:=⟨none,none,.any,[],some id,none,[]⟩;have hs:Step E n res (E.w.putObj hd.blk (.loop { r with state:=.exhausted })) (λ_=>none):=by
  refine⟨Lc hlt.1,λb hb hno=>World.putObj_heap_other λe=>hno id hW (.inl rfl) (.inl ⟨hd,hρ,e.symm⟩), ?_, ?_,λi hi=>(by cases hi;exact hW),λp hp=>(by cases hp)⟩
  ·intro j h hj;simp[res]at hj
  ·intro j j' h h' hj;simp[res]at hj
 have hready:Ready E n res.news.length:=hE.ready _;have hx:=hs.ext (wn:=Xn n res) hready hE.fin (λ_ j ob hj=>by simp[res]at hj) (λhevo i ob hi=>by cases hi);have ht:TurnOk E H res:=⟨λi hi=>(by cases hi;exact⟨hE.sub id hl,by rw[hob];trivial⟩),λp hp=>(by cases hp)⟩;have:=hE.step hx ht;refine⟨_, ?_, ?_,hx.evo⟩
 ·rw[<-k4];exact run_endLoop (P:=P) k2 (by rw[k3];exact hst)
 ·simpa[Res.heap,res,stH,Jh,Gj]using this
theorem Ajo{a:Act}{sl:List AV}{ps:Array Tmp}{x y:Code}(hE:EnvOk E H n)(hs:SlOk E a sl)(fn:FuncId):
 ∃E',E'.w=(E.w.alloc (.deferred (some []))).alloc (.loop { state:=.ready,pending:=none,fn,tmps:=a.tmps,params:=ps,assign:=x,body:=y,defers:=E.w.heap.size })/\
  EnvOk E' (H++[.loop .ready .no ps.toList x y sl]) (n+1)/\(∀k,Evo k E E')/\E'.L n/\E'.A n/\E'.ρ n=some ⟨E.w.heap.size+1,0,0,0⟩/\(E.M<=E.w.heap.size->Marks E' ({ target:=.collected E.w.heap.size,args:=#[] }::a.defers)):=by
 obtain⟨rec,hrec⟩:∃rec:Loop,rec={ state:=.ready,pending:=none,fn,tmps:=a.tmps,params:=ps,assign:=x,body:=y,defers:=E.w.heap.size }:=⟨_,rfl⟩;rw[<-hrec];obtain⟨w1,hw1⟩:∃w1,(E.w.alloc (.deferred (some []))).alloc (.loop rec)=w1:=⟨_,rfl⟩;rw[hw1];have hB0:Below E.w.heap.size E.w w1:=by
  rw[<-hw1];exact((Below.refl _ E.w).alloc (bA _) _).alloc (by simp) _
 have hsz:w1.heap.size=E.w.heap.size+2:=by rw[<-hw1];simp
 have hat:w1.heap[E.w.heap.size+1]?=some (.loop rec):=by
  rw[<-hw1];have:=World.alloc_heap_new (E.w.alloc (.deferred (some []))) (.loop rec);rwa [World.size_alloc]at this
 have hdf:w1.heap[E.w.heap.size]?=some (.deferred (some [])):=by
  rw[<-hw1];exact(Below.heap_alloc _ _ _ (by simp)).trans (World.alloc_heap_new E.w _)
 let res:Res:=⟨none,none,.any,[.loop .ready .no ps.toList x y sl],none,none,[]⟩;have hst:Step E n res w1 (λ_=>some ⟨E.w.heap.size+1,0,0,0⟩):=by
  refine⟨hB0.mono hE.B,λb hb _=>hB0.block b hb, ?_, ?_,λi hi=>(by cases hi),λp hp=>(by cases hp)⟩
  ·intro j h _ hj;cases hj;exact⟨by show E.w.heap.size+1<_;omega,.inl (by show E.w.heap.size<=E.w.heap.size+1;omega)⟩
  ·intro j j' h h' hj hj' _ _ hne;simp[res]at hj hj';omega
 have hready:Ready E n res.news.length:=hE.ready _;obtain⟨N,hN⟩:=hE.fin;have hx:=hst.ext (wn:=Xn n res) hready ⟨N,hN⟩ (λhevo j ob hj=>by
  match j,hj with
  |0,hj=>
   cases hj;refine⟨⟨E.w.heap.size+1,0,0,0⟩,by simp[Env.ext,res],rec,hat,by rw[hrec],by rw[hrec];rfl,by rw[hrec],by rw[hrec],by rw[hrec],by rw[hrec];exact hs.size,λi v s hv hsl=>?_⟩;refine RdA.mono (hevo N) hN ?_;have:=hs.rd i;rw[hrec]at hv;have e1:a.eval (.tmp i)=v:=by
    have hv':a.tmps[i]?=some v:=hv;simp[Act.eval,bR,hv']
   rw[e1,Bn,hsl]at this;exact this) (λhevo i ob hi=>by cases hi)
 have ht:TurnOk E H res:=⟨λi hi=>(by cases hi),λp hp=>(by cases hp)⟩;have hE1:=hE.step hx ht;refine⟨_,rfl, ?_,hx.evo,(hx.L n).2 (.inr ⟨bA _,by simp[res]⟩),(hx.A n).2 (.inr ⟨bA _,by simp[res]⟩),by simp[Env.ext,res],λhM=>?_⟩
 ·simpa[Res.heap,res,stH,Jh,Gj]using hE1
 ·have hm:=hs.defers.mono (hx.evo 0);refine⟨λd hd=>?_, ?_⟩
  ·rcases cT.1 hd with rfl|hd
   ·refine⟨E.w.heap.size,rfl,hM,⟨by show E.w.heap.size<w1.heap.size;omega,λid hW ho=>?_,λhh=>hX _ (hE.hlt _ hh)⟩,hdf⟩;rcases Env.ext_own ho with⟨_,h,hh,hb⟩|⟨hid,ho⟩
    ·cases hh;have:E.w.heap.size+1=E.w.heap.size:=hb;omega
    ·rcases hW with⟨hW,_⟩|⟨g1,g2,_⟩
     ·have:=(hE.ltO id _ (hE.wl id hW) ho).2;omega
     ·exact hid ⟨g1,g2⟩
   ·exact hm.each d hd
  ·refine gZ.2 ⟨λd hd=>?_,hs.defers.two⟩;obtain⟨b,h1,h2,h3,h4⟩:=hs.defers.each d hd;rw[h1];intro e;cases e;have:=h3.1;omega
end
section
variable {P:Program}{cx:Ctx}{call:CallSem}{n0:Nat}
theorem Ia(hcx:Ai P cx)(hdraw:Mt P cx)(hcall:Bb P call)(ro:Option Nat):∀(c:Code){sl:List AV}{H:List Ob}{n:Nat}{K:Ex->Ls}{E:Env}{a:Act}{Q:Exit->Act->World->Prop},EnvOk E H n->SlOk E a sl->n0<=n->(ro=none->E.M<=E.w.heap.size)->
 (ro=none\/Ck cx c=true)->Ja cx P call n0 c sl H n K->(∀e E' a' sl' H' n',K e sl' H' n'->EnvOk E' H' n'->SlOk E' a' sl'->Evo n0 E E'->n0<=n'->Q (Aud e) a' E'.w)->c.wpI ro P Q a E.w
 |.skip,sl,H,n,K,E,a,Q,hE,hs,hn,hM,hro,h,hK=>wpIn_skip (hK .normal E a sl H n h hE hs (Evo.refl _ _) hn)
 |.ret,sl,H,n,K,E,a,Q,hE,hs,hn,hM,hro,h,hK=>wpIn_ret (hK .ret E a sl H n h hE hs (Evo.refl _ _) hn)
 |.exit m,sl,H,n,K,E,a,Q,hE,hs,hn,hM,hro,h,hK=>wpIn_exit (hK (.exit m) E a sl H n h hE hs (Evo.refl _ _) hn)
 |.region id ops false,sl,H,n,K,E,a,Q,hE,hs,hn,hM,hro,h,hK=>by
  simp only[Ja]at h;refine wpIn_region_list (Vt hcx hcall ops.toList hE hs h λE' a' sl' H' n' hk hE' hs' hevo hn'=>?_);rw[Ji]at hk;exact hK .normal E' a' _ H' n' hk hE' hs'.noW (hevo.mono hn) (cP hn hn')
 |.region id ops true,sl,H,n,K,E,a,Q,hE,hs,hn,hM,hro,h,hK=>by
  simp only[Ja,Y8]at h;split at h
  ·refine hdraw.2 call hcall ro ops id E a sl H n _ Q hE hs h.1 h.2 λE' a' sl' H' n' hk hE' hs' hevo hn'=>?_
   rw[Ji]at hk;exact hK .normal E' a' _ H' n' hk hE' hs'.noW (hevo.mono hn) (cP hn hn')
  ·refine hdraw.1 ro ops id E a sl H n _ Q hE hs h.1 h.2 λE' a' sl' H' n' hk hE' hs' hevo hn'=>?_
   rw[Ji]at hk;exact hK .normal E' a' _ H' n' hk hE' hs'.noW (hevo.mono hn) (cP hn hn')
 |.seq x y,sl,H,n,K,E,a,Q,hE,hs,hn,hM,hro,h,hK=>by
  simp only[Ja]at h;have hro1:ro=none\/Ck cx x=true:=hro.imp id λh=>by simp only[Ck,aS]at h;exact h.1
  have hro2:ro=none\/Ck cx y=true:=hro.imp id λh=>by simp only[Ck,aS]at h;exact h.2
  refine wpIn_seq (Ia hcx hdraw hcall ro x hE hs hn hM hro1 h λe E' a' sl' H' n' hk hE' hs' hevo hn'=>?_);cases e with
  |normal=>
   exact Ia hcx hdraw hcall ro y hE' hs' hn' (λhr=>by rw[hevo.M];exact cP (hM hr) hevo.below.size) hro2 hk λe E'' a'' sl'' H'' n'' hk' hE'' hs'' hevo' hn''=>hK e E'' a'' sl'' H'' n'' hk' hE'' hs'' (hevo.trans hevo') hn''
  |ret=>exact hK .ret E' a' sl' H' n' hk hE' hs' hevo hn'
  |exit m=>exact hK (.exit m) E' a' sl' H' n' hk hE' hs' hevo hn'
 |.cond c x y,sl,H,n,K,E,a,Q,hE,hs,hn,hM,hro,h,hK=>by
  simp only[Ja]at h;have hro1:ro=none\/Ck cx x=true:=hro.imp id λh=>by simp only[Ck,aS]at h;exact h.1
  have hro2:ro=none\/Ck cx y=true:=hro.imp id λh=>by simp only[Ck,aS]at h;exact h.2
  have hv:=Xp hs c;split at h
  ·rename_i q hq;rw[hq]at hv;refine wpIn_cond_split hv.bool_inv (λht=>Ia hcx hdraw hcall ro x hE hs hn hM hro1 (h.1 ht) hK) (λhf=>Ia hcx hdraw hcall ro y hE hs hn hM hro2 (h.2 hf) hK)
  ·exact h.elim
 |.block id x,sl,H,n,K,E,a,Q,hE,hs,hn,hM,hro,h,hK=>by
  simp only[Ja]at h;refine wpIn_block (Ia hcx hdraw hcall ro x hE hs hn hM (hro.imp (λh=>h) λh=>by simpa only[Ck]using h) h λe E' a' sl' H' n' hk hE' hs' hevo hn'=>?_);cases e with
  |normal=>exact hK .normal E' a' sl' H' n' hk hE' hs' hevo hn'
  |ret=>exact hK .ret E' a' sl' H' n' hk hE' hs' hevo hn'
  |exit m=>
   simp only at hk;show(if m=id then Q .normal a' E'.w else Q (.exit m) a' E'.w);split at hk
   ·rename_i hm;rw[aP (bB hm)];exact hK .normal E' a' sl' H' n' hk hE' hs' hevo hn'
   ·rename_i hm;rw[aL (λe=>hm (by rw[e];exact gD id))];exact hK (.exit m) E' a' sl' H' n' hk hE' hs' hevo hn'
 |.loop x,sl,H,n,K,E,a,Q,hE,hs,hn,hM,hro,h,hK=>by
  simp only[Ja]at h;obtain⟨ι,S,I,μ,⟨i0,σ0,hi0,hw0⟩,hround⟩:=h;obtain⟨E0,hw,hE0,hs0,hevo0,hn0,_⟩:=Aco hE hs hw0;refine wpIn_loop_ghost (λm a w=>∃i E',μ i=m/\I i/\E'.w=w/\EnvOk E' (S i).H (S i).n/\SlOk E' a (S i).sl/\Evo n0 E E'/\n0<=(S i).n) (μ i0) ⟨i0,E0,rfl,hi0,hw,hE0,hs0,hevo0,hn0⟩ ?_;rintro m a1 w1 ⟨i,E1,rfl,hi,rfl,hE1,hs1,hevo1,hn1⟩;refine Ia hcx hdraw hcall ro x hE1 hs1 hn1 (λhr=>by rw[hevo1.M];exact cP (hM hr) hevo1.below.size) (hro.imp (λh=>h) λh=>by simpa only[Ck]using h) (hround i hi) λe E' a' sl' H' n' hk hE' hs' hevo hn'=>?_
  cases e with
  |normal=>
   obtain⟨j,σ,hj,hμ,hwk⟩:=hk;obtain⟨E2,hw2,hE2,hs2,hevo2,hn2,_⟩:=Aco hE' hs' hwk;exact⟨μ j,hμ,j,E2,rfl,hj,hw2,hE2,hs2,(hevo1.trans hevo).trans hevo2,hn2⟩
  |ret=>exact hK .ret E' a' sl' H' n' hk hE' hs' (hevo1.trans hevo) hn'
  |exit m=>exact hK (.exit m) E' a' sl' H' n' hk hE' hs' (hevo1.trans hevo) hn'
 |.label _,_,_,_,_,_,_,_,_,_,_,_,_,h,_=>(by simp[Ja]at h)
 |.goto _,_,_,_,_,_,_,_,_,_,_,_,_,h,_=>(by simp[Ja]at h)
 |.scope _,_,_,_,_,_,_,_,_,_,_,_,_,h,_=>(by simp[Ja]at h)
 |.refuse _,_,_,_,_,_,_,_,_,_,_,_,_,h,_=>(by simp[Ja]at h)
 |.rangeFunc f ps x y,sl,H,n,K,E,a,Q,hE,hs,hn,hM,hro,h,hK=>by
  have hro:ro=none:=hro.elim (λh=>h) λh=>by simp[Ck]at h
  subst hro;simp only[Ja]at h;have hv:=Xp hs f;split at h
  ·rename_i g us ys hf;rw[hf]at hv;obtain⟨hok,h⟩:=h;rw[Ci,C7]at h;obtain⟨vs,ws,h1,h2,h3,h4,h5⟩:=Acl hv;refine wpIn_rangeFunc λfn _=>?_
   obtain⟨E1,hw1,hE1,hevo1,hL1,hA1,hρ1,hmk⟩:=Ajo (ps:=ps) (x:=x) (y:=y) hE hs fn;have hmk:=hmk (hM rfl);obtain⟨⟨fn',g1,g2,g3⟩,hc⟩:=hcall.1 g _ _ _ _ h E1 (vs++#[.func (.yield (E.w.heap.size+1)) #[] #[]]++ws) hE1 (by simp[h2,h3];omega) (λi v z hv hz=>by
    simp only[gP,gK,dZ,List.length_cons,List.length_nil]at hv;simp only[eA,bD,List.length_cons,List.length_nil]at hz;rw[h2]at hv;by_cases c1:i<us.length
    ·rw[aP (by omega),aP c1]at hv;rw[aP (by omega),aP c1]at hz;exact(h4 i v z hv hz).mono (hevo1 n) hE.ns
    ·by_cases c2:i<us.length+(0+1)
     ·rw[aP c2,aL c1]at hv;rw[aP c2,aL c1]at hz;have hi:i-us.length=0:=by omega
      rw[hi]at hv hz;cases hv;cases hz;exact .yld _ n hA1 ⟨_,rfl⟩ λ_=>⟨_,hρ1,rfl⟩
     ·rw[aL c2]at hv hz;exact(h5 _ v z hv hz).mono (hevo1 n) hE.ns)
   obtain⟨yv,hyv⟩:∃yv:Value,yv=.func (.yield (E.w.heap.size+1)) #[] #[]:=⟨_,rfl⟩;rw[<-hyv]at hc;have hen:(Instr.enterLoop fn a.tmps ps x y (fen none).round).run P E.w=.ok (E.w.heap.size+1,[{ target:=.collected E.w.heap.size,args:=#[] }]) E1.w:=by
    rw[hw1];exact run_enterLoop_outer _ _ _ _ _
   have hres:(Go.resolve a.eval (rangeCall f (E.w.heap.size+1)) 0).run P E1.w=.ok { target:=.fn (.func g) ws,args:=vs++#[yv] } E1.w:=by
    rw[hyv];simp only[Go.resolve,rangeCall,h1];simp[Deferred.ofValue,Act.eval]
   have hinv:(invoke (.fn (.func g) ws) (vs++#[yv])).run P E1.w=.ok (.enter g (vs++#[yv]++ws)) E1.w:=F7 g1 g2 g3 _ _;refine⟨E.w.heap.size+1,_,E1.w,_,E1.w,g,_,E1.w,hen,hres,λf' _=>Aqb none f',hinv,P2 none _,Lz.2 (hc.mono λen w' hpost=>?_)⟩
   ·obtain⟨v,E2,z,H',n',rfl,rfl,hn',hE2,hvz,hevo2,hk⟩:=hpost;have fin:∀(pe:Jump)(st:LoopState)(ps':List Nat)(x' y':Code)(sl':List AV),st≠.busy->Ac H' n=.loop st pe ps' x' y' sl'->
     ∃E3,(Instr.endLoop (E.w.heap.size+1)).run P E2.w=.ok (Gl pe) E3.w/\EnvOk E3 (B3 .dead H' n) n'/\SlOk E3 { a with defers:=[{ target:=.collected E.w.heap.size,args:=#[] }]++a.defers } sl/\Evo n0 E E3:=by
     intro pe st ps' x' y' sl' hst hob;have hl2:=hE2.live n (by rw[hob];simp);have hρ2:=(hevo2.ids n (eN n) hA1 hl2).2.trans hρ1;obtain⟨E3,k1,k2,k3⟩:=Ajn (P:=P) hE2 hob hst hρ2;have hevo:Evo n E E3:=(hevo1 n).trans ((hevo2.mono (Nat.le_succ n)).trans (k3 n));exact⟨E3,k1,k2,⟨hs.size,λt=>(hs.rd t).mono hevo hE.ns,hs.stat,hmk.mono ((hevo2.mono (Nat.le_succ n)).trans (k3 n))⟩,hevo.mono hn⟩
    split at hk
    ·rename_i hob;rw[Ci]at hk;obtain⟨E3,k1,k2,k3,k4⟩:=fin .no .ready _ _ _ _ (by simp) hob;exact⟨none,E3.w,k1,hK .normal E3 _ sl _ n' hk k2 k3 k4 (by omega)⟩
    ·rename_i hob;rw[Ci]at hk;obtain⟨E3,k1,k2,k3,k4⟩:=fin .ret .done _ _ _ _ (by simp) hob;exact⟨some .ret,E3.w,k1,wpIn_ret (hK .ret E3 _ sl _ n' hk k2 k3 k4 (by omega))⟩
    ·rename_i m _ _ _ _ hob;rw[Ci]at hk;obtain⟨E3,k1,k2,k3,k4⟩:=fin (.exit m) .done _ _ _ _ (by simp) hob;exact⟨some (.exit m),E3.w,k1,wpIn_exit (hK (.exit m) E3 _ sl _ n' hk k2 k3 k4 (by omega))⟩
    ·exact hk.elim
  ·exact h.elim
theorem Qf:∀(m:Nat)(l:List AV),l.length<=m->(Lx m l).length=m/\∀t,Aq .any (Lx m l) t=Aq .any l t
 |0,l,h=>by
  have:l=[]:=List.length_eq_zero_iff.1 (by omega);subst this;exact⟨rfl,λ_=>rfl⟩
 |m+1,[],_=>by
  obtain⟨h1,h2⟩:=Qf m [] (by simp);refine⟨by simp[Lx,h1],λt=>?_⟩;cases t with
  |zero=>rfl
  |succ t=>simp only[Lx,Aq];rw[h2 t];rfl
 |m+1,x::l,h=>by
  obtain⟨h1,h2⟩:=Qf m l (by simpa using h);refine⟨by simp[Lx,h1],λt=>?_⟩;cases t with
  |zero=>rfl
  |succ t=>simp only[Lx,Aq];exact h2 t
def Tk(tmps:Array Value):ResultVar->Sem Value
 |.tmp t=>pure (tmps.getD t undef)
 |.cell b t=>do loadVar t (<-asAddr (tmps.getD b undef))
theorem No{α β:Type}{f:α->Sem β}{x:α}{l:List α}{y:β}{ys:List β}{w:World}(h:(f x).run P w=.ok y w)(h':(l.mapM f).run P w=.ok ys w):((x::l).mapM f).run P w=.ok (y::ys) w:=by
 rw[List.mapM_cons];simp only[Sem.run_bind,h,h',Result.andThen_ok,Sem.run_pure]
theorem L4{E:Env}{a:Act}{sl:List AV}{H:List Ob}{n:Nat}(hE:EnvOk E H n)(hs:∀t,RdA E (a.eval (.tmp t)) (Aq .any sl t)):∀(l:List ResultVar)(k:List AV->Prop),Ht P sl H l k->
 ∃(us:List Value)(vs:List AV),k vs/\us.length=vs.length/\us.length=l.length/\(∀(i:Nat) u x,us[i]?=some u->vs[i]?=some x->RdA E u x)/\
  (l.mapM (Tk a.tmps)).run P E.w=.ok us E.w
 |[],k,h=>⟨[],[],h,rfl,rfl,λi u x hu=>by simp at hu,rfl⟩
 |.tmp t::l,k,h=>by
  simp only[Ht,Fd]at h;obtain⟨us,vs,h1,h2,h3,h4,h5⟩:=L4 hE hs l _ h;refine⟨a.tmps.getD t undef::us,_,h1,by simp[h2],by simp[h3],λi u x hu hx=>?_, ?_⟩
  ·cases i with
   |zero=>cases hu;cases hx;exact F8 (hs t)
   |succ i=>exact h4 i u x (by simpa using hu) (by simpa using hx)
  ·exact No rfl h5
 |.cell b t::l,k,h=>by
  simp only[Ht]at h;split at h
  ·rename_i id off hv;split at h
   ·rename_i cs hob;split at h
    ·rename_i v hr;rw[Fd]at h;obtain⟨us,vs,h1,h2,h3,h4,h5⟩:=L4 hE hs l _ h;have hne:Ac H id≠.dead:=by rw[hob];simp
     have hl:=hE.live id hne;have hok:=hE.ok id hl hne;rw[hob]at hok;obtain⟨hd,hρ,hcells⟩:=CellsAt.of_box hok;have hrd:=hs b;rw[hv]at hrd;obtain⟨hd',hρ',hval⟩:=hrd.ptr_inv.2.2 hl;rw[hρ]at hρ';cases hρ';obtain⟨u,hu1,hu2⟩:=N4 (P:=P) (t:=t) hcells hr;refine⟨u::us,_,h1,by simp[h2],by simp[h3],λi u' x hu hx=>?_, ?_⟩
     ·cases i with
      |zero=>cases hu;cases hx;exact hu2
      |succ i=>exact h4 i u' x (by simpa using hu) (by simpa using hx)
     ·have hval':a.tmps.getD b undef=.pointer (some ⟨hd.blk,off,none⟩):=hval;refine No ?_ h5;simp only[Tk,hval',asAddr,Sem.run_bind];rw[dF]at hu1;simpa using hu1
    ·exact h.elim
   ·exact h.elim
  ·exact h.elim
theorem Zs{fn:Func}{a:Act}{us:List Value}{w:World}(h:(fn.results.toList.mapM (Tk a.tmps)).run P w=.ok us w):
 (results fn a.tmps).run P w=.ok (match us with|[v]=>v|us=>.tuple us.toArray) w:=by
 have hm:(fn.results.mapM (Tk a.tmps)).run P w=.ok us.toArray w:=by
  rw[Array.mapM_eq_mapM_toList];simp only[Sem.run_map,h];rfl
 have he:results fn a.tmps=(do let vs <-fn.results.mapM (Tk a.tmps);pure (if h:vs.size=1 then vs[0]else .tuple vs)):=by
  unfold results
  congr 1
 rw[he];simp only[Sem.run_bind,hm,Result.andThen_ok,Sem.run_pure]
 match us with
 |[]=>rfl
 |[v]=>rfl
 |_::_::_=>simp
theorem Tl{E:Env}:∀(ps:List Nat)(vs:List Value)(args:List AV)(tmps:Array Value)(sl:List AV),vs.length=args.length->tmps.size=sl.length->(∀p∈ps,p<sl.length)->
 (∀(i:Nat) v x,vs[i]?=some v->args[i]?=some x->RdA E v x)->(∀t,RdA E (tmps.getD t undef) (Aq .any sl t))->(∀(t:Nat) c s w v,sl[t]?≠some (.when c s w v))->
 ∃tmps',(ps.zip vs).foldl (λtmps (p:Nat×Value)=>tmps.setIfInBounds p.1 p.2) tmps=tmps'/\tmps'.size=(F2 ps args sl).length/\(∀t,RdA E (tmps'.getD t undef) (Aq .any (F2 ps args sl) t))/\
  ∀(t:Nat) c s w v,(F2 ps args sl)[t]?≠some (.when c s w v)
 |[],vs,args,tmps,sl,_,hsz,_,_,hrd,hnw=>⟨_,rfl,by simpa[F2]using hsz,by simpa[F2]using hrd,by simpa[F2]using hnw⟩
 |p::ps,[],[],tmps,sl,_,hsz,_,_,hrd,hnw=>⟨_,rfl,by simpa[F2]using hsz,by simpa[F2]using hrd,by simpa[F2]using hnw⟩
 |p::ps,[],_::_,_,_,h,_,_,_,_,_=>by simp at h
 |p::ps,_::_,[],_,_,h,_,_,_,_,_=>by simp at h
 |p::ps,v::vs,x::args,tmps,sl,hl,hsz,hps,ha,hrd,hnw=>by
  have hp:p<sl.length:=hps p (by simp);obtain⟨tmps',h1,h2,h3,h4⟩:=Tl ps vs args (tmps.setIfInBounds p v) (B3 (noW x) sl p) (by simpa using hl) (by simp[By,hsz]) (λq hq=>by rw[By];exact hps q (by simp[hq]))
   (λi v x hv hx=>ha (i+1) v x (by simpa using hv) (by simpa using hx)) (λt=>by
     rw[Dy];by_cases ht:p=t
     ·subst ht;rw[aP ⟨rfl,hp⟩];have:(tmps.setIfInBounds p v).getD p undef=v:=by
       have:p<tmps.size:=by omega
       simp[bR,this]
      rw[this];exact F8 (ha 0 v x rfl rfl)
     ·rw[aL (λh=>ht h.1)];have:(tmps.setIfInBounds p v).getD t undef=tmps.getD t undef:=by
       simp only[bR,dV];rw[aL ht]
      rw[this];exact hrd t) (λt c s w u ht=>by
     have hg:Aq .any (B3 (noW x) sl p) t=.when c s w u:=by rw[Bn,ht];rfl
     rw[Dy]at hg;by_cases htp:p=t/\p<sl.length
     ·rw[aP htp]at hg;exact aT hg (H5 _ _ _ _ _)
     ·rw[aL htp]at hg;refine hnw t c s w u ?_;rw[Bn]at hg;cases hs:sl[t]? with
      |none=>rw[hs]at hg;cases hg
      |some y=>rw[hs]at hg;simp only[dC]at hg;rw[hg])
  exact⟨tmps',h1,h2,h3,h4⟩
theorem Aeq{E0:Env}{n:Nat}{fn:Func}{R:Ending->World->Prop}{a:Act}{sl:List AV}{H:List Ob}{n':Nat}(hM0:E0.M=E0.w.heap.size)(hB0:E0.B<=E0.M)
 (fin:∀E',EnvOk E' H n'->(∀t,RdA E' (a.eval (.tmp t)) (Aq .any sl t))->Evo n E0 E'->∃v,(results fn a.tmps).run P E'.w=.ok v E'.w/\R (.returned v) E'.w):
 ∀(ds:List Deferred)(E:Env),EnvOk E H n'->(∀t,RdA E (a.eval (.tmp t)) (Aq .any sl t))->Evo n E0 E->Marks E ds->LeavesInM (fen none) 0 P fn a.tmps R ds .returning E.w
 |[],E,hE,hs,hevo,_=>fin E hE hs hevo
 |d::ds,E,hE,hs,hevo,hm=>by
  obtain⟨b,rfl,hb1,hb2,hb3⟩:=hm.each d (by simp);refine⟨by simp,.inl ⟨b,E.w.putObj b (.deferred none),rfl,run_takeDeferred hb3, ?_⟩⟩;let E':Env:={ E with w:=E.w.putObj b (.deferred none) };have heap:∀k,k≠b->E'.w.heap[k]?=E.w.heap[k]?:=λk hk=>World.putObj_heap_other hk
  have hsz:E'.w.heap.size=E.w.heap.size:=World.putObj_size;have hBb:E.B<=b:=by
   have h1:=hevo.B;have h2:=hevo.M;omega
  have nb:∀k,E.Nb k->E'.Nb k:=λk hk=>⟨by rw[hsz];exact hk.1,hk.2⟩
  have hq:∀k,Evq k E E':=by
   intro k;refine⟨λ_ _ h=>h,λ_ _ _ h=>⟨h,rfl⟩,λ_ _ _ _ _ _ h=>h,λb' o hf=>?_,λb' ms clock hB hn hm=>⟨hB,nb b' hn,(heap b' λe=>by rw[e,hb3]at hm;cases hm).trans hm⟩⟩;have hcell:E'.w.cell? ⟨b',o,none⟩=E.w.cell? ⟨b',o,none⟩:=by
    by_cases hbb:b'=b
    ·subst hbb;have h2:E'.w.heap[b']?=some (.deferred none):=World.putObj_heap_same hb2.1;simp[World.cell?,h2,hb3]
    ·exact H9 (heap b' hbb)
   rcases hf with⟨h1,h2⟩|⟨h1,h2⟩
   ·exact⟨.inl ⟨h1,h2⟩,hcell⟩
   ·exact⟨.inr ⟨h1,nb b' h2⟩,hcell⟩
  have okk:∀id,E.L id->Ac H id≠.dead->OkOb E' id (Ac H id):=by
   intro id hl hne;have hok:=hE.ok id hl hne;by_cases hw:(Ac H id).wr
   ·exact OkOb.monoq (hq n') hE.ns (hE.sub id hl) hl rfl (λk ho=>heap k λe=>hb2.2.1 id (hE.wr id hw) (e ▸ ho)) hok
   ·cases hob:Ac H id with
    |dead=>exact aT hob hne
    |cells cs=>rw[hob]at hw;exact aT trivial hw
    |rows t xs=>rw[hob]at hw;exact aT trivial hw
    |fmap es=>rw[hob]at hw;exact aT trivial hw
    |grid t m xss=>rw[hob]at hw;exact aT trivial hw
    |loop a1 a2 a3 a4 a5 a6=>rw[hob]at hw;exact aT trivial hw
    |froz t xs=>
     rw[hob]at hok;refine RowsAt.mono (E:=E) (hq 0).fz (λh hρ=>heap _ λe=>?_) hok;have hok':RowsAt E t xs (E.ρ id):=hok;have hρ':E.ρ id=some h:=hρ;rw[hρ']at hok';obtain⟨_,_,_,_,arr,el,h4,_⟩:=hok';rw[e,hb3]at h4;cases h4
  have hE':EnvOk E' H n':=by
   refine⟨hE.len,hE.ns,hE.live,hE.wr,okk,hE.sub,hE.wl,hE.injO,λid k hl ho=>?_,hE.f0,by rw[hsz];exact hE.B,hE.hid,λb hb=>by rw[hsz];exact hE.hlt b hb⟩;rw[hsz];exact hE.ltO id k hl ho
  refine Aeq hM0 hB0 fin ds E' hE' (λt=>(hs t).monoq (hq n') hE.ns) ?_ ⟨λd hd=>?_,(gZ.1 hm.two).2⟩
  ·refine⟨hevo.B,hevo.F0,hevo.M,hevo.below.trans (by rw[<-hevo.B];exact Lc hBb),hevo.A,hevo.ids,hevo.kds,λk hk=>?_,hevo.Hd,λk hk=>(heap k λe=>hb2.2.2 (by rw[hevo.Hd,<-e];exact hk)).trans (hevo.hh k hk)⟩;obtain⟨h1,h2⟩:=hevo.hp k hk;refine⟨nb k h1,(heap k λe=>?_).trans h2⟩;have:=hk.1;have:=hevo.M;omega
  ·obtain⟨b',h1,h2,h3,h4⟩:=hm.each d (by simp[hd]);have hne:b'≠b:=by
    have:=(gZ.1 hm.two).1 d hd;rw[h1]at this;intro e;exact this (by rw[e])
   exact⟨b',h1,h2,nb b' h3,(heap b' hne).trans h4⟩
theorem Ajp(hcx:Ai P cx)(hdraw:Mt P cx){sem:CallSem}(hsem:Bb P sem){id:Nat}{args:List AV}{H:List Ob}{n:Nat}{K:AV->List Ob->Nat->Prop}(h:Ba cx P sem 0 (.rnd id::args) H n K)(E:Env)(vs:Array Value)
 (hE:EnvOk E H n)(hsz:vs.size=args.length)(hrd:∀(i:Nat) v x,vs[i]?=some v->args[i]?=some x->RdA E v x):
 Ac H id≠.dead/\∀hd,E.ρ id=some hd->∃fn tmps x y,(Instr.yield hd.blk vs).run P E.w=.ok (.round hd.blk fn tmps x y) E.w/\
  RoundIn (fen none) 0 P hd.blk fn tmps x y E.w (λen w'=>∃v E' z H' n',en=.returned v/\E'.w=w'/\n<=n'/\EnvOk E' H' n'/\RdA E' v z/\Evo n E E'/\K z H' n'):=by
 have h:Acc cx P sem id args H n K:=h;unfold Acc at h;split at h
 ·rename_i ps x y sl hob;split at h
  ·rename_i hc;simp only[aS]at hc;obtain⟨⟨hlen,hps⟩,hx,hy⟩:=hc;rw[Fe]at h;have hne:Ac H id≠.dead:=by rw[hob];simp
   have hl:=hE.live id hne;have ha:=hE.sub id hl;have hidn:=hE.ns id ha;refine⟨hne,λhd hρ=>?_⟩;have hok:=hE.ok id hl hne;rw[hob]at hok;obtain⟨hd',k1,r,k2,k3,k4,k5,k6,k7,k8,k9⟩:=hok;rw[hρ]at k1;cases k1;have hpsz:r.params.size=ps.length:=by rw[<-k5];simp
   have hvsz:vs.size=r.params.size:=by rw[hsz,hpsz];exact(bB hlen).symm
   obtain⟨tmps',m1,m2,m3,m4⟩:=Tl (E:=E) ps vs.toList args r.tmps (sl.map noW) (by simpa using hsz) (by simpa using k8)
    (λp hp=>by rw[bN];exact cB (bV.1 hps p hp)) (λi v x hv hx=>hrd i v x (by simpa using hv) hx) (λt=>by
      rw[Gq];refine F8 ?_;cases hv:r.tmps[t]? with
      |none=>
       have:sl.length<=t:=by rw[<-k8];exact Array.getElem?_eq_none_iff.1 hv
       rw[B4 _ this];exact .any _
      |some v=>
       have hlt:t<sl.length:=by rw[<-k8];exact(eH.1 hv).1
       have:r.tmps.getD t undef=v:=by simp[bR,hv]
       rw[this];exact k9 t v _ hv (C1 hlt)) (λt c s w v ht=>by
      rw[cL,bC]at ht;obtain⟨z,_,hz⟩:=ht;exact H5 _ _ _ _ _ hz)
   refine⟨r.fn,tmps',r.assign,r.body, ?_,roundIn_of_wpIn trivial ?_⟩
   ·rw[run_yield k2 hvsz,<-m1,<-k5,<-Array.toList_zip,gC]
   ·rw[k6,k7];have hs0:SlOk E ⟨tmps',[]⟩ (F2 ps args (sl.map noW)):=⟨m2,m3,λt c s w v ht=>aT ht (m4 t c s w v),Marks.nil E⟩;refine Ia (n0:=n) hcx hdraw hsem (some hd.blk) x hE hs0 (bA _) (λh=>by cases h) (.inr hx) h λe E1 a1 sl1 H1 n1 hk hE1 hs1 hevo1 hn1=>?_
    cases e with
    |ret=>exact hk.elim
    |exit m=>exact hk.elim
    |normal=>
     simp only at hk;split at hk
     ·rename_i ps1 x1 y1 sl1' hob1;rw[Ci]at hk;have hl1:=hE1.live id (by rw[hob1];simp);have hρ1:=(hevo1.ids id hidn ha hl1).2.trans hρ;have hok1:=hE1.ok id hl1 (by rw[hob1];simp);rw[hob1]at hok1;obtain⟨hd1,q1,r1,q2,q3,_⟩:=hok1;rw[hρ1]at q1;cases q1;obtain⟨E2,e1,hE2,hevo2⟩:=Tj (st':=.busy) (pe':=.no) (r':={ r1 with state:=.busy }) hE1 hob1 hρ1 q2 rfl (by
       have hok1:=hE1.ok id hl1 (by rw[hob1];simp);rw[hob1]at hok1;obtain⟨hd1,z1,r1',z2,z3,z4,_⟩:=hok1;rw[hρ1]at z1;cases z1;rw[q2]at z2;cases z2;exact z4) rfl rfl rfl rfl
      refine⟨E2.w,by rw[e1];exact run_beginRound q2 q3, ?_⟩;have hs2:=hs1.mono (hevo2 n1) hE1.ns;refine Ia (n0:=n) hcx hdraw hsem (some hd.blk) y hE2 hs2 hn1 (λh=>by cases h) (.inr hy) hk λe E3 a3 sl3 H3 n3 hk3 hE3 hs3 hevo3 hn3=>?_
      split at hk3
      ·rename_i ps3 x3 y3 sl3' hob3;have hl3:=hE3.live id (by rw[hob3];simp);have hevo13:Evo n E E3:=hevo1.trans ((hevo2 n).trans hevo3);have hρ3:=(hevo13.ids id hidn ha hl3).2.trans hρ;have hok3:=hE3.ok id hl3 (by rw[hob3];simp);rw[hob3]at hok3;obtain⟨hd3,q4,r3,q5,_⟩:=hok3;rw[hρ3]at q4;cases q4;have fin:∀(pe:Jump)(b:Bool),(Gl pe).isNone=b->∃v w4,(Instr.endRound hd.blk (Gl pe)).run P E3.w=.ok v w4/\∃E4,v=.bool b/\E4.w=w4/\EnvOk E4 (B3 (.loop (if b then .ready else .done) pe ps3 x3 y3 sl3') H3 id) n3/\Evo n E E4:=by
        intro pe b hb;obtain⟨E4,e4,hE4,hevo4⟩:=Tj (st':=if b then .ready else .done) (pe':=pe) (r':={ r3 with state:=if(Gl pe).isNone then .ready else .done,pending:=Gl pe }) hE3 hob3 hρ3 q5 (by rw[hb]) rfl rfl rfl rfl rfl;exact⟨_,_,run_endRound (P:=P) (Gl pe) q5,E4,by rw[hb],e4,hE4,hevo13.trans (hevo4 n)⟩
       cases e with
       |normal=>
        simp only[Ci]at hk3;obtain⟨v,w4,f1,E4,rfl,f3,f4,f5⟩:=fin .no true rfl;exact⟨_,w4,f1,_,E4,.bool true,_,n3,rfl,f3,hn3,f4,.bool _,f5,hk3⟩
       |ret=>
        simp only[Ci]at hk3;obtain⟨v,w4,f1,E4,rfl,f3,f4,f5⟩:=fin .ret false rfl;exact⟨_,w4,f1,_,E4,.bool false,_,n3,rfl,f3,hn3,f4,.bool _,f5,hk3⟩
       |exit m=>
        simp only[Ci]at hk3;obtain⟨v,w4,f1,E4,rfl,f3,f4,f5⟩:=fin (.exit m) false rfl;exact⟨_,w4,f1,_,E4,.bool false,_,n3,rfl,f3,hn3,f4,.bool _,f5,hk3⟩
      ·exact hk3.elim
     ·exact hk.elim
  ·exact h.elim
 ·exact h.elim
theorem Zt(hcx:Ai P cx)(hdraw:Mt P cx){sem:CallSem}(hsem:Bb P sem):Bb P (Ba cx P sem):=by
 refine⟨λg args H n K h E vs hE hsz hrd=>?_,λid args H n K h=>Ajp hcx hdraw hsem h⟩;have h:(match P.funcs[g]? with
  |some fn=>(match fn.body with
   |some c=>if Nat.ble args.length fn.ntmps then(fn.name == "runtime.NumGoroutine")=false/\Hz (Lx fn.ntmps (args.map noW)) (λsl=>Ja cx P sem n c sl H n (Ass P fn K))else False
   |none=>False)
  |none=>False):=by
  unfold Ba at h;split at h
  ·rename_i id args';have hv:∃v,vs[0]?=some v:=by
    have:0<vs.size:=by rw[hsz];simp
    exact⟨_,cF this⟩
   obtain⟨v,hv⟩:=hv;exact aT (hrd 0 v _ hv rfl) (λh=>by cases h)
  ·exact h
 split at h
 ·rename_i fn hfn;split at h
  ·rename_i c hc;split at h
   ·rename_i hle;obtain⟨hname,h⟩:=h;rw[Fe]at h;let E1:Env:={ E with M:=E.w.heap.size };have hq:Evq n E E1:=⟨λ_ _ h=>h,λ_ _ _ h=>⟨h,rfl⟩,λ_ _ _ _ _ _ h=>h,λ_ _ h=>⟨h,rfl⟩,λ_ _ _ hB h hm=>⟨hB,h,hm⟩⟩;have hE1:EnvOk E1 H n:=⟨hE.len,hE.ns,hE.live,hE.wr,λid hl hne=>OkOb.monoq hq hE.ns (hE.sub id hl) hl rfl (λ_ _=>rfl) (hE.ok id hl hne),hE.sub,hE.wl,hE.injO,hE.ltO,hE.f0,hE.B,hE.hid,hE.hlt⟩;refine⟨⟨fn,hfn,by rw[hc];rfl,hname⟩,Lz.1 (callsIn_of_wp_marks (F:=fen none) (n:=0) hfn hc trivial ?_ rfl)⟩;have hle':(args.map noW).length<=fn.ntmps:=by rw[bN];exact cB hle
    obtain⟨p1,p2⟩:=Qf fn.ntmps (args.map noW) hle';rw[bN]at hle';refine Ia (n0:=n) (E:=E1) hcx hdraw hsem none c hE1 ?_ (bA _) (λ_=>bA _) (.inl rfl) h λe E' a' sl' H' n' hk hE' hs' hevo hn'=>?_
    ·refine⟨?_,λt=>?_,λt c s w v ht=>?_,Marks.nil _⟩
     ·rw[p1];simp;omega
     ·rw[p2,Gq];rcases cN t args.length with hlt|hge
      ·have hx:=C1 (d:=AV.any) hlt;have hv:vs[t]?=some (vs[t]'(by omega)):=cF (by omega);have:(Act.mk (vs++Array.replicate (fn.ntmps-vs.size) undef) []).eval (.tmp t)=vs[t]'(by omega):=by
        simp only[Act.eval,bR,gP];rw[aP (by omega),hv];rfl
       rw[this];exact(F8 (hrd t _ _ hv hx)).monoq hq hE.ns
      ·rw[B4 _ hge];exact .any _
     ·have hg:Aq .any (Lx fn.ntmps (args.map noW)) t=.when c s w v:=by rw[Bn,ht];rfl
      rw[p2,Gq]at hg;exact aT hg (H5 _ _ _ _ _)
    ·have fin:Ht P sl' H' fn.results.toList (λvs=>Aqa vs (λv=>K v H' n'))->LeavesInM (fen none) 0 P fn a'.tmps (λen w'=>∃v E' x H' n',en=.returned v/\E'.w=w'/\n<=n'/\EnvOk E' H' n'/\RdA E' v x/\Evo n E E'/\K x H' n') a'.defers .returning E'.w:=by
      intro hk;refine Aeq (E0:=E1) (sl:=sl') rfl hE.B (λE2 hE2 hs2 hevo2=>?_) a'.defers E' hE' hs'.rd hevo hs'.defers;obtain⟨us,ws,k1,k2,k3,k4,k5⟩:=L4 (P:=P) hE2 hs2 _ _ hk;refine⟨_,Zs k5, ?_⟩;let E3:Env:={ E2 with M:=E.M };have hq3:Evq n' E2 E3:=⟨λ_ _ h=>h,λ_ _ _ h=>⟨h,rfl⟩,λ_ _ _ _ _ _ h=>h,λ_ _ h=>⟨h,rfl⟩,λ_ _ _ hB h hm=>⟨hB,h,hm⟩⟩;have hE3:EnvOk E3 H' n':=⟨hE2.len,hE2.ns,hE2.live,hE2.wr,λid hl hne=>OkOb.monoq hq3 hE2.ns (hE2.sub id hl) hl rfl (λ_ _=>rfl) (hE2.ok id hl hne),hE2.sub,hE2.wl,hE2.injO,hE2.ltO,hE2.f0,hE2.B,hE2.hid,hE2.hlt⟩;have hevo3:Evo n E E3:=⟨hevo2.B,hevo2.F0,rfl,hevo2.below,hevo2.A,hevo2.ids,hevo2.kds,hevo2.hp,hevo2.Hd,hevo2.hh⟩;have k4:∀(i:Nat) u x,us[i]?=some u->ws[i]?=some x->RdA E3 u x:=λi u x hu hx=>(k4 i u x hu hx).monoq hq3 hE2.ns
      match us,ws,k1,k2,k4 with
      |[],[],k1,_,_=>exact⟨_,E3,.tup [],H',n',rfl,rfl,hn',hE3,.tup _ _ rfl (λi u x hu=>by simp at hu),hevo3,k1⟩
      |[u],[x],k1,_,k4=>exact⟨_,E3,x,H',n',rfl,rfl,hn',hE3,k4 0 u x rfl rfl,hevo3,k1⟩
      |u::u'::us,x::x'::xs,k1,k2,k4=>
       exact⟨_,E3,.tup (x::x'::xs),H',n',rfl,rfl,hn',hE3,.tup _ _ (by simpa using k2) (λi v y hv hy=>k4 i v y (by simpa using hv) hy),hevo3,k1⟩
      |[],_::_,_,k2,_=>exact aT k2 (by simp)
      |_::_,[],_,k2,_=>exact aT k2 (by simp)
      |[_],_::_::_,_,k2,_=>exact aT k2 (by simp)
      |_::_::_,[_],_,k2,_=>exact aT k2 (by simp)
     cases e with
     |normal=>exact fin hk
     |ret=>exact fin hk
     |exit m=>exact hk.elim
   ·exact h.elim
  ·exact h.elim
 ·exact h.elim
theorem Zu(hcx:Ai P cx)(hdraw:Mt P cx):∀d,Bb P (Nl cx P d)
 |0=>⟨λg args H n K h=>h.elim,λid args H n K h=>h.elim⟩
 |d+1=>Zt hcx hdraw (Zu hcx hdraw d)
end
end Go.Sx
namespace Go.Sx
open Go.RowKit
def Env.give(E:Env)(ids:List Nat):Env:={ E with W:=λid=>E.W id/\id ∉ ids }
section
variable {P:Program}{cx:Ctx}{E:Env}{H:List Ob}{n:Nat}{ids:List Nat}
theorem Xq{b:Nat}(h:E.Nb b):(E.give ids).Nb b:=⟨h.1,λid hW=>h.2.1 id hW.1,h.2.2⟩
theorem Mu{b o:Nat}(h:E.Fz b o):(E.give ids).Fz b o:=by
 rcases h with h|⟨h1,h2⟩
 ·exact .inl h
 ·exact .inr ⟨h1,Xq h2⟩
theorem Ft(n0:Nat):Evo n0 E (E.give ids):=⟨rfl,rfl,rfl,Below.refl _ _,λ_ _ h=>h,λ_ _ _ h=>⟨h,rfl⟩,λ_ _ _ _ _ _ h=>h,λ_ h=>⟨Xq h,rfl⟩,rfl,λ_ _=>rfl⟩
theorem EnvOk.give(hE:EnvOk E H n):EnvOk (E.give ids) (Gj ids H) n:=by
 refine⟨by rw[(Dq ids H 0).2.2];exact hE.len,hE.ns,λid hne=>?_,λid hw=>?_,λid hl hne=>?_,hE.sub,λid hw=>hE.wl id hw.1,hE.injO,hE.ltO,hE.f0,hE.B,hE.hid,hE.hlt⟩
 ·refine hE.live id λhd=>hne ?_
  have:=(Dq ids H id).1;rw[hd]at this;exact this.dead
 ·exact⟨hE.wr id ((Dq ids H id).1.wr hw),λhm=>(Dq ids H id).2.1 hm hw⟩
 ·have hf:=(Dq ids H id).1;have hne':Ac H id≠.dead:=λhd=>hne (by rw[hd]at hf;exact hf.dead)
  exact hf.ok hne (OkOb.mono (Ft n) hE.ns (hE.sub id hl) hl rfl (λ_ _=>rfl) (hE.ok id hl hne'))
theorem Tm:∀(l:List AV),(N3 ids H l).length=l.length/\∀(i:Nat) y,(N3 ids H l)[i]?=some y->∃x,l[i]?=some x/\y=frV ids H x
 |[]=>⟨rfl,λi y h=>by simp[N3]at h⟩
 |x::l=>by
  have ih:=Tm l;refine⟨by simp[N3,ih.1],λi y h=>?_⟩;cases i with
  |zero=>simp only[N3,dP,aU]at h;exact⟨x,rfl,h.symm⟩
  |succ i=>
   simp only[N3,gH]at h;obtain⟨z,h1,h2⟩:=ih.2 i y h;exact⟨z,by simpa using h1,h2⟩
theorem Oz(hE:EnvOk E H n){v:Value}{x:AV}(h:RdA E v x):RdA (E.give ids) v (Ly ids H x):=by
 unfold Ly;split
 ·rename_i p l hd;split
  ·rename_i hall;refine .up ((Ou (λid _ hne=>hE.live id hne) (λid hl hne=>hE.ok id hl hne) h hd (λid hid=>hid)).monoF λb o hb=>?_);rcases hb with hb|⟨id2,hid2,hl2,ho2⟩
   ·exact Mu hb
   ·have hid3:id2∈ids:=by simpa using bV.1 hall id2 hid2
    obtain⟨g1,g2⟩:=hE.ltO id2 b hl2 ho2;refine .inr ⟨g1,g2,λid3 hW3 ho3=>?_,hE.hid id2 b hl2 ho2⟩;have e:=hE.injO id3 id2 b (hE.wl id3 hW3.1) hl2 ho3 ho2;subst e;exact hW3.2 hid3
  ·exact h.mono (Ft n) hE.ns
 ·exact h.mono (Ft n) hE.ns
theorem Tn:∀{es:List (Int×AV)}{es':List (Int×List (Option PV))},S4 es=some es'->es.length=es'.length/\
 ∀(i:Nat) p',es'[i]?=some p'->∃cs,es[i]?=some (p'.1,.agg cs)/\p'.2=cs.map Xg
 |[],es',h=>by cases h;exact⟨rfl,λi p' h=>by simp at h⟩
 |(p,x)::es,es',h=>by
  unfold S4 at h;split at h
  ·rename_i heq;cases heq
  ·rename_i p0 cs l heq;cases heq;split at h
   ·rename_i r hr;cases h;obtain⟨g1,g2⟩:=Tn hr;refine⟨by simp[g1],λi p' hp=>?_⟩;cases i with
    |zero=>cases hp;exact⟨cs,rfl,rfl⟩
    |succ i=>simpa using g2 i p' (by simpa using hp)
   ·cases h
  ·cases h
theorem FlatRd.of{v:Value}{cs:List AV}(h:RdA E v (.agg cs)):FlatRd v (cs.map Xg):=by
 obtain⟨vs,rfl,h1,h2,h3⟩:=h.agg_inv;refine⟨vs,rfl,by rw[h1];simp,h2,λi u p hu hp=>?_⟩;rw[cL,bC]at hp;obtain⟨x,hx,hp⟩:=hp;have hr:=h3 i u x hu hx;cases x<;>simp only[Xg,aU]at hp<;>first
  |cases hp;done
  |(subst hp;cases hr;rfl)
theorem Anh(hE:EnvOk E H n){v:Value}{id:Nat}(h:RdA E v (.mp id)):RdA (E.give ids) v (Agi ids H id):=by
 unfold Agi;split
 ·rename_i es hob;split
  ·rename_i hid;split
   ·rename_i es' hes;have hne:Ac H id≠.dead:=by rw[hob];simp
    have hl:=hE.live id hne;have hok:=hE.ok id hl hne;rw[hob]at hok;obtain⟨hd,hρ,ms,clock,hb,hsz,hall⟩:=hok;obtain⟨hd',hρ',rfl⟩:=h.mp_inv.2.2 hl;rw[hρ]at hρ';cases hρ';obtain⟨g1,g2⟩:=hE.lt id hd hl hρ;obtain⟨e1,e2⟩:=Tn hes;have ho:E.Own id hd.blk:=.inl ⟨hd,hρ,rfl⟩;refine .dmp hd.blk es' ms clock g1 ⟨g2,λid3 hW3 ho3=>?_,hE.hid id _ hl ho⟩ hb (hsz.trans e1) λi m p' hm hp'=>?_
    ·have e:=hE.injO id3 id hd.blk (hE.wl id3 hW3.1) hl ho3 ho;subst e;exact hW3.2 (by simpa using hid)
    ·obtain⟨cs,k1,k2⟩:=e2 i p' hp';obtain⟨k3,k4⟩:=hall i m _ hm k1;exact⟨k3,by rw[k2];exact FlatRd.of k4⟩
   ·exact h.mono (Ft n) hE.ns
  ·exact h.mono (Ft n) hE.ns
 ·exact h.mono (Ft n) hE.ns
theorem Aqe(hE:EnvOk E H n){v:Value}{x:AV}(h:RdA E v x):RdA (E.give ids) v (frV ids H x):=by
 induction h with
 |any v=>exact .any v
 |int k m=>exact .int _ _
 |bool b=>exact .bool _
 |str s=>exact .str _
 |val v h1=>exact .val _ h1
 |nils b c=>exact .nils _ _
 |cap0 b=>exact .cap0 _
 |sl v t xs h1=>exact .sl _ _ _ (h1.monoF λb o hb=>Mu hb)
 |ptr v id off hA h1 hp=>exact .ptr _ id off hA h1 hp
 |mp v id hA h1 hp=>exact Anh hE (.mp v id hA h1 hp)
 |dmp b es ms clock hB hb hh hsz hes=>exact .dmp b es ms clock hB (Xq hb) hh hsz hes
 |rptr v id k row off hA h1 hp=>exact .rptr _ id k row off hA h1 hp
 |eptr b o cs g hcell hrd=>exact .eptr b o cs g (λj hj=>⟨Mu (hcell j hj).1,(hcell j hj).2⟩) (λj p hp=>(hrd j p hp).monoF λb o hb=>Mu hb)
 |ownp v id k lo m hA h1 hp=>exact Oz hE (.ownp v id k lo m hA h1 hp)
 |fn f vs ws xs ys hv hw h1 h2 _ _=>exact Oz hE (.fn f vs ws xs ys hv hw h1 h2)
 |when v c s w x h1 h2 _=>exact .when v c s w x (λhc=>(h1 hc).mono (Ft n) hE.ns) h2
 |own v id hA h1 hp=>exact Oz hE (.own v id hA h1 hp)
 |ownc v id k lo m hA h1 hp=>exact Oz hE (.ownc v id k lo m hA h1 hp)
 |csl v t id m hA h1 hp=>
  show RdA (E.give ids) v (S3 ids H (.csl t id m));unfold S3;split
  ·rename_i y l hlow;split
   ·rename_i hall;obtain⟨xss,rfl,hy⟩:=Vp (λid _ hne=>hE.live id hne) (λid hl hne=>hE.ok id hl hne) (.csl v t id m hA h1 hp) hlow (λid hid=>hid);refine .up (p:=.sl _ _) (hy.monoF λb o hb=>?_);rcases hb with hb|⟨id2,hid2,hl2,ho2⟩
    ·exact Mu hb
    ·have hid3:id2∈ids:=by simpa using bV.1 hall id2 hid2
     obtain⟨g1,g2⟩:=hE.ltO id2 b hl2 ho2;refine .inr ⟨g1,g2,λid3 hW3 ho3=>?_,hE.hid id2 b hl2 ho2⟩;have e:=hE.injO id3 id2 b (hE.wl id3 hW3.1) hl2 ho3 ho2;subst e;exact hW3.2 hid3
   ·exact(RdA.csl v t id m hA h1 hp).mono (Ft n) hE.ns
  ·exact(RdA.csl v t id m hA h1 hp).mono (Ft n) hE.ns
 |slf t xs ba h1=>exact .sl _ _ _ (h1.monoF λb o hb=>Mu hb)
 |yld v id hA h1 hp=>exact .yld _ id hA h1 hp
 |grow v id i hA h1 hp=>exact .grow _ id i hA h1 hp
 |gptr v id i j hA h1 hp=>exact .gptr _ id i j hA h1 hp
 |agg vs xs hv h1 _ ih=>
  have g:=Tm (ids:=ids) (H:=H) xs;refine .agg vs (N3 ids H xs) (by rw[hv,g.1]) h1 λi u y hu hy=>?_
  obtain⟨x,hx,rfl⟩:=g.2 i y hy;exact ih i u x hu hx
 |tup vs xs hv _ ih=>
  have g:=Tm (ids:=ids) (H:=H) xs;refine .tup vs (N3 ids H xs) (by rw[hv,g.1]) λi u y hu hy=>?_
  obtain⟨x,hx,rfl⟩:=g.2 i y hy;exact ih i u x hu hx
theorem Ani{w:World}{F0:Nat->Nat->Prop}(hF:∀b o,F0 b o->b<w.heap.size):EnvOk (Env.base w F0) [] 0:=
 ⟨rfl,λ_ h=>h.elim,λid h=>aT (B4 _ (by simp)) h,λid h=>aT (B4 _ (by simp)) (Dz h),λ_ h=>h.elim,λ_ h=>h.elim,λ_ h=>h.elim,λ_ _ _ h=>h.elim,λ_ _ h=>h.elim,hF,bA _,λ_ _ h=>h.elim,λ_ h=>h.elim⟩
theorem Aqf(s:Sh)(x:AV)(h:∀c q w v,x≠.when c q w v):∀c q w v,fit s x≠.when c q w v:=by
 intro c q w v he;cases x with
 |when a b c d=>exact h a b c d rfl
 |_=>cases s<;>simp[fit]at he
theorem Aqg{w w':World}{F0:Nat->Nat->Prop}{r:CR}{v:Value}{x:AV}(hE:EnvOk E H n)(hv:RdA E v x)(hevo:Evo 0 (Env.base w F0) E)(hw:E.w=w')(hk:H0 r x H n):
 Zl w F0 r (.returned v) w':=by
 subst hw;obtain⟨hgiv,hfine,ids,σ,hwk⟩:=hk;have hE1:=hE.give (ids:=ids);have hv1:=Aqe (ids:=ids) hE hv;have hs1:SlOk (E.give ids) ⟨#[v],[]⟩ [fit (Rt r.res) (noW (frV ids H x))]:=by
  refine⟨rfl,λt=>?_,λt c s w v ht=>?_,Marks.nil _⟩
  ·cases t with
   |zero=>exact Ajj _ _ (F8 hv1)
   |succ t=>exact .any _
  ·cases t with
   |zero=>simp only[dP,aU]at ht;exact aT ht (Aqf _ _ (H5 _) _ _ _ _)
   |succ t=>simp at ht
 obtain⟨E2,hw2,hE2,hs2,hevo2,_,hL,hW,hA⟩:=Aco hE1 hs1 hwk;have hevo':Evo 0 (Env.base w F0) E2:=(hevo.trans (Ft 0)).trans hevo2;have hnd:∀id,id<r.news.length->(Ac r.news id).wr:=by
  intro id hid;have hm:=bV.1 hfine _ (cJ hid);have:Ac r.news id=r.news[id]:=by
   unfold Ac;rw[Bn,aR hid];rfl
  rw[this];cases hob:r.news[id]<;>rw[hob]at hm<;>first|trivial|cases hm
 have heq:E2=Env.aft w E.w F0 r.news.length E2.ρ E2.K:=by
  have e1:E2.B=w.heap.size:=hevo'.B;have e2:E2.F0=F0:=hevo'.F0;have e6:E2.M=w.heap.size:=hevo'.M;have e7:E2.Hd=λ_=>False:=hevo'.Hd
  have e3:E2.L=λid=>id<r.news.length:=funext λid=>propext ⟨λh=>Cw ((hL id).1 h),λh=>(hL id).2 (Dz (hnd id h))⟩
  have e4:E2.W=λid=>id<r.news.length:=funext λid=>propext ⟨λh=>Cw (Dz ((hW id).1 h)),λh=>(hW id).2 (hnd id h)⟩
  have e5:E2.A=λid=>id<r.news.length:=funext λid=>propext (hA id)
  cases E2;simp only at hw2 e1 e2 e3 e4 e5 e6 e7 ⊢;subst hw2;subst e1;subst e2;subst e3;subst e4;subst e5;subst e6;subst e7;rfl
 have hg:A7 r.given:=by
  cases hq:r.given with
  |none=>trivial
  |some q=>rw[hq]at hgiv;exact hgiv
 refine⟨hg,v,E2.ρ,E2.K,rfl, ?_, ?_, ?_, ?_, ?_⟩
 ·exact hevo'.below.trans (by rw[hw2];exact Below.refl _ _)
 ·have:=hs2.rd 0;rw[<-heq];exact this
 ·intro j ob hj;rw[<-heq];have hlt:j<r.news.length:=(aW.1 hj).1;have hob:Ac r.news j=ob:=by unfold Ac;rw[Bn,hj];rfl
  have:=hE2.ok j ((hL j).2 (Dz (hnd j hlt))) (Dz (hnd j hlt));rw[hob]at this;exact this
 ·intro j h hj hρ;have:=hE2.lt j h ((hL j).2 (Dz (hnd j hj))) hρ;rw[hevo'.B,hw2]at this;exact this
 ·intro j j' h h' hj hj' hρ hρ' hne;exact hE2.inj j j' h h' ((hL j).2 (Dz (hnd j hj))) ((hL j').2 (Dz (hnd j' hj'))) hρ hρ' hne
theorem Vu{call:CallSem}(hcall:Bb P call){g:FuncId}{C:Ctr}(hfn:∃fn,P.funcs[g]?=some fn/\fn.body.isSome=true/\(fn.name == "runtime.NumGoroutine")=false)
 (hgen:∀args r,C args=some r->∀k,r.gen k->k r.cr.res)(h:∀args r gen,C args=some ⟨r,gen⟩->A7 r.need->call g args [] 0 (H0 r)):GoodC P g C:=by
 refine⟨hfn,hgen,λargs r gen hC hn w F0 vs hF hsz hrd=>?_⟩;obtain⟨_,hc⟩:=hcall.1 g args [] 0 _ (h args r gen hC hn) (Env.base w F0) vs (Ani hF) hsz hrd;refine hc.mono λen w' hpost=>?_
 obtain⟨v,E',x,H',n',rfl,hw,_,hE',hv,hevo,hk⟩:=hpost;exact Aqg hE' hv hevo hw hk
theorem Ajq(hcx:Ai P cx)(hdraw:Mt P cx){g:FuncId}{C:Ctr}(d:Nat)(hfn:∃fn,P.funcs[g]?=some fn/\fn.body.isSome=true/\(fn.name == "runtime.NumGoroutine")=false)
 (hgen:∀args r,C args=some r->∀k,r.gen k->k r.cr.res)(h:∀args r gen,C args=some ⟨r,gen⟩->A7 r.need->Nl cx P d g args [] 0 (H0 r)):GoodC P g C:=
 Vu (Zu hcx hdraw d) hfn hgen h
end
end Go.Sx
