/- Symbolic steps. -/
import Derived.Test.YtpabcdbaffjcdaaGreatJB4
import Derived.Orders
set_option linter.unusedSimpArgs false
set_option linter.unusedVariables false
set_option maxRecDepth 100000
namespace Go.Sx
open Go.RowKit
theorem To{b j:Nat}:D4 b j=true<->b.testBit j=true:=by
 unfold D4;constructor
 ·intro h;have h':=bB h;rw[<-h'];change (Nat.pow 2 j ||| b).testBit j=true;rw[fE,show Nat.pow 2 j=2 ^ j from rfl,Nat.testBit_two_pow_self];rfl
 ·intro h;have:Nat.lor (Nat.pow 2 j) b=b:=by
   change (2 ^ j ||| b)=b;refine Nat.eq_of_testBit_eq λi=>?_
   rw[fE,Nat.testBit_two_pow];by_cases hi:j=i
   ·subst hi;simp[h]
   ·simp[hi]
  rw[this];exact gD b
theorem Acp{L b i:Nat}(h:N2 L b i=true):∀j,j<i->L.testBit j=true->D4 b j=true:=by
 intro j hj hL;rw[To];unfold N2 at h;have h':=bB h;rw[<-h'];change (L % 2 ^ i ||| b).testBit j=true;rw[fE,Nat.testBit_mod_two_pow];simp[hj,hL]
theorem Vv:∀(ops:List Oper)(k j:Nat)(o:Oper),ops[j]?=some o->Ce o.op=false->(Om k ops).testBit (k+j)=true
 |[],_,_,_,h,_=>by simp at h
 |o0::l,k,0,o,h,hs=>by
  cases h;simp only[Om,hs,cH,if_false];change (2 ^ k ||| Om (k+1) l).testBit (k+0)=true;rw[fE,dH,Nat.testBit_two_pow_self];rfl
 |o0::l,k,j+1,o,h,hs=>by
  have ih:=Vv l (k+1) j o (by simpa using h) hs;rw[show k+1+j=k+(j+1) by omega]at ih;simp only[Om];split
  ·exact ih
  ·change (2 ^ k ||| Om (k+1) l).testBit (k+(j+1))=true;rw[fE,ih];simp
theorem Ra{L:Nat}:∀(l:List (Oper×Nat))(i:Nat),(Gk L i l).length=l.length/\
 (∀(k:Nat)(d:DrawOp),(Gk L i l)[k]?=some d->l[k]?=some (d.o,d.bef)/\d.late=N2 L d.bef (i+k))/\
 ∀(k:Nat)(d:DrawOp),(Gk L i l)[k]?=some d->d.bar=true->∀(m:Nat)(d':DrawOp),k<=m->(Gk L i l)[m]?=some d'->d'.late=true
 |[],i=>⟨rfl,λk d h=>by simp[Gk]at h,λk d h=>by simp[Gk]at h⟩
 |(o,b)::l,i=>by
  obtain⟨h1,h2,h3⟩:=Ra l (i+1);simp only[Gk];cases hg:Gk L (i+1) l with
  |nil=>
   rw[hg]at h1;refine⟨by simp[<-h1],λk d h=>?_,λk d h hb m d' hm h'=>?_⟩
   ·cases k with
    |zero=>cases h;exact⟨rfl,rfl⟩
    |succ k=>simp at h
   ·cases m with
    |zero=>
     have:k=0:=by omega
     subst this;rw[h]at h';cases h';cases h;exact hb
    |succ m=>simp at h'
  |cons d0 r=>
   rw[hg]at h1 h2 h3;refine⟨by simp[<-h1],λk d h=>?_,λk d h hb m d' hm h'=>?_⟩
   ·cases k with
    |zero=>cases h;exact⟨rfl,rfl⟩
    |succ k=>
     have:=h2 k d (by simpa using h);rw[show i+1+k=i+(k+1) by omega]at this;exact⟨by simpa using this.1,this.2⟩
   ·cases k with
    |zero=>
     cases h;simp only[aS]at hb;cases m with
     |zero=>cases h';exact hb.1
     |succ m=>exact h3 0 d0 rfl hb.2 m d' (aV _) (by simpa using h')
    |succ k=>
     cases m with
     |zero=>omega
     |succ m=>exact h3 k d (by simpa using h) hb m d' (by omega) (by simpa using h')
theorem Tp{acc:List Nat}{j:Nat}:∀(l:List Go.Edge),(Y5 acc l).testBit j=true->∃e∈l,A4 e=true/\(j=e.on\/(Aq 0 acc e.on).testBit j=true)
 |[],h=>by simp[Y5]at h
 |e::l,h=>by
  simp only[Y5]at h;split at h
  ·rename_i hb;change ((2 ^ e.on ||| Aq 0 acc e.on) ||| Y5 acc l).testBit j=true at h;rw[fE,fE,Nat.testBit_two_pow]at h;simp only[bY,bO]at h;rcases h with(h|h)|h
   ·exact⟨e,by simp,hb,.inl h.symm⟩
   ·exact⟨e,by simp,hb,.inr h⟩
   ·obtain⟨e',h1,h2⟩:=Tp l h;exact⟨e',by simp[h1],h2⟩
  ·obtain⟨e',h1,h2⟩:=Tp l h;exact⟨e',by simp[h1],h2⟩
theorem Rb:∀(l:List Oper)(acc:List Nat),(Is acc l).length=acc.length+l.length
 |[],acc=>by simp[Is]
 |o::l,acc=>by simp only[Is];rw[Rb l];simp;omega
theorem L5{D:Nat->Prop}:∀(l:List Oper)(acc:List Nat)(full:List Oper),full.drop acc.length=l->full.length=acc.length+l.length->
 (∀i o,full[i]?=some o->D i->∀e∈o.after.toList,A4 e=true->D e.on)->
 (∀i j,i<acc.length->(∀o,full[i]?=some o->∀e∈o.after.toList,A4 e=true->D e.on)->(Aq 0 acc i).testBit j=true->D j)->
 ∀i j,(∀o,full[i]?=some o->∀e∈o.after.toList,A4 e=true->D e.on)->(Aq 0 (Is acc l) i).testBit j=true->D j
 |[],acc,full,_,_,hD,hacc,i,j,hi,hj=>by
  simp only[Is]at hj;rcases cN i acc.length with h|h
  ·exact hacc i j h hi hj
  ·rw[B4 _ h]at hj;simp at hj
 |o::l,acc,full,hdrop,hlen,hD,hacc,i,j,hi,hj=>by
  simp only[Is]at hj;have ho:full[acc.length]?=some o:=by
   have:=bI (λl=>l[0]?) hdrop;simpa using this
  refine L5 l (acc++[Y5 acc o.after.toList]) full ?_ (by simp at hlen ⊢;omega) hD ?_ i j hi hj
  ·have:=bI (λl=>l.drop 1) hdrop;simpa[gW]using this
  ·intro i' j' hi' hi2 hj';rw[Q9]at hj';split at hj'
   ·rename_i hlt;exact hacc i' j' hlt hi2 hj'
   ·rename_i hge;have:i'=acc.length:=by simp at hi';omega
    subst this;rw[fO]at hj';obtain⟨e,h1,h2,h3⟩:=Tp _ hj';have hon:=hi2 o ho e h1 h2;rcases h3 with rfl|h3
    ·exact hon
    ·rcases cN e.on acc.length with h|h
     ·exact hacc e.on j' h (λo' ho'=>hD e.on o' ho' hon) h3
     ·rw[B4 _ h]at h3;simp at h3
theorem Vw{ops:List Oper}:∀(l:List DrawOp)(j:Nat),Sz ops j l=true->∀k d,l[k]?=some d->
 (∀i o,i<j+k->ops[i]?=some o->Q4 ops o d.o=true->D4 d.bef i=true)/\∀e∈d.o.after.toList,A4 e=true->e.on<j+k
 |[],_,_,k,d,h=>by simp at h
 |d0::l,j,h,0,d,hd=>by
  cases hd;simp only[Sz,aS]at h;obtain⟨⟨h1,h2⟩,_⟩:=h;refine⟨λi o hi ho hm=>?_,λe he hb=>?_⟩
  ·have hmem:(o,i)∈(ops.take j).zipIdx:=by
    rw[fR,eZ];simp[show i<j by omega,ho]
   have:=bV.1 h1 _ hmem;simpa[hm]using this
  ·have:=bV.1 h2 e he;simp only[hb,gL,fW]at this;exact cB this
 |d0::l,j,h,k+1,d,hd=>by
  simp only[Sz,aS]at h;have:=Vw l (j+1) h.2 k d (by simpa using hd);rw[show j+1+k=j+(k+1) by omega]at this;exact this
structure Put(dst:Option Tmp)(v:AV)(sl sl':List AV):Prop where
 eq:sl'=match dst with|none=>sl|some d=>B3 v sl d
 ok:∀d,dst=some d->d<sl.length/\Sy d sl=true/\R4 d v=true
theorem Ajr{dst:Option Tmp}{v:AV}{sl:List AV}{K:List AV->Prop}(h:N1 dst v sl K):∃sl',K sl'/\Put dst v sl sl':=by
 cases dst with
 |none=>exact⟨sl,h,rfl,λd hd=>(by cases hd)⟩
 |some d=>
  simp only[N1]at h;split at h
  ·rename_i hc;simp only[aS]at hc;rw[Xm]at h;exact⟨_,h,rfl,λd' hd=>(by cases hd;exact⟨cB hc.1,hc.2⟩)⟩
  ·exact h.elim
structure DrawStep(P:Program)(cx:Ctx)(ops:List Oper)(d:DrawOp)(sl:List AV)(H:List Ob)(n:Nat)(r:Res)(sl':List AV)(H':List Ob)(n':Nat):Prop where
 res:Ew cx P true ops d.o sl H n=some r
 put:Put d.o.dst r.val sl sl'
 heap:H'=r.heap H
 num:n'=n+r.news.length
theorem Zv{b:Nat}{q:Prop}:∀{G:List (Nat×Prop)},Ab8 b q G<->((∀j p,(j,p)∈G->D4 b j=true->p)->q)
 |[]=>by simp[Ab8]
 |(j,g)::G=>by
  have ih:=Zv (b:=b) (q:=q) (G:=G);simp only[Ab8];by_cases hb:D4 b j=true
  ·rw[aP hb,ih];constructor
   ·intro h h2;exact h (h2 j g (by simp) hb) λj' p hm hb'=>h2 j' p (by simp[hm]) hb'
   ·intro h hg h2;refine h λj' p hm hb'=>?_
    rcases cT.1 hm with he|hm
    ·cases he;exact hg
    ·exact h2 j' p hm hb'
  ·rw[aL hb,ih];constructor
   ·intro h h2;exact h λj' p hm hb'=>h2 j' p (by simp[hm]) hb'
   ·intro h h2;refine h λj' p hm hb'=>?_
    rcases cT.1 hm with he|hm
    ·cases he;exact aT hb' hb
    ·exact h2 j' p hm hb'
theorem Zw{q:Prop}:∀{G:List (Nat×Prop)},Ai3 q G<->((∀j p,(j,p)∈G->p)->q)
 |[]=>by simp[Ai3]
 |(j,g)::G=>by
  have ih:=Zw (q:=q) (G:=G);simp only[Ai3,ih];constructor
  ·intro h h2;exact h (h2 j g (by simp)) λj' p hm=>h2 j' p (by simp[hm])
  ·intro h hg h2;refine h λj' p hm=>?_
   rcases cT.1 hm with he|hm
   ·cases he;exact hg
   ·exact h2 j' p hm
theorem Zx{b:Nat}{q:Prop}:∀{G:List (Nat×Prop)}{k:Prop->Prop},Y6 b q G k=k (Ab8 b q G)
 |[],k=>rfl
 |(j,g)::l,k=>by
  simp only[Y6,Ab8];split<;>rw[Zx]
theorem Agy{G:List (Nat×Prop)}{b:Nat}{o:Option Prop}{p:Prop}:Aef G b o p<->((∀j q,(j,q)∈G->D4 b j=true->q)->A7 o)/\p:=by
 cases o with
 |none=>simp[Aef,A7]
 |some q=>simp only[Aef,A7,Zx,Zv]
theorem Zy{i:Nat}{o:Option Prop}{G:List (Nat×Prop)}{j:Nat}{q:Prop}:(j,q)∈Am0 i o G<->(j=i/\o=some q)\/(j,q)∈G:=by
 cases o with
 |none=>simp[Am0]
 |some p=>simp only[Am0,cT,bG,aU,eq_comm]
section
variable {P:Program}{cx:Ctx}{ops:List Oper}
def Zz(ops:List Oper)(ds:List DrawOp)(i:Nat)(ms:List Nat)(M:Nat->Nat)(k:Nat)(d:DrawOp)(id:Nat):Prop:=
 (∀(j m:Nat) o,ms[j]?=some m->ops[j]?=some o->Ce o.op=false->D4 d.bef j=true\/m<=id)/\
  (∀(j:Nat) o,j<k->ops[i+j]?=some o->Ce o.op=false->D4 d.bef (i+j)=true\/M j<=id)/\
  ∀(j:Nat) d',k<j->ds[j]?=some d'->Ce d'.o.op=false->D4 d'.bef (i+k)=true
def Asx(ops:List Oper)(ds:List DrawOp)(i:Nat)(ms:List Nat)(M:Nat->Nat)(R:Nat->Res)(k:Nat)(d:DrawOp):Prop:=
 (∀p,(R k).st=some p->d.bar=true\/Zz ops ds i ms M k d p.1)/\∀id,(R k).kill=some id->d.late=true\/Zz ops ds i ms M k d id
theorem Agz{ops:List Oper}{i:Nat}{ms:List Nat}{d:DrawOp}{rest:List DrawOp}{id:Nat}{ob:Ob}(h:On ops i ms d rest (some (id,ob))=true):
 (∀(j m:Nat) o,ms[j]?=some m->ops[j]?=some o->Ce o.op=false->D4 d.bef j=true\/m<=id)/\∀(j:Nat) d',rest[j]?=some d'->Ce d'.o.op=false->D4 d'.bef i=true:=by
 simp only[On,aS]at h;refine⟨λj m o hm ho hs=>?_,λj d' hd hs=>?_⟩
 ·have hmem:((m,o),j)∈(ms.zip ops).zipIdx:=by
   rw[fR,List.getElem?_zip_eq_some];exact⟨hm,ho⟩
  have:=bV.1 h.1 _ hmem;simp only[hs,fW,bY]at this;exact this.imp (λh=>h) cB
 ·have:=bV.1 h.2 d' (cR hd);simpa[hs]using this
theorem Vx:∀(ds:List DrawOp)(i:Nat)(ms:List Nat)(G:List (Nat×Prop))(sl:List AV)(H:List Ob)(n:Nat)(K:Ls),ms.length=i->Mf cx P ops ds i ms G sl H n K->
 ∃(S:Nat->List AV)(B:Nat->List Ob)(M:Nat->Nat)(R:Nat->Res),S 0=sl/\B 0=H/\M 0=n/\
  (∀k d,ds[k]?=some d->DrawStep P cx ops d (S k) (B k) (M k) (R k) (S (k+1)) (B (k+1)) (M (k+1)))/\
  (∀k d,ds[k]?=some d->(∀j q,(j,q)∈G->D4 d.bef j=true->q)->(∀j,j<k->D4 d.bef (i+j)=true->A7 (R j).given)->A7 (R k).need)/\
  ((∀j q,(j,q)∈G->q)->(∀j,j<ds.length->A7 (R j).given)->K (S ds.length) (B ds.length) (M ds.length))/\
  ∀k d,ds[k]?=some d->Asx ops ds i ms M R k d
 |[],i,ms,G,sl,H,n,K,_,h=>by
  refine⟨λ_=>sl,λ_=>H,λ_=>n,λ_=>.pure .any,rfl,rfl,rfl,λk d hd=>by simp at hd,λk d hd=>by simp at hd,λhG _=>?_,λk d hd=>by simp at hd⟩;exact Zw.1 h hG
 |d0::ds,i,ms,G,sl,H,n,K,hms,h=>by
  simp only[Mf]at h;split at h
  ·rename_i r hr;split at h
   ·rename_i hfl;simp only[aS,bY,Option.isNone_iff_eq_none]at hfl;rw[Agy,Vs,Fd]at h;obtain⟨hneed,h⟩:=h;obtain⟨sl',h,hput⟩:=Ajr h;obtain⟨S,B,M,R,h1,h2,h3,h4,h5,h6,h7⟩:=Vx ds (i+1) _ _ _ _ _ _ (by simp[hms]) h;refine⟨λk=>match k with|0=>sl|k+1=>S k,λk=>match k with|0=>H|k+1=>B k,λk=>match k with|0=>n|k+1=>M k,λk=>match k with|0=>r|k+1=>R k,rfl,rfl,rfl,λk d hd=>?_,λk d hd hG hj=>?_,λhG hj=>?_,λk d hd=>?_⟩
    ·cases k with
     |zero=>
      cases hd;exact⟨hr,by rw[<-h1]at hput;exact hput,h2,h3⟩
     |succ k=>exact h4 k d (by simpa using hd)
    ·cases k with
     |zero=>cases hd;exact hneed hG
     |succ k=>
      refine h5 k d (by simpa using hd) (λj q hm hb=>?_) (λj hjk hb=>?_)
      ·rcases Zy.1 hm with⟨rfl,hq⟩|hm
       ·have:=hj 0 (by omega) hb;simp only[A7,hq]at this;exact this
       ·exact hG j q hm hb
      ·exact hj (j+1) (by omega) (by rw[show i+(j+1)=i+1+j by omega];exact hb)
    ·refine h6 (λj q hm=>?_) (λj hjk=>hj (j+1) (by simpa using hjk));rcases Zy.1 hm with⟨_,hq⟩|hm
     ·have:=hj 0 (by simp);simp only[A7,hq]at this;exact this
     ·exact hG j q hm
    ·have first:∀(id:Nat)(ob:Ob),On ops i ms d0 ds (some (id,ob))=true->Zz ops (d0::ds) i ms (λk=>match k with|0=>n|k+1=>M k) 0 d0 id:=λid ob hb=>by
      obtain⟨g1,g2⟩:=Agz hb;refine⟨g1,λj o hj=>by omega,λj d' hj hd' hs=>?_⟩;cases j with
      |zero=>omega
      |succ j=>exact g2 j d' (by simpa using hd') hs
     have later:∀(k:Nat)(d:DrawOp)(id:Nat),Zz ops ds (i+1) (ms++[n]) M k d id->Zz ops (d0::ds) i ms (λk=>match k with|0=>n|k+1=>M k) (k+1) d id:=λk d id=>by
      rintro⟨g1,g2,g3⟩;refine⟨λj m o hm ho hs=>g1 j m o ?_ ho hs,λj o hj ho hs=>?_,λj d' hj hd' hs=>?_⟩
      ·rw[bX (aW.1 hm).1];exact hm
      ·cases j with
       |zero=>exact g1 i n o (by rw[cD (by omega),hms];simp) ho hs
       |succ j=>
        have:=g2 j o (by omega) (by rw[show i+1+j=i+(j+1) by omega];exact ho) hs;rw[show i+1+j=i+(j+1) by omega]at this;exact this
      ·cases j with
       |zero=>omega
       |succ j=>
        have:=g3 j d' (by omega) (by simpa using hd') hs;rw[show i+1+k=i+(k+1) by omega]at this;exact this
     cases k with
     |zero=>
      cases hd;refine⟨λp hp=>?_,λid hid=>?_⟩
      ·have hp:r.st=some p:=hp;rcases hfl.2 with hb|hb
       ·exact .inl hb
       ·rw[hp]at hb;exact .inr (first p.1 p.2 hb)
      ·have hid:r.kill=some id:=hid;rcases hfl.1 with hb|hb|hb
       ·rw[hid]at hb;cases hb
       ·exact .inl hb
       ·rw[hid]at hb;exact .inr (first id .dead hb)
     |succ k=>
      obtain⟨a1,a2⟩:=h7 k d (by simpa using hd);exact⟨λp hp=>(a1 p hp).imp (λh=>h) (later k d p.1),λid hid=>(a2 id hid).imp (λh=>h) (later k d id)⟩
   ·exact h.elim
  ·exact h.elim
end
end Go.Sx
namespace Go.Sx
open Go.RowKit
section
variable {P:Program}{cx:Ctx}{e:Operand->AV}{H:List Ob}{n:Nat}{r:Res}
def Sc(H:List Ob)(rec:AV->Option (FnT×List Nat)):Prop:=∀x T l,rec x=some (T,l)->∀id∈l,Ac H id≠.dead
theorem L6{rec:AV->Option (FnT×List Nat)}(hrec:Sc H rec):∀(ys:List AV)(cs:List FnT)(ids:List Nat),Kt H rec ys=some (cs,ids)->∀id∈ids,Ac H id≠.dead
 |[],_,_,h=>by cases h;intro id hid;simp at hid
 |y::ys,cs,ids,h=>by
  unfold Kt at h;split at h
  ·rename_i heq;cases heq
  ·rename_i c0 l heq;cases heq;split at h
   ·rename_i cs' ids1 h1;cases h;exact L6 hrec _ _ _ h1
   ·cases h
  ·rename_i i off l heq;cases heq;split at h
   ·rename_i xs hob;split at h
    ·split at h
     ·rename_i c1 i1 cs' i2 h1 h2;cases h;intro id hid;rcases cT.1 hid with rfl|hid
      ·rw[hob];simp
      ·rcases dG.1 hid with hid|hid
       ·exact hrec _ _ _ h1 id hid
       ·exact L6 hrec _ _ _ h2 id hid
     ·cases h
    ·cases h
   ·cases h
  ·cases h
theorem L7{rec:AV->Option (FnT×List Nat)}(hrec:Sc H rec):Sc H (Lu H rec):=by
 intro x T l h;unfold Lu at h;split at h
 ·cases h;intro id hid;simp at hid
 ·split at h
  ·rename_i cs ids hd;cases h;exact L6 hrec _ _ _ hd
  ·cases h
 ·cases h
theorem Acq:Sc H (Vf H):=L7 (L7 (L7 λx T l h=>by cases h))
theorem Mw{x:AV}{p:PV}{ids:List Nat}(h:Cl H x=some (p,ids)):∀id∈ids,Ac H id≠.dead:=by
 unfold Cl at h;split at h
 ·split at h
  ·rename_i T l hT;cases h;exact Acq _ _ _ hT
  ·cases h
 all_goals repeat' split at h
 all_goals first
  |cases h;done
  |(cases h;intro id hid;simp at hid;done)
  |(cases h;intro id hid;simp only[bT]at hid;subst hid;simp[*])
theorem I0:∀{l:List AV}{ps:List PV}{ids:List Nat},Di H l=some (ps,ids)->∀id∈ids,Ac H id≠.dead
 |[],ps,ids,h=>by cases h;intro id hid;simp at hid
 |x::l,ps,ids,h=>by
  simp only[Di]at h;split at h
  ·rename_i h1 h2;cases h;intro id hid;rcases dG.1 hid with hid|hid
   ·exact Mw h1 id hid
   ·exact I0 h2 id hid
  ·cases h
mutual
theorem Acr:∀(x:AV){y:AV}{ids:List Nat},An H x=some (y,ids)->∀id∈ids,Ac H id≠.dead
 |.own i,y,ids,h=>by
  simp only[An,bC,bG,Prod.exists]at h;obtain⟨p,l,h2,_,rfl⟩:=h;exact Mw h2
 |.ownp i k lo len,y,ids,h=>by
  simp only[An,bC,bG,Prod.exists]at h;obtain⟨p,l,h2,_,rfl⟩:=h;exact Mw h2
 |.ownc i k lo len,y,ids,h=>by
  simp only[An,bC,bG,Prod.exists]at h;obtain⟨p,l,h2,_,rfl⟩:=h;exact Mw h2
 |.slf _ _,_,_,h=>by simp only[An,aU,bG]at h;obtain⟨_,rfl⟩:=h;simp
 |.csl t i m,y,ids,h=>by
  simp only[An]at h;split at h
  ·rename_i cs hob;split at h
   ·split at h
    ·rename_i ps l hd;split at h
     ·cases h;intro id hid;rcases cT.1 hid with rfl|hid
      ·rw[hob];simp
      ·exact I0 hd id hid
     ·cases h
    ·cases h
   ·cases h
  ·cases h
 |.yld _,_,_,h=>by simp[An]at h
 |.dmp _,_,_,h=>by simp[An]at h
 |.rnd _,_,_,h=>by simp[An]at h
 |.grow _ _,_,_,h=>by simp[An]at h
 |.gptr _ _ _,_,_,h=>by simp[An]at h
 |.ptr i off,y,ids,h=>by
  simp only[An]at h;split at h
  ·rename_i cs hob;split at h
   ·rename_i ps l hd;cases h;intro id hid;rcases cT.1 hid with rfl|hid
    ·rw[hob];simp
    ·exact I0 hd id hid
   ·cases h
  ·cases h
 |.rptr i k row off,y,ids,h=>by
  simp only[An]at h
  repeat' split at h
  all_goals first
   |cases h;done
   |(cases h;intro id hid;simp only[bT]at hid;subst hid;simp[*])
 |.agg cs,y,ids,h=>by
  simp only[An]at h;split at h
  ·rename_i hl;cases h;exact Hv cs hl
  ·cases h
 |.fn f a b,y,ids,h=>by
  simp only[An]at h;split at h
  ·rename_i h1 h2;cases h;intro id hid;rcases dG.1 hid with hid|hid
   ·exact Hv a h1 id hid
   ·exact Hv b h2 id hid
  ·cases h
 |.tup _,_,_,h=>by simp[An]at h
 |.when _ _ _ _,_,_,h=>by simp[An]at h
 |.any,_,_,h=>by simp[An]at h
 |.int _ _,_,_,h=>by simp only[An,aU,bG]at h;obtain⟨_,rfl⟩:=h;simp
 |.bool _,_,_,h=>by simp only[An,aU,bG]at h;obtain⟨_,rfl⟩:=h;simp
 |.str _,_,_,h=>by simp only[An,aU,bG]at h;obtain⟨_,rfl⟩:=h;simp
 |.val _,_,_,h=>by simp only[An,aU,bG]at h;obtain⟨_,rfl⟩:=h;simp
 |.nils,_,_,h=>by simp only[An,aU,bG]at h;obtain⟨_,rfl⟩:=h;simp
 |.cap0,_,_,h=>by simp only[An,aU,bG]at h;obtain⟨_,rfl⟩:=h;simp
 |.sl _ _,_,_,h=>by simp only[An,aU,bG]at h;obtain⟨_,rfl⟩:=h;simp
 |.eptr _,_,_,h=>by simp only[An,aU,bG]at h;obtain⟨_,rfl⟩:=h;simp
theorem Hv:∀(l:List AV){ys:List AV}{ids:List Nat},Dv H l=some (ys,ids)->∀id∈ids,Ac H id≠.dead
 |[],_,_,h=>by cases h;simp
 |x::l,ys,ids,h=>by
  simp only[Dv]at h;split at h
  ·rename_i h1 h2;cases h;intro id hid;rcases dG.1 hid with hid|hid
   ·exact Acr x h1 id hid
   ·exact Hv l h2 id hid
  ·cases h
end
theorem Acs{g:FuncId}{args:List AV}(h:Q2 cx H n g args=some r):∀id∈r.frz,Ac H id≠.dead:=by
 unfold Q2 at h;split at h
 ·cases h
 ·split at h
  ·cases h
  ·rename_i hlow
   repeat' split at h
   all_goals first
    |cases h;done
    |(cases h;simp;done)
    |(cases h;exact Hv _ hlow)
theorem Rc{t:Ty}:∀(parts:List (Nat×Operand))(i:Nat)(xs:List t.den)(ids:List Nat),evOp.rowsGo H t e i parts=some (xs,ids)->∀id∈ids,Ac H id≠.dead
 |[],_,_,_,h=>by cases h;simp
 |(j,x)::rest,i,xs,ids,h=>by
  simp only[evOp.rowsGo]at h;split at h
  ·split at h
   ·split at h
    ·rename_i hd;split at h
     ·rename_i h1 h2;cases h;intro id hid;rcases dG.1 hid with hid|hid
      ·exact I0 hd id hid
      ·exact Rc rest _ _ _ h2 id hid
     ·cases h
    ·cases h
   ·cases h
  ·cases h
theorem Z0{elem:TypeId}{x y:AV}(h:Kw P H n elem x y=some r):∀id∈r.frz,Ac H id≠.dead:=by
 unfold Kw at h;split at h
 ·unfold Oh at h
  repeat' split at h
  all_goals first
   |cases h;done
   |(cases h;simp;done)
 split at h
 ·unfold R2 at h
  repeat' split at h
  all_goals first
   |cases h;done
   |(cases h;simp;done)
 ·unfold R3 at h
  repeat' split at h
  all_goals first
   |cases h;done
   |(cases h;simp;done)
 ·unfold Lv at h
  repeat' split at h
  all_goals first
   |cases h;done
   |(cases h;simp;done)
theorem Ag0{o:Oper}(h:evOp cx P e H n o=some r):∀id∈r.frz,Ac H id≠.dead:=by
 obtain⟨dst,op,ty,pos,after,guard⟩:=o;cases op with
 |buildSlice t len parts=>
  simp only[evOp]at h
  repeat' split at h
  all_goals first
   |cases h;done
   |(cases h;simp;done)
   |(cases h;exact Rc _ _ _ _ ‹_›)
 |store t p x=>
  simp only[evOp]at h
  repeat' split at h
  all_goals first
   |cases h;done
   |(cases h;simp;done)
   |(cases h;exact I0 ‹_›)
 |makeMap t hint=>
  cases hint with
  |none=>cases h;simp
  |some x=>simp[evOp]at h
 |call c=>
  obtain⟨callee,args,ts⟩:=c;cases callee with
  |value f=>
   simp only[evOp]at h;split at h
   ·exact Acs h
   ·cases h
  |invoke _ _=>simp[evOp]at h
  |builtin b=>
   cases b with
   |append=>
    simp only[evOp]at h
    repeat' split at h
    all_goals first
     |cases h;done
     |exact Z0 h
     | (unfold Oi at h
        repeat' split at h
        all_goals first|(cases h;simp;done)|(cases h;done))
   |_=>
    simp only[evOp]at h
    repeat' split at h
    all_goals first
     |cases h;done
     |(cases h;simp;done)
 |binOp op t x y u=>
  simp only[evOp]at h
  repeat' split at h
  all_goals first
   |cases h;done
   |(unfold Nw at h;split at h<;>first|(cases h;simp;done)|(unfold Su at h;split at h<;>first|(cases h;simp;done)|(cases h;done)))
   |(cases h;simp;done)
   |(unfold Vg at h;split at h<;>first|(cases h;simp;done)|(cases h;done))
 |pick c x y=>
  simp only[evOp]at h
  repeat' split at h
  all_goals first
   |cases h;done
   |(unfold Sv at h;repeat' split at h)
  all_goals first|(cases h;simp;done)|(cases h;done)
 |load t x=>
  simp only[evOp]at h
  repeat' split at h
  all_goals first
   |cases h;done
   |(cases h;simp;done)
   |(simp only[bC]at h;obtain⟨v,_,rfl⟩:=h;simp;done)
 |field t x f=>
  simp only[evOp]at h
  repeat' split at h
  all_goals first
   |cases h;done
   |(simp only[bC]at h;obtain⟨v,_,rfl⟩:=h;simp;done)
 |_=>
  simp only[evOp]at h
  repeat' split at h
  all_goals first
   |cases h;done
   |(cases h;simp;done)
theorem Rd{o:Oper}(hs:Ce o.op=true)(H':List Ob)(n':Nat):evOp cx P e H n o=evOp cx P e H' n' o:=by
 obtain⟨dst,op,ty,pos,after,guard⟩:=o;cases op<;>first|rfl|(simp[Ce]at hs)
theorem Acu{o:Oper}(hs:Ce o.op=true)(h:evOp cx P e H n o=some r):r.news=[]/\r.frz=[]:=by
 obtain⟨dst,op,ty,pos,after,guard⟩:=o;cases op<;>simp only[Ce,cH]at hs<;>simp only[evOp]at h
 all_goals repeat' split at h
 all_goals first
  |cases h;done
  |(cases h;exact⟨rfl,rfl⟩)
  |(simp only[bC]at h;obtain⟨v,_,rfl⟩:=h;exact⟨rfl,rfl⟩)
  |(unfold Nw at h;split at h<;>first|(cases h;exact⟨rfl,rfl⟩)|(unfold Su at h;split at h<;>first|(cases h;exact⟨rfl,rfl⟩)|(cases h;done)))
  |(unfold Vg at h;split at h<;>first|(cases h;exact⟨rfl,rfl⟩)|(cases h;done))
  |(unfold Sv at h;repeat' split at h)
 all_goals first|(cases h;exact⟨rfl,rfl⟩)|(cases h;done)
end
section
variable {P:Program}{cx:Ctx}{ops:List Oper}{o:Oper}{sl:List AV}{H:List Ob}{n:Nat}{r:Res}{dr:Bool}
theorem Tq(h:Ew cx P dr ops o sl H n=some r):∀id∈r.frz,Ac H id≠.dead:=by
 unfold Ew at h;split at h
 ·split at h
  ·rename_i hev;cases h;have:=Ag0 hev;exact this
  ·cases h
 ·repeat' split at h
  all_goals first
   |cases h;done
   |(cases h;simp;done)
theorem O0(hs:Ce o.op=true)(h:Ew cx P dr ops o sl H n=some r):Ew cx P dr ops o sl [] n=some r/\r.news=[]/\r.frz=[]/\r.kill=none/\r.st=none:=by
 unfold Ew at h ⊢;split at h
 ·rw[Rd hs [] n]at h;split at h
  ·rename_i q g v news kill st frz hev;cases h;obtain⟨h1,h2⟩:=Acu hs hev;have ht:=K8 hev;refine⟨rfl,h1,h2, ?_, ?_⟩
   ·cases kill with
    |none=>rfl
    |some id=>
     obtain⟨_,t,xs,hob⟩:=ht.1 id rfl;exact aT hob (by rw[show Ac [] id=Ob.dead from B4 _ (by simp)];simp)
   ·cases st with
    |none=>rfl
    |some p=>
     have:=(ht.2 p rfl).2;rw[show Ac [] p.1=Ob.dead from B4 _ (by simp)]at this;exact this.elim
  ·cases h
 ·split at h
  ·cases h
  ·rename_i s hgs;split at h
   ·cases h
   ·rename_i c hc;rw[Rd hs [] n]at h;have hr:r.news=[]/\r.frz=[]/\r.kill=none/\r.st=none:=by
     repeat' split at h
     all_goals first
      |cases h;done
      |(cases h;exact⟨rfl,rfl,rfl,rfl⟩)
    exact⟨h,hr⟩
end
end Go.Sx
namespace Go.Sx
open Go.RowKit
structure DrawFacts(P:Program)(cx:Ctx)(ops:List Oper)(ds:List DrawOp)(S:Nat->List AV)(B:Nat->List Ob)(M:Nat->Nat)(R:Nat->Res):Prop where
 good:Ai P cx
 len:ds.length=ops.length
 len0:(B 0).length=M 0
 stat0:Iy (S 0)
 step:∀(k:Nat)(d:DrawOp),ds[k]?=some d->DrawStep P cx ops d (S k) (B k) (M k) (R k) (S (k+1)) (B (k+1)) (M (k+1))
 op:∀(k:Nat)(d:DrawOp),ds[k]?=some d->ops[k]?=some d.o
 need:∀(k:Nat)(d:DrawOp),ds[k]?=some d->(∀j,j<k->D4 d.bef j=true->A7 (R j).given)->A7 (R k).need
 late:∀(k:Nat)(d:DrawOp),ds[k]?=some d->d.late=true->∀j o,j<k->ops[j]?=some o->Ce o.op=false->D4 d.bef j=true
 bar:∀(k:Nat)(d:DrawOp),ds[k]?=some d->d.bar=true->∀(m:Nat)(d':DrawOp),k<=m->ds[m]?=some d'->d'.late=true
 sto:∀(k:Nat)(d:DrawOp),ds[k]?=some d->∀p,(R k).st=some p->d.bar=true\/
  ((∀(j:Nat) o,j<k->ops[j]?=some o->Ce o.op=false->D4 d.bef j=true\/M j<=p.1)/\∀(j:Nat) d',k<j->ds[j]?=some d'->Ce d'.o.op=false->D4 d'.bef k=true)
 kil:∀(k:Nat)(d:DrawOp),ds[k]?=some d->∀id,(R k).kill=some id->d.late=true\/
  ((∀(j:Nat) o,j<k->ops[j]?=some o->Ce o.op=false->D4 d.bef j=true\/M j<=id)/\∀(j:Nat) d',k<j->ds[j]?=some d'->Ce d'.o.op=false->D4 d'.bef k=true)
 ord:∀(k:Nat)(d:DrawOp),ds[k]?=some d->(∀i o,i<k->ops[i]?=some o->Q4 ops o d.o=true->D4 d.bef i=true)/\∀e∈d.o.after.toList,A4 e=true->e.on<k
 bef:∀(D:Nat->Prop),(∀(i:Nat)(d:DrawOp),ds[i]?=some d->D i->∀e∈d.o.after.toList,A4 e=true->D e.on)->∀(k:Nat)(d:DrawOp),ds[k]?=some d->(∀e∈d.o.after.toList,A4 e=true->D e.on)->∀j,D4 d.bef j=true->D j
def Aff(M:Nat->Nat)(R:Nat->Res)(k id:Nat):Prop:=(R k).kill=some id\/(∃ob,(R k).st=some (id,ob))\/(M k<=id/\id<M (k+1))
section
variable {P:Program}{cx:Ctx}{ops:List Oper}{ds:List DrawOp}{S:Nat->List AV}{B:Nat->List Ob}{M:Nat->Nat}{R:Nat->Res}
theorem Eb{dr:Bool}{o:Oper}{sl:List AV}{H:List Ob}{n:Nat}{r:Res}(h:Ew cx P dr ops o sl H n=some r):(∀id,r.kill=some id->(Ac H id).wr)/\∀p,r.st=some p->(Ac H p.1).wr:=by
 unfold Ew at h;split at h
 ·split at h
  ·rename_i q g v news kill st frz hev;cases h;obtain⟨h1,h2⟩:=K8 hev;refine⟨λid hid=>?_,λp hp=>(h2 p hp).2⟩;obtain⟨_,t,xs,hob⟩:=h1 id hid;rw[hob];trivial
  ·cases h
 ·repeat' split at h
  all_goals first
   |cases h;done
   |(cases h;exact⟨λid hid=>(by cases hid),λp hp=>(by cases hp)⟩)
theorem F3(k:Nat)(hk:k<ds.length):∃d,ds[k]?=some d:=⟨_,aR hk⟩
theorem DrawFacts.turn(h:DrawFacts P cx ops ds S B M R){k:Nat}(hk:k<ds.length):TurnOk ⟨default,0,λ_ _=>False,λ_=>none,λ_=>False,λ_=>False,λ_=>True,λ_ _=>none,0,λ_=>False⟩ (B k) (R k):=by
 obtain⟨d,hd⟩:=F3 k hk;obtain⟨h1,h2⟩:=Eb (h.step k d hd).res;exact⟨λid hid=>⟨trivial,h1 id hid⟩,λp hp=>⟨trivial,h2 p hp⟩⟩
theorem DrawFacts.blen(h:DrawFacts P cx ops ds S B M R):∀k,k<=ds.length->(B k).length=M k
 |0,_=>h.len0
 |k+1,hk=>by
  obtain⟨d,hd⟩:=F3 (ds:=ds) k (by omega);have hs:=h.step k d hd;rw[hs.heap,hs.num];unfold Res.heap;rw[bD,(Dq _ _ 0).2.2,K9,La,h.blen k (by omega)]
theorem DrawFacts.mono(h:DrawFacts P cx ops ds S B M R):∀{k m:Nat},k<=m->m<=ds.length->M k<=M m
 |k,0,hkm,_=>by have:k=0:=(by omega); rw[this];exact bA _
 |k,m+1,hkm,hm=>by
  rcases cN m k with h1|h1
  ·have:k=m+1:=by omega
   rw[this];exact bA _
  ·obtain⟨d,hd⟩:=F3 (ds:=ds) m (by omega);have:=h.mono (k:=k) (m:=m) h1 (by omega);rw[(h.step m d hd).num];omega
theorem DrawFacts.leave(h:DrawFacts P cx ops ds S B M R){k id:Nat}(hk:k<ds.length)(hid:id<M k)(hn:¬Aff M R k id):Frz (Ac (B k) id) (Ac (B (k+1)) id)/\(id∈(R k).frz->¬(Ac (B (k+1)) id).wr):=by
 obtain⟨d,hd⟩:=F3 k hk;rw[(h.step k d hd).heap];rcases Hu (h.blen k (by omega)) (h.turn hk) id with⟨j,rfl,_⟩|⟨_,ob,hob,_,hf,hw⟩
 ·omega
 ·have hnk:(R k).kill≠some id:=λh'=>hn (.inl h')
  rcases hob with⟨ob',hst,rfl⟩|⟨_,rfl⟩
  ·exact aT (.inr (.inl ⟨_,hst⟩)) hn
  ·exact⟨hf hnk,hw⟩
theorem DrawFacts.keep(h:DrawFacts P cx ops ds S B M R){k id:Nat}(hid:id<M k):∀m,k<=m->m<=ds.length->(∀j,k<=j->j<m->¬Aff M R j id)->Frz (Ac (B k) id) (Ac (B m) id)
 |0,hkm,_,_=>by have:k=0:=(by omega); rw[this];exact .inl rfl
 |m+1,hkm,hm,hn=>by
  rcases cN m k with h1|h1
  ·have:k=m+1:=by omega
   rw[this];exact .inl rfl
  ·have ih:=h.keep hid m h1 (by omega) λj h1 h2=>hn j h1 (by omega)
   exact ih.trans (h.leave (by omega) (cA hid (h.mono h1 (by omega))) (hn m h1 (by omega))).1
theorem DrawFacts.died(h:DrawFacts P cx ops ds S B M R){k id:Nat}(hid:id<M k)(hd0:Ac (B k) id=.dead):∀m,k<=m->m<=ds.length->Ac (B m) id=.dead
 |0,hkm,_=>by have:k=0:=(by omega); rw[<-this];exact hd0
 |m+1,hkm,hm=>by
  rcases cN m k with h1|h1
  ·have:k=m+1:=by omega
   rw[<-this];exact hd0
  ·have ih:=h.died hid hd0 m h1 (by omega);obtain⟨d,hd⟩:=F3 (ds:=ds) m (by omega);have ht:=Eb (h.step m d hd).res;have hlt:id<M m:=cA hid (h.mono h1 (by omega));have hn:¬Aff M R m id:=by
    rintro(h2|⟨ob,h2⟩|h2)
    ·have:=ht.1 id h2;rw[ih]at this;exact this
    ·have:=ht.2 _ h2;rw[ih]at this;exact this
    ·omega
   have:=(h.leave (by omega) hlt hn).1;rw[ih]at this;exact this.dead
theorem Put.stat{dst:Option Tmp}{v:AV}{sl sl':List AV}(hp:Put dst v sl sl')(hs:Iy sl)(hw:∀c s w x,v=.when c s w x->F4 sl s w=some c/\∀c' s' w' v',x≠.when c' s' w' v'):Iy sl':=by
 obtain⟨he,hok⟩:=hp;cases dst with
 |none=>rw[he];exact hs
 |some d=>
  simp only at he;subst he;obtain⟨hd,h2,h3⟩:=hok d rfl;have cond:∀s w,s≠d->F4 (B3 v sl d) s w=F4 sl s w:=by
   intro s w hs;unfold F4;rw[Dy,aL (λh=>hs h.1.symm)]
  intro t c s w x ht;have hg:Aq .any (B3 v sl d) t=.when c s w x:=by rw[Bn,ht];rfl
  rw[Dy]at hg;by_cases htd:d=t
  ·subst htd;rw[aP ⟨rfl,hd⟩]at hg;subst hg;have hs:s≠d:=by
    simp only[R4,bM]at h3;intro e;subst e;rw[gD]at h3;cases h3
   rw[cond s w hs];exact hw c s w x rfl
  ·rw[aL (λh=>htd h.1)]at hg;have ht':sl[t]?=some (.when c s w x):=by
    rw[Bn]at hg;cases hg2:sl[t]? with
    |none=>rw[hg2]at hg;cases hg
    |some y=>rw[hg2]at hg;simp only[dC]at hg;rw[hg]
   rw[cond s w (Qc h2 t c s w x ht')];exact hs t c s w x ht'
theorem DrawFacts.stat(h:DrawFacts P cx ops ds S B M R):∀k,k<=ds.length->Iy (S k)
 |0,_=>h.stat0
 |k+1,hk=>by
  obtain⟨d,hd⟩:=F3 (ds:=ds) k (by omega);exact(h.step k d hd).put.stat (h.stat k (by omega)) λc s w x hw=>Th (h.step k d hd).res hw
theorem DrawFacts.slen(h:DrawFacts P cx ops ds S B M R):∀k,k<=ds.length->(S k).length=(S 0).length
 |0,_=>rfl
 |k+1,hk=>by
  obtain⟨d,hd⟩:=F3 (ds:=ds) k (by omega);rw[(h.step k d hd).put.eq];cases d.o.dst<;>simp[By,h.slen k (by omega)]
theorem DrawFacts.slot(h:DrawFacts P cx ops ds S B M R){k t:Nat}:∀m,k<=m->m<=ds.length->(∀j o,k<=j->j<m->ops[j]?=some o->o.dst≠some t)->Aq .any (S m) t=Aq .any (S k) t
 |0,hkm,_,_=>by have:k=0:=(by omega); rw[this]
 |m+1,hkm,hm,hn=>by
  rcases cN m k with h1|h1
  ·have:k=m+1:=by omega
   rw[this]
  ·obtain⟨d,hd⟩:=F3 (ds:=ds) m (by omega);have ih:=h.slot m h1 (by omega) λj o h1 h2=>hn j o h1 (by omega)
   have hne:=hn m d.o h1 (by omega) (h.op m d hd);rw[(h.step m d hd).put.eq,<-ih];cases hdst:d.o.dst with
   |none=>rfl
   |some d'=>
    simp only[Dy];rw[aL];rintro⟨rfl,_⟩;exact hne hdst
theorem Ld{dr:Bool}{o:Oper}{sl:List AV}{H:List Ob}{n:Nat}{r:Res}(h:Ew cx P dr ops o sl H n=some r)(hor:(∃id,r.kill=some id)\/(∃p,r.st=some p)\/r.frz≠[]\/r.news≠[]):Ce o.op=false:=by
 cases hs:Ce o.op with
 |false=>rfl
 |true=>
  obtain⟨_,h1,h2,h3,h4⟩:=O0 hs h;rcases hor with⟨id,h⟩|⟨p,h⟩|h|h
  ·rw[h3]at h;cases h
  ·rw[h4]at h;cases h
  ·exact aT h2 h
  ·exact aT h1 h
end
end Go.Sx
namespace Go.Sx
open Go.RowKit
structure Inv(ops:List Oper)(ds:List DrawOp)(S:Nat->List AV)(B:Nat->List Ob)(M:Nat->Nat)(R:Nat->Res)(D:Nat->Prop)(E0 E:Env)(a:Act):Prop where
 cl:∀(k:Nat)(d:DrawOp),ds[k]?=some d->D k->∀e∈d.o.after.toList,A4 e=true->D e.on
 dn:∀k,D k->k<ds.length
 A:∀id,E.A id<->E0.A id\/∃k,D k/\M k<=id/\id<M (k+1)
 sub:∀id,E.L id->E.A id
 wl:∀id,E.W id->E.L id
 injO:∀id id' b,E.L id->E.L id'->E.Own id b->E.Own id' b->id=id'
 ltO:∀id b,E.L id->E.Own id b->E.B<=b/\b<E.w.heap.size
 f0:∀b o,E.F0 b o->b<E.B
 Bx:E.B<=E.w.heap.size
 hid:∀id b,E.L id->E.Own id b->¬E.Hd b
 hlt:∀b,E.Hd b->b<E.w.heap.size
 objs:∀m id,m<=ds.length->(∀k,k<m->Aff M R k id->D k)->(∀k,D k->m<=k->¬Aff M R k id)->Ac (B m) id≠.dead->E.L id/\OkOb E id (Ac (B m) id)
 wr:∀m id,m<=ds.length->(∀k,k<m->Aff M R k id->D k)->(∀k,D k->m<=k->¬Aff M R k id/\id ∉ (R k).frz)->(Ac (B m) id).wr->E.W id
 slots:∀m t,m<=ds.length->(∀k o,k<m->ops[k]?=some o->o.dst=some t->D k)->(∀k o,D k->m<=k->ops[k]?=some o->o.dst≠some t)->RdA E (a.eval (.tmp t)) (Aq .any (S m) t)
 size:a.tmps.size=(S 0).length
 given:∀k,D k->A7 (R k).given
 aff:∀k id,D k->Aff M R k id->E.A id
 evo:Evo (M 0) E0 E
 defers:Marks E a.defers
section
variable {P:Program}{cx:Ctx}{opsA:Array Oper}{ds:List DrawOp}{S:Nat->List AV}{B:Nat->List Ob}{M:Nat->Nat}{R:Nat->Res}
 {D:Nat->Prop}{E0 E:Env}{a:Act}{K':Act->World->Prop}{Q:Exit->Act->World->Prop}{ro:Option Nat}
theorem Ag1{ops:List Oper}{x y:Oper}{t:Nat}(h:x.dst=some t)(h':y.dst=some t):Q4 ops x y=true:=by
 simp[Q4,h,h']
theorem Re{ops:List Oper}{x y:Oper}{t:Nat}(h:x.dst=some t)(h':t∈Dj ops y):Q4 ops x y=true/\Q4 ops y x=true:=by
 simp[Q4,h,h']
theorem Inv.step(hf:DrawFacts P cx opsA.toList ds S B M R)(hI:Inv opsA.toList ds S B M R D E0 E a)(h0:∀id,E0.A id->id<M 0){k:Nat}{d:DrawOp}(hd:ds[k]?=some d)(hk:¬D k)
 (hed:∀e∈d.o.after.toList,A4 e=true->D e.on)(hK:∀E' a',Inv opsA.toList ds S B M R (λj=>D j\/j=k) E0 E' a'->K' a' E'.w):
 (Region.wanted d.o (yielded opsA a.tmps)=true/\d.o.wpI ro P a E.w K' Q)\/(Region.wanted d.o (yielded opsA a.tmps)=false/\K' (a.put d.o.dst undef) E.w):=by
 have hkl:k<ds.length:=(aW.1 hd).1;have hs:=hf.step k d hd;have hbef:∀j,D4 d.bef j=true->D j:=hf.bef D hI.cl k d hd hed;have befD:∀(j:Nat)(d':DrawOp),ds[j]?=some d'->D j->∀i,D4 d'.bef i=true->D i:=λj d' hd' hj=>hf.bef D hI.cl j d' hd' (hI.cl j d' hd' hj)
 have dsat:∀{j},j<ds.length->∃d',ds[j]?=some d':=λhj=>F3 _ hj
 have lateNo:∀{j:Nat}{d':DrawOp},ds[j]?=some d'->D j->k<j->d'.late=true->Ce d.o.op=false->False:=by
  intro j d' hd' hj hkj hl hsil;exact hk (befD j d' hd' hj k (hf.late j d' hd' hl k d.o hkj (hf.op k d hd) hsil))
 have apart:∀{i j id:Nat},i<ds.length->j<ds.length->M i<=id->id<M (i+1)->M j<=id->id<M (j+1)->i=j:=by
  intro i j id hi hj h1 h2 h3 h4;rcases Nat.lt_trichotomy i j with h|h|h
  ·have:=hf.mono (k:=i+1) (m:=j) h (by omega);omega
  ·exact h
  ·have:=hf.mono (k:=j+1) (m:=i) h (by omega);omega
 have notA:∀id,M k<=id->id<M (k+1)->¬E.A id:=by
  intro id h1 h2 ha;rcases(hI.A id).1 ha with ha|⟨j,hj,h3,h4⟩
  ·have:=h0 id ha;have:=hf.mono (k:=0) (m:=k) (aV _) (by omega);omega
  ·have:=apart (hI.dn j hj) hkl h3 h4 h1 h2;exact hk (this ▸ hj)
 have hM:M (k+1)=M k+(R k).news.length:=hs.num;have fin:∃N,∀id,E.A id->id<N:=⟨M ds.length,λid ha=>by
  rcases(hI.A id).1 ha with ha|⟨j,hj,h3,h4⟩
  ·exact cA (h0 id ha) (hf.mono (aV _) (bA _))
  ·exact cA h4 (hf.mono (hI.dn j hj) (bA _))⟩
 have ready:∀m,m<=(R k).news.length->Ready E (M k) m:=λm hm=>⟨hI.sub,hI.wl,hI.injO,hI.ltO,hI.f0,hI.Bx,λid h1 h2=>notA id h1 (by omega),hI.hid,hI.hlt⟩
 have stage:Ce d.o.op=false->∀id,E.A id->Ac (B k) id≠.dead->(∀j,j<k->Aff M R j id->D j)/\∀j,D j->k<=j->¬Aff M R j id:=by
  intro hsil id ha hne;have hidk:id<M k:=by rw[<-hf.blen k (by omega)];exact Cw hne
  refine⟨λj hj haff=>?_,λj hj hkj haff=>?_⟩
  ·obtain⟨d',hd'⟩:=dsat (j:=j) (by omega);have hs':=hf.step j d' hd';rcases haff with h|⟨ob,h⟩|h
   ·exfalso;have hg:Ac (B (j+1)) id=.dead:=by
     rw[hs'.heap];have hlt:id<M j:=by
      have hw:=(Eb hs'.res).1 id h;rw[<-hf.blen j (by omega)];exact Cw (Dz hw)
     rcases Hu (hf.blen j (by omega)) (hf.turn (by omega)) id with⟨i,rfl,_⟩|⟨_,ob,_,hkl',_⟩
     ·omega
     ·exact hkl' h
    have hlt:id<M (j+1):=by
     have hw:=(Eb hs'.res).1 id h;have:id<M j:=by rw[<-hf.blen j (by omega)];exact Cw (Dz hw)
     exact cA this (hf.mono (Nat.le_succ j) (by omega))
    exact hne (hf.died hlt hg k (by omega) (by omega))
   ·rcases hf.sto j d' hd' _ h with hb|⟨_,hb⟩
    ·have hl:=hf.bar j d' hd' hb k d (by omega) hd;have hloud:=Ld hs'.res (.inr (.inl ⟨_,h⟩));exact hbef j (hf.late k d hd hl j d'.o hj (hf.op j d' hd') hloud)
    ·exact hbef j (hb k d hj hd hsil)
   ·rcases(hI.A id).1 ha with ha|⟨i,hi,h3,h4⟩
    ·have:=h0 id ha;have:=hf.mono (k:=0) (m:=j) (aV _) (by omega);omega
    ·have:=apart (hI.dn i hi) (by omega) h3 h4 h.1 h.2;exact this ▸ hi
  ·have hjl:=hI.dn j hj;obtain⟨d',hd'⟩:=dsat hjl;have hs':=hf.step j d' hd';have hkj':k<j:=by
    rcases cN k j with h|h
    ·exact h
    ·have:k=j:=by omega
     exact aT (this ▸ hj) hk
   rcases haff with h|⟨ob,h⟩|h
   ·rcases hf.kil j d' hd' id h with hl|⟨hb,_⟩
    ·exact lateNo hd' hj hkj' hl hsil
    ·rcases hb k d.o hkj' (hf.op k d hd) hsil with hb|hb
     ·exact hk (befD j d' hd' hj k hb)
     ·exact aT hidk (Nat.not_lt.2 hb)
   ·rcases hf.sto j d' hd' _ h with hb|⟨hb,_⟩
    ·exact lateNo hd' hj hkj' (hf.bar j d' hd' hb j d' (bA _) hd') hsil
    ·rcases hb k d.o hkj' (hf.op k d hd) hsil with hb|hb
     ·exact hk (befD j d' hd' hj k hb)
     ·exact aT hidk (Nat.not_lt.2 hb)
   ·have:=hf.mono (k:=k) (m:=j) (by omega) (by omega);omega
 have rd:∀t∈Dj opsA.toList d.o,RdA E (a.eval (.tmp t)) (Aq .any (S k) t):=by
  intro t ht;refine hI.slots k t (by omega) (λj o hj ho hdst=>?_) (λj o hj hkj ho hdst=>?_)
  ·exact hbef j ((hf.ord k d hd).1 j o hj ho (Re hdst ht).1)
  ·have hjl:=hI.dn j hj;obtain⟨d',hd'⟩:=dsat hjl;have:=hf.op j d' hd';rw[ho]at this;cases this;rcases cN k j with h|h
   ·exact hk (befD j d' hd' hj k ((hf.ord j d' hd').1 k d.o h (hf.op k d hd) (Re hdst ht).2))
   ·have:k=j:=by omega
    exact hk (this ▸ hj)
 have wrk:∀id,((R k).kill=some id\/∃ob,(R k).st=some (id,ob))->E.A id->(Ac (B k) id).wr->E.W id:=by
  intro id hor ha hw;have hloud:Ce d.o.op=false:=Ld hs.res (by
   rcases hor with h|⟨ob,h⟩
   ·exact .inl ⟨_,h⟩
   ·exact .inr (.inl ⟨_,h⟩))
  obtain⟨s1,s2⟩:=stage hloud id ha (Dz hw);refine hI.wr k id (by omega) s1 (λj hj hkj=>⟨s2 j hj hkj,λhfr=>?_⟩) hw;have hjl:=hI.dn j hj;obtain⟨d',hd'⟩:=dsat hjl;have hs':=hf.step j d' hd';have hkj':k<j:=by
   rcases cN k j with h|h
   ·exact h
   ·have:k=j:=by omega
    exact aT (this ▸ hj) hk
  rcases hor with h|⟨ob,h⟩
  ·have hlive:=Tq hs'.res id hfr;have hlt:id<M k:=by rw[<-hf.blen k (by omega)];exact Cw (Dz hw)
   have hg:Ac (B (k+1)) id=.dead:=by
    rw[hs.heap];rcases Hu (hf.blen k (by omega)) (hf.turn hkl) id with⟨i,rfl,_⟩|⟨_,ob,_,hkl',_⟩
    ·omega
    ·exact hkl' h
   exact hlive (hf.died (by omega) hg j (by omega) (by omega))
  ·rcases hf.sto k d hd _ h with hb|⟨_,hb⟩
   ·exact lateNo hd' hj hkj' (hf.bar k d hd hb j d' (by omega) hd') hloud
   ·exact hk (befD j d' hd' hj k (hb j d' hkj' hd' (Ld hs'.res (.inr (.inr (.inl λe=>by rw[e]at hfr;simp at hfr))))))
 have need:A7 (R k).need:=hf.need k d hd λj _ hb=>hI.given j (hbef j hb)
 have noMid:∀{m id:Nat},Aff M R k id->m<=ds.length->Ac (B m) id≠.dead->(∀j,j<m->Aff M R j id->D j\/j=k)->k<m->
  (∀j,k+1<=j->j<m->¬Aff M R j id)/\id<M (k+1):=by
  intro m id haff hm hne hall hkm;have hlt:id<M (k+1):=by
   rcases haff with h|⟨ob,h⟩|h
   ·have hw:=(Eb hs.res).1 id h;have:id<M k:=by rw[<-hf.blen k (by omega)];exact Cw (Dz hw)
    omega
   ·have hw:=(Eb hs.res).2 _ h;have:id<M k:=by rw[<-hf.blen k (by omega)];exact Cw (Dz hw)
    omega
   ·exact h.2
  refine⟨λj h1 h2 hj=>?_,hlt⟩;have hjD:D j:=(hall j h2 hj).resolve_right (by omega);obtain⟨d',hd'⟩:=dsat (j:=j) (by omega);rcases haff with h|⟨ob,h⟩|h
  ·have hg:Ac (B (k+1)) id=.dead:=by
    rw[hs.heap];have hw:=(Eb hs.res).1 id h;have:id<M k:=by rw[<-hf.blen k (by omega)];exact Cw (Dz hw)
    rcases Hu (hf.blen k (by omega)) (hf.turn hkl) id with⟨i,rfl,_⟩|⟨_,ob,_,hkl',_⟩
    ·omega
    ·exact hkl' h
   exact hne (hf.died hlt hg m (by omega) hm)
  ·rcases hf.sto k d hd _ h with hb|⟨_,hb⟩
   ·exact lateNo hd' hjD (by omega) (hf.bar k d hd hb j d' (by omega) hd') (Ld hs.res (.inr (.inl ⟨_,h⟩)))
   ·refine hk (befD j d' hd' hjD k (hb j d' (by omega) hd' (Ld (hf.step j d' hd').res ?_)));rcases hj with hj|⟨ob',hj⟩|hj
    ·exact .inl ⟨_,hj⟩
    ·exact .inr (.inl ⟨_,hj⟩)
    ·refine .inr (.inr (.inr λe=>?_));have:=(hf.step j d' hd').num;rw[e]at this;simp at this;omega
  ·exact notA id h.1 h.2 (hI.aff j id hjD hj)
 have final:∀E' v,Ext E (M k) (R k) (Xn (M k) (R k)) E'->A7 (R k).given->RdA E' v (R k).val->K' (a.put d.o.dst v) E'.w:=by
  intro E' v hx hgiv hv;obtain⟨N,hN⟩:=fin;have hB:E'.B=E.B:=(hx.evo 0).B;have hF:E'.F0=E.F0:=(hx.evo 0).F0;have rdA:∀x u,RdA E u x->RdA E' u x:=λx u h=>h.mono (hx.evo N) hN
  have put_eval:∀t,d.o.dst≠some t->(a.put d.o.dst v).eval (.tmp t)=a.eval (.tmp t):=by
   intro t hne;cases hdst:d.o.dst with
   |none=>rfl
   |some t'=>
    have:t'≠t:=λe=>hne (by rw[hdst,e])
    simp only[Act.put,Act.eval,bR,dV];rw[aL this]
  have affA:∀id,Aff M R k id->E'.A id:=by
   intro id haff;rcases haff with h|⟨ob,h⟩|h
   ·exact(hx.A id).2 (.inl ((Lb rd hs.res).kill id h).1)
   ·exact(hx.A id).2 (.inl ((Lb rd hs.res).st _ h).1)
   ·exact(hx.A id).2 (.inr ⟨h.1,by omega⟩)
  have turned:∀{m id:Nat},Aff M R k id->m<=ds.length->Ac (B m) id≠.dead->(∀j,j<m->Aff M R j id->D j\/j=k)->k<m->
   E'.L id/\OkOb E' id (Ac (B m) id)/\((Ac (B m) id).wr->E'.W id):=by
   intro m id haff hm hne hall hkm;obtain⟨hno,hlt⟩:=noMid haff hm hne hall hkm;have hfz:=hf.keep hlt m (by omega) hm (λj h1 h2=>hno j h1 h2);rw[hs.heap]at hfz;rcases Hu (hf.blen k (by omega)) (hf.turn hkl) id with⟨j,hj,hg⟩|⟨hidk,ob,hob,hkill,hfr,hfw⟩
   ·rw[hg]at hfz;have hne0:Ac (R k).news j≠.dead:=λe=>hne (by rw[e]at hfz;exact hfz.dead)
    have hjl:=Cw hne0;have hL':E'.L id:=(hx.L id).2 (.inr ⟨by omega,by omega⟩);refine⟨hL',hfz.ok hne ?_,λhw=>(hx.W id).2 (.inr ⟨by omega,by omega, ?_⟩)⟩
    ·have:=hx.new j _ (C1 (d:=Ob.dead) hjl);rw[hj];exact this
    ·show(Ac (R k).news (id-M k)).wr;rw[hj,eM];exact hfz.wr hw
   ·have hnk:(R k).kill≠some id:=λh=>hne (by rw[hkill h]at hfz;exact hfz.dead)
    rcases haff with h|⟨ob',h⟩|h
    ·exact aT h hnk
    ·rcases hob with⟨ob2,hst,rfl⟩|⟨hst,_⟩
     ·have hfz2:=(hfr hnk).trans hfz;obtain⟨ha,hw0⟩:=(Lb rd hs.res).st _ hst;have hloud:=Ld hs.res (.inr (.inl ⟨_,hst⟩));obtain⟨s1,s2⟩:=stage hloud id ha (Dz hw0);have hl:=(hI.objs k id (by omega) s1 s2 (Dz hw0)).1;refine⟨(hx.L id).2 (.inl ⟨hl,hnk⟩),hfz2.ok hne (hx.st id _ hst),λhw=>(hx.W id).2 (.inl ⟨wrk id (.inr ⟨_,hst⟩) ha hw0,hnk,λhm=>hfw hm (hfz.wr hw)⟩)⟩
     ·exact aT rfl (hst _ h)
    ·omega
  refine hK E' _ ⟨?_, ?_, ?_, ?_, ?_,hx.injO,hx.ltO, ?_, ?_,hx.hid,λb hb=>cA (hI.hlt b (by rw[<-(hx.evo 0).Hd];exact hb)) (hx.evo 0).below.size, ?_, ?_, ?_, ?_, ?_, ?_, ?_, ?_⟩
  ·intro j d' hd' hj e he hb;rcases hj with hj|rfl
   ·exact .inl (hI.cl j d' hd' hj e he hb)
   ·rw[hd]at hd';cases hd';exact .inl (hed e he hb)
  ·intro j hj;rcases hj with hj|rfl
   ·exact hI.dn j hj
   ·exact hkl
  ·intro id;rw[hx.A id,hI.A id];constructor
   ·rintro((h|⟨j,hj,h⟩)|h)
    ·exact .inl h
    ·exact .inr ⟨j,.inl hj,h⟩
    ·exact .inr ⟨k,.inr rfl,h.1,by omega⟩
   ·rintro(h|⟨j,hj|rfl,h⟩)
    ·exact .inl (.inl h)
    ·exact .inl (.inr ⟨j,hj,h⟩)
    ·exact .inr ⟨h.1,by omega⟩
  ·intro id hl;rcases(hx.L id).1 hl with⟨h1,_⟩|h1
   ·exact(hx.A id).2 (.inl (hI.sub id h1))
   ·exact(hx.A id).2 (.inr h1)
  ·intro id hw;rcases(hx.W id).1 hw with⟨h1,h2,_⟩|⟨h1,h2,_⟩
   ·exact(hx.L id).2 (.inl ⟨hI.wl id h1,h2⟩)
   ·exact(hx.L id).2 (.inr ⟨h1,h2⟩)
  ·intro b o hb;rw[hF]at hb;rw[hB];exact hI.f0 b o hb
  ·rw[hB];exact cP hI.Bx (hx.evo 0).below.size
  ·intro m id hm hall hnone hne;by_cases haff:Aff M R k id
   ·have hkm:k<m:=by
     rcases cN k m with h|h
     ·exact h
     ·exact aT haff (hnone k (.inr rfl) h)
    obtain⟨h1,h2,_⟩:=turned haff hm hne hall hkm;exact⟨h1,h2⟩
   ·obtain⟨h1,h2⟩:=hI.objs m id hm (λj hj ha=>(hall j hj ha).resolve_right λe=>haff (e ▸ ha)) (λj hj=>hnone j (.inl hj)) hne;have hnk:(R k).kill≠some id:=λh=>haff (.inl h)
    exact⟨(hx.L id).2 (.inl ⟨h1,hnk⟩),hx.old id _ h1 hnk (λp hp e=>haff (.inr (.inl ⟨p.2,by rw[hp,<-e]⟩))) h2⟩
  ·intro m id hm hall hnone hw;by_cases haff:Aff M R k id
   ·have hkm:k<m:=by
     rcases cN k m with h|h
     ·exact h
     ·exact aT haff (hnone k (.inr rfl) h).1
    exact(turned haff hm (Dz hw) hall hkm).2.2 hw
   ·have hW:=hI.wr m id hm (λj hj ha=>(hall j hj ha).resolve_right λe=>haff (e ▸ ha)) (λj hj=>hnone j (.inl hj)) hw;have hnk:(R k).kill≠some id:=λh=>haff (.inl h)
    refine(hx.W id).2 (.inl ⟨hW,hnk,λhfr=>?_⟩);rcases cN k m with hkm|hkm
    ·have hlive:=Tq hs.res id hfr;have hidk:id<M k:=by rw[<-hf.blen k (by omega)];exact Cw hlive
     have hloud:=Ld hs.res (.inr (.inr (.inl (by intro e;rw[e]at hfr;simp at hfr))));have hl:=hf.leave hkl hidk haff;refine hl.2 hfr ?_;refine(hf.keep (k:=k+1) (by omega) m (by omega) hm λj h1 h2 hj=>?_).wr hw;have hjD:D j:=(hall j h2 hj).resolve_right (by omega);obtain⟨d',hd'⟩:=dsat (j:=j) (by omega);have hs':=hf.step j d' hd';rcases hj with h|⟨ob,h⟩|h
     ·rcases hf.kil j d' hd' id h with hl|⟨hb,_⟩
      ·exact lateNo hd' hjD (by omega) hl hloud
      ·rcases hb k d.o (by omega) (hf.op k d hd) hloud with hb|hb
       ·exact hk (befD j d' hd' hjD k hb)
       ·exact aT hidk (Nat.not_lt.2 hb)
     ·rcases hf.sto j d' hd' _ h with hb|⟨hb,_⟩
      ·exact lateNo hd' hjD (by omega) (hf.bar j d' hd' hb j d' (bA _) hd') hloud
      ·rcases hb k d.o (by omega) (hf.op k d hd) hloud with hb|hb
       ·exact hk (befD j d' hd' hjD k hb)
       ·exact aT hidk (Nat.not_lt.2 hb)
     ·have:=hf.mono (k:=k) (m:=j) (by omega) (by omega);omega
    ·exact(hnone k (.inr rfl) hkm).2 hfr
  ·intro m t hm hall hnone;by_cases hdst:d.o.dst=some t
   ·have hkm:k<m:=by
     rcases cN k m with h|h
     ·exact h
     ·exact aT hdst (hnone k d.o (.inr rfl) h (hf.op k d hd))
    have hslot:=hf.slot (k:=k+1) (t:=t) m (by omega) hm λj o h1 h2 ho hdj=>by
     have hjD:D j:=(hall j o h2 ho hdj).resolve_right (by omega);obtain⟨d',hd'⟩:=dsat (j:=j) (by omega);have:=hf.op j d' hd';rw[ho]at this;cases this;exact hk (befD j d' hd' hjD k ((hf.ord j d' hd').1 k d.o (by omega) (hf.op k d hd) (Ag1 hdst hdj)))
    rw[hslot,hs.put.eq,hdst];obtain⟨htl,_⟩:=hs.put.ok t hdst;simp only[Dy];rw[aP ⟨trivial,htl⟩];have:(a.put (some t) v).eval (.tmp t)=v:=by
     have hta:t<a.tmps.size:=by rw[hI.size,<-hf.slen k (by omega)];exact htl
     simp[Act.put,Act.eval,bR,hta]
    rw[this];exact hv
   ·rw[put_eval t hdst];exact rdA _ _ (hI.slots m t hm (λj o hj ho hdj=>(hall j o hj ho hdj).resolve_right λe=>by
     subst e;rw[hf.op j d hd]at ho;cases ho;exact hdst hdj) (λj o hj=>hnone j o (.inl hj)))
  ·cases hdst:d.o.dst<;>simp[Act.put,hI.size]
  ·intro j hj;rcases hj with hj|rfl
   ·exact hI.given j hj
   ·exact hgiv
  ·intro j id hj haff;rcases hj with hj|rfl
   ·exact(hx.A id).2 (.inl (hI.aff j id hj haff))
   ·exact affA id haff
  ·exact hI.evo.trans (hx.evo (M 0))
  ·have e:(a.put d.o.dst v).defers=a.defers:=by cases d.o.dst<;>rfl
   rw[e];exact hI.defers.mono (hx.evo 0)
 cases hsil:Ce d.o.op with
 |true=>
  obtain⟨hres,hnews,hfrz,hkill,hst⟩:=O0 hsil hs.res;have dead:∀id,Ac [] id=.dead:=λid=>B4 _ (by simp)
  refine Tf (wn:=Xn (M k) (R k)) (H:=[]) (sl:=S k) (n:=M k) ⟨hf.good,λm hm=>ready m (hm.resolve_left (by simp)),fin,λid _ h=>aT (dead id) h,λid _ h=>aT (dead id) h,λid h=>?_,rd,hf.stat k (by omega),need⟩ hres final;rcases h with h|⟨ob,h⟩
  ·rw[hkill]at h;cases h
  ·rw[hst]at h;cases h
 |false=>
  refine Tf (wn:=Xn (M k) (R k)) (H:=B k) (sl:=S k) (n:=M k) ⟨hf.good,λm hm=>ready m (hm.resolve_left (by simp)),fin,λid ha hne=>?_,λid hl hne=>?_,wrk,rd,hf.stat k (by omega),need⟩ hs.res final
  ·obtain⟨s1,s2⟩:=stage hsil id ha hne;exact(hI.objs k id (by omega) s1 s2 hne).1
  ·obtain⟨s1,s2⟩:=stage hsil id (hI.sub id hl) hne;exact(hI.objs k id (by omega) s1 s2 hne).2
end
end Go.Sx
namespace Go.Sx
open Go.RowKit
theorem Mx(e:Go.Edge):Region.binds .any e=A4 e:=by
 unfold Region.binds A4;cases e.ground<;>rfl
section
variable {P:Program}{cx:Ctx}
theorem Z1(hcx:Ai P cx){ops:List Oper}{sl:List AV}{H:List Ob}{n:Nat}{K:Ls}(hlen:H.length=n)(hstat:Iy sl)(hord:Sz ops 0 (Hs ops)=true)(h:Mf cx P ops (Hs ops) 0 [] [] sl H n K):
 ∃S B M R,DrawFacts P cx ops (Hs ops) S B M R/\S 0=sl/\B 0=H/\M 0=n/\((∀j,j<ops.length->A7 (R j).given)->K (S ops.length) (B ops.length) (M ops.length)):=by
 obtain⟨S,B,M,R,h1,h2,h3,h4,h5,h6,h7⟩:=Vx (Hs ops) 0 [] [] sl H n K rfl h;obtain⟨f1,f2,f3⟩:=Ra (L:=Om 0 ops) (ops.zip (Is [] ops)) 0;have hbl:(Is [] ops).length=ops.length:=by rw[Rb];simp
 have hfl:(Hs ops).length=ops.length:=by
  show(Gk _ _ _).length=_;rw[f1,List.length_zip,hbl,Nat.min_self]
 have hop:∀(k:Nat)(d:DrawOp),(Hs ops)[k]?=some d->ops[k]?=some d.o/\Aq 0 (Is [] ops) k=d.bef:=by
  intro k d hd;have:=(f2 k d hd).1;rw[List.getElem?_zip_eq_some]at this;refine⟨this.1, ?_⟩;rw[Bn,this.2];rfl
 refine⟨S,B,M,R,⟨hcx,hfl,by rw[h2,h3];exact hlen,by rw[h1];exact hstat,h4,λk d hd=>(hop k d hd).1,λk d hd hj=>h5 k d hd (λj q hm=>by simp at hm) (λj hjk hb=>hj j hjk (by rw[dF]at hb;exact hb)), ?_,f3,λk d hd p hp=>((h7 k d hd).1 p hp).imp (λh=>h) λ⟨_,g2,g3⟩=>⟨λj o hj ho hs=>by
  have:=g2 j o hj (by rw[dF];exact ho) hs;rw[dF]at this;exact this,λj d' hj hd' hs=>by
  have:=g3 j d' hj hd' hs;rw[dF]at this;exact this⟩,λk d hd p hp=>((h7 k d hd).2 p hp).imp (λh=>h) λ⟨_,g2,g3⟩=>⟨λj o hj ho hs=>by
  have:=g2 j o hj (by rw[dF];exact ho) hs;rw[dF]at this;exact this,λj d' hj hd' hs=>by
  have:=g3 j d' hj hd' hs;rw[dF]at this;exact this⟩, ?_, ?_⟩,h1,h2,h3,λhg=>?_⟩
 ·intro k d hd hl j o hj ho hs;rw[(f2 k d hd).2,dF]at hl;have:=Vv ops 0 j o ho hs;rw[dF]at this;exact Acp hl j hj this
 ·intro k d hd;have:=Vw (Hs ops) 0 hord k d hd;rw[dF]at this;exact this
 ·intro D hD k d hd he j hj;have hD':∀i o,ops[i]?=some o->D i->∀e∈o.after.toList,A4 e=true->D e.on:=by
   intro i o ho hi;have hlt:i<(Hs ops).length:=by rw[hfl];exact(aW.1 ho).1
   obtain⟨d',hd'⟩:=F3 i hlt;have:=(hop i d' hd').1;rw[ho]at this;cases this;exact hD i d' hd' hi
  refine L5 ops [] ops rfl (by simp) hD' (λi j hi=>by simp at hi) k j (λo ho=>?_) ?_
  ·rw[(hop k d hd).1]at ho;cases ho;exact he
  ·rw[(hop k d hd).2];exact To.1 hj
 ·rw[hfl]at h6;exact h6 (λj q hm=>by simp at hm) hg
theorem Tr{M:Nat->Nat}{id:Nat}:∀m,M 0<=id->id<M m->∃j,j<m/\M j<=id/\id<M (j+1)
 |0,h1,h2=>by omega
 |m+1,h1,h2=>by
  rcases cN id (M m)with h|h
  ·obtain⟨j,h3,h4⟩:=Tr m h1 h;exact⟨j,by omega,h4⟩
  ·exact⟨m,by omega,h,h2⟩
theorem Inv.start{ops:List Oper}{ds:List DrawOp}{S:Nat->List AV}{B:Nat->List Ob}{M:Nat->Nat}{R:Nat->Res}{E:Env}{a:Act}(hf:DrawFacts P cx ops ds S B M R)(hE:EnvOk E (B 0) (M 0))(hs:SlOk E a (S 0)):
 Inv ops ds S B M R (λ_=>False) E E a:=by
 have old:∀m id,m<=ds.length->(∀k,k<m->Aff M R k id->False)->Ac (B m) id≠.dead->Frz (Ac (B 0) id) (Ac (B m) id):=by
  intro m id hm hno hne;have hlt:id<M m:=by rw[<-hf.blen m hm];exact Cw hne
  rcases cN id (M 0)with h|h
  ·exact hf.keep h m (aV _) hm λj _ hj haff=>hno j hj haff
  ·obtain⟨j,hj,hr⟩:=Tr m h hlt;exact(hno j hj (.inr (.inr hr))).elim
 refine⟨λ_ _ _ h=>h.elim,λ_ h=>h.elim,λid=>⟨.inl,λh=>h.elim (λh=>h) λ⟨_,h,_⟩=>h.elim⟩,hE.sub,hE.wl,hE.injO,hE.ltO,hE.f0,hE.B,hE.hid,hE.hlt, ?_, ?_, ?_,hs.size,λ_ h=>h.elim,λ_ _ h=>h.elim,Evo.refl _ _,hs.defers⟩
 ·intro m id hm hno _ hne;have hfz:=old m id hm hno hne;have hne0:Ac (B 0) id≠.dead:=λe=>hne (by rw[e]at hfz;exact hfz.dead)
  exact⟨hE.live id hne0,hfz.ok hne (hE.ok id (hE.live id hne0) hne0)⟩
 ·intro m id hm hno _ hw;exact hE.wr id ((old m id hm hno (Dz hw)).wr hw)
 ·intro m t hm hno _;rw[hf.slot (k:=0) m (aV _) hm λj o _ hj ho hd=>hno j o hj ho hd];exact hs.rd t
theorem Inv.finish{ops:List Oper}{ds:List DrawOp}{S:Nat->List AV}{B:Nat->List Ob}{M:Nat->Nat}{R:Nat->Res}{E0 E:Env}{a:Act}(hf:DrawFacts P cx ops ds S B M R)(h0:∀id,E0.A id->id<M 0)
 (hI:Inv ops ds S B M R (λj=>j<ds.length) E0 E a):EnvOk E (B ds.length) (M ds.length)/\SlOk E a (S ds.length):=by
 have bound:∀id,E.A id->id<M ds.length:=by
  intro id ha;rcases(hI.A id).1 ha with ha|⟨j,hj,h3,h4⟩
  ·exact cA (h0 id ha) (hf.mono (aV _) (bA _))
  ·exact cA h4 (hf.mono hj (bA _))
 refine⟨⟨hf.blen _ (bA _),bound,λid hne=>?_,λid hw=>?_,λid _ hne=>?_,hI.sub,hI.wl,hI.injO,hI.ltO,hI.f0,hI.Bx,hI.hid,hI.hlt⟩,⟨?_,λt=>?_,hf.stat _ (bA _),hI.defers⟩⟩
 ·exact(hI.objs _ id (bA _) (λj hj _=>hj) (λj hj hk=>by omega) hne).1
 ·exact hI.wr _ id (bA _) (λj hj _=>hj) (λj hj hk=>by omega) hw
 ·exact(hI.objs _ id (bA _) (λj hj _=>hj) (λj hj hk=>by omega) hne).2
 ·rw[hf.slen _ (bA _)];exact hI.size
 ·exact hI.slots _ t (bA _) (λj o hj _ _=>hj) (λj o hj hk=>by omega)
theorem Aqh{opsA:Array Oper}{ds:List DrawOp}{S:Nat->List AV}{B:Nat->List Ob}{M:Nat->Nat}{R:Nat->Res}{E0:Env}{Q:Exit->Act->World->Prop}{ro:Option Nat}(hf:DrawFacts P cx opsA.toList ds S B M R)(h0:∀id,E0.A id->id<M 0)
 (hQ:∀E a,Inv opsA.toList ds S B M R (λj=>j<ds.length) E0 E a->Q .normal a E.w):∀(fuel:Nat)(listed:Array Bool)(E:Env)(a:Act),listed.size=opsA.size->listed.toList.count false<=fuel->
 Inv opsA.toList ds S B M R (λj=>listed.getD j false=true) E0 E a->wpAnyIn (fen ro) 0 P .any opsA Q fuel listed a E.w:=by
 have hlen:ds.length=opsA.size:=by rw[hf.len];simp
 have done:∀(listed:Array Bool)(E:Env)(a:Act),listed.size=opsA.size->Inv opsA.toList ds S B M R (λj=>listed.getD j false=true) E0 E a->Region.ready .any opsA listed=[]->Q .normal a E.w:=by
  intro listed E a hsz hI hr;have all:∀j,j<ds.length->listed.getD j false=true:=by
   intro j
   induction j using Nat.strongRecOn with
   |_ j ih=>
    intro hj;cases hl:listed.getD j false with
    |true=>rfl
    |false=>
     exfalso;obtain⟨d,hd⟩:=F3 j hj;have ho:opsA[j]?=some d.o:=by rw[<-eF];exact hf.op j d hd
     have hm:j∈Region.ready .any opsA listed:=by
      unfold Region.ready;refine cW.2 ⟨cZ.2 (by omega), ?_⟩;have h1:listed.getD j true=false:=by
       have hjs:j<listed.size:=by omega
       simp only[bR,cF hjs,dC]at hl ⊢;exact hl
      simp only[h1,gF,fV,ho,eO,dC];rw[gE];intro e he;rw[Mx];cases hb:A4 e with
      |false=>rfl
      |true=>
       have hon:=(hf.ord j d hd).2 e (by simpa using he) hb;simpa using ih e.on hon (by omega)
     rw[hr]at hm;simp at hm
  refine hQ E a ?_;have:(λj=>listed.getD j false=true)=λj=>j<ds.length:=funext λj=>propext ⟨hI.dn j,all j⟩
  rw[<-this];exact hI
 have mem:∀(listed:Array Bool)(i:Nat),listed.size=opsA.size->i∈Region.ready .any opsA listed->∃d,ds[i]?=some d/\i<listed.size/\listed.getD i false=false/\∀e∈d.o.after.toList,A4 e=true->listed.getD e.on false=true:=by
  intro listed i hsz hi;unfold Region.ready at hi;obtain⟨h1,h2⟩:=cW.1 hi;have hlt:i<opsA.size:=cZ.1 h1;obtain⟨d,hd⟩:=F3 (ds:=ds) i (by omega);have ho:opsA[i]?=some d.o:=by rw[<-eF];exact hf.op i d hd
  simp only[aS,ho,eO,dC]at h2;obtain⟨h3,h4⟩:=h2;have his:i<listed.size:=by omega
  refine⟨d,hd,his, ?_,λe he hb=>?_⟩
  ·simp only[bR,cF his,dC,bM]at h3 ⊢;exact h3
  ·rw[gE]at h4;have:=h4 e (by simpa using he);rw[Mx,hb]at this;simpa using this
 intro fuel
 induction fuel with
 |zero=>
  intro listed E a hsz hc hI;have hr:Region.ready .any opsA listed=[]:=by
   cases hr:Region.ready .any opsA listed with
   |nil=>rfl
   |cons i l=>
    exfalso;obtain⟨d,_,his,hf',_⟩:=mem listed i hsz (by rw[hr];simp);have:false∈listed.toList:=by
     simp only[bR,cF his,dC]at hf';rw[<-hf'];exact Array.getElem_mem_toList his
    have:=List.count_pos_iff.2 this;omega
  exact⟨hr,done listed E a hsz hI hr⟩
 |succ fuel ih=>
  intro listed E a hsz hc hI;refine⟨done listed E a hsz hI,λi hi=>?_⟩;obtain⟨d,hd,his,hfalse,hed⟩:=mem listed i hsz hi;have ho:opsA[i]?=some d.o:=by rw[<-eF];exact hf.op i d hd
  have hset:(λj=>(listed.setIfInBounds i true).getD j false=true)=λj=>listed.getD j false=true\/j=i:=by
   funext j
   refine propext ?_;simp only[bR,dV];by_cases hij:i=j
   ·subst hij;simp[his]
   ·rw[aL hij];constructor
    ·exact .inl
    ·rintro(h|h)
     ·exact h
     ·exact aT h.symm hij
  have hcount:(listed.setIfInBounds i true).toList.count false<=fuel:=by
   have hl:listed.toList[i]'(by simpa using his)=false:=by
    simp only[bR,cF his,dC]at hfalse;simpa using hfalse
   rw[fT,List.count_set (by simpa using his),hl];simp only[beq_self_eq_true,if_true,show(true==false)=false from rfl,cH,if_false];omega
  have:=hI.step (ro:=ro) (Q:=Q) (K':=wpAnyIn (fen ro) 0 P .any opsA Q fuel (listed.setIfInBounds i true)) hf h0 hd (by rw[hfalse];simp) hed λE' a' hI'=>ih _ E' a' (by simpa using hsz) hcount (by rw[hset];exact hI')
  unfold wpOpIn;rw[ho];simp only;rcases this with⟨h1,h2⟩|⟨h1,h2⟩
  ·rw[aP h1];exact h2
  ·rw[aL (by rw[h1];simp)];exact⟨λ_ _=>trivial,h2⟩
theorem Ajs(hcx:Ai P cx):Zq P cx:=by
 intro ro opsA id E a sl H n K Q hE hs hord h hK;simp only[aS]at hord;obtain⟨S,B,M,R,hf,h1,h2,h3,h4⟩:=Z1 hcx hE.len hs.stat hord.2 h;have hE1:=hE.drew;have hs1:SlOk { E with w:={ E.w with drawn:=E.w.drawn+1 } } a sl:=hs.mono (L2 n E) hE.ns;subst h1;subst h2;subst h3;have hI:=Inv.start hf hE1 hs1;refine wpIn_region_any hord.1 ?_;refine Aqh (E0:={ E with w:={ E.w with drawn:=E.w.drawn+1 } }) hf hE.ns (λE' a' hI'=>?_) opsA.size (Array.replicate opsA.size false) { E with w:={ E.w with drawn:=E.w.drawn+1 } } a (by simp) ?_ ?_
 ·obtain⟨k1,k2⟩:=Inv.finish (E0:={ E with w:={ E.w with drawn:=E.w.drawn+1 } }) hf hE.ns hI';have hl:(Hs opsA.toList).length=opsA.toList.length:=hf.len;rw[hl]at k1 k2;refine hK E' a' _ _ _ (h4 λj hj=>hI'.given j (by rw[hl];exact hj)) k1 k2 ((L2 _ E).trans hI'.evo) (hf.mono (aV _) (by rw[hl];exact bA _))
 ·simp
 ·have:(λj=>(Array.replicate opsA.size false).getD j false=true)=λ_=>False:=by
   funext j
   simp only[bR,Array.getElem?_replicate];split<;>simp
  rw[this];exact hI
end
end Go.Sx
namespace Go.Sx
open Go.RowKit
section
variable {P:Program}{cx:Ctx}{call:CallSem}{opsA:Array Oper}{Q:Exit->Act->World->Prop}{ro:Option Nat}
theorem Anj{J:(Nat->Prop)->Act->World->Prop}(hon:∀(j:Nat) o,opsA[j]?=some o->∀e∈o.after.toList,A4 e=true->e.on<j)
 (hstep:∀(D:Nat->Prop) a w (k:Nat) o (K':Act->World->Prop),J D a w->opsA[k]?=some o->¬D k->(∀e∈o.after.toList,A4 e=true->D e.on)->(∀a' w',J (λj=>D j\/j=k) a' w'->K' a' w')->
   (Region.wanted o (yielded opsA a.tmps)=true/\o.wpI ro P a w K' Q)\/(Region.wanted o (yielded opsA a.tmps)=false/\K' (a.put o.dst undef) w))
 (hQ:∀(D:Nat->Prop) a w,J D a w->(∀j,j<opsA.size->D j)->Q .normal a w):∀(fuel:Nat)(listed:Array Bool)(a:Act)(w:World),listed.size=opsA.size->listed.toList.count false<=fuel->
 J (λj=>listed.getD j false=true) a w->wpAnyIn (fen ro) 0 P .any opsA Q fuel listed a w:=by
 have done:∀(listed:Array Bool)(a:Act)(w:World),listed.size=opsA.size->J (λj=>listed.getD j false=true) a w->Region.ready .any opsA listed=[]->Q .normal a w:=by
  intro listed a w hsz hI hr;refine hQ _ a w hI ?_;intro j
  induction j using Nat.strongRecOn with
  |_ j ih=>
   intro hj;cases hl:listed.getD j false with
   |true=>rfl
   |false=>
    exfalso;have ho:opsA[j]?=some opsA[j]:=cF hj;have hm:j∈Region.ready .any opsA listed:=by
     unfold Region.ready;refine cW.2 ⟨cZ.2 hj, ?_⟩;have h1:listed.getD j true=false:=by
      have hjs:j<listed.size:=by omega
      simp only[bR,cF hjs,dC]at hl ⊢;exact hl
     simp only[h1,gF,fV,ho,eO,dC];rw[gE];intro e he;rw[Mx];cases hb:A4 e with
     |false=>rfl
     |true=>
      have hon:=hon j _ ho e (by simpa using he) hb;simpa using ih e.on hon (by omega)
    rw[hr]at hm;simp at hm
 have mem:∀(listed:Array Bool)(i:Nat),listed.size=opsA.size->i∈Region.ready .any opsA listed->∃o,opsA[i]?=some o/\i<listed.size/\listed.getD i false=false/\∀e∈o.after.toList,A4 e=true->listed.getD e.on false=true:=by
  intro listed i hsz hi;unfold Region.ready at hi;obtain⟨h1,h2⟩:=cW.1 hi;have hlt:i<opsA.size:=cZ.1 h1;have ho:opsA[i]?=some opsA[i]:=cF hlt;simp only[aS,ho,eO,dC]at h2;obtain⟨h3,h4⟩:=h2;have his:i<listed.size:=by omega
  refine⟨_,ho,his, ?_,λe he hb=>?_⟩
  ·simp only[bR,cF his,dC,bM]at h3 ⊢;exact h3
  ·rw[gE]at h4;have:=h4 e (by simpa using he);rw[Mx,hb]at this;simpa using this
 intro fuel
 induction fuel with
 |zero=>
  intro listed a w hsz hc hI;have hr:Region.ready .any opsA listed=[]:=by
   cases hr:Region.ready .any opsA listed with
   |nil=>rfl
   |cons i l=>
    exfalso;obtain⟨o,_,his,hf',_⟩:=mem listed i hsz (by rw[hr];simp);have:false∈listed.toList:=by
     simp only[bR,cF his,dC]at hf';rw[<-hf'];exact Array.getElem_mem_toList his
    have:=List.count_pos_iff.2 this;omega
  exact⟨hr,done listed a w hsz hI hr⟩
 |succ fuel ih=>
  intro listed a w hsz hc hI;refine⟨done listed a w hsz hI,λi hi=>?_⟩;obtain⟨o,ho,his,hfalse,hed⟩:=mem listed i hsz hi;have hset:(λj=>(listed.setIfInBounds i true).getD j false=true)=λj=>listed.getD j false=true\/j=i:=by
   funext j
   refine propext ?_;simp only[bR,dV];by_cases hij:i=j
   ·subst hij;simp[his]
   ·rw[aL hij];constructor
    ·exact .inl
    ·rintro(h|h)
     ·exact h
     ·exact aT h.symm hij
  have hcount:(listed.setIfInBounds i true).toList.count false<=fuel:=by
   have hl:listed.toList[i]'(by simpa using his)=false:=by
    simp only[bR,cF his,dC]at hfalse;simpa using hfalse
   rw[fT,List.count_set (by simpa using his),hl];simp only[beq_self_eq_true,if_true,show(true==false)=false from rfl,cH,if_false];omega
  have:=hstep _ a w i o (wpAnyIn (fen ro) 0 P .any opsA Q fuel (listed.setIfInBounds i true)) hI ho (by simp[hfalse]) hed λa' w' hI'=>ih _ a' w' (by simpa using hsz) hcount (by rw[hset];exact hI')
  unfold wpOpIn;rw[ho];simp only;rcases this with⟨h1,h2⟩|⟨h1,h2⟩
  ·rw[aP h1];exact h2
  ·rw[aL (by rw[h1];simp)];exact⟨λ_ _=>trivial,h2⟩
theorem Vy:∀(l:List Oper)(j:Nat),ahead j l=true->∀(i:Nat) o,l[i]?=some o->∀e∈o.after.toList,A4 e=true->e.on<j+i
 |[],_,_,i,o,h=>by simp at h
 |o0::l,j,h,0,o,ho=>by
  cases ho;simp only[ahead,aS]at h;intro e he hb;have:=bV.1 h.1 e he;rw[hb]at this;have:e.on<j:=cB (by simpa[Nat.blt]using this);omega
 |o0::l,j,h,i+1,o,ho=>by
  simp only[ahead,aS]at h;intro e he hb;have:=Vy l (j+1) h.2 i o (by simpa using ho) e he hb;omega
theorem Gf{a:Act}{dst:Option Tmp}{v:Value}{t:Nat}(h:dst≠some t):(a.put dst v).eval (.tmp t)=a.eval (.tmp t):=
 Act.eval_put λd hd hx=>h (by rw[hd];cases hx;rfl)
theorem Rf{a b:Act}{t:Nat}{v:Value}(hs:a.tmps.size=b.tmps.size)(h:¬t<a.tmps.size->a.eval (.tmp t)=b.eval (.tmp t)):(a.put (some t) v).eval (.tmp t)=(b.put (some t) v).eval (.tmp t):=by
 by_cases ht:t<a.tmps.size
 ·have ht':t<b.tmps.size:=by omega
  simp[Act.put,Act.eval,ht,ht']
 ·have ht':¬t<b.tmps.size:=by omega
  simp[Act.put,Act.eval,ht,ht']
theorem Hw{a:Act}{dst:Option Tmp}{v:Value}:(a.put dst v).tmps.size=a.tmps.size:=by cases dst<;>simp[Act.put]
theorem L8{a:Act}{dst:Option Tmp}{v:Value}:(a.put dst v).defers=a.defers:=by cases dst<;>rfl
theorem Ts{a b:Act}{t:Nat}(hs:a.tmps.size=b.tmps.size)(h:¬t<a.tmps.size):a.eval (.tmp t)=b.eval (.tmp t):=by
 have h':¬t<b.tmps.size:=by omega
 simp[Act.eval,h,h']
theorem Vz{E:Env}{H:List Ob}{n:Nat}(hE:EnvOk E H n):∀(l:List Oper){a:Act}{sl:List AV}{K:List AV->Prop},SlOk E a sl->R5 cx P l sl H n K->
 ∃a' sl',K sl'/\SlOk E a' sl'/\a'.tmps.size=a.tmps.size/\∀t,(∀o∈l,o.dst≠some t)->a'.eval (.tmp t)=a.eval (.tmp t)
 |[],a,sl,K,hs,h=>⟨a,sl,h,hs,rfl,λ_ _=>rfl⟩
 |o::l,a,sl,K,hs,h=>by
  simp only[R5]at h;split at h
  ·rename_i r hg hst hev;rw[Qb,Tg]at h;obtain⟨hn,h⟩:=h;obtain⟨v,h1,h2,h3⟩:=(Ti (λid _=>hE.live id) hE.ok (λx _=>Xp hs x) hn hst hev).run;have h:=h h3;rw[Fd]at h;obtain⟨sl',k1,k2,_⟩:=hs.put (F8 h2) (λc s w x hw=>aT hw (H5 _ _ _ _ _)) h;obtain⟨a',sl'',g1,g2,g3,g4⟩:=Vz hE l k2 k1;refine⟨a',sl'',g1,g2,g3.trans Hw,λt ht=>?_⟩;rw[g4 t λo ho=>ht o (by simp[ho]),Gf (ht o (by simp))]
  ·exact h.elim
theorem Rg{ops:List Oper}{sl:List AV}{H:List Ob}{n:Nat}{k:Prop}:∀(l:List Nat),R7 cx P ops sl H n k l->k/\∀i∈l,∃o r,ops[i]?=some o/\evOp cx P (ev sl) H n o=some r/\A7 r.need/\∀d,o.dst=some d->noW r.val=Aq .any sl d
 |[],h=>⟨h,λi hi=>by simp at hi⟩
 |i::l,h=>by
  simp only[R7]at h;split at h
  ·rename_i o ho;split at h
   ·rename_i r hr;rw[Qb]at h;obtain⟨h1,h2,h3⟩:=h;obtain⟨g1,g2⟩:=Rg l h3;refine⟨g1,λj hj=>?_⟩;rcases cT.1 hj with rfl|hj
    ·exact⟨o,r,ho,hr,h1,λd hd=>by rw[hd]at h2;exact h2⟩
    ·exact g2 j hj
   ·exact h.elim
  ·exact h.elim
structure MixAt(P:Program)(cx:Ctx)(call:CallSem)(ops:List Oper)(K:Ls)(n0:Nat)(E0:Env)(D:Nat->Prop)(a:Act)(w:World)(E:Env)(as:Act)(sl:List AV)(H:List Ob)(n:Nat)(S pd:List Nat)(main:Option Nat)(rest:List Lev):Prop where
 w:E.w=w
 env:EnvOk E H n
 slok:SlOk E as sl
 evo:Evo n0 E0 E
 le:n0<=n
 sub:∀i,D i->i∈S
 undone:∀i,i∈S->D i\/i∈pd
 closed:∀(i:Nat) o,ops[i]?=some o->D i->∀e∈o.after.toList,A4 e=true->D e.on
 size:a.tmps.size=as.tmps.size
 defers:Marks E a.defers
 agree:∀t,(∀(i:Nat) o,i∈pd->ops[i]?=some o->¬D i->o.dst≠some t)->a.eval (.tmp t)=as.eval (.tmp t)
 facts:∀i∈pd,∃o r,ops[i]?=some o/\evOp cx P (ev sl) H n o=some r/\A7 r.need/\∀d,o.dst=some d->noW r.val=Aq .any sl d
 float:∀i∈pd,Xf ops i=true/\i∈S
 shut:∀(i:Nat) o,ops[i]?=some o->R6 S o=true->i∈S\/main=some i
 clear:∀i∈pd,∀j∈pd,Mg ops (Is [] ops) i j=true
 next:match main with
  |none=>K sl H n
  |some m=>∃o,ops[m]?=some o/\o.guard=none/\m ∉ S/\(∀i∈pd,Mg ops (Is [] ops) i m=true)/\Pz ops (Is [] ops) (m::S) (pd.filter (λi=>!D4 (Aq 0 (Is [] ops) m) i)) rest=true/\
   Vj cx P call ops o sl H n (λsl' H' n'=>P0 cx P call ops rest sl' H' n' K)
def Apl(P:Program)(cx:Ctx)(call:CallSem)(ops:List Oper)(K:Ls)(n0:Nat)(E0:Env)(D:Nat->Prop)(a:Act)(w:World):Prop:=
 ∃E as sl H n S pd main rest,MixAt P cx call ops K n0 E0 D a w E as sl H n S pd main rest
theorem V0{ops:List Oper}{K:Ls}{n0:Nat}{E0 E:Env}{D:Nat->Prop}{a as:Act}{sl:List AV}{H:List Ob}{n:Nat}{S pend:List Nat}{levs:List Lev}(hE:EnvOk E H n)(hs:SlOk E as sl)(hevo:Evo n0 E0 E)(hle:n0<=n)
 (hsub:∀i,D i->i∈S)(hund:∀i,i∈S->D i\/i∈pend)(hcl:∀(i:Nat) o,ops[i]?=some o->D i->∀e∈o.after.toList,A4 e=true->D e.on)(hsize:a.tmps.size=as.tmps.size)(hdef:Marks E a.defers)
 (hag:∀t,(∀(i:Nat) o,i∈pend->ops[i]?=some o->¬D i->o.dst≠some t)->a.eval (.tmp t)=as.eval (.tmp t))
 (hp:Pz ops (Is [] ops) S pend levs=true)(h:P0 cx P call ops levs sl H n K):Apl P cx call ops K n0 E0 D a E.w:=by
 match levs,hp,h with
 |[],hp,_=>simp[Pz]at hp
 |⟨nw,pd,main⟩::rest,hp,h=>
  simp only[Pz,aS]at hp;obtain⟨⟨hnw,hpend,hfl⟩,⟨hshut,hclear⟩,hmain⟩:=hp;simp only[P0]at h;obtain⟨as',sl',h1,h2,h3,h4⟩:=Vz hE _ hs h;obtain⟨h5,h6⟩:=Rg pd h1;have hnw':∀i∈nw,i∈pd/\i ∉ S:=λi hi=>by
   have:=bV.1 hnw i hi;simpa using this
  refine⟨E,as',sl',H,n,nw++S,pd,main,rest,rfl,hE,h2,hevo,hle,λi hi=>fQ _ (hsub i hi),λi hi=>?_,hcl,hsize.trans h3.symm,hdef,λt ht=>?_,h6,λi hi=>by simpa using bV.1 hfl i hi,λi o ho he=>?_,λi hi j hj=>bV.1 (bV.1 hclear i hi) j hj, ?_⟩
  ·rcases dG.1 hi with hi|hi
   ·exact .inr (hnw' i hi).1
   ·exact(hund i hi).imp id λh=>by simpa using bV.1 hpend i h
  ·rw[h4 t λo ho=>?_]
   ·exact hag t λi o hi ho hd=>ht i o (by simpa using bV.1 hpend i hi) ho hd
   ·obtain⟨i,hi,hio⟩:=List.mem_filterMap.1 ho;exact ht i o (hnw' i hi).1 hio λhd=>(hnw' i hi).2 (hsub i hd)
  ·have:=bV.1 hshut (o,i) (by
    rw[fR];exact ho)
   simp only[bY,he,gL,cH,false_or]at this;exact this.imp (λh=>by simpa using h) (λh=>by simpa using h)
  ·cases main with
   |none=>exact h5
   |some m=>
    simp only[aS]at hmain;obtain⟨g1,g2,g3,g4⟩:=hmain;simp only at h5;cases ho:ops[m]? with
    |none=>rw[ho]at g2;cases g2
    |some o=>
     rw[ho]at g2 h5;exact⟨o,ho,by simpa using g2,by simpa using g1,λi hi=>bV.1 g3 i hi,g4,h5⟩
theorem Aqi(hcx:Ai P cx):Zr P cx:=by
 intro call hcall ro opsA id E a sl H n K Q hE hs hord h hK;simp only[aS,Am3]at hord;obtain⟨hmo,hah,hpl⟩:=hord;have hE1:=hE.drew;have hs1:SlOk { E with w:={ E.w with drawn:=E.w.drawn+1 } } a sl:=hs.mono (L2 n E) hE.ns;have hon:∀(j:Nat) o,opsA[j]?=some o->∀e∈o.after.toList,A4 e=true->e.on<j:=λj o ho e he hb=>by
  have:=Vy opsA.toList 0 hah j o (by rw[eF];exact ho) e he hb;omega
 have hbef:∀(D:Nat->Prop),(∀(i:Nat) o,opsA.toList[i]?=some o->D i->∀e∈o.after.toList,A4 e=true->D e.on)->∀(k:Nat) o,opsA.toList[k]?=some o->(∀e∈o.after.toList,A4 e=true->D e.on)->∀j,D4 (Aq 0 (Is [] opsA.toList) k) j=true->D j:=by
  intro D hD k o ho he j hj;exact L5 opsA.toList [] opsA.toList rfl (by simp) hD (λi j hi=>by simp at hi) k j (λo' ho'=>by rw[ho]at ho';cases ho';exact he) (To.1 hj)
 refine wpIn_region_any hmo ?_;refine Anj (J:=Apl P cx call opsA.toList K n E) hon ?_ ?_ opsA.size (Array.replicate opsA.size false) a _ (by simp) (by simp) ?_
 ·rintro D a w k o K' ⟨E1,as,sl1,H1,n1,S,pd,main,rest,hM⟩ hok hDk hed hK';have ho:opsA.toList[k]?=some o:=by rw[eF];exact hok
  have hbk:=hbef D hM.closed k o ho hed;have hcl':∀(i:Nat) o',opsA.toList[i]?=some o'->(D i\/i=k)->∀e∈o'.after.toList,A4 e=true->D e.on\/e.on=k:=by
   intro i o' ho' hi e he hb;rcases hi with hi|rfl
   ·exact .inl (hM.closed i o' ho' hi e he hb)
   ·rw[ho]at ho';cases ho';exact .inl (hed e he hb)
  have hlooks:(∀i∈pd,Mg opsA.toList (Is [] opsA.toList) i k=true)->∀t∈Dj opsA.toList o,a.eval (.tmp t)=as.eval (.tmp t):=by
   intro hc t ht;refine hM.agree t λi oi hi hoi hnd hdst=>?_
   have:=hc i hi;unfold Mg at this;rw[hoi,ho]at this;simp only[hdst,bY]at this;rcases this with h|h
   ·exact hnd (hbk i h)
   ·have h:¬t∈Dj opsA.toList o:=by simpa using h
    exact h ht
  by_cases hkS:k∈S
  ·
   have hkp:k∈pd:=(hM.undone k hkS).resolve_left hDk;obtain⟨o',r,ho',hev,hneed,hval⟩:=hM.facts k hkp;rw[ho]at ho';cases ho';have hfl:=(hM.float k hkp).1;unfold Xf at hfl;rw[ho]at hfl;simp only[Xd,aS]at hfl;obtain⟨hst,hg,_⟩:=hfl;have hg:o.guard=none:=by simpa using hg
   have hag:=hlooks λi hi=>hM.clear i hi k hkp
   obtain⟨v,h1,h2,h3⟩:=(Ti (a:=as) (λid _=>hM.env.live id) hM.env.ok (λx _=>Xp hM.slok x) hneed hst hev).run;have hex:execOp a.eval o=execOp as.eval o:=execOp_congr o (λcs b hc=>by rw[hc]at hst;cases hst) λx hx=>by
    cases x with
    |tmp t=>exact hag t (Ka (by simpa using hx))
    |_=>rfl
   left;refine⟨by simp[Region.wanted,hg], ?_⟩;rw[<-hM.w];refine Cu (v:=v) (w':=E1.w) (by rw[hex];exact h1) (hK' _ _ ?_);have hsz:a.tmps.size=as.tmps.size:=hM.size;refine⟨E1,as.put o.dst v,sl1,H1,n1,S,pd,main,rest,rfl,hM.env, ?_,hM.evo,hM.le,λi hi=>?_,λi hi=>(hM.undone i hi).imp .inl λh=>h,hcl',by rw[Hw,Hw];exact hsz,by rw[L8];exact hM.defers,λt ht=>?_,hM.facts,hM.float,hM.shut,hM.clear,hM.next⟩
   ·refine⟨by rw[Hw];exact hM.slok.size,λt=>?_,hM.slok.stat,by rw[L8];exact hM.slok.defers⟩;by_cases hd:o.dst=some t
    ·by_cases hlt:t<as.tmps.size
     ·have e:(as.put o.dst v).eval (.tmp t)=v:=by rw[hd];simp[Act.put,Act.eval,hlt]
      rw[e,<-hval t hd];exact F8 h2
     ·rw[Ts (b:=as) Hw (by rw[Hw];exact hlt)];exact hM.slok.rd t
    ·rw[Gf hd];exact hM.slok.rd t
   ·rcases hi with hi|rfl
    ·exact hM.sub i hi
    ·exact hkS
   ·by_cases hd:o.dst=some t
    ·rw[hd];exact Rf hsz λh=>Ts hsz h
    ·rw[Gf hd,Gf hd];refine hM.agree t λi oi hi hoi hnd=>?_
     by_cases hik:i=k
     ·subst hik;rw[ho]at hoi;cases hoi;exact hd
     ·exact ht i oi hi hoi λh=>h.elim hnd hik
  ·
   have hmain:main=some k:=(hM.shut k o ho (bV.2 λe he=>by
    cases hb:A4 e with
    |false=>rfl
    |true=>simpa using hM.sub _ (hed e he hb))).resolve_left hkS
   subst hmain;have hnext:=hM.next;obtain⟨o',ho',hg,hnS,hcm,hplan,hrun⟩:=hnext;rw[ho]at ho';cases ho';have hag:=hlooks hcm;rw[<-hM.w];refine Zp (Q:=Q) hcx hcall hM.env hM.slok hag hrun λE' v sl' H' n' hk hE' hs' hevo hn'=>hK' _ _ ?_
   refine V0 (S:=k::S) (pend:=pd.filter (λi=>!D4 (Aq 0 (Is [] opsA.toList) k) i)) hE' hs' (hM.evo.trans (hevo.mono hM.le)) (cP hM.le hn') (λi hi=>?_) (λi hi=>?_) hcl' (by rw[Hw,Hw];exact hM.size) (by rw[L8];exact hM.defers.mono hevo) (λt ht=>?_) hplan hk
   ·rcases hi with hi|rfl
    ·exact dQ _ (hM.sub i hi)
    ·simp
   ·rcases cT.1 hi with rfl|hi
    ·exact .inl (.inr rfl)
    ·rcases hM.undone i hi with h|h
     ·exact .inl (.inl h)
     ·cases hb:D4 (Aq 0 (Is [] opsA.toList) k) i with
      |true=>exact .inl (.inl (hbk i hb))
      |false=>exact .inr (cW.2 ⟨h,by rw[hb];rfl⟩)
   ·by_cases hd:o.dst=some t
    ·rw[hd];exact Rf hM.size λh=>Ts hM.size h
    ·rw[Gf hd,Gf hd];refine hM.agree t λi oi hi hoi hnd=>ht i oi ?_ hoi ?_
     ·refine cW.2 ⟨hi, ?_⟩;cases hb:D4 (Aq 0 (Is [] opsA.toList) k) i with
      |true=>exact aT (hbk i hb) hnd
      |false=>rfl
     ·rintro(h|rfl)
      ·exact hnd h
      ·exact hnS (hM.float i hi).2
 ·rintro D a w ⟨E1,as,sl1,H1,n1,S,pd,main,rest,hM⟩ hall;have agree:∀t,a.eval (.tmp t)=as.eval (.tmp t):=λt=>hM.agree t λi o hi ho hnd=>aT (hall i (by
   have:=(aW.1 ho).1;simpa using this)) hnd
  cases main with
  |some m=>
   have hnext:=hM.next;obtain⟨o',ho',_,hnS,_⟩:=hnext;exact aT (hM.sub m (hall m (by have:=(aW.1 ho').1;simpa using this))) hnS
  |none=>
   rw[<-hM.w];exact hK E1 a sl1 H1 n1 hM.next hM.env ⟨hM.size.trans hM.slok.size,λt=>(by rw[agree t];exact hM.slok.rd t),hM.slok.stat,hM.defers⟩ hM.evo hM.le
 ·have:(λj=>(Array.replicate opsA.size false).getD j false=true)=λ_=>False:=by
   funext j
   simp only[bR,Array.getElem?_replicate];split<;>simp
  rw[this];exact V0 (E:={ E with w:={ E.w with drawn:=E.w.drawn+1 } }) (S:=[]) (pend:=[]) (as:=a) hE1 hs1 (L2 n E) (bA _) (λ_ h=>h.elim) (λi hi=>by simp at hi) (λ_ _ _ h=>h.elim) rfl hs1.defers (λ_ _=>rfl) hpl h
theorem Aer(hcx:Ai P cx):Mt P cx:=⟨Ajs hcx,Aqi hcx⟩
end
end Go.Sx
