/- Symbolic steps. -/
import Derived.Test.YtpabcdbaffjcdaaGreatJB5
import Derived.ProofKit
import Derived.OpenShut
set_option linter.unusedSimpArgs false
set_option linter.unusedVariables false
set_option maxRecDepth 100000
namespace Go.Sx
open Go.RowKit Go.ChangeShapes Go.WideShapes Go.ChangeAt
def Ez(w:World):Nat->Nat->Prop:=λb _=>b<w.heap.size
theorem Z2(t:Ty):∀(xs:List t.den)(j:Nat)(p:PV),(flat t xs)[j]?=some p->∃i r y,xs[i]?=some y/\r<t.size/\j=i*t.size+r/\(enc t y)[r]?=some p
 |[],j,p,h=>by simp[flat]at h
 |x::xs,j,p,h=>by
  have he:flat t (x::xs)=enc t x++flat t xs:=rfl;rw[he,eA,Aw]at h;split at h
  ·rename_i hlt;exact⟨0,j,x,rfl,hlt,by simp,h⟩
  ·rename_i hge;obtain⟨i,r,y,h1,h2,h3,h4⟩:=Z2 t xs _ p h;exact⟨i+1,r,y,by simpa using h1,h2,by rw[Nat.succ_mul];omega,h4⟩
def Ty.fine:(t:Ty)->t.den->Prop
 |.int k,n=>inK k n
 |.bool,_=>True
 |.str,s=>s.size<=maxLen
 |.pair a b,p=>Ty.fine a p.1/\Ty.fine b p.2
 |.sl t,l=>l.length<=big/\∀x∈l,Ty.fine t x
 |.expr,_=>True
 |.fn,_=>True
theorem Aqj{k:IntKind}{n:Int}(h:(Lit.int k n).wf=true):inK k n:=by
 cases k<;>(simp only[Lit.wf,aS,bO]at h;exact h)
def ElemOk(P:Program)(e:TypeId)(ty:Ty):Prop:=
 ∀(H:Type)(en:TypeId×Value->H)(W:World)(fuel:Nat)(cs:List Value)(x:DataW H×List MemPlace),DataW.trod en P W 0 (λ_=>true) true fuel e cs=some x->
  ∃y:ty.den,Ty.fine ty y/\cs.length=ty.size/\∀(j:Nat)(p:PV),(enc ty y)[j]?=some p->∃v,cs[j]?=some v/\RdP W (Ez W) v p
def Tt(P:Program)(e:TypeId)(ty:Ty)(fuel:Nat):Prop:=
 ∀(H:Type)(en:TypeId×Value->H)(W:World)(cs:List Value)(x:DataW H×List MemPlace),DataW.trod en P W 0 (λ_=>true) true fuel e cs=some x->
  ∃y:ty.den,Ty.fine ty y/\cs.length=ty.size/\∀(j:Nat)(p:PV),(enc ty y)[j]?=some p->∃v,cs[j]?=some v/\RdP W (Ez W) v p
theorem ElemOk.at{P:Program}{e:TypeId}{ty:Ty}(h:ElemOk P e ty)(m:Nat):Tt P e ty m:=λH en W cs x hx=>h H en W m cs x hx
section
variable {P:Program}{e:TypeId}{ty:Ty}
theorem O1{k:IntKind}(he:P.underlying e=some (.int k)):ElemOk P e (.int k):=by
 intro H en W fuel cs x h;obtain⟨n,rfl,_,hw⟩:=DataW.trod_int he h;refine⟨n,Aqj hw,rfl,λj p hp=>?_⟩;cases j with
 |zero=>
  have:PV.int k n=p:=by simpa[enc]using hp
  subst this;exact⟨_,rfl,.int _ _⟩
 |succ j=>simp[enc]at hp
theorem Ag2(he:P.underlying e=some .bool):ElemOk P e .bool:=by
 intro H en W fuel cs x h;obtain⟨n,rfl,_⟩:=DataW.trod_bool he h;refine⟨n,trivial,rfl,λj p hp=>?_⟩;cases j with
 |zero=>
  have:PV.bool n=p:=by simpa[enc]using hp
  subst this;exact⟨_,rfl,.bool _⟩
 |succ j=>simp[enc]at hp
theorem Z3(he:P.underlying e=some .string):ElemOk P e .str:=by
 intro H en W fuel cs x h;obtain⟨n,rfl,_,hw⟩:=DataW.trod_string he h;refine⟨n,hw,rfl,λj p hp=>?_⟩;cases j with
 |zero=>
  have:PV.str n=p:=by simpa[enc]using hp
  subst this;exact⟨_,rfl,.str _⟩
 |succ j=>simp[enc]at hp
theorem Z4{t:TypeId}{H:Type}{en:TypeId×Value->H}{W:World}{fuel:Nat}{cs:List Value}{x:DataW H×List MemPlace}(ht:P.underlying t=some (.slice e))(hc:P.cellsOf e=ty.size)(he:∀m,m<fuel->Tt P e ty m)
 (h:DataW.trod en P W 0 (λ_=>true) true fuel t cs=some x):∃v xs,cs=[v]/\RdP W (Ez W) v (.sl ty xs)/\xs.length<=big/\∀y∈xs,Ty.fine ty y:=by
 rcases DataW.trod_slice ht h with⟨rfl,_⟩|⟨a,len,cap,elems,rest,n,hfu,rfl,_,hb,hl,hm,hlen,hel,_,_⟩
 ·exact⟨_,[],rfl,.sl0 _ _ _,aV _,by simp⟩
 ·have each:∀i,i<len->∃(y:ty.den)(cs':List Value),Ty.fine ty y/\W.cells? 0 (a.add (i*ty.size)) ty.size=some cs'/\∀(j:Nat)(p:PV),(enc ty y)[j]?=some p->∃v,cs'[j]?=some v/\RdP W (Ez W) v p:=by
   intro i hi;have:=hel i hi;rw[hc,aR (by omega)]at this;cases hcs:W.cells? 0 (a.add (i*ty.size)) ty.size with
   |none=>rw[hcs]at this;simp at this
   |some cs'=>
    rw[hcs]at this;obtain⟨y,hfi,_,hy⟩:=he n (by omega) H en W cs' _ this;exact⟨y,cs',hfi,rfl,hy⟩
  rcases Nat.eq_zero_or_pos len with h0|hpos
  ·subst h0;exact⟨_,[],rfl,.sl0 _ _ _,aV _,by simp⟩
  ·let f:Nat->ty.den:=λi=>if hi:i<len then(each i hi).choose else Ab ty
   have hf:∀i (hi:i<len),∃cs',Ty.fine ty (f i)/\W.cells? 0 (a.add (i*ty.size)) ty.size=some cs'/\∀(j:Nat)(p:PV),(enc ty (f i))[j]?=some p->∃v,cs'[j]?=some v/\RdP W (Ez W) v p:=λi hi=>by
    simp only[f,dif_pos hi];exact(each i hi).choose_spec
   have cell:∀i (hi:i<len) r p,(enc ty (f i))[r]?=some p->∃v,W.cell? ((a.add (i*ty.size)).add r)=some v/\RdP W (Ez W) v p:=by
    intro i hi r p hp;obtain⟨cs',_,h1,h2⟩:=hf i hi;obtain⟨v,hv,hr⟩:=h2 r p hp;refine⟨v, ?_,hr⟩;have hrlt:r<ty.size:=by rw[<-Aw ty (f i)];exact(aW.1 hp).1
    simp only[World.cells?,aV,if_true]at h1;have:=mapM_some_get h1 r r (by simp[hrlt]);rw[this];exact hv
   obtain⟨b,o,sp⟩:=a;have hsp:sp=none:=by
    have hne:∃p,(enc ty (f 0))[0]?=some p:=⟨_,aR (by rw[Aw];exact Bh ty)⟩;obtain⟨p,hp⟩:=hne;obtain⟨v,hv,_⟩:=cell 0 hpos 0 p hp;cases hs:sp with
    |none=>rfl
    |some q=>
     subst hs;exfalso;have:((({ block:=b,off:=o,spot:=some q }:Addr).add (0*ty.size)).add 0)=⟨b,o,some q⟩:=by simp[Addr.add]
     rw[this]at hv;simp only[World.cell?]at hv;split at hv<;>simp at hv
   subst hsp;let xs:=(List.range len).map f;have hxl:xs.length=len:=by simp[xs]
   have get:∀j p,(flat ty xs)[j]?=some p->∃v,W.cell? ⟨b,o+j,none⟩=some v/\RdP W (Ez W) v p:=by
    intro j p hp;obtain⟨i,r,y,h1,h2,h3,h4⟩:=Z2 ty xs j p hp;have hi:i<len:=by rw[<-hxl];exact(aW.1 h1).1
    have hy:y=f i:=by
     simp only[xs,cL,eW hi,eO,aU]at h1;exact h1.symm
    subst hy;obtain⟨v,hv,hr⟩:=cell i hi r p h4;rw[Cm,Cm]at hv;exact⟨v,by rw[h3,<-eK];exact hv,hr⟩
   refine⟨_,xs,rfl,.sl b o len cap ty xs (λj=>(W.cell? ⟨b,o+j,none⟩).getD undef) hxl.symm hl (cP hl (cP hm (by decide))) (λj hj=>?_) (λj p hp=>?_),by rw[hxl];exact cP hl (cP hm (by decide)),λy hy=>?_⟩
   ·obtain⟨v,hv,_⟩:=get j _ (aR hj);refine⟨?_,by rw[hv];rfl⟩;show b<W.heap.size;rcases cN b W.heap.size with h|h
    ·exact h
    ·exfalso;have:W.cell? ⟨b,o+j,none⟩=none:=by simp[World.cell?,Array.getElem?_eq_none h]
     rw[this]at hv;cases hv
   ·obtain⟨v,hv,hr⟩:=get j p hp;rw[hv];exact hr
   ·obtain⟨i,hi,rfl⟩:=cU.1 hy;obtain⟨_,h,_⟩:=hf i (cZ.1 hi);exact h
theorem Ank{t:TypeId}(ht:P.underlying t=some (.slice e))(hc:P.cellsOf e=ty.size)(he:ElemOk P e ty):ElemOk P t (.sl ty):=by
 intro H en W fuel cs x h;obtain⟨v,xs,rfl,h1,h2,h3⟩:=Z4 ht hc (λm _=>he.at m) h;refine⟨xs,⟨h2,h3⟩,rfl,λj p hp=>?_⟩;cases j with
 |zero=>
  have:PV.sl ty xs=p:=by simpa[enc]using hp
  subst this;exact⟨_,rfl,h1⟩
 |succ j=>simp[enc]at hp
def L9(P:Program)(fs:List Field)(off:Nat)(ty:Ty):Prop:=
 ∀(H:Type)(en:TypeId×Value->H)(W:World)(n:Nat)(cs:List Value)(xs:List (DataW H×List MemPlace))(i0:Nat),(∀(i:Nat)(f:Field),fs[i]?=some f->
     DataW.trod en P W 0 (λ_=>true) true n f.type ((cs.drop f.offset).take (P.cellsOf f.type))=xs[i0+i]?)->i0+fs.length=xs.length->
  ∃y:ty.den,Ty.fine ty y/\∀(j:Nat)(p:PV),(enc ty y)[j]?=some p->∃v,cs[off+j]?=some v/\RdP W (Ez W) v p
theorem Acv{f:Field}{off:Nat}(ho:f.offset=off)(he:ElemOk P f.type ty):L9 P [f] off ty:=by
 intro H en W n cs xs i0 h hl;have h0:=h 0 f rfl;simp only[List.length_cons,List.length_nil]at hl;rw[aR (by omega)]at h0;obtain⟨y,h1,h2,h3⟩:=he H en W n _ _ h0;refine⟨y,h1,λj p hp=>?_⟩;obtain⟨v,hv,hr⟩:=h3 j p hp;refine⟨v, ?_,hr⟩;rw[eZ]at hv;split at hv
 ·rwa [cK,ho]at hv
 ·cases hv
theorem Z5{f:Field}{fs:List Field}{off:Nat}{a b:Ty}(ho:f.offset=off)(he:ElemOk P f.type a)(hf:L9 P fs (off+a.size) b):L9 P (f::fs) off (.pair a b):=by
 intro H en W n cs xs i0 h hl;have h0:=h 0 f rfl;simp only[List.length_cons]at hl;rw[aR (by omega)]at h0;obtain⟨y,h1,h2,h3⟩:=he H en W n _ _ h0;obtain⟨z,h4,h5⟩:=hf H en W n cs xs (i0+1) (λi g hg=>by rw[h (i+1) g (by simpa using hg)];congr 1;omega) (by omega);refine⟨(y,z),⟨h1,h4⟩,λj p hp=>?_⟩;simp only[enc,eA,Aw]at hp;split at hp
 ·obtain⟨v,hv,hr⟩:=h3 j p hp;refine⟨v, ?_,hr⟩;rw[eZ]at hv;split at hv
  ·rwa [cK,ho]at hv
  ·cases hv
 ·obtain⟨v,hv,hr⟩:=h5 _ p hp;refine⟨v, ?_,hr⟩;rw[<-hv];congr 1;omega
theorem Z8{fs:Array Field}{t:TypeId}(ht:P.underlying t=some (.struct fs))(hc:P.cellsOf t=ty.size)(hf:L9 P fs.toList 0 ty):ElemOk P t ty:=by
 intro H en W fuel cs x h;obtain⟨xs,n,_,_,hl,hx,hg⟩:=DataW.trod_struct ht h;obtain⟨y,h1,h2⟩:=hf H en W n cs xs 0 (λi f h'=>by rw[dF];exact hg i f (by simpa using h')) (by rw[dF,hx];simp);exact⟨y,h1,hl.trans hc,λj p hp=>by simpa using h2 j p hp⟩
theorem Ajt{t:TypeId}(ht:P.underlying t=some (.array 2 e))(hc:P.cellsOf e=ty.size)(hl:P.cellsOf t=ty.size+ty.size)(he:ElemOk P e ty):ElemOk P t (.pair ty ty):=by
 intro H en W fuel cs x h;obtain⟨xs,m,_,_,h1,h2,h3⟩:=DataW.trod_array ht h;have g0:=h3 0 (by decide);have g1:=h3 1 (by decide);rw[aR (by omega)]at g0 g1;obtain⟨y,a1,a2,a3⟩:=he H en W m _ _ g0;obtain⟨z,b1,b2,b3⟩:=he H en W m _ _ g1;refine⟨(y,z),⟨a1,b1⟩,h1.trans hl,λj p hp=>?_⟩;simp only[enc,eA,Aw]at hp;split at hp
 ·obtain⟨v,hv,hr⟩:=a3 j p hp;refine⟨v, ?_,hr⟩;rw[eZ]at hv;split at hv
  ·rw[cK]at hv;rw[<-hv];congr 1;omega
  ·cases hv
 ·obtain⟨v,hv,hr⟩:=b3 _ p hp;refine⟨v, ?_,hr⟩;rw[eZ]at hv;split at hv
  ·rw[cK]at hv;rw[<-hv];congr 1;rw[hc];omega
  ·cases hv
theorem O3{f:Field}{o m:Nat}{ft:Ty}(h1:ft.size=1)(ho:f.offset=o)(he:Tt P f.type ft m){H:Type}{en:TypeId×Value->H}{W:World}{cs:List Value}{x:DataW H×List MemPlace}
 (h:DataW.trod en P W 0 (λ_=>true) true m f.type ((cs.drop f.offset).take (P.cellsOf f.type))=some x):∃(y:ft.den)(v:Value)(p:PV),Ty.fine ft y/\enc ft y=[p]/\cs[o]?=some v/\RdP W (Ez W) v p:=by
 obtain⟨y,a1,a2,a3⟩:=he H en W _ _ h;have hl:=Aw ft y;rw[h1]at hl
 match he':enc ft y,hl with
 |[p],_=>
 obtain⟨v,hv,hr⟩:=a3 0 p (by rw[he'];rfl);refine⟨y,v,p,a1,he', ?_,hr⟩;rw[eZ]at hv;split at hv
 ·rw[cK,ho,dH]at hv;exact hv
 ·cases hv
def Aju(P:Program)(t:TypeId)(fs:Array Field):Bool:=match fs.toList with
 |[a,b,c,d,e]=>Nat.beq (P.cellsOf t) 5&&((Nat.beq a.offset 0&&Nat.beq b.offset 1&&Nat.beq c.offset 2&&Nat.beq d.offset 3&&Nat.beq e.offset 4) &&
  ((match P.underlying a.type with|some (.int .i64)=>true|_=>false)&&((match P.underlying b.type with|some (.int .i64)=>true|_=>false)&&((match P.underlying c.type with|some .string=>true|_=>false) &&
    ((match P.underlying d.type with|some (.int .i64)=>true|_=>false)&&(match P.underlying e.type with|some (.slice u)=>Nat.beq u t|_=>false))))))
 |_=>false
theorem Acw{t:TypeId}(h:(match P.underlying t with|some (.int .i64)=>true|_=>false)=true):P.underlying t=some (.int .i64):=by
 split at h
 ·assumption
 ·cases h
theorem Ag3{t:TypeId}{fs:Array Field}(ht:P.underlying t=some (.struct fs))(hb:Aju P t fs=true):ElemOk P t .expr:=by
 have main:∀m,Tt P t .expr m:=by
  intro m
  induction m using Nat.strongRecOn with
  |ind m ih=>
  intro H en W cs x h;obtain⟨xs,n,hn,_,hl,hx,hg⟩:=DataW.trod_struct ht h;unfold Aju at hb;split at hb
  ·rename_i a b c d e hfs;simp only[aS]at hb;obtain⟨hc5',⟨⟨⟨⟨oa,ob⟩,oc⟩,od⟩,oe⟩,ta,tb,tc,td,te⟩:=hb;have hc5:=bB hc5';have hs:fs.size=5:=by rw[<-cX,hfs];rfl
   have get:∀(i:Nat)(f:Field),fs.toList[i]?=some f->∃y,DataW.trod en P W 0 (λ_=>true) true n f.type ((cs.drop f.offset).take (P.cellsOf f.type))=some y:=λi f hf=>by
    have hi:i<5:=by rw[hfs]at hf;exact(aW.1 hf).1
    have h0:=hg i f (by simpa using hf);rw[aR (by omega)]at h0;exact⟨_,h0⟩
   obtain⟨_,ga⟩:=get 0 a (by rw[hfs];rfl);obtain⟨_,gb⟩:=get 1 b (by rw[hfs];rfl);obtain⟨_,gc⟩:=get 2 c (by rw[hfs];rfl);obtain⟨_,gd⟩:=get 3 d (by rw[hfs];rfl);obtain⟨_,ge⟩:=get 4 e (by rw[hfs];rfl);obtain⟨ya,va,pa,_,ea,ca,ra⟩:=O3 (ft:=.int .i64) rfl (bB oa) ((O1 (Acw ta)).at n) ga;obtain⟨yb,vb,pb,_,eb,cb,rb⟩:=O3 (ft:=.int .i64) rfl (bB ob) ((O1 (Acw tb)).at n) gb;have tc':P.underlying c.type=some .string:=by
    split at tc
    ·assumption
    ·cases tc
   obtain⟨yc,vc,pc,_,ec,cc,rc⟩:=O3 (ft:=.str) rfl (bB oc) ((Z3 tc').at n) gc;obtain⟨yd,vd,pd,_,ed,cd,rd⟩:=O3 (ft:=.int .i64) rfl (bB od) ((O1 (Acw td)).at n) gd;have te':P.underlying e.type=some (.slice t):=by
    split at te
    ·rename_i u hu;rw[hu,bB te]
    ·cases te
   have hsl:Tt P e.type (.sl .expr) n:=by
    intro H en W cs x h;obtain⟨v,xs,rfl,h1,h2,h3⟩:=Z4 te' (ty:=.expr) hc5 (λk hk=>ih k (by omega)) h;refine⟨xs,⟨h2,h3⟩,rfl,λj p hp=>?_⟩;cases j with
    |zero=>
     have:PV.sl .expr xs=p:=by simpa[enc]using hp
     subst this;exact⟨_,rfl,h1⟩
    |succ j=>simp[enc]at hp
   obtain⟨ye,ve,pe,_,ee,ce,re⟩:=O3 (ft:=.sl .expr) rfl (bB oe) hsl ge;refine⟨.mk ya yb yc yd ye,trivial,hl.trans hc5,λj p hp=>?_⟩;cases ea;cases eb;cases ec;cases ed;cases ee
   match j,hp with
   |0,hp=>cases hp;exact⟨_,ca,ra⟩
   |1,hp=>cases hp;exact⟨_,cb,rb⟩
   |2,hp=>cases hp;exact⟨_,cc,rc⟩
   |3,hp=>cases hp;exact⟨_,cd,rd⟩
   |4,hp=>cases hp;exact⟨_,ce,re⟩
   |j+5,hp=>simp[enc]at hp
  ·cases hb
 exactλH en W fuel cs x hx=>main fuel H en W cs x hx
end
mutual
def Tu(P:Program):Nat->Ty->TypeId->Bool
 |0,_,_=>false
 |n+1,ty,t=>match P.underlying t with
  |some (.struct fs)=>(match ty with
   |.expr=>Aju P t fs
   |ty=>Nat.beq (P.cellsOf t) ty.size&&Ea P n ty fs.toList 0)
  |some (.array 2 e)=>(match ty with
   |.pair a b=>Ty.beq a b&&((Nat.beq (P.cellsOf e) a.size&&Nat.beq (P.cellsOf t) (a.size+a.size))&&Tu P n a e)
   |_=>false)
  |some (.int k)=>Ty.beq ty (.int k)
  |some .bool=>Ty.beq ty .bool
  |some .string=>Ty.beq ty .str
  |some (.slice e)=>(match ty with
   |.sl u=>Nat.beq (P.cellsOf e) u.size&&Tu P n u e
   |_=>false)
  |_=>false
def Ea(P:Program):Nat->Ty->List Field->Nat->Bool
 |0,_,_,_=>false
 |_+1,_,[],_=>false
 |n+1,ty,[f],off=>Nat.beq f.offset off&&Tu P n ty f.type
 |n+1,.pair a b,f::fs,off=>Nat.beq f.offset off&&Tu P n a f.type&&Ea P n b fs (off+a.size)
 |_+1,_,_::_::_,_=>false
end
mutual
theorem O4{P:Program}:∀(n:Nat)(ty:Ty)(t:TypeId),Tu P n ty t=true->ElemOk P t ty
 |0,ty,t,h=>by simp[Tu]at h
 |n+1,ty,t,h=>by
  unfold Tu at h;split at h
  ·rename_i fs ht;split at h
   ·exact Ag3 ht h
   ·simp only[aS]at h;exact Z8 ht (bB h.1) (Z9 n _ fs.toList 0 h.2)
  ·rename_i e ht;split at h
   ·rename_i a b;simp only[aS]at h;have:=Ty.eq_of_beq h.1;subst this;exact Ajt ht (bB h.2.1.1) (bB h.2.1.2) (O4 n a e h.2.2)
   ·cases h
  ·rename_i k ht;have:=Ty.eq_of_beq h;subst this;exact O1 ht
  ·rename_i ht;have:=Ty.eq_of_beq h;subst this;exact Ag2 ht
  ·rename_i ht;have:=Ty.eq_of_beq h;subst this;exact Z3 ht
  ·rename_i e ht;split at h
   ·rename_i u;simp only[aS]at h;exact Ank ht (bB h.1) (O4 n u e h.2)
   ·cases h
  ·cases h
theorem Z9{P:Program}:∀(n:Nat)(ty:Ty)(fs:List Field)(off:Nat),Ea P n ty fs off=true->L9 P fs off ty
 |0,ty,fs,off,h=>by simp[Ea]at h
 |n+1,ty,[],off,h=>by simp[Ea]at h
 |n+1,ty,[f],off,h=>by
  simp only[Ea,aS]at h;exact Acv (bB h.1) (O4 n ty f.type h.2)
 |n+1,.pair a b,f::g::fs,off,h=>by
  simp only[Ea,aS]at h;exact Z5 (bB h.1.1) (O4 n a f.type h.1.2) (Z9 n b (g::fs) _ h.2)
 |n+1,.int _,_::_::_,off,h=>by simp[Ea]at h
 |n+1,.bool,_::_::_,off,h=>by simp[Ea]at h
 |n+1,.str,_::_::_,off,h=>by simp[Ea]at h
 |n+1,.sl _,_::_::_,off,h=>by simp[Ea]at h
 |n+1,.expr,_::_::_,off,h=>by simp[Ea]at h
end
def Fm(s:Bool)(ty:Ty)(y:ty.den):AV:=if s then .agg ((enc ty y).map up)else match(enc ty y)with|p::_=>up p|[]=>.any
def C9(P:Program)(t:TypeId):Bool:=match P.underlying t with|some (.struct _)=>true|some (.array _ _)=>true|_=>false
theorem Acx{n:Nat}{e:TypeId}{P:Program}{w:World}{r:Reach}{b:Nat}{t:TypeId}{v:Value}(ht:P.underlying t=some (.array n e))(h:Value.okWide P w r b t v):∃cs,v=.agg cs/\cs.size=P.cellsOf t:=by
 simp only[Value.okWide,ht]at h;obtain⟨cs,h1,h2,_⟩:=h;exact⟨cs,h1,h2⟩
theorem Aqk{P:Program}{t:TypeId}{ty:Ty}{n:Nat}(h:Tu P n ty t=true){H:Type}{en:TypeId×Value->H}{W:World}{r:Reach}{b0:Nat}{v:Value}{d:DataW H}{ps:List MemPlace}
 (hval:Value.okWide P W r b0 t v)(hd:DataW.Trod en P W 0 (λ_=>true) true t v d ps):∃y:ty.den,Ty.fine ty y/\RdA (Env.base W (Ez W)) v (Fm (C9 P t) ty y):=by
 obtain⟨fuel,hf⟩:=hd;obtain⟨y,h1,h2,h3⟩:=O4 n ty t h H en W fuel _ _ hf;refine⟨y,h1, ?_⟩;have hfz:∀b o,Ez W b o->(Env.base W (Ez W)).Fz b o/\(Env.base W (Ez W)).w.cell? ⟨b,o,none⟩=W.cell? ⟨b,o,none⟩:=λb o hb=>⟨.inl ⟨hb,hb⟩,rfl⟩
 have key:C9 P t=false->v.cells=#[v]->RdA (Env.base W (Ez W)) v (Fm (C9 P t) ty y):=by
  intro hs hv;rw[hs];rw[hv]at h3;have hne:∃p l,enc ty y=p::l:=by
   cases he:enc ty y with
   |nil=>have:=Aw ty y;have:=Bh ty;rw[he]at *;simp at *;omega
   |cons p l=>exact⟨p,l,rfl⟩
  obtain⟨p,l,he⟩:=hne;obtain⟨u,hu,hr⟩:=h3 0 p (by rw[he];rfl);simp at hu;subst hu;unfold Fm;rw[aL (by simp),he];exact .up (hr.mono hfz)
 have many:C9 P t=true->∀cs,v=.agg cs->RdA (Env.base W (Ez W)) v (Fm (C9 P t) ty y):=by
  rintro hs cs rfl;unfold Fm;rw[hs,aP rfl];have hlen:cs.toList.length=ty.size:=h2;refine .agg _ _ (by simp only[bN,Aw];rw[<-hlen];simp) (λi u hu=>?_) (λi u x hu hx=>?_)
  ·have hi:i<(enc ty y).length:=by
    rw[Aw,<-hlen];simpa using(eH.1 hu).1
   obtain⟨u',hu',hr⟩:=h3 i _ (aR hi);have:u'=u:=by
    have h4:cs.toList[i]?=some u':=hu';simp only[eF]at h4;rw[hu]at h4;exact(Option.some.inj h4).symm
   subst this;exact hr.one
  ·simp only[cL,bC]at hx;obtain⟨p,hp,rfl⟩:=hx;obtain⟨u',hu',hr⟩:=h3 i p hp;have:u'=u:=by
    have h4:cs.toList[i]?=some u':=hu';simp only[eF]at h4;rw[hu]at h4;exact(Option.some.inj h4).symm
   subst this;exact .up (hr.mono hfz)
 cases n with
 |zero=>simp[Tu]at h
 |succ n=>
  unfold Tu at h;split at h
  ·rename_i fs ht;obtain⟨cs,rfl,hsz⟩:=okWide_struct ht hval;exact many (by unfold C9;rw[ht]) cs rfl
  ·rename_i e ht;obtain⟨cs,rfl,hsz⟩:=Acx ht hval;exact many (by unfold C9;rw[ht]) cs rfl
  ·rename_i k ht;obtain⟨m,rfl⟩:=okWide_int ht hval;exact key (by unfold C9;rw[ht]) rfl
  ·rename_i ht;obtain⟨m,rfl⟩:=okWide_bool ht hval;exact key (by unfold C9;rw[ht]) rfl
  ·rename_i ht;obtain⟨m,rfl⟩:=okWide_string ht hval;exact key (by unfold C9;rw[ht]) rfl
  ·rename_i e ht;obtain⟨a,l,c,rfl⟩:=okWide_slice ht hval;exact key (by unfold C9;rw[ht]) rfl
  ·cases h
def Ag4:List Ty->Type
 |[]=>Unit
 |t::ts=>t.den×Ag4 ts
def Sd:(ts:List Ty)->Ag4 ts->Prop
 |[],_=>True
 |t::ts,p=>Ty.fine t p.1/\Sd ts p.2
def Ma:List Bool->(ts:List Ty)->Ag4 ts->List AV
 |s::ss,t::ts,p=>Fm s t p.1::Ma ss ts p.2
 |_,_,_=>[]
def Gr(P:Program):List Ty->List TypeId->Bool
 |[],[]=>true
 |ty::tys,t::ts=>Tu P 40 ty t&&Gr P tys ts
 |_,_=>false
theorem Aes{P:Program}{H:Type}{en:TypeId×Value->H}{W:World}{r:Reach}{b0:Nat}:∀{tys:List Ty}{ts:List TypeId}{vs:List Value}{ds:List (DataW H)}{ps:List MemPlace},Gr P tys ts=true->
 (∀(j:Nat) t v,ts[j]?=some t->vs[j]?=some v->Value.okWide P W r b0 t v)->DataW.TrodAll en P W 0 (λ_=>true) true ts vs ds ps->
 ∃y:Ag4 tys,Sd tys y/\(Ma (ts.map (C9 P)) tys y).length=vs.length/\∀(i:Nat) v x,vs[i]?=some v->(Ma (ts.map (C9 P)) tys y)[i]?=some x->RdA (Env.base W (Ez W)) v x
 |[],[],vs,ds,ps,_,_,h=>by
  obtain⟨rfl,_,_⟩:=trodAll_nil h;exact⟨(),trivial,rfl,λi v x hv=>by simp at hv⟩
 |ty::tys,t::ts,vs,ds,ps,hf,hval,h=>by
  obtain⟨v,vs',d,ds',p,q,rfl,rfl,rfl,h1,h2⟩:=trodAll_cons h;simp only[Gr,aS]at hf;obtain⟨y,hy,hr⟩:=Aqk hf.1 (hval 0 t v rfl rfl) h1;obtain⟨z,hz,hl,hrs⟩:=Aes hf.2 (λj t' v' h3 h4=>hval (j+1) t' v' (by simpa using h3) (by simpa using h4)) h2;refine⟨(y,z),⟨hy,hz⟩,by simp[Ma,hl],λi u x hu hx=>?_⟩;cases i with
  |zero=>simp[Ma]at hu hx;subst hu;subst hx;exact hr
  |succ i=>exact hrs i u x (by simpa using hu) (by simpa[Ma]using hx)
 |[],_::_,_,_,_,hf,_,_=>by simp[Gr]at hf
 |_::_,[],_,_,_,hf,_,_=>by simp[Gr]at hf
section
variable {H:Type}{en:TypeId×Value->H}{P:Program}
theorem Np(hl:laidOutB P=true){W W':World}(hb:Below W.heap.size W W'):∀{ts:List TypeId}{vs:List Value}{ds:List (DataW H)}{ps:List MemPlace},(∀t∈ts,P.readableRec t=true/\t<P.types.size)->
 DataW.TrodAll en P W 0 (λ_=>true) true ts vs ds ps->(∀x∈ps,x.block<W.heap.size)->DataW.TrodAll en P W' 0 (λb=>decide (b<W.heap.size)) true ts vs ds ps
 |[],[],[],_,_,h,_=>h
 |t::ts,v::vs,d::ds,_,ht,⟨p,q,h1,h2,he⟩,hlt=>by
  subst he;exact⟨p,q,Below.trod hl (ht t (by simp)).1 (ht t (by simp)).2 h1 hb (λx hx=>hlt x (by simp[hx])),Np hl hb (λt' h'=>ht t' (by simp[h'])) h2 (λx hx=>hlt x (by simp[hx])),rfl⟩
 |[],_::_,_,_,_,h,_=>h.elim
 |[],[],_::_,_,_,h,_=>h.elim
 |_::_,[],_,_,_,h,_=>h.elim
 |_::_,_::_,[],_,_,h,_=>h.elim
theorem Ajv{f:Func}{s:ChangeSpec}{apart:Bool}{W W':World}{args:Array Value}{ds gs:List (DataW H)}{before:List MemPlace}{tb:TypeId}(hl:laidOutB P=true)
 (hts:∀t∈f.params.toList,P.readableRec t=true/\t<P.types.size)(hv:s.vars=[])(hW:DataW.Whole en P f.params.toList s.vars apart W args.toList ds gs before)
 (h1:(s.fn H (ds++gs)).results=[.lit (.bool true)])(h2:(s.fn H (ds++gs)).args=ds)(h3:(s.fn H (ds++gs)).vars=[])(hb:Below W.heap.size W W')(hr:f.resultTypes=#[tb])(ht:P.underlying tb=some .bool):
 s.post en P f apart true false false W args (.bool true) W':=by
 have hlt:=hW.lt;have hW':=hW;obtain⟨p,q,hA,_,he,_⟩:=hW;refine⟨ds,gs,before,[],p,[],hW', ?_, ?_, ?_,hb.frame _,λh=>by cases h⟩
 ·rw[h1,hr];exact ChangeShapes.trodAll_mk1 (shut_bool ht true)
 ·rw[h2];exact Np hl hb hts hA λx hx=>hlt x (by rw[he];simp[hx])
 ·rw[hv,h3];rfl
end
theorem My{P:Program}{cx:Ctx}(hcx:Ai P cx){g:FuncId}(d:Nat)(hfn:∃fn,P.funcs[g]?=some fn/\fn.body.isSome=true/\(fn.name == "runtime.NumGoroutine")=false)(a:List AV)(r:CR)
 (h:Nl cx P d g a [] 0 (H0 r)):∃C:Ctr,GoodC P g C/\C a=some ⟨r,λk=>k r.res⟩:=by
 refine⟨λargs=>@ite _ (args=a) (Classical.propDecidable _) (some ⟨r,λk=>k r.res⟩) none,Ajq hcx (Aer hcx) d hfn (λargs r' hC k hk=>?_) λargs r' _ hC _=>?_,by simp⟩
 ·split at hC
  ·cases hC;exact hk
  ·cases hC
 split at hC
 ·rename_i he;cases hC;rw[he];exact h
 ·cases hC
theorem Acy{H:Type}{en:TypeId×Value->H}{C:Checked}{os:Os}{f:FuncId}{fn:Func}{s:ChangeSpec}{tb:TypeId}(cx:Ctx)(d:Nat)(tys:List Ty)(ss:List Bool)(hcx:Ai C.prog cx)
 (own:ownKnob C.prog.godebug=none)(started:os.Started)(noInit:C.prog.inits.idxOf? f=none)(hfn:C.prog.funcs[f]?=some fn)
 (witness:∃(w:World)(tape:Tape)(i:Input),w.os=os/\(w.forCall tape i).Shaped C.prog/\i.vars=[]/\Input.okWide C.prog (w.forCall tape i) .any w.heap.size f i/\
   s.pre6 en C.prog fn [] false (w.forCall tape i).memory i.args/\({}:Assume).holds C.prog (lone (Frame.enter C.prog f i.args .normal) [] (w.forCall tape i)))
 (hl:laidOutB C.prog=true)(hts:fn.params.toList.all (λt=>C.prog.readableRec t&&Nat.blt t C.prog.types.size)=true)(hfit:Gr C.prog tys fn.params.toList=true)(hss:fn.params.toList.map (C9 C.prog)=ss)
 (hv:s.vars=[])(hs:∀ds:List (DataW H),ds.length=tys.length->(s.fn H ds).results=[.lit (.bool true)]/\(s.fn H ds).args=ds/\(s.fn H ds).vars=[])
 (hr:fn.resultTypes=#[tb])(ht:C.prog.underlying tb=some .bool)(hb:fn.body.isSome=true/\(fn.name == "runtime.NumGoroutine")=false)
 (h:∀y:Ag4 tys,Sd tys y->Nl cx C.prog d f (Ma ss tys y) [] 0 (H0 ⟨none,none,[],.bool true⟩)):
 ReturnsInHanded {} C os f .any (s.pre6 en C.prog fn [] false) (s.post en C.prog fn false true false false):=by
 refine returnsInHanded_of_change own started noInit hfn witness ?_;intro W base args ds gs before hval hW hcnd _;have hW':=hW;obtain⟨p,q,hA,hV,rfl,hfz,hnd⟩:=hW;have hgs:gs=[]:=by
  rw[hv]at hV;exact(trodVars_none hV).1
 subst hgs;obtain⟨y,hy,hlen,hrd⟩:=Aes hfit (λj t v h1 h2=>hval j t v (by simpa using h1) (by simpa using h2)) hA;rw[hss]at hlen hrd;obtain⟨Ct,hgood,hCt⟩:=My hcx d ⟨fn,hfn,hb⟩ _ _ (h y hy);have hdl:ds.length=tys.length:=by
  have h1:∀{ts:List TypeId}{vs:List Value}{ds:List (DataW H)}{ps:List MemPlace},DataW.TrodAll en C.prog W 0 (λ_=>true) true ts vs ds ps->ds.length=ts.length:=by
   intro ts
   induction ts with
   |nil=>intro vs ds ps h;obtain⟨_,rfl,_⟩:=trodAll_nil h;rfl
   |cons t ts ih=>intro vs ds ps h;obtain⟨_,_,_,_,_,_,_,rfl,_,_,h2⟩:=trodAll_cons h;simp[ih h2]
  have h2:∀{tys:List Ty}{ts:List TypeId},Gr C.prog tys ts=true->ts.length=tys.length:=by
   intro tys
   induction tys with
   |nil=>intro ts h;cases ts with|nil=>rfl|cons _ _=>simp[Gr]at h
   |cons t tys ih=>intro ts h;cases ts with|nil=>simp[Gr]at h|cons _ ts=>simp only[Gr,aS]at h;simp[ih h.2]
  rw[h1 hA,h2 hfit]
 obtain⟨e1,e2,e3⟩:=hs ds hdl;refine(hgood.calls _ _ _ hCt trivial W (Ez W) args (λb _ hb=>hb) (by rw[hlen];simp) (λi v x h1 h2=>hrd i v x (by simpa using h1) h2)).mono λe W' hpost=>?_
 obtain⟨_,v,hd,kd,rfl,hbel,hrv,_⟩:=hpost;have:=hrv.bool_inv;subst this;refine⟨_,rfl,Ajv hl (λt htm=>?_) hv hW' (by rw[cC];exact e1) (by rw[cC];exact e2) (by rw[cC];exact e3) hbel hr ht⟩;have:=bV.1 hts t htm;simp only[aS,Nat.blt_eq]at this;exact this
end Go.Sx
namespace Go.Sx
open Go.RowKit
inductive AK where
 |dat (s:Bool) (ty:Ty)
 |eptr (ty:Ty)
 |fn (f:FuncId) (first caps:List AK)
mutual
@[reducible] def AK.den:AK->Type
 |.dat _ ty=>ty.den
 |.eptr ty=>ty.den
 |.fn _ a b=>AK.dens a×AK.dens b
@[reducible] def AK.dens:List AK->Type
 |[]=>Unit
 |k::l=>k.den×AK.dens l
end
mutual
def Asy:(k:AK)->k.den->AV
 |.dat s ty,y=>Fm s ty y
 |.eptr ty,y=>.eptr (enc ty y)
 |.fn f a b,y=>.fn (.func f) (G4 a y.1) (G4 b y.2)
def G4:(l:List AK)->AK.dens l->List AV
 |[],_=>[]
 |k::l,y=>Asy k y.1::G4 l y.2
end
def Tv:AV->Option PV
 |.int k n=>some (.int k n)
 |.bool b=>some (.bool b)
 |.str s=>some (.str s)
 |.sl t xs=>some (.sl t xs)
 |.nils=>some .nils
 |.cap0=>some .nils
 |_=>none
def Se:List AV->Option (List PV)
 |[]=>some []
 |x::l=>match Tv x,Se l with
  |some p,some ps=>some (p::ps)
  |_,_=>none
def Ajw(ty:Ty)(ps:List PV):Option ty.den:=match Rs ty ps with
 |some (y,_)=>some y
 |none=>none
def Ajx:(s:Bool)->(ty:Ty)->AV->Option ty.den
 |true,ty,.agg cs=>(match Se cs with|some ps=>dec ty ps|none=>none)
 |false,ty,x=>if Nat.beq ty.size 1 then(match Tv x with|some p=>dec ty [p]|none=>none)else none
 |_,_,_=>none
mutual
def Aaa:(k:AK)->AV->Option k.den
 |.dat s ty,x=>Ajx s ty x
 |.eptr ty,.eptr ps=>Ajw ty ps
 |.fn f a b,.fn (.func g) xs ys=>if Nat.beq f g then(match Nq a xs with
  |some x=>(match Nq b ys with
   |some y=>some (x,y)
   |none=>none)
  |none=>none)else none
 |.eptr _,_=>none
 |.fn _ _ _,_=>none
def Nq:(l:List AK)->List AV->Option (AK.dens l)
 |[],[]=>some ()
 |k::l,x::xs=>match Aaa k x with
  |some y=>(match Nq l xs with
   |some ys=>some (y,ys)
   |none=>none)
  |none=>none
 |[],_::_=>none
 |_::_,[]=>none
end
theorem V7{E:Env}{v:Value}{x:AV}{p:PV}(hx:RdA E v x)(h:Tv x=some p):RdP E.w E.Fz v p:=by
 unfold Tv at h;split at h
 all_goals first
  |(cases h;done)
  |cases h
 ·cases hx;exact .int _ _
 ·cases hx;exact .bool _
 ·cases hx;exact .str _
 ·exact hx.sl_inv
 ·cases hx;exact .nils _ _
 ·cases hx;exact .nils _ _
theorem Tw:∀{cs:List AV}{ps:List PV},Se cs=some ps->cs.length=ps.length/\∀(i:Nat) p,ps[i]?=some p->∃x,cs[i]?=some x/\Tv x=some p
 |[],ps,h=>by cases h;exact⟨rfl,λi p h=>by simp at h⟩
 |x::l,ps,h=>by
  unfold Se at h;split at h
  ·rename_i p qs h1 h2;cases h;obtain⟨e,ih⟩:=Tw h2;refine⟨by simp[e],λi q hq=>?_⟩;cases i with
   |zero=>simp at hq;subst hq;exact⟨x,rfl,h1⟩
   |succ i=>simpa using ih i q (by simpa using hq)
  ·cases h
theorem Ajy{E:Env}{s:Bool}{ty:Ty}{x:AV}{y:ty.den}{v:Value}(h:Ajx s ty x=some y)(hx:RdA E v x):RdA E v (Fm s ty y):=by
 unfold Ajx at h;split at h
 ·rename_i cs;split at h
  ·rename_i ps hps;obtain⟨hl,hc⟩:=Tw hps;obtain⟨vs,rfl,hsz,h1,h2⟩:=hx.agg_inv;have hle:=Ir _ _ _ h;obtain⟨hl2,hg⟩:=hle.get;show RdA E _ (.agg ((enc _ y).map up));refine .agg _ _ (by rw[hsz,hl,hl2];simp) h1 (λi u z hu hz=>?_);simp only[cL,bC]at hz;obtain⟨q,hq,rfl⟩:=hz;have hi:i<ps.length:=by rw[hl2];exact(aW.1 hq).1
   obtain⟨x',hx',hp'⟩:=hc i _ (aR hi);exact .up ((V7 (h2 i u x' hu hx') hp').le (hg i _ q (aR hi) hq))
  ·cases h
 ·rename_i x;split at h
  ·split at h
   ·rename_i p hp;have hle:=Ir _ _ _ h;obtain⟨hl2,hg⟩:=hle.get;unfold Fm;rw[aL (by simp)];cases he:enc _ y with
    |nil=>rw[he]at hl2;simp at hl2
    |cons q l=>exact .up ((V7 hx hp).le (hg 0 p q rfl (by rw[he];rfl)))
   ·cases h
  ·cases h
 ·cases h
mutual
theorem Anl{E:Env}:∀(k:AK)(x:AV)(y:k.den)(v:Value),Aaa k x=some y->RdA E v x->RdA E v (Asy k y)
 |.dat s ty,x,y,v,h,hx=>by
  simp only[Aaa]at h;exact Ajy h hx
 |.eptr ty,x,y,v,h,hx=>by
  cases x with
  |eptr ps=>
   simp only[Aaa,Ajw]at h;split at h
   ·rename_i z l hz;cases h;obtain⟨ds,rfl,hle⟩:=Aeb _ _ _ _ hz;obtain⟨hl2,hg⟩:=hle.get;show RdA E v (.eptr (enc ty y));cases hx with
    |eptr b o _ g hcell hrd=>
     refine .eptr b o _ g (λj hj=>hcell j (by simp;omega)) (λj p hp=>?_);have hj:j<ds.length:=by rw[hl2];exact(aW.1 hp).1
     exact(hrd j ds[j] (by rw[bX hj];exact aR hj)).le (hg j _ p (aR hj) hp)
   ·cases h
  |_=>simp[Aaa]at h
 |.fn f a b,x,y,v,h,hx=>by
  cases x with
  |fn g xs ys=>
   cases g with
   |func g=>
    simp only[Aaa]at h;split at h
    ·rename_i hfg;have:=bB hfg;subst this;split at h
     ·rename_i x' h1;split at h
      ·rename_i y' h2;cases h;cases hx with
       |fn _ vs ws _ _ hv hw k1 k2=>
        obtain⟨l1,g1⟩:=Hx a xs x' h1;obtain⟨l2,g2⟩:=Hx b ys y' h2;refine .fn _ _ _ _ _ (hv.trans l1.symm) (hw.trans l2.symm) (λi v' x' hv' hx'=>?_) (λi v' x' hv' hx'=>?_)
        ·exact g1 (λi u z=>k1 i u z) i v' x' hv' hx' vs.toList (λi u hu=>by simpa using hu) (by simpa using hv)
        ·exact g2 (λi u z=>k2 i u z) i v' x' hv' hx' ws.toList (λi u hu=>by simpa using hu) (by simpa using hw)
      ·cases h
     ·cases h
    ·cases h
   |_=>simp[Aaa]at h
  |_=>simp[Aaa]at h
theorem Hx{E:Env}:∀(l:List AK)(xs:List AV)(y:AK.dens l),Nq l xs=some y->(G4 l y).length=xs.length/\
 ∀{vs:Array Value},(∀(i:Nat) v x,vs[i]?=some v->xs[i]?=some x->RdA E v x)->∀(i:Nat) v x,vs[i]?=some v->(G4 l y)[i]?=some x->∀us:List Value,(∀(i:Nat) u,us[i]?=some u->vs[i]?=some u)->us.length=xs.length->RdA E v x
 |[],xs,y,h=>by
  cases xs with
  |nil=>exact⟨rfl,λ_ i v x _ hx=>by simp[G4]at hx⟩
  |cons _ _=>simp[Nq]at h
 |k::l,xs,y,h=>by
  cases xs with
  |nil=>simp[Nq]at h
  |cons x xs=>
   simp only[Nq]at h;split at h
   ·rename_i y1 h1;split at h
    ·rename_i ys h2;cases h;obtain⟨e,ih⟩:=Hx l xs ys h2;refine⟨by simp[G4,e],λ{vs} hall i v z hv hz us hus hlen=>?_⟩;cases i with
     |zero=>
      simp[G4]at hz;subst hz;exact Anl k x y1 v h1 (hall 0 v x hv rfl)
     |succ i=>
      have hvs:vs=#[vs[0]!]++(vs.toList.drop 1).toArray:=by
       apply Array.ext';cases hvl:vs.toList with
       |nil=>
        exfalso;have:vs.size=0:=by rw[<-cX,hvl];rfl
        have:=(eH.1 hv).1;omega
       |cons a b=>
        have:vs=(a::b).toArray:=by rw[<-hvl]
        subst this;simp
      exact ih (vs:=(vs.toList.drop 1).toArray) (λj u w hu hw=>hall (j+1) u w (by simpa[fN]using hu) (by simpa using hw)) i v z (by simpa[fN]using hv) (by simpa[G4]using hz) (us.drop 1)
       (λj u hu=>by
         have:=hus (j+1) u (by simpa[fN]using hu);simpa[fN]using this) (by simp at hlen ⊢;omega)
    ·cases h
   ·cases h
end
@[reducible] def Ib:List (Bool×Ty)->Type
 |[]=>Unit
 |q::r=>q.2.den×Ib r
def I1:(r:List (Bool×Ty))->Ib r->List AV
 |[],_=>[]
 |q::r,y=>Fm q.1 q.2 y.1::I1 r y.2
def Fu:(l:List (Bool×Ty))->Ib l->AV
 |[r],y=>Fm r.1 r.2 y.1
 |l,y=>.tup (I1 l y)
def Aql:List (Bool×Ty)->Bool
 |[]=>false
 |(s,t)::l=>s||(match t with|.sl _=>true|_=>false)||Aql l
def fnC(a:List AK)(r:List (Bool×Ty))(need:AK.dens a->Prop)(f:AK.dens a->Ib r):Ctr:=λargs=>
 match Nq a args with
 |some y=>some ⟨⟨some (need y),none,[],Fu r (f y)⟩,if Aql r thenλk=>∀z,z=f y->k (Fu r z) elseλk=>k (Fu r (f y))⟩
 |none=>none
theorem Au{P:Program}{cx:Ctx}(hcx:Ai P cx){g:FuncId}(d:Nat)(a:List AK)(r:List (Bool×Ty))(need:AK.dens a->Prop)(f:AK.dens a->Ib r)
 (hfn:∃fn,P.funcs[g]?=some fn/\fn.body.isSome=true/\(fn.name == "runtime.NumGoroutine")=false)
 (h:∀y,need y->Nl cx P d g (G4 a y) [] 0 (H0 ⟨none,none,[],Fu r (f y)⟩)):GoodC P g (fnC a r need f):=by
 refine⟨hfn,λargs cg hC k hk=>?_,λargs cr gen hC hn w F0 vs hF hsz hrd=>?_⟩
 ·unfold fnC at hC;split at hC
  ·rename_i y hy;cases hC;simp only at hk;split at hk
   ·exact hk _ rfl
   ·exact hk
  ·cases hC
 unfold fnC at hC;split at hC
 ·rename_i y hy;cases hC;obtain⟨C,hgood,hCa⟩:=My hcx d hfn _ _ (h y hn);obtain⟨e,hall⟩:=Hx (E:=Env.base w F0) a args y hy;exact hgood.calls _ _ _ hCa trivial w F0 vs hF (hsz.trans e.symm) (λi v x hv hx=>hall hrd i v x hv hx vs.toList (λi u hu=>by simpa using hu) (by simpa using hsz))
 ·cases hC
def PV.plain:PV->Bool
 |.int _ _=>true
 |.bool _=>true
 |.str _=>true
 |.sl _ _=>true
 |.fn _=>true
 |_=>false
theorem Mz(t:Ty):∀(y:t.den),∀q∈enc t y,q.plain=true:=by
 induction t with
 |pair a b iha ihb=>
  intro y q hq;simp only[enc,dG]at hq;exact hq.elim (iha _ _) (ihb _ _)
 |expr=>
  intro y q hq;simp only[enc,cT,dB,or_false]at hq;rcases hq with rfl|rfl|rfl|rfl|rfl<;>rfl
 |_=>
  intro y q hq;simp only[enc,cT,dB,or_false]at hq;subst hq;rfl
mutual
def Rh(H:List Ob):AV->List Nat
 |.own id=>[id]
 |.ownp id _ _ _=>[id]
 |.ownc id _ _ _=>[id]
 |.fn f a b=>(match Vf H (.fn f a b)with|some (_,l)=>l|none=>[])
 |.agg l=>Qg H l
 |.tup l=>Qg H l
 |_=>[]
def Qg(H:List Ob):List AV->List Nat
 |[]=>[]
 |x::l=>Rh H x++Qg H l
end
mutual
def Rv(H:List Ob):AV->List Nat
 |.csl t id m=>(match An H (.csl t id m)with|some (_,l)=>l|none=>[])
 |.tup l=>Aab H l
 |x=>Rh H x
def Aab(H:List Ob):List AV->List Nat
 |[]=>[]
 |x::l=>Rv H x++Aab H l
end
def Xr(H:List Ob):(s:Bool)->(ty:Ty)->AV->Option ty.den
 |true,ty,.agg cs=>(match Di H cs with|some (ps,_)=>dec ty ps|none=>none)
 |false,ty,.csl t id m=>(match An H (.csl t id m)with|some (.sl t' xss,_)=>dec ty [.sl t' xss]|_=>none)
 |false,ty,x=>if Nat.beq ty.size 1 then(match Cl H x with|some (p,_)=>dec ty [p]|none=>none)else none
 |_,_,_=>none
def N6(H:List Ob):(r:List (Bool×Ty))->List AV->Option (Ib r)
 |[],[]=>some ()
 |q::r,x::l=>(match Xr H q.1 q.2 x with
  |some y=>(match N6 H r l with
   |some ys=>some (y,ys)
   |none=>none)
  |none=>none)
 |_,_=>none
def Aet(H:List Ob):(r:List (Bool×Ty))->AV->Option (Ib r)
 |[q],x=>(match Xr H q.1 q.2 x with
  |some y=>some (y,())
  |none=>none)
 |r,.tup l=>N6 H r l
 |_,_=>none
theorem Aac{H:List Ob}{x:AV}{p:PV}{l:List Nat}(h:Cl H x=some (p,l)):∀id∈l,id∈Rh H x:=by
 unfold Cl at h;split at h
 ·split at h
  ·rename_i T l' hT;cases h;intro id hid;unfold Rh;rw[hT];exact hid
  ·cases h
 all_goals first
  |(cases h;done)
  |(cases h;intro id hid;simp at hid;done)
  |skip
 all_goals
  split at h
  all_goals first
   |(cases h;done)
   |(cases h;intro id hid;simpa[Rh]using hid)
   | (split at h
      ·cases h;intro id hid;simpa[Rh]using hid
      ·cases h)
theorem Aad{H:List Ob}{x:AV}{p q:PV}{l ids:List Nat}(h:Cl H x=some (p,l))(hl:∀id∈l,id∈ids)(hle:PV.le p q)(hq:q.plain=true):
 fit (Rt (up q)) (frV ids H x)=up q/\frV ids H x≠.any:=by
 have hone:l.all ids.contains=true:=bV.2 λid hid=>by simpa using hl id hid
 have key:∀y:AV,(y=up p\/(p=.nils/\(y=.nils\/y=.cap0)))->fit (Rt (up q)) y=up q/\y≠.any:=by
  intro y hy;rcases hle with rfl|⟨rfl,t,rfl⟩
  ·rcases hy with rfl|⟨rfl,_⟩
   ·cases p<;>first|(exact⟨rfl,λh=>by cases h⟩)|(rename_i T;cases T<;>exact⟨rfl,λh=>by cases h⟩)|cases hq
   ·cases hq
  ·rcases hy with rfl|⟨_,rfl|rfl⟩<;>exact⟨rfl,λh=>by cases h⟩
 have fr:∀x,Cl H x=some (p,l)->Ly ids H x=up p:=λx h=>by unfold Ly;rw[h];simp only;rw[aP hone]
 cases x with
 |own id=>exact key _ (.inl (fr _ h))
 |ownp id k lo len=>exact key _ (.inl (fr _ h))
 |ownc id k lo len=>exact key _ (.inl (fr _ h))
 |slf t xs=>simp only[Cl,aU,bG]at h;exact key _ (.inl (by rw[<-h.1];rfl))
 |cap0=>simp only[Cl,aU,bG]at h;exact key _ (.inr ⟨h.1.symm,.inr rfl⟩)
 |nils=>simp only[Cl,aU,bG]at h;exact key _ (.inr ⟨h.1.symm,.inl rfl⟩)
 |int k m=>simp only[Cl,aU,bG]at h;exact key _ (.inl (by rw[<-h.1];rfl))
 |bool k=>simp only[Cl,aU,bG]at h;exact key _ (.inl (by rw[<-h.1];rfl))
 |str k=>simp only[Cl,aU,bG]at h;exact key _ (.inl (by rw[<-h.1];rfl))
 |fn f a b=>exact key _ (.inl (fr _ h))
 |val k=>
  refine key _ (.inl ?_);show AV.val k=up p;unfold Cl at h;split at h
  case h_1 heq=>cases heq
  case h_2 heq=>cases heq;cases h;rfl
  all_goals first
   |(rename_i heq;cases heq;cases h;rfl)
   |(rename_i heq;cases heq)
   |cases h
 |sl t xs=>simp only[Cl,aU,bG]at h;exact key _ (.inl (by rw[<-h.1];rfl))
 |_=>simp[Cl]at h
theorem V8{H:List Ob}{ids:List Nat}:∀{cs:List AV}{ps qs:List PV}{l:List Nat},Di H cs=some (ps,l)->(∀id∈Qg H cs,id∈ids)->LeL ps qs->(∀q∈qs,q.plain=true)->
 Nd (Sq (qs.map up)) (N3 ids H cs)=qs.map up
 |[],ps,qs,l,h,_,hle,_=>by
  cases h;cases hle;rfl
 |x::cs,ps,qs,l,h,hl,hle,hq=>by
  unfold Di at h;split at h
  ·rename_i p a ps' b h1 h2;cases h;cases hle with
   |cons hp hps=>
    simp only[eD,Sq,N3,Nd];rw[(Aad (ids:=ids) h1 (λid hid=>hl id (by simp[Qg,Aac h1 id hid])) hp (hq _ (by simp))).1,
     V8 h2 (λid hid=>hl id (by simp[Qg,hid])) hps (λq hq'=>hq q (by simp[hq']))]
  ·cases h
theorem V9{σ:List (Option Nat)}:∀caps:List FnT,Hb σ (Py caps)=Py caps
 |[]=>rfl
 |c::l=>by simp only[Py,Hb];rw[V9 l];rfl
theorem Ajz{σ:List (Option Nat)}{q:PV}(h:q.plain=true):ren σ (up q)=up q:=by
 cases q with
 |fn T=>
  cases T with
  |nil=>rfl
  |mk f caps=>simp only[up,ren];rw[V9];rfl
 |_=>first|rfl|cases h
theorem Aeu{σ:List (Option Nat)}:∀{l:List PV},(∀q∈l,q.plain=true)->Hb σ (l.map up)=l.map up
 |[],_=>rfl
 |q::l,h=>by simp only[eD,Hb];rw[Ajz (h q (by simp)),Aeu (λq' hq=>h q' (by simp[hq]))]
def Hg:AV->Prop
 |.any=>False
 |.when _ _ _ _=>False
 |_=>True
theorem Xs{H:List Ob}{ids:List Nat}{x:AV}(h:Hg x):Hg (Ly ids H x):=by
 unfold Ly;split
 ·rename_i p _ _;split
  ·cases p with
   |fn T=>cases T<;>trivial
   |_=>trivial
  ·exact h
 ·exact h
theorem Qh{H:List Ob}{t:Ty}{id m:Nat}{y:AV}{l:List Nat}(h:An H (.csl t id m)=some (y,l)):Hg y:=by
 simp only[An]at h;split at h
 ·split at h
  ·split at h
   ·split at h
    ·cases h;trivial
    ·cases h
   ·cases h
  ·cases h
 ·cases h
theorem Xt{H:List Ob}{ids:List Nat}{t:Ty}{id m:Nat}:Hg (S3 ids H (.csl t id m)):=by
 unfold S3;split
 ·rename_i y l hl;split
  ·exact Qh hl
  ·trivial
 ·trivial
theorem Aae{H:List Ob}{ids:List Nat}{id:Nat}:Hg (Agi ids H id):=by
 unfold Agi
 repeat' split
 all_goals trivial
theorem Acz{H:List Ob}{ids:List Nat}{x:AV}(h:Hg x):Hg (frV ids H x):=by
 cases x<;>first
  |trivial
  |exact Xt
  |exact Aae
  |exact Xs (by trivial)
  |exact h
theorem Aaf{H:List Ob}{x:AV}{r:PV×List Nat}(h:Cl H x=some r):Hg x:=by
 cases x<;>first
  |trivial
  |simp[Cl]at h
theorem Ag5{H:List Ob}{x:AV}{r:PV×List Nat}(h:Cl H x=some r):Rv H x=Rh H x:=by
 cases x<;>first
  |rfl
  |simp[Cl]at h
theorem Aag{H:List Ob}{ids:List Nat}{t t':Ty}{id m:Nat}{xss:List t'.den}{l:List Nat}(hlow:An H (.csl t id m)=some (.sl t' xss,l))(h:∀i∈l,i∈ids):
 frV ids H (.csl t id m)=.sl t' xss:=by
 show S3 ids H (.csl t id m)=_;unfold S3;rw[hlow];simp only;rw[aP];exact bV.2 λi hi=>by simpa using h i hi
theorem Aev{H:List Ob}{ids:List Nat}{s:Bool}{ty:Ty}{x:AV}{y:ty.den}(h:Xr H s ty x=some y)(hid:∀id∈Rv H x,id∈ids):
 fit (Rt (Fm s ty y)) (frV ids H x)=Fm s ty y/\(∀σ,ren σ (Fm s ty y)=Fm s ty y)/\Hg (Fm s ty y)/\Hg (frV ids H x):=by
 unfold Xr at h;split at h
 ·rename_i cs;split at h
  ·rename_i ps l hd;have hle:=Ir _ _ _ h;refine⟨?_,λσ=>?_,trivial,trivial⟩
   ·show fit (Rt (.agg ((enc _ y).map up))) (frV ids H (.agg cs))=.agg ((enc _ y).map up);simp only[Rt,frV,fit];rw[V8 hd (by simpa[Rv,Rh]using hid) hle (Mz _ y)]
   ·show ren σ (.agg ((enc _ y).map up))=.agg ((enc _ y).map up);simp only[ren];rw[Aeu (Mz _ y)]
  ·cases h
 ·split at h
  ·rename_i t' xss l hlow;have hle:=Ir _ _ _ h;have hpl:=Mz _ y;unfold Fm;rw[aL (by simp)];have hfr:=Aag hlow λi hi=>hid i (by
    unfold Rv;rw[hlow];exact hi)
   cases he:enc _ y with
   |nil=>rw[he]at hle;cases hle
   |cons q l'=>
    rw[he]at hle;cases hle with
    |cons hp _=>
     have hq:q=.sl t' xss:=by
      rcases hp with e|⟨e,_⟩
      ·exact e.symm
      ·cases e
     subst hq;rw[hfr];exact⟨rfl,λσ=>rfl,trivial,trivial⟩
  ·cases h
 ·split at h
  ·split at h
   ·rename_i p l hd;have hle:=Ir _ _ _ h;have hpl:=Mz _ y;rw[Ag5 hd]at hid;unfold Fm;rw[aL (by simp)];cases he:enc _ y with
    |nil=>have:=Aw _ y;have:=Bh ‹Ty›;rw[he]at *;simp at *;omega
    |cons q l'=>
     rw[he]at hle hpl;cases hle with
     |cons hp _=>
      have:=Aad (ids:=ids) hd (λid h=>hid id (Aac hd id h)) hp (hpl q (by simp));refine⟨this.1,λσ=>Ajz (hpl q (by simp)), ?_, ?_⟩
      ·have h5:=hpl q (by simp);cases q with
       |fn T=>cases T<;>trivial
       |_=>first|trivial|cases h5
      ·exact Acz (Aaf hd)
   ·cases h
  ·cases h
 ·cases h
theorem Aah{H:List Ob}{ids:List Nat}:∀{r:List (Bool×Ty)}{l:List AV}{y:Ib r},N6 H r l=some y->(∀id∈Aab H l,id∈ids)->
 Nd (Sq (I1 r y)) (N3 ids H l)=I1 r y/\∀σ,Hb σ (I1 r y)=I1 r y
 |[],l,y,h,hid=>by
  cases l with
  |nil=>exact⟨rfl,λ_=>rfl⟩
  |cons _ _=>simp[N6]at h
 |q::r,l,y,h,hid=>by
  cases l with
  |nil=>simp[N6]at h
  |cons x l=>
   simp only[N6]at h;split at h
   ·rename_i y1 h1;split at h
    ·rename_i ys h2;cases h;obtain⟨e1,e2,_,_⟩:=Aev (ids:=ids) h1 (λid hi=>hid id (by simp[Aab,hi]));obtain⟨e3,e4⟩:=Aah (ids:=ids) h2 (λid hi=>hid id (by simp[Aab,hi]));refine⟨?_,λσ=>?_⟩
     ·show(fit (Rt (Fm q.1 q.2 y1)) (frV ids H x)::Nd (Sq (I1 r ys)) (N3 ids H l))=Fm q.1 q.2 y1::I1 r ys;rw[e1,e3]
     ·show(ren σ (Fm q.1 q.2 y1)::Hb σ (I1 r ys))=Fm q.1 q.2 y1::I1 r ys;rw[e2,e4]
    ·cases h
   ·cases h
theorem Aqm{x:AV}(h:Hg x):noW x=x:=by cases x<;>first|rfl|cases h
theorem Aa{r:List (Bool×Ty)}{z zz:Ib r}{x:AV}{H:List Ob}{n:Nat}(h:Aet H r x=some z)(hz:zz=z):H0 ⟨none,none,[],Fu r zz⟩ x H n:=by
 subst hz;have key:∀res:AV,fit (Rt res) (frV (Rv H x) H x)=res->(∀σ,ren σ res=res)->Hg res->Hg (frV (Rv H x) H x)->H0 ⟨none,none,[],res⟩ x H n:=by
  intro res h1 h2 h3 h4;refine⟨trivial,rfl,Rv H x,[], ?_,rfl,trivial,by simp[Sx.distinct,Sx.keeps]⟩;rw[Aqm h4];show Oo [res] [fit (Rt res) (frV (Rv H x) H x)]=[ren [] res];rw[h1,h2];cases res<;>first|rfl|cases h3
 have tup:∀(r:List (Bool×Ty))(z:Ib r)(l:List AV)(_:N6 H r l=some z),x=.tup l->H0 ⟨none,none,[],.tup (I1 r z)⟩ x H n:=by
  intro r z l h0 hx;subst hx;obtain⟨e1,e2⟩:=Aah (ids:=Rv H (.tup l)) h0 (λid hi=>by simpa[Rv]using hi);refine key _ ?_ (λσ=>?_) trivial trivial
  ·simp only[Rt,frV,fit];rw[e1]
  ·simp only[ren];rw[e2]
 cases r with
 |nil=>
  cases x with
  |tup l=>exact tup [] zz l h rfl
  |_=>simp[Aet]at h
 |cons q r=>
  cases r with
  |nil=>
   simp only[Aet]at h;split at h
   ·rename_i y h1;cases h;obtain⟨e1,e2,e3,e4⟩:=Aev (ids:=Rv H x) h1 (λid hi=>hi);exact key _ e1 e2 e3 e4
   ·cases h
  |cons q' r=>
   cases x with
   |tup l=>exact tup (q::q'::r) zz l h rfl
   |_=>simp[Aet]at h
def fnO(a:List AK)(t:Ty)(need:AK.dens a->Prop)(f:AK.dens a->List t.den):Ctr:=λargs=>
 match Nq a args with
 |some y=>some ⟨⟨some (need y),none,[.rows t (f y)],.own 0⟩,λk=>k (.own 0)⟩
 |none=>none
theorem goodO{P:Program}{cx:Ctx}(hcx:Ai P cx){g:FuncId}(d:Nat)(a:List AK)(t:Ty)(need:AK.dens a->Prop)(f:AK.dens a->List t.den)
 (hfn:∃fn,P.funcs[g]?=some fn/\fn.body.isSome=true/\(fn.name == "runtime.NumGoroutine")=false)
 (h:∀y,need y->Nl cx P d g (G4 a y) [] 0 (H0 ⟨none,none,[.rows t (f y)],.own 0⟩)):GoodC P g (fnO a t need f):=by
 refine⟨hfn,λargs cg hC k hk=>?_,λargs cr gen hC hn w F0 vs hF hsz hrd=>?_⟩
 ·unfold fnO at hC;split at hC
  ·cases hC;exact hk
  ·cases hC
 unfold fnO at hC;split at hC
 ·rename_i y hy;cases hC;obtain⟨C,hgood,hCa⟩:=My hcx d hfn _ _ (h y hn);obtain⟨e,hall⟩:=Hx (E:=Env.base w F0) a args y hy;exact hgood.calls _ _ _ hCa trivial w F0 vs hF (hsz.trans e.symm) (λi v x hv hx=>hall hrd i v x hv hx vs.toList (λi u hu=>by simpa using hu) (by simpa using hsz))
 ·cases hC
theorem M0{t:Ty}{xs zz:List t.den}{k:Nat}{H:List Ob}{n:Nat}(h:Ac H k=.rows t xs)(hz:zz=xs):H0 ⟨none,none,[.rows t zz],.own 0⟩ (.own k) H n:=by
 subst hz;refine⟨trivial,rfl,[],[some k], ?_,rfl,⟨h,trivial⟩,by simp[Sx.distinct,Sx.keeps]⟩;have:frV [] H (.own k)=.own k:=by
  simp only[frV,Ly,Cl,h];simp
 rw[this];rfl
theorem Kb{t:Ty}{zz:List t.den}{H:List Ob}{n:Nat}(hz:zz=[]):H0 ⟨none,none,[.rows t zz],.own 0⟩ .cap0 H n:=by
 subst hz;exact⟨trivial,rfl,[],[none],rfl,rfl,⟨rfl,trivial⟩,by simp[Sx.distinct,Sx.keeps]⟩
def Apm(P:Program)(f:FuncId)(tys:List Ty)(ss:List Bool):Prop:=
 ∃(cx:Ctx)(d:Nat),Ai P cx/\∀y:Ag4 tys,Sd tys y->Nl cx P d f (Ma ss tys y) [] 0 (H0 ⟨none,none,[],Fu [(false,.bool)] (true,())⟩)
theorem law_row{p:Pinned}{s:ChangeSpec}{c:OpenClaim}(f:FuncId)(fn:Func)(tys:List Ty)(ss:List Bool)(tb:TypeId)
 (hn:c.program=p.name)(hs:c.sum=p.sum)(hsp:c.spec=s.name)
 (hstart:c.start=.entering)(hout:c.outside=[])(hin:c.inits=[])(hun:c.under=none)(hi4:c.initsInPlace=[]/\c.initsUnfollowed=false/\c.initsRecurse=false/\c.initsNamed=[]/\c.initsPassed=[])(hnb:c.noBlocks=false)(hlv:c.leaving=false)(hfo:c.followed=none)(hnar:c.narrowed=false)(hstill:c.still=false)
 (hfn:p.checked.prog.funcNamed c.func=some f)(hf:p.checked.prog.funcs[f]?=some fn)
 (closed:joinedFacts p.checked.prog f fn s c=true)
 (hinst:fn.isInstance p.checked.prog c.origin c.targs)(hwrap:fn.isWrapper p.checked.prog c.wrapper c.mainSum)
 (hcell:c.assume={}/\c.domain=[]/\c.apart=false/\c.fresh=true/\c.handsOn=false/\c.again=false)
 (hpre:∀(H:Type)(enc:TypeId×Value->H),c.pre enc p.checked.prog fn (OpenSpec.ofChange s)=s.pre6 enc p.checked.prog fn [] false)
 (own:ownKnob p.checked.prog.godebug=none)(noInit:p.checked.prog.inits.idxOf? f=none)
 (witness:∀(os:Os)(H:Type)(en:TypeId×Value->H),∃(w:World)(tape:Tape)(i:Input),w.os=os/\(w.forCall tape i).Shaped p.checked.prog/\i.vars=[]/\Input.okWide p.checked.prog (w.forCall tape i) .any w.heap.size f i/\
   s.pre6 en p.checked.prog fn [] false (w.forCall tape i).memory i.args/\({}:Assume).holds p.checked.prog (lone (Frame.enter p.checked.prog f i.args .normal) [] (w.forCall tape i)))
 (hl:laidOutB p.checked.prog=true)(hts:fn.params.toList.all (λt=>p.checked.prog.readableRec t&&Nat.blt t p.checked.prog.types.size)=true)(hfit:Gr p.checked.prog tys fn.params.toList=true)(hss:fn.params.toList.map (C9 p.checked.prog)=ss)
 (hv:s.vars=[])(hsd:∀(H:Type)(ds:List (DataW H)),ds.length=tys.length->(s.fn H ds).results=[.lit (.bool true)]/\(s.fn H ds).args=ds/\(s.fn H ds).vars=[])
 (hr:fn.resultTypes=#[tb])(ht:p.checked.prog.underlying tb=some .bool)(hb:fn.body.isSome=true/\(fn.name == "runtime.NumGoroutine")=false)
 (h:Apm p.checked.prog f tys ss):c.holds p (OpenSpec.ofChange s):=by
 obtain⟨cx,d,hcx,h⟩:=h;refine OpenClaim.holds_of_wide f fn hn hs hsp hstart hout hin hun hi4 hnb hlv hfo hnar hstill hfn hf closed hinst hwrap λos started H enc _=>?_
 rw[hpre H enc,hcell.1,hcell.2.2.1,hcell.2.2.2.1,hcell.2.2.2.2.1,hcell.2.2.2.2.2];exact Acy cx d tys ss hcx own started noInit hf (witness os H enc) hl hts hfit hss hv (hsd H) hr ht hb h
end Go.Sx
namespace Go.Sx
open Go.RowKit
mutual
def Fv(τ:List (Option Nat)):AV->AV
 |.ptr id off=>match Aq none τ id with|some j=>.ptr j off|none=>.any
 |.rptr id k row off=>match Aq none τ id with|some j=>.rptr j k row off|none=>.any
 |.own id=>match Aq none τ id with|some j=>.own j|none=>.any
 |.ownp id k lo len=>match Aq none τ id with|some j=>.ownp j k lo len|none=>.any
 |.mp id=>match Aq none τ id with|some j=>.mp j|none=>.any
 |.yld id=>match Aq none τ id with|some j=>.yld j|none=>.any
 |.rnd _=>.any
 |.grow id i=>match Aq none τ id with|some j=>.grow j i|none=>.any
 |.gptr id i k=>match Aq none τ id with|some j=>.gptr j i k|none=>.any
 |.ownc id k lo len=>match Aq none τ id with|some j=>.ownc j k lo len|none=>.any
 |.csl t id m=>match Aq none τ id with|some j=>.csl t j m|none=>.any
 |.dmp _=>.any
 |.fn f a b=>.fn f (Db τ a) (Db τ b)
 |.agg cs=>.agg (Db τ cs)
 |.tup vs=>.tup (Db τ vs)
 |.when _ _ _ _=>.any
 |v=>v
def Db(τ:List (Option Nat)):List AV->List AV
 |[]=>[]
 |x::l=>Fv τ x::Db τ l
end
def E6(τ:List (Option Nat)):Ob->Ob
 |.cells cs=>.cells (Db τ cs)
 |.fmap es=>.fmap (es.map λp=>(p.1,Fv τ p.2))
 |.loop st pe ps x y sl=>.loop st pe ps x y (Db τ sl)
 |ob=>ob
def Cx(τ:List (Option Nat)):List Ob->List Ob
 |[]=>[]
 |ob::l=>E6 τ ob::Cx τ l
def Fq:List (Option Nat)->List Ob->List Ob->List Ob
 |[],l,H=>H++l
 |some j::σ,ob::l,H=>Fq σ l (B3 ob H j)
 |none::σ,_::l,H=>Fq σ l H
 |_::_,[],H=>H
def Kc:List (Option Nat)->Nat->Bool
 |[],_=>false
 |some j::σ,i=>Nat.beq j i||Kc σ i
 |none::σ,i=>Kc σ i
def Nr(σ:List (Option Nat)):Nat->List Ob->List Ob
 |_,[]=>[]
 |k,ob::l=>(bif Kc σ k then ob else .dead)::Nr σ (k+1) l
def Ic:Nat->Nat->List (Option Nat)
 |_,0=>[]
 |n,k+1=>some n::Ic (n+1) k
def Xu:Ob->Bool
 |.dead=>true
 |_=>false
def Asz:Ob->Bool
 |.dead=>true
 |.froz _ _=>false
 |_=>true
def Il:List (Option Nat)->List Ob->Bool
 |none::σ,ob::l=>Xu ob&&Il σ l
 |some _::σ,_::l=>Il σ l
 |[],_=>true
 |_::_,[]=>false
def Aew(σ:List (Option Nat))(T T1:List Ob):Bool:=T.all (λob=>!Xu ob)&&T1.all Asz&&Il σ T1
def Gs(S:FuncId->List AV->List Ob->AV->List Ob->Prop):CallSem:=λg args H n K=>
 (match args with|.rnd _::_=>False|_=>True)/\∃args0 T x1 T1 σ,S g args0 T x1 T1/\J1 0 σ (args.map noW) (Nr σ 0 H) n ⟨args0,T,T.length⟩/\Aew σ T T1=true/\
   K (Fv (σ++Ic n (T1.length-T.length)) x1) (Fq σ (Cx (σ++Ic n (T1.length-T.length)) T1) H) (n+(T1.length-T.length))
structure Carry(E E':Env)(τ:List (Option Nat)):Prop where
 A:∀id j,E.A id->Aq none τ id=some j->E'.A j
 L:∀id j,Aq none τ id=some j->E'.L j->E.L id/\E'.ρ j=E.ρ id/\E'.K j=E.K id
 fz:∀b o,E.Fz b o->E'.Fz b o/\E'.w.cell? ⟨b,o,none⟩=E.w.cell? ⟨b,o,none⟩
theorem Em(τ:List (Option Nat)):∀(l:List AV),(Db τ l).length=l.length/\∀i:Nat,(Db τ l)[i]?=(l[i]?).map (Fv τ)
 |[]=>⟨rfl,λi=>by simp[Db]⟩
 |x::l=>by
  have ih:=Em τ l;refine⟨by simp[Db,ih.1],λi=>?_⟩;cases i with
  |zero=>simp[Db]
  |succ i=>simpa[Db]using ih.2 i
theorem I2(τ:List (Option Nat)):∀(l:List Ob),(Cx τ l).length=l.length/\∀i,Ac (Cx τ l) i=E6 τ (Ac l i)
 |[]=>⟨rfl,λi=>by simp[Cx,Ac,Aq,E6]⟩
 |x::l=>by
  have ih:=I2 τ l;refine⟨by simp[Cx,ih.1],λi=>?_⟩;cases i with
  |zero=>rfl
  |succ i=>exact ih.2 i
theorem O5{E E':Env}{τ:List (Option Nat)}{xs:List AV}{vs:Array Value}(ih:∀(i:Nat) v x,vs[i]?=some v->xs[i]?=some x->RdA E' v (Fv τ x)):
 ∀(i:Nat) v x,vs[i]?=some v->(Db τ xs)[i]?=some x->RdA E' v x:=by
 intro i v x hv hx;rw[(Em τ xs).2,bC]at hx;obtain⟨y,hy,rfl⟩:=hx;exact ih i v y hv hy
theorem Sf{E E':Env}{τ:List (Option Nat)}(c:Carry E E' τ){v:Value}{y:AV}(h:RdA E v y):RdA E' v (Fv τ y):=by
 induction h with
 |any v=>exact .any v
 |int k n=>exact .int k n
 |bool b=>exact .bool b
 |str s=>exact .str s
 |val v h=>exact .val v h
 |nils a c=>exact .nils a c
 |cap0 a=>exact .cap0 a
 |sl v t xs h=>exact .sl v t xs (h.mono c.fz)
 |ptr v id off ha h1 h=>
  simp only[Fv];split
  ·rename_i j hj;refine .ptr v j off (c.A id j ha hj) h1 λhl=>?_
   obtain⟨g1,g2,_⟩:=c.L id j hj hl;rw[g2];exact h g1
  ·exact .any _
 |rptr v id k row off ha h1 h=>
  simp only[Fv];split
  ·rename_i j hj;refine .rptr v j k row off (c.A id j ha hj) h1 λhl=>?_
   obtain⟨g1,g2,_⟩:=c.L id j hj hl;rw[g2];exact h g1
  ·exact .any _
 |eptr b o cs g hcell hrd=>
  refine .eptr b o cs g (λj hj=>?_) (λj p hp=>(hrd j p hp).mono c.fz);obtain⟨h1,h2⟩:=hcell j hj;obtain⟨h3,h4⟩:=c.fz _ _ h1;exact⟨h3,h4.trans h2⟩
 |own v id ha h1 h=>
  simp only[Fv];split
  ·rename_i j hj;refine .own v j (c.A id j ha hj) h1 λhl=>?_
   obtain⟨g1,g2,_⟩:=c.L id j hj hl;rw[g2];exact h g1
  ·exact .any _
 |ownp v id k lo n ha h1 h=>
  simp only[Fv];split
  ·rename_i j hj;refine .ownp v j k lo n (c.A id j ha hj) h1 λhl=>?_
   obtain⟨g1,g2,_⟩:=c.L id j hj hl;rw[g2];exact h g1
  ·exact .any _
 |mp v id ha h1 h=>
  simp only[Fv];split
  ·rename_i j hj;refine .mp v j (c.A id j ha hj) h1 λhl=>?_
   obtain⟨g1,g2,_⟩:=c.L id j hj hl;rw[g2];exact h g1
  ·exact .any _
 |fn f vs ws xs ys hv hw _ _ ih1 ih2=>exact .fn f vs ws _ _ (by rw[hv,(Em τ xs).1]) (by rw[hw,(Em τ ys).1]) (O5 (E:=E) ih1) (O5 (E:=E) ih2)
 |agg vs xs hv h1 _ ih=>exact .agg vs _ (by rw[hv,(Em τ xs).1]) h1 (O5 (E:=E) ih)
 |tup vs xs hv _ ih=>exact .tup vs _ (by rw[hv,(Em τ xs).1]) (O5 (E:=E) ih)
 |when v c s w x _ h2 ih=>exact .any _
 |yld v id ha h1 h=>
  simp only[Fv];split
  ·rename_i j hj;refine .yld v j (c.A id j ha hj) h1 λhl=>?_
   obtain⟨g1,g2,_⟩:=c.L id j hj hl;rw[g2];exact h g1
  ·exact .any _
 |grow v id i ha h1 h=>
  simp only[Fv];split
  ·rename_i j hj;refine .grow v j i (c.A id j ha hj) h1 λhl=>?_
   obtain⟨g1,_,g3⟩:=c.L id j hj hl;rw[g3];exact h g1
  ·exact .any _
 |gptr v id i k ha h1 h=>
  simp only[Fv];split
  ·rename_i j hj;refine .gptr v j i k (c.A id j ha hj) h1 λhl=>?_
   obtain⟨g1,_,g3⟩:=c.L id j hj hl;rw[g3];exact h g1
  ·exact .any _
 |dmp b es ms clock hB hb hh hsz hes=>exact .any _
 |csl v t id n ha h1 h=>
  simp only[Fv];split
  ·rename_i j hj;refine .csl v t j n (c.A id j ha hj) h1 λhl=>?_
   obtain⟨g1,g2,_⟩:=c.L id j hj hl;rw[g2];exact h g1
  ·exact .any _
 |ownc v id k lo n ha h1 h=>
  simp only[Fv];split
  ·rename_i j hj;refine .ownc v j k lo n (c.A id j ha hj) h1 λhl=>?_
   obtain⟨g1,g2,_⟩:=c.L id j hj hl;rw[g2];exact h g1
  ·exact .any _
 |slf t xs a h=>exact .slf t xs a (h.mono c.fz)
theorem Aj0{E E':Env}{τ:List (Option Nat)}(c:Carry E E' τ)(hw:E'.w=E.w){id j:Nat}(hρ:E'.ρ j=E.ρ id)(hK:E'.K j=E.K id){ob:Ob}(h:OkOb E id ob):OkOb E' j (E6 τ ob):=by
 cases ob with
 |dead=>exact h
 |cells cs=>
  obtain⟨hd,h1,arr,el,h2,h3,h4⟩:=h;refine⟨hd,hρ.trans h1,arr,el,by rw[hw];exact h2,by rw[h3,(Em τ cs).1],λi v x hv hx=>?_⟩;rw[(Em τ cs).2,bC]at hx;obtain⟨y,hy,rfl⟩:=hx;obtain⟨h5,h6⟩:=h4 i v y hv hy;exact⟨h5,Sf c h6⟩
 |rows t xs=>
  show RowsAt E' t xs (E'.ρ j);rw[hρ];exact RowsAt.mono c.fz (λ_ _=>by rw[hw]) h
 |froz t xs=>
  show RowsAt E' t xs (E'.ρ j);rw[hρ];exact RowsAt.mono c.fz (λ_ _=>by rw[hw]) h
 |fmap es=>
  obtain⟨hd,h1,ms,clock,h2,h3,h4⟩:=h;refine⟨hd,hρ.trans h1,ms,clock,by rw[hw];exact h2,by rw[h3,bN],λi m p hm hp=>?_⟩;rw[cL,bC]at hp;obtain⟨q,hq,rfl⟩:=hp;obtain⟨h5,h6⟩:=h4 i m q hm hq;exact⟨h5,Sf c h6⟩
 |grid t more xss=>
  obtain⟨hd,h1,h2⟩:=h;refine⟨hd,hρ.trans h1, ?_⟩;rw[hK];exact h2.mono c.fz (by rw[hw]) (λ_ _ _=>by rw[hw])
 |loop st pe ps x y sl=>
  obtain⟨hd,h1,r,h2,h3,h4,h5,h6,h7,h8,h9⟩:=h;refine⟨hd,hρ.trans h1,r,by rw[hw];exact h2,h3,h4,h5,h6,h7,by rw[h8,(Em τ sl).1],λi v s hv hs=>?_⟩;rw[(Em τ sl).2,bC]at hs;obtain⟨z,hz,rfl⟩:=hs;exact Sf c (h9 i v z hv hz)
theorem Tx:∀(σ:List (Option Nat))(j:Nat),Kc σ j=true<->∃i,Aq none σ i=some j
 |[],j=>⟨λh=>by simp[Kc]at h,λ⟨i,h⟩=>by simp[Aq]at h⟩
 |some k::σ,j=>by
  have ih:=Tx σ j;simp only[Kc,bY];constructor
  ·rintro(h|h)
   ·exact⟨0,bI some (bB h)⟩
   ·obtain⟨i,hi⟩:=ih.1 h;exact⟨i+1,hi⟩
  ·rintro⟨i,hi⟩;cases i with
   |zero=>cases hi;exact .inl (gD _)
   |succ i=>exact .inr (ih.2 ⟨i,hi⟩)
 |none::σ,j=>by
  have ih:=Tx σ j;simp only[Kc];constructor
  ·intro h;obtain⟨i,hi⟩:=ih.1 h;exact⟨i+1,hi⟩
  ·rintro⟨i,hi⟩;cases i with
   |zero=>cases hi
   |succ i=>exact ih.2 ⟨i,hi⟩
theorem Wa(σ:List (Option Nat)):∀(l:List Ob)(k:Nat),(Nr σ k l).length=l.length/\∀i,Ac (Nr σ k l) i=if Kc σ (k+i)=true then Ac l i else .dead
 |[],k=>⟨rfl,λi=>by simp[Nr,Ac,Aq]⟩
 |ob::l,k=>by
  have ih:=Wa σ l (k+1);refine⟨by simp[Nr,ih.1],λi=>?_⟩;cases i with
  |zero=>
   show(bif Kc σ k then ob else .dead)=if Kc σ (k+0)=true then ob else .dead
   rw[dH];cases Kc σ k<;>rfl
  |succ i=>
   have:=ih.2 i;rw[show k+1+i=k+(i+1) by omega]at this;exact this
theorem Aai:∀(k n i:Nat),Aq none (Ic n k) i=if i<k then some (n+i)else none
 |0,n,i=>by simp[Ic,Aq]
 |k+1,n,i=>by
  cases i with
  |zero=>simp[Ic,Aq]
  |succ i=>
   have:=Aai k (n+1) i;show Aq none (Ic (n+1) k) i=_;rw[this];by_cases h:i<k
   ·rw[aP h,aP (by omega)];congr 1;omega
   ·rw[aL h,aL (by omega)]
theorem Tz{α:Type}{d:α}(l m:List α)(i:Nat):Aq d (l++m) i=if i<l.length then Aq d l i else Aq d m (i-l.length):=by
 rw[Bn,Bn,Bn];by_cases h:i<l.length
 ·rw[aP h,bX h]
 ·rw[aL h,cD (by omega)]
theorem T0:∀(σ:List (Option Nat))(l H:List Ob),(∀i i' j,Aq none σ i=some j->Aq none σ i'=some j->i=i')->(∀i j,Aq none σ i=some j->j<H.length)->σ.length<=l.length->
 (Fq σ l H).length=H.length+(l.length-σ.length)/\(∀i j,Aq none σ i=some j->Ac (Fq σ l H) j=Ac l i)/\
 (∀j,j<H.length->(∀i,Aq none σ i≠some j)->Ac (Fq σ l H) j=Ac H j)/\∀k,Ac (Fq σ l H) (H.length+k)=Ac l (σ.length+k)
 |[],l,H,_,_,_=>by
  refine⟨by simp[Fq],λi j h=>by simp[Aq]at h,λj hj _=>?_,λk=>?_⟩
  ·show Aq .dead (H++l) j=_;rw[Tz,aP hj];rfl
  ·show Aq .dead (H++l) (H.length+k)=_;rw[Tz,aL (by omega),eM];simp[Ac]
 |x::σ,[],H,_,_,h=>by simp at h
 |some j0::σ,ob::l,H,hd,hlt,hle=>by
  have hj0:=hlt 0 j0 rfl;have ih:=T0 σ l (B3 ob H j0) (λi i' j h h'=>Nat.succ.inj (hd (i+1) (i'+1) j h h')) (λi j h=>by rw[By];exact hlt (i+1) j h) (by simpa using hle);rw[By]at ih;obtain⟨h1,h2,h3,h4⟩:=ih;have no:∀i,Aq none σ i≠some j0:=λi h=>aT (hd (i+1) 0 j0 h rfl) (by omega)
  refine⟨by simpa[Fq]using h1,λi j h=>?_,λj hj hno=>?_,λk=>?_⟩
  ·cases i with
   |zero=>
    cases h;show Ac (Fq σ l (B3 ob H j0)) j0=ob;rw[h3 j0 hj0 no,B8,aP ⟨rfl,hj0⟩]
   |succ i=>exact h2 i j h
  ·show Ac (Fq σ l (B3 ob H j0)) j=_;rw[h3 j hj λi=>hno (i+1),B8,aL]
   exactλh=>hno 0 (by rw[<-h.1];rfl)
  ·show Ac (Fq σ l (B3 ob H j0)) (H.length+k)=Ac (ob::l) (σ.length+1+k);rw[h4,show σ.length+1+k=(σ.length+k)+1 by omega];rfl
 |none::σ,ob::l,H,hd,hlt,hle=>by
  have ih:=T0 σ l H (λi i' j h h'=>Nat.succ.inj (hd (i+1) (i'+1) j h h')) (λi j h=>hlt (i+1) j h) (by simpa using hle);obtain⟨h1,h2,h3,h4⟩:=ih;refine⟨by simpa[Fq]using h1,λi j h=>?_,λj hj hno=>?_,λk=>?_⟩
  ·cases i with
   |zero=>cases h
   |succ i=>exact h2 i j h
  ·exact h3 j hj λi=>hno (i+1)
  ·show Ac (Fq σ l H) (H.length+k)=Ac (ob::l) (σ.length+1+k);rw[h4,show σ.length+1+k=(σ.length+k)+1 by omega];rfl
def Env.carry(E E4:Env)(back:Nat->Option Nat):Env where
 w:=E4.w
 B:=E.B
 F0:=E.F0
 ρ:=λj=>match back j with|some i=>E4.ρ i|none=>E.ρ j
 L:=λj=>match back j with|some i=>E4.L i|none=>E.L j
 W:=λj=>match back j with|some i=>E4.W i|none=>E.W j
 A:=λj=>match back j with|some i=>E4.A i|none=>E.A j
 K:=λj=>match back j with|some i=>E4.K i|none=>E.K j
 M:=E.M
 Hd:=E.Hd
section
variable {E E4:Env}{back:Nat->Option Nat}
theorem Ac0{j i:Nat}(h:back j=some i):(E.carry E4 back).ρ j=E4.ρ i/\(E.carry E4 back).K j=E4.K i/\((E.carry E4 back).L j<->E4.L i)/\((E.carry E4 back).W j<->E4.W i)/\((E.carry E4 back).A j<->E4.A i):=by
 simp[Env.carry,h]
theorem Ac1{j:Nat}(h:back j=none):(E.carry E4 back).ρ j=E.ρ j/\(E.carry E4 back).K j=E.K j/\((E.carry E4 back).L j<->E.L j)/\((E.carry E4 back).W j<->E.W j)/\((E.carry E4 back).A j<->E.A j):=by
 simp[Env.carry,h]
theorem T3{j i b:Nat}(h:back j=some i):(E.carry E4 back).Own j b<->E4.Own i b:=by
 simp[Env.Own,Env.carry,h]
theorem T4{j b:Nat}(h:back j=none):(E.carry E4 back).Own j b<->E.Own j b:=by
 simp[Env.Own,Env.carry,h]
end
def Env.only(E:Env)(σ:List (Option Nat)):Env:={ E with
 L:=λj=>E.L j/\Kc σ j=true
 W:=λj=>E.W j/\Kc σ j=true
 Hd:=λb=>E.Hd b\/∃j,E.W j/\Kc σ j=false/\E.Own j b }
section
variable {E:Env}{H:List Ob}{n:Nat}{σ:List (Option Nat)}
theorem Xv{b:Nat}(h:E.Nb b):(E.only σ).Nb b:=⟨h.1,λid hW=>h.2.1 id hW.1,λhh=>hh.elim h.2.2 λ⟨j,hW,_,ho⟩=>h.2.1 j hW ho⟩
theorem Aj1(k:Nat):Evq k E (E.only σ):=by
 refine⟨λ_ _ h=>h,λ_ _ _ hl=>⟨hl.1,rfl⟩,λ_ _ _ _ _ _ h=>h,λb o hf=>⟨?_,rfl⟩,λb ms clock hB h hm=>⟨hB,Xv h,hm⟩⟩;rcases hf with h|⟨h1,h2⟩
 ·exact .inl h
 ·exact .inr ⟨h1,Xv h2⟩
theorem Anm(hE:EnvOk E H n):EnvOk (E.only σ) (Nr σ 0 H) n:=by
 have hg:=Wa σ H 0;have at0:∀i,Ac (Nr σ 0 H) i=if Kc σ i=true then Ac H i else .dead:=λi=>by have:=hg.2 i;rwa [dF]at this
 have at1:∀i,Ac (Nr σ 0 H) i≠.dead->Kc σ i=true/\Ac (Nr σ 0 H) i=Ac H i:=λi h=>by
  rw[at0]at h ⊢;by_cases h1:Kc σ i=true
  ·rw[aP h1];exact⟨h1,rfl⟩
  ·rw[aL h1]at h;exact aT rfl h
 refine⟨by rw[hg.1];exact hE.len,hE.ns,λid hne=>?_,λid hw=>?_,λid hl hne=>?_,λid hl=>hE.sub id hl.1,λid hw=>⟨hE.wl id hw.1,hw.2⟩,λid id' b hl hl'=>hE.injO id id' b hl.1 hl'.1,
  λid b hl=>hE.ltO id b hl.1,hE.f0,hE.B,λid b hl ho hh=>hh.elim (hE.hid id b hl.1 ho) λ⟨j,hW,hn,ho'⟩=>?_,λb hh=>hh.elim (hE.hlt b) λ⟨j,hW,_,ho⟩=>(hE.ltO j b (hE.wl j hW) ho).2⟩
 ·obtain⟨h1,h2⟩:=at1 id hne;exact⟨hE.live id (by rw[<-h2];exact hne),h1⟩
 ·obtain⟨h1,h2⟩:=at1 id (Dz hw);exact⟨hE.wr id (by rw[<-h2];exact hw),h1⟩
 ·obtain⟨h1,h2⟩:=at1 id hne;rw[h2];exact OkOb.monoq (Aj1 n) hE.ns (hE.sub id hl.1) hl rfl (λ_ _=>rfl) (hE.ok id hl.1 (by rw[<-h2];exact hne))
 ·have e:=hE.injO id j b hl.1 (hE.wl j hW) ho ho';subst e;rw[hl.2]at hn;cases hn
end
theorem Jq:∀(σ:List (Option Nat))(l:List Ob),Il σ l=true->σ.length<=l.length/\∀i,i<σ.length->Aq none σ i=none->Ac l i=.dead
 |[],l,_=>⟨aV _,λi h=>by simp at h⟩
 |x::σ,[],h=>by cases x<;>simp[Il]at h
 |some j::σ,ob::l,h=>by
  obtain⟨h1,h2⟩:=Jq σ l h;refine⟨by simpa using h1,λi hi hn=>?_⟩;cases i with
  |zero=>cases hn
  |succ i=>exact h2 i (by simpa using hi) hn
 |none::σ,ob::l,h=>by
  simp only[Il,aS]at h;obtain⟨h1,h2⟩:=Jq σ l h.2;refine⟨by simpa using h1,λi hi hn=>?_⟩;cases i with
  |zero=>
   show ob=.dead;cases ob<;>first|rfl|(simp[Xu]at h)
  |succ i=>exact h2 i (by simpa using hi) hn
theorem T5{τ:List (Option Nat)}{ob:Ob}(h:E6 τ ob≠.dead):ob≠.dead:=by
 rintro rfl;exact h rfl
theorem Aj2{τ:List (Option Nat)}{ob:Ob}(h:(E6 τ ob).wr):ob.wr:=by
 cases ob<;>exact h
open Classical in
theorem Gt{P:Program}{sem:CallSem}(hsem:Bb P sem){S:FuncId->List AV->List Ob->AV->List Ob->Prop}
 (hS:∀g args0 T x1 T1,S g args0 T x1 T1->sem g args0 T T.length (λx T' n'=>∃σ,J1 T.length σ [noW x] T' n' ⟨[x1],T1,T1.length⟩)):Bb P (Gs S):=by
 refine⟨λg args H n K h E vs hE hsz hrd=>?_,λid args H n K h=>h.1.elim⟩;obtain⟨_,args0,T,x1,T1,σ,hSS,hwk,hfr,hK⟩:=h;obtain⟨w1,w2,w3,w4⟩:=id hwk;simp only[aS]at w1 w2 w3 w4;obtain⟨⟨⟨⟨w5,w6⟩,w7⟩,w8⟩,w9⟩:=w4;obtain⟨d1,d2,d3⟩:=Gp w5;simp only[Aew,aS]at hfr;obtain⟨⟨f1,f2⟩,f3⟩:=hfr;obtain⟨f4,f5⟩:=Jq _ _ f3;have lt_of:∀{i j:Nat},Aq none σ i=some j->i<σ.length:=λ{i j} h=>by
  rcases cN i σ.length with h1|h1
  ·exact h1
  ·rw[B4 _ h1]at h;cases h
 have liveT:∀i,i<T.length->Ac T i≠.dead:=λi hi e=>by
  have:=bV.1 f1 _ (cJ hi);have e':T[i]=.dead:=by rw[<-e];unfold Ac;rw[Bn,aR hi];rfl
  rw[e']at this;simp[Xu]at this
 have sinj:∀i i' j,Aq none σ i=some j->Aq none σ i'=some j->i=i':=λi i' j h h'=>d3 i i' j (liveT i (by rw[<-d1];exact lt_of h)) (liveT i' (by rw[<-d1];exact lt_of h')) h h'
 have hE1:=Anm (σ:=σ) hE;have hs1:SlOk (E.only σ) ⟨vs,[]⟩ (args.map noW):=by
  refine⟨by rw[hsz];simp,λt=>?_,λt c s w v ht=>?_,Marks.nil _⟩
  ·rw[Gq];refine F8 ?_;cases hv:vs[t]? with
   |none=>
    have hge:args.length<=t:=by rw[<-hsz];exact Array.getElem?_eq_none_iff.1 hv
    rw[B4 _ hge];exact .any _
   |some v=>
    have hlt:t<args.length:=by rw[<-hsz];exact(eH.1 hv).1
    have e:(Act.mk vs []).eval (.tmp t)=v:=by simp[Act.eval,bR,hv]
    rw[e];exact(hrd t v _ hv (C1 hlt)).monoq (Aj1 n) hE.ns
  ·rw[cL,bC]at ht;obtain⟨z,_,hz⟩:=ht;exact aT hz (H5 _ _ _ _ _)
 obtain⟨hE2,hs2,hevo2,_⟩:=Qe hE1 hs1 hwk;simp only at hE2 hs2 hevo2;have live1:∀{i j:Nat},Aq none σ i=some j->E.L j:=λ{i j} h=>(Bo hE1 w3 (liveT i (by rw[<-d1];exact lt_of h)) h).1.1
 have slt:∀i j,Aq none σ i=some j->j<n:=λi j h=>hE.ns j (hE.sub j (live1 h))
 obtain⟨hfn,hc⟩:=hsem.1 g args0 T T.length _ (hS g args0 T x1 T1 hSS) ((E.only σ).retell σ T) vs hE2 (by rw[hsz,w2];simp) (λi v x hv hx=>by
  have:=hs2.rd i;have e:(Act.mk vs []).eval (.tmp i)=v:=by simp[Act.eval,bR,hv]
  rw[e,Bn,hx]at this;exact this)
 refine⟨hfn,hc.mono λen w' hpost=>?_⟩;obtain⟨v,E3,x,T',n',rfl,rfl,hmn,hE3,hv3,hevo3,σ2,hwk2⟩:=hpost;have hs3:SlOk E3 ⟨#[v],[]⟩ [noW x]:=by
  refine⟨rfl,λt=>?_,λt c s w v ht=>?_,Marks.nil _⟩
  ·cases t with
   |zero=>exact F8 hv3
   |succ t=>exact .any _
  ·cases t with
   |zero=>simp only[dP,aU]at ht;exact aT ht (H5 _ _ _ _ _)
   |succ t=>simp at ht
 obtain⟨hE4,hs4,hevo4,hm1⟩:=Qe hE3 hs3 hwk2;simp only at hE4 hs4 hevo4 hm1;have hv4:RdA (E3.retell σ2 T1) v x1:=hs4.rd 0;have hevo:=hevo3.trans hevo4;have hL4:∀id,(E3.retell σ2 T1).L id<->Ac T1 id≠.dead:=λ_=>Iff.rfl
 have hW4:∀id,(E3.retell σ2 T1).W id<->(Ac T1 id).wr:=λ_=>Iff.rfl
 have hA4:∀id,(E3.retell σ2 T1).A id<->id<T1.length:=λ_=>Iff.rfl
 have hw4:(E3.retell σ2 T1).w=E3.w:=rfl;generalize hE4e:E3.retell σ2 T1=E4 at *;have lw:∀id,E4.L id->E4.W id:=λid h=>by
  have hne:=(hL4 id).1 h;rw[hW4];have hlt:=Cw hne;have:=bV.1 f2 _ (cJ hlt);have e:T1[id]=Ac T1 id:=by unfold Ac;rw[Bn,aR hlt];rfl
  rw[e]at this;cases hob:Ac T1 id<;>rw[hob]at this hne<;>first|trivial|exact aT rfl hne|(simp[Asz]at this)
 obtain⟨τ,hτ⟩:∃τ,σ++Ic n (T1.length-T.length)=τ:=⟨_,rfl⟩;rw[hτ]at hK;have tau:∀i,Aq none τ i=if i<T.length then Aq none σ i else if i<T1.length then some (n+(i-T.length))else none:=by
  intro i;rw[<-hτ,Tz,d1,Aai];by_cases h:i<T.length
  ·rw[aP h,aP h]
  ·rw[aL h,aL h];by_cases h':i<T1.length
   ·rw[aP h',aP (by omega)]
   ·rw[aL h',aL (by omega)]
 obtain⟨back,hback⟩:∃back:Nat->Option Nat,back=λj=>if n<=j then some (T.length+(j-n))else if h:∃i,Aq none σ i=some j then some h.choose else none:=⟨_,rfl⟩
 have b_new:∀j,n<=j->back j=some (T.length+(j-n)):=λj h=>by rw[hback];simp only;rw[aP h]
 have b_old:∀i j,Aq none σ i=some j->back j=some i:=λi j h=>by
  have hex:∃i,Aq none σ i=some j:=⟨i,h⟩;rw[hback];simp only;rw[aL (by have:=slt i j h;omega),dif_pos hex];exact bI some (sinj _ _ j hex.choose_spec h)
 have b_inv:∀j i,back j=some i->(n<=j/\i=T.length+(j-n))\/(j<n/\Aq none σ i=some j):=λj i h=>by
  rw[hback]at h;simp only at h;split at h
  ·cases h;exact .inl ⟨‹_›,rfl⟩
  ·split at h
   ·rename_i h1 h2;cases h;exact .inr ⟨by omega,h2.choose_spec⟩
   ·cases h
 have b_none:∀j,back j=none->j<n/\Kc σ j=false:=λj h=>by
  rw[hback]at h;simp only at h;split at h
  ·cases h
  ·split at h
   ·cases h
   ·rename_i h1 h2;refine⟨by omega, ?_⟩;cases hh:Kc σ j with
    |false=>rfl
    |true=>exact aT ((Tx σ j).1 hh) h2
 have b_inj:∀j j' i,back j=some i->back j'=some i->j=j':=λj j' i h h'=>by
  rcases b_inv j i h with⟨g1,g2⟩|⟨g1,g2⟩<;>rcases b_inv j' i h' with⟨g3,g4⟩|⟨g3,g4⟩
  ·omega
  ·have:=lt_of g4;omega
  ·have:=lt_of g2;omega
  ·rw[g2]at g4;exact Option.some.inj g4
 have b_tau:∀i j,Aq none τ i=some j->back j=some i:=λi j h=>by
  rw[tau]at h;split at h
  ·exact b_old i j h
  ·split at h
   ·cases h;rw[b_new _ (by omega)]
    congr 1;omega
   ·cases h
 obtain⟨E5,hE5⟩:∃E5,E.carry E4 back=E5:=⟨_,rfl⟩;have cs:∀{j i:Nat},back j=some i->E5.ρ j=E4.ρ i/\E5.K j=E4.K i/\(E5.L j<->E4.L i)/\(E5.W j<->E4.W i)/\(E5.A j<->E4.A i):=λh=>by rw[<-hE5];exact Ac0 h
 have cn:∀{j:Nat},back j=none->E5.ρ j=E.ρ j/\E5.K j=E.K j/\(E5.L j<->E.L j)/\(E5.W j<->E.W j)/\(E5.A j<->E.A j):=λh=>by rw[<-hE5];exact Ac1 h
 have os:∀{j i b:Nat},back j=some i->(E5.Own j b<->E4.Own i b):=λh=>by rw[<-hE5];exact T3 h
 have on:∀{j b:Nat},back j=none->(E5.Own j b<->E.Own j b):=λh=>by rw[<-hE5];exact T4 h
 have e5w:E5.w=E4.w:=by rw[<-hE5];rfl
 have e5B:E5.B=E.B:=by rw[<-hE5];rfl
 have e5F:E5.F0=E.F0:=by rw[<-hE5];rfl
 have e5M:E5.M=E.M:=by rw[<-hE5];rfl
 have e5H:E5.Hd=E.Hd:=by rw[<-hE5];rfl
 have e4B:E4.B=E.B:=hevo.B;have e4F:E4.F0=E.F0:=hevo.F0;have e4H:E4.Hd=λb=>E.Hd b\/∃j,E.W j/\Kc σ j=false/\E.Own j b:=hevo.Hd
 have sz:E.w.heap.size<=E4.w.heap.size:=hevo.below.size;have nb2:∀b,E.Nb b->((E.only σ).retell σ T).Nb b:=λb h=>Ms hE1 w3 (Xv h)
 have nb4:∀b,E.Nb b->E4.Nb b/\E4.w.heap[b]?=E.w.heap[b]?:=λb h=>hevo.hp b (nb2 b h)
 have hidden:∀b,E4.Hd b->E4.w.heap[b]?=E.w.heap[b]?:=λb h=>hevo.hh b (by have:=hevo.Hd;rw[<-this];exact h)
 have nbO:∀b,E4.Nb b->E5.Nb b:=λb h=>by
  refine⟨by rw[e5w];exact h.1,λj hW ho=>?_,λhh=>h.2.2 (by rw[e4H];rw[e5H]at hh;exact .inl hh)⟩;cases hb:back j with
  |some i=>exact h.2.1 i ((cs hb).2.2.2.1.1 hW) ((os hb).1 ho)
  |none=>exact h.2.2 (by rw[e4H];exact .inr ⟨j,(cn hb).2.2.2.1.1 hW,(b_none j hb).2,(on hb).1 ho⟩)
 have fz4:∀b o,E4.Fz b o->E5.Fz b o/\E5.w.cell? ⟨b,o,none⟩=E4.w.cell? ⟨b,o,none⟩:=λb o h=>by
  refine⟨?_,by rw[e5w]⟩;rcases h with⟨h1,h2⟩|⟨h1,h2⟩
  ·exact .inl ⟨by rw[e5B,<-e4B];exact h1,by rw[e5F,<-e4F];exact h2⟩
  ·exact .inr ⟨by rw[e5B,<-e4B];exact h1,nbO b h2⟩
 have carry:Carry E4 E5 τ:=by
  refine⟨λid j ha hj=>(cs (b_tau id j hj)).2.2.2.2.2 ha,λid j hj hl=>?_,fz4⟩;obtain⟨g1,g2,g3,_⟩:=cs (b_tau id j hj);exact⟨g3.1 hl,g1,g2⟩
 have old:∀{j i:Nat},j<n->back j=some i->i<T.length/\Aq none σ i=some j/\((E.only σ).retell σ T).A i/\((E.only σ).retell σ T).ρ i=E.ρ j/\((E.only σ).retell σ T).K i=E.K j:=λ{j i} hj hb=>by
  rcases b_inv j i hb with⟨g1,_⟩|⟨_,g2⟩
  ·omega
  ·have hi:i<T.length:=by rw[<-d1];exact lt_of g2
   refine⟨hi,g2,hi, ?_, ?_⟩
   ·simp only[Env.retell,g2];rfl
   ·simp only[Env.retell,g2];rfl
 have hevo5:Evo n E E5:=by
  refine⟨e5B,e5F,e5M,by rw[e5w];exact hevo.below,λj hj ha=>?_,λj hj ha hl=>?_,λj hj ha hl c o ho=>?_,λb hb=>?_,e5H,λb hb=>?_⟩
  ·cases hb:back j with
   |some i=>exact(cs hb).2.2.2.2.2 (hevo.A i (old hj hb).1 (old hj hb).2.2.1)
   |none=>exact(cn hb).2.2.2.2.2 ha
  ·cases hb:back j with
   |some i=>
    obtain⟨h1,h2,h3,h4,_⟩:=old hj hb;obtain⟨g1,g2⟩:=hevo.ids i h1 h3 ((cs hb).2.2.1.1 hl);exact⟨live1 h2,(cs hb).1.trans (g2.trans h4)⟩
   |none=>exact⟨(cn hb).2.2.1.1 hl,(cn hb).1⟩
  ·cases hb:back j with
   |some i=>
    obtain⟨h1,h2,h3,_,h5⟩:=old hj hb;rw[(cs hb).2.1];exact hevo.kds i h1 h3 ((cs hb).2.2.1.1 hl) c o (by rw[h5];exact ho)
   |none=>rw[(cn hb).2.1];exact ho
  ·exact⟨nbO b (nb4 b hb).1,by rw[e5w];exact(nb4 b hb).2⟩
  ·rw[e5w];exact hidden b (by rw[e4H];exact .inl hb)
 obtain⟨p1,p2,p3,p4⟩:=T0 σ (Cx τ T1) H sinj (λi j h=>by rw[hE.len];exact slt i j h) (by rw[(I2 τ T1).1];exact f4);rw[(I2 τ T1).1,hE.len,d1]at p1;rw[hE.len]at p3 p4;have get5:∀j,(∃i,back j=some i/\Ac (Fq σ (Cx τ T1) H) j=E6 τ (Ac T1 i))\/(back j=none/\Ac (Fq σ (Cx τ T1) H) j=Ac H j):=λj=>by
  cases hb:back j with
  |some i=>
   refine .inl ⟨i,rfl, ?_⟩;rcases b_inv j i hb with⟨g1,g2⟩|⟨g1,g2⟩
   ·have:=p4 (j-n);rw[show n+(j-n)=j by omega,(I2 τ T1).2,d1,<-g2]at this;exact this
   ·rw[p2 i j g2,(I2 τ T1).2]
  |none=>
   refine .inr ⟨rfl,p3 j (b_none j hb).1 λi h=>?_⟩;rw[b_old i j h]at hb;cases hb
 have kept:∀j b,back j=none->E.L j->E.Own j b->E4.w.heap[b]?=E.w.heap[b]?/\(E4.Hd b\/E.Nb b):=λj b hb hl ho=>by
  by_cases hW:E.W j
  ·have hh:E4.Hd b:=by rw[e4H];exact .inr ⟨j,hW,(b_none j hb).2,ho⟩
   exact⟨hidden b hh,.inl hh⟩
  ·have hn:E.Nb b:=⟨(hE.ltO j b hl ho).2,λj' hW' ho'=>hW ((hE.injO j' j b (hE.wl j' hW') hl ho' ho) ▸ hW'),hE.hid j b hl ho⟩;exact⟨(nb4 b hn).2,.inr hn⟩
 have hE5ok:EnvOk E5 (Fq σ (Cx τ T1) H) (n+(T1.length-T.length)):=by
  refine⟨p1,λj ha=>?_,λj hne=>?_,λj hw=>?_,λj hl hne=>?_,λj hl=>?_,λj hw=>?_,λj j' b hl hl' ho ho'=>?_,λj b hl ho=>?_,by rw[e5F,e5B];exact hE.f0,by rw[e5B,e5w];exact cP hE.B sz,
   λj b hl ho=>?_,λb hb=>?_⟩
  ·cases hb:back j with
   |some i=>
    rcases b_inv j i hb with⟨g1,g2⟩|⟨g1,g2⟩
    ·have:=(hA4 i).1 ((cs hb).2.2.2.2.1 ha);omega
    ·omega
   |none=>have:=(b_none j hb).1;omega
  ·rcases get5 j with⟨i,hb,hg⟩|⟨hb,hg⟩
   ·rw[hg]at hne;exact(cs hb).2.2.1.2 ((hL4 i).2 (T5 hne))
   ·rw[hg]at hne;exact(cn hb).2.2.1.2 (hE.live j hne)
  ·rcases get5 j with⟨i,hb,hg⟩|⟨hb,hg⟩
   ·rw[hg]at hw;exact(cs hb).2.2.2.1.2 ((hW4 i).2 (Aj2 hw))
   ·rw[hg]at hw;exact(cn hb).2.2.2.1.2 (hE.wr j hw)
  ·rcases get5 j with⟨i,hb,hg⟩|⟨hb,hg⟩
   ·rw[hg]at hne ⊢;have hne':=T5 hne;exact Aj0 carry e5w (cs hb).1 (cs hb).2.1 (hE4.ok i ((hL4 i).2 hne') hne')
   ·rw[hg]at hne ⊢;have hl':E.L j:=(cn hb).2.2.1.1 hl;exact OkOb.mono hevo5 hE.ns (hE.sub j hl') hl (cn hb).2.1 (λb ho=>by rw[e5w];exact(kept j b hb hl' ho).1) (hE.ok j hl' hne)
  ·cases hb:back j with
   |some i=>exact(cs hb).2.2.2.2.2 (hE4.sub i ((cs hb).2.2.1.1 hl))
   |none=>exact(cn hb).2.2.2.2.2 (hE.sub j ((cn hb).2.2.1.1 hl))
  ·cases hb:back j with
   |some i=>exact(cs hb).2.2.1.2 (hE4.wl i ((cs hb).2.2.2.1.1 hw))
   |none=>exact(cn hb).2.2.1.2 (hE.wl j ((cn hb).2.2.2.1.1 hw))
  ·have cross:∀{j j' i:Nat},back j=some i->back j'=none->E5.L j->E5.L j'->E5.Own j b->E5.Own j' b->False:=λ{j j' i} hb hb' hl hl' ho ho'=>by
    have hl4:=(cs hb).2.2.1.1 hl;have ho4:=(os hb).1 ho;rcases(kept j' b hb' ((cn hb').2.2.1.1 hl') ((on hb').1 ho')).2 with h|h
    ·exact hE4.hid i b hl4 ho4 h
    ·exact(nb4 b h).1.2.1 i (lw i hl4) ho4
   cases hb:back j with
   |some i=>
    cases hb':back j' with
    |some i'=>
     have e:=hE4.injO i i' b ((cs hb).2.2.1.1 hl) ((cs hb').2.2.1.1 hl') ((os hb).1 ho) ((os hb').1 ho');exact b_inj j j' i hb (by rw[hb',e])
    |none=>exact(cross hb hb' hl hl' ho ho').elim
   |none=>
    cases hb':back j' with
    |some i'=>exact(cross hb' hb hl' hl ho' ho).elim
    |none=>exact hE.injO j j' b ((cn hb).2.2.1.1 hl) ((cn hb').2.2.1.1 hl') ((on hb).1 ho) ((on hb').1 ho')
  ·rw[e5B,e5w];cases hb:back j with
   |some i=>
    have:=hE4.ltO i b ((cs hb).2.2.1.1 hl) ((os hb).1 ho);rw[e4B]at this;exact this
   |none=>
    have:=hE.ltO j b ((cn hb).2.2.1.1 hl) ((on hb).1 ho);exact⟨this.1,cA this.2 sz⟩
  ·rw[e5H];cases hb:back j with
   |some i=>exactλhh=>hE4.hid i b ((cs hb).2.2.1.1 hl) ((os hb).1 ho) (by rw[e4H];exact .inl hh)
   |none=>exact hE.hid j b ((cn hb).2.2.1.1 hl) ((on hb).1 ho)
  ·rw[e5H]at hb;rw[e5w];exact cA (hE.hlt b hb) sz
 exact⟨v,E5,_,_,_,rfl,by rw[e5w];exact hw4,by omega,hE5ok,Sf carry hv4,hevo5,hK⟩
theorem T6{P:Program}{call:CallSem}(hcall:Bb P call){g:FuncId}(hfn:∃fn,P.funcs[g]?=some fn/\fn.body.isSome=true/\(fn.name == "runtime.NumGoroutine")=false)(a:List AV)(r:CR)
 (h:call g a [] 0 (H0 r)):∃C:Ctr,GoodC P g C/\C a=some ⟨r,λk=>k r.res⟩:=by
 refine⟨λargs=>@ite _ (args=a) (Classical.propDecidable _) (some ⟨r,λk=>k r.res⟩) none,Vu hcall hfn (λargs r' hC k hk=>?_) λargs r' _ hC _=>?_,by simp⟩
 ·split at hC
  ·cases hC;exact hk
  ·cases hC
 split at hC
 ·rename_i he;cases hC;rw[he];exact h
 ·cases hC
theorem Xw{P:Program}{call:CallSem}(hcall:Bb P call){g:FuncId}(a:List AK)(r:List (Bool×Ty))(need:AK.dens a->Prop)(f:AK.dens a->Ib r)
 (hfn:∃fn,P.funcs[g]?=some fn/\fn.body.isSome=true/\(fn.name == "runtime.NumGoroutine")=false)
 (h:∀y,need y->call g (G4 a y) [] 0 (H0 ⟨none,none,[],Fu r (f y)⟩)):GoodC P g (fnC a r need f):=by
 refine⟨hfn,λargs cg hC k hk=>?_,λargs cr gen hC hn w F0 vs hF hsz hrd=>?_⟩
 ·unfold fnC at hC;split at hC
  ·rename_i y hy;cases hC;simp only at hk;split at hk
   ·exact hk _ rfl
   ·exact hk
  ·cases hC
 unfold fnC at hC;split at hC
 ·rename_i y hy;cases hC;obtain⟨C,hgood,hCa⟩:=T6 hcall hfn _ _ (h y hn);obtain⟨e,hall⟩:=Hx (E:=Env.base w F0) a args y hy;exact hgood.calls _ _ _ hCa trivial w F0 vs hF (hsz.trans e.symm) (λi v x hv hx=>hall hrd i v x hv hx vs.toList (λi u hu=>by simpa using hu) (by simpa using hsz))
 ·cases hC
theorem Af{P:Program}{cx:Ctx}(hcx:Ai P cx){sem:CallSem}(hsem:Bb P sem):Bb P (Ba cx P sem):=Zt hcx (Aer hcx) hsem
theorem Bl{P:Program}:Bb P (λ_ _ _ _ _=>False):=⟨λ_ _ _ _ _ h=>h.elim,λ_ _ _ _ _ h=>h.elim⟩
end Go.Sx
namespace Go.Sx
open Go.RowKit
def Kd(g0:FuncId)(a b:CallSem):CallSem:=λg args H n K=>bif Nat.beq g g0 then a g args H n K else b g args H n K
theorem Da{P:Program}{g0:FuncId}{a b:CallSem}(ha:Bb P a)(hb:Bb P b):Bb P (Kd g0 a b):=by
 refine⟨λg args H n K h=>?_,λid args H n K h=>?_⟩
 ·unfold Kd at h;cases hg:Nat.beq g g0 with
  |true=>rw[hg]at h;exact ha.1 g args H n K h
  |false=>rw[hg]at h;exact hb.1 g args H n K h
 ·unfold Kd at h;cases hg:Nat.beq 0 g0 with
  |true=>rw[hg]at h;exact ha.2 id args H n K h
  |false=>rw[hg]at h;exact hb.2 id args H n K h
end Go.Sx
