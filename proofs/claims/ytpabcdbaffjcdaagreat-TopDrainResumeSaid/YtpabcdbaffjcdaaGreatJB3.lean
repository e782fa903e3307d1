/- Symbolic steps. -/
import Derived.Test.YtpabcdbaffjcdaaGreatJB2
set_option linter.unusedSimpArgs false
set_option linter.unusedVariables false
set_option maxRecDepth 100000
namespace Go.Sx
open Go.RowKit
section
variable {P:Program}{cx:Ctx}{E:Env}{a:Act}{e:Operand->AV}{H:List Ob}{n:Nat}{r:Res}
 {dst:Option Tmp}{ty:TypeId}{pos:String}{after:Array Go.Edge}{guard:Option (Nat×Bool)}{wn:Nat->Prop}{K:Act->World->Prop}{Q:Exit->Act->World->Prop}{ro:Option Nat}
theorem J6{id:Nat}{hd:Hdr}{ob:Ob}{arr':Array Value}(hr:Ready E n 0)(hn:r.news=[])(hk:r.kill=none)(hst:r.st=some (id,ob))(hW:E.W id)(hρ:E.ρ id=some hd)(hd':Nat->Option Hdr):Step E n r (E.w.setRow hd.blk arr') hd':=by
 have hlt:=hr.lt id hd (hr.wl id hW) hρ;refine⟨⟨rfl,rfl,rfl,by simp,λb hb=>setRow_other _ _ _ _ (by omega)⟩,λb hb hne=>setRow_other _ _ _ _ (λe=>hne id hW (.inr (by rw[hst];rfl)) (.inl ⟨hd,hρ,e.symm⟩)), ?_, ?_, ?_, ?_⟩
 ·intro j h hj;rw[hn]at hj;simp at hj
 ·intro j j' h h' hj;rw[hn]at hj;simp at hj
 ·intro i hi;rw[hk]at hi;cases hi
 ·intro p hp;rw[hst]at hp;cases hp;exact hW
theorem getElem?_spliced {arr:Array Value} {us:List Value} {o i:Nat} (h:o+us.length<=arr.size):((arr.toList.take o++us++arr.toList.drop (o+us.length)).toArray)[i]?=if o<=i/\i<o+us.length then us[i-o]? else arr[i]?:=by
 have:=Ey (l:=arr.toList) (m:=us) (n:=o) (i:=i) (by simpa using h);rw[Hc _ _ _ (by simpa using h)]at this;simpa using this
theorem Zk(t:Ty)(xs:List t.den)(row:Nat)(y:t.den)(hrow:row<xs.length)(j:Nat):(flat t (xs.set row y))[j]?=if row*t.size<=j/\j<row*t.size+t.size then(enc t y)[j-row*t.size]? else(flat t xs)[j]?:=by
 have h1:xs.set row y=xs.take row++y::xs.drop (row+1):=by rw[List.set_eq_take_append_cons_drop,aP hrow]
 have h2:xs=xs.take row++xs[row]::xs.drop (row+1):=by simp
 have h3:flat t (xs.set row y)=flat t (xs.take row)++(enc t y++flat t (xs.drop (row+1))):=by rw[h1,Cv];simp only[flat,fB]
 have h4:flat t xs=flat t (xs.take row)++(enc t xs[row]++flat t (xs.drop (row+1))):=by
  conv=>lhs;rw[h2]
  rw[Cv];simp only[flat,fB]
 have hl:(flat t (xs.take row)).length=row*t.size:=by rw[Az,bP,eQ (by omega)]
 rw[h3,h4];have l1:=Aw t y;have l2:=Aw t xs[row];generalize flat t (xs.take row)=A at hl ⊢;generalize flat t (xs.drop (row+1))=B;generalize enc t y=Y at l1 ⊢;generalize enc t xs[row]=Z at l2 ⊢;rw[<-hl,<-l1];by_cases hj:j<A.length
 ·rw[aL (by omega),bX hj,bX hj]
 ·rw[cD (l₁:=A) (l₂:=Y++B) (by omega),cD (l₁:=A) (l₂:=Z++B) (by omega)];by_cases hj2:j<A.length+Y.length
  ·rw[aP (by omega),bX (by omega)]
  ·rw[aL (by omega),cD (l₁:=Y) (by omega),cD (l₁:=Z) (by omega),l1,l2]
theorem Ace{id id2 off:Nat}{hd:Hdr}{cs vs:List AV}{ob:Ob}{v:Value}{x:AV}{arr:Array Value}{el:TypeId}{q g:Option Prop}(hr:Ready E n 1)(hA:∃N,∀id,E.A id->id<N)(hL:∀id,E.A id->Ac H id≠.dead->E.L id)(hH:∀id,E.L id->Ac H id≠.dead->OkOb E id (Ac H id))
 (hW2:E.W id2)(hW:E.W id)(hρ:E.ρ id=some hd)(hob:Ac H id=.cells cs)(hb:E.w.heap[hd.blk]?=some (.cells arr el (0,0)))(hcl:CellL E arr.toList cs)
 (hx:RdA E v x)(hpr:Oj H x=some (id2,ob))(hvs:cellsOf x=some vs)(hle:off+vs.length<=cs.length)
 {K:World->Prop}(hK:∀E',Ext E n ⟨q,g,.any,[ob],some id2,some (id,.cells (splice cs off [.own n])),[]⟩ wn E'->K E'.w):
 K (E.w.setRow hd.blk ((arr.toList.take off++v.cells.toList++arr.toList.drop (off+v.cells.toList.length)).toArray)):=by
 unfold Oj at hpr;split at hpr
 ·rename_i id3 k lo len;split at hpr
  ·rename_i t xs hob2;split at hpr
   ·rename_i hk;simp only[aU,bG]at hpr;obtain⟨rfl,rfl⟩:=hpr;have hk':k=t.size:=bB hk;subst hk';simp only[cellsOf,aU]at hvs;subst hvs;have hle':off+1<=cs.length:=hle;obtain⟨hA2,h1,hv⟩:=hx.ownp_inv;have hne2:Ac H id3≠.dead:=by rw[hob2];simp
    have hl2:=hL id3 hA2 hne2;have hv:=hv hl2;have hrow:RowsAt E t xs (E.ρ id3):=by
     have:=hH id3 hl2 hne2;rw[hob2]at this;exact this
    have hidne:id≠id3:=by
     rintro rfl;rw[hob]at hob2;cases hob2
    have hl:=hr.wl id hW;have hlt:=hr.lt id hd hl hρ;have hvc:v.cells.toList=[v]:=by
     rcases hρ3:E.ρ id3 with _|h3
     ·rw[hρ3]at hv;obtain⟨_,a,rfl⟩:=hv;rfl
     ·rw[hρ3]at hv;obtain⟨_,o,c,rfl,_⟩:=hv;rfl
    obtain⟨hd3,hown,hrow3,hblk⟩:∃hd3:Option Hdr,P1 hd3 v/\RowsAt E t ((xs.drop lo).take len) hd3/\∀h,hd3=some h->∃h',E.ρ id3=some h'/\h'.blk=h.blk:=by
     rcases hρ3:E.ρ id3 with _|h3
     ·rw[hρ3]at hv hrow;obtain⟨rfl,a,rfl⟩:=hv;exact⟨none,⟨a,rfl⟩,by show List.take 0 _=[];simp,λh hh=>by cases hh⟩
     ·rw[hρ3]at hv hrow;obtain⟨g0,o,c,rfl,g1,g2,g3⟩:=hv;obtain⟨k1,k2,k3,k4,arr3,el3,k5,k6,k7⟩:=hrow;refine⟨some ⟨h3.blk,o,len,c⟩,rfl,⟨?_,g1,by show len<=lim;omega,by show c<=maxLen;omega,arr3,el3,k5, ?_,λj p hp=>?_⟩,λh hh=>⟨h3,rfl,by cases hh;rfl⟩⟩
      ·rw[bP,cI];show len=_;omega
      ·show o+c*t.size<=arr3.size;rcases g3 with rfl|⟨rfl,g3⟩
       ·have:lo*t.size+c*t.size<=h3.cap*t.size:=by
         rw[<-cS];exact cY _ (by omega)
        omega
       ·omega
      ·have hj:=(aW.1 hp).1;rw[Az,bP,cI]at hj;have hj2:j<len*t.size:=cA hj (cY _ (Nat.min_le_left _ _));have hc0:c≠0:=by
        rintro rfl;have:len=0:=by omega
        subst this;simp at hj2
       rw[Dx,Dw,cQ hj2,cK]at hp;obtain⟨u,u1,u2⟩:=k7 _ p hp;refine⟨u, ?_,u2⟩;show arr3[o+j]?=some u;rcases g3 with rfl|⟨rfl,_⟩
       ·rw[<-u1];congr 1;omega
       ·exact aT rfl hc0
    have hs:Step E n ⟨q,g,.any,[.rows t ((xs.drop lo).take len)],some id3,some (id,.cells (splice cs off [.own n])),[]⟩ (E.w.setRow hd.blk ((arr.toList.take off++v.cells.toList++arr.toList.drop (off+v.cells.toList.length)).toArray)) (λ_=>hd3):=by
     refine⟨⟨rfl,rfl,rfl,by simp,λb hb=>setRow_other _ _ _ _ (by omega)⟩,λb hb hne=>setRow_other _ _ _ _ (λe=>hne id hW (.inr rfl) (.inl ⟨hd,hρ,e.symm⟩)), ?_, ?_, ?_, ?_⟩
     ·intro j h hj hh;obtain⟨h',g1,g2⟩:=hblk h hh;have:=hr.lt id3 h' hl2 g1;refine⟨?_,.inr ⟨id3,hW2,rfl,.inl ⟨h',g1,g2⟩⟩⟩;rw[<-g2];simpa using this.2
     ·intro j j' h h' hj hj' _ _ hne;simp at hj hj';omega
     ·intro i hi;cases hi;exact hW2
     ·intro p hp;cases hp;exact hW
    have hn':∀w',(E.ext n (List.length [Ob.rows t ((xs.drop lo).take len)]) (some id3) [] wn w' (λ_=>hd3)).ρ n=hd3:=λw'=>by simp[Env.ext]
    obtain⟨N,hN⟩:=hA;refine hK _ (hs.ext (wn:=wn) (by simpa using hr) ⟨N,hN⟩ (λhevo j ob hj=>?_) (λhevo i ob hi=>?_))
    ·match j,hj with
     |0,hj=>
      cases hj;show RowsAt _ t _ _;rw[dH,hn'];refine hrow3.mono (hevo 0).fz λh hh=>?_
      obtain⟨h',g1,g2⟩:=hblk h hh;rw[<-g2];refine setRow_other _ _ _ _ λe=>?_
      exact hr.inj id id3 hd h' hl hl2 hρ g1 hidne e.symm
    ·cases hi;have hidn:¬(n<=id/\id<n+1):=λ⟨h1,h2⟩=>hr.fresh id h1 h2 (hr.sub id hl)
     have hcu:CellL (E.ext n (List.length [Ob.rows t ((xs.drop lo).take len)]) (some id3) [] wn (E.w.setRow hd.blk ((arr.toList.take off++v.cells.toList++arr.toList.drop (off+v.cells.toList.length)).toArray)) (λ_=>hd3)) v.cells.toList [.own n]:=by
      rw[hvc];refine⟨rfl,λi u y hu hy=>?_⟩
      match i,hu,hy with
      |0,hu,hy=>
       cases hu;cases hy;refine⟨h1,.own _ n (.inr ⟨bA _,by simp⟩) h1 λ_=>?_⟩;rw[<-hvc,hn'];exact hown
     have hco:CellL (E.ext n (List.length [Ob.rows t ((xs.drop lo).take len)]) (some id3) [] wn (E.w.setRow hd.blk ((arr.toList.take off++v.cells.toList++arr.toList.drop (off+v.cells.toList.length)).toArray)) (λ_=>hd3)) arr.toList cs:=
      ⟨hcl.1,λi u y hu hy=>⟨(hcl.2 i u y hu hy).1,(hcl.2 i u y hu hy).2.mono (hevo N) hN⟩⟩
     have hcl':=hco.splice hcu (off:=off) hle';have hll:=hcl.1;refine⟨hd,by simp only[Env.ext,List.length_cons,List.length_nil];rw[aL hidn];exact hρ,_,el,setRow_heap _ _ arr _ el _ hb, ?_,λi u y hu hy=>?_⟩
     ·rw[Fs (by simpa using hle'),hvc];simp only[dZ,bD,bP,cI,cX,List.length_cons,List.length_nil]at hll ⊢;omega
     ·refine hcl'.2 i u y ?_ hy;rw[Hc _ _ _ (by rw[hvc,hll];exact hle')];simpa using hu
   ·cases hpr
  ·cases hpr
 ·cases hpr
theorem Agp{t:Ty}:∀{x:t.den},t.flat=true->∀{i:Nat}{p:PV},(enc t x)[i]?=some p->(∃k n,p=.int k n)\/(∃b,p=.bool b)\/∃s,p=.str s:=by
 induction t with
 |int k=>
  intro x _ i p hp;have hm:=cR hp;simp[enc]at hm;exact .inl ⟨_,_,hm⟩
 |bool=>
  intro x _ i p hp;have hm:=cR hp;simp[enc]at hm;exact .inr (.inl ⟨_,hm⟩)
 |str=>
  intro x _ i p hp;have hm:=cR hp;simp[enc]at hm;exact .inr (.inr ⟨_,hm⟩)
 |pair a b iha ihb=>
  intro x h i p hp;simp only[Ty.flat,aS]at h;simp only[enc,eA]at hp;split at hp
  ·exact iha h.1 hp
  ·exact ihb h.2 hp
 |sl t ih=>intro x h;simp[Ty.flat]at h
 |expr=>intro x h;simp[Ty.flat]at h
 |fn=>intro x h;simp[Ty.flat]at h
theorem Ael{t:Ty}{xs:List t.den}(h:t.flat=true){w w':World}{F F':Nat->Nat->Prop}{j:Nat}{p:PV}{v:Value}(hp:(flat t xs)[j]?=some p)(hv:RdP w F v p):RdP w' F' v p:=by
 have hm:=cR hp;obtain⟨x,_,hx⟩:=List.mem_flatMap.1 hm;obtain⟨i,hi⟩:=fP.1 hx;rcases Agp h hi with⟨k,m,rfl⟩|⟨b,rfl⟩|⟨b,rfl⟩
 ·cases hv;exact .int _ _
 ·cases hv;exact .bool _
 ·cases hv;exact .str _
theorem Acf{id j m:Nat}{gt:Ty}{xss:List (List gt.den)}{zs:List gt.den}{hd:Hdr}{v:Value}{arr:Array Value}{el:TypeId}{q g:Option Prop}(hr:Ready E n 0)(hA:∃N,∀id,E.A id->id<N)
 (hWj:E.W j)(hW:E.W id)(hid:id≠j)(hρ:E.ρ id=some hd)(hg:GridAt E gt m xss hd (E.K id))(hb:E.w.heap[hd.blk]?=some (.cells arr el (0,0)))(hm:1<=m)
 (hrow:RowsAt E gt zs (E.ρ j))(hv:P1 (E.ρ j) v)(hone:v.oneCell'=true)
 {K:World->Prop}(hK:∀E',Ext E n ⟨q,g,.any,[],some j,some (id,.grid gt (m-1) (xss++[zs])),[]⟩ wn E'->K E'.w):
 K (E.w.setRow hd.blk ((arr.toList.take (hd.off+xss.length)++v.cells.toList++arr.toList.drop (hd.off+xss.length+v.cells.toList.length)).toArray)):=by
 obtain⟨N,hN⟩:=hA;have hl:=hr.wl id hW;have hlj:=hr.wl j hWj;have ha:=hr.sub id hl;have hvc:v.cells.toList=[v]:=by cases v<;>simp_all [Value.cells,Value.oneCell']
 rw[hvc];have hlt:=hr.lt id hd hl hρ;obtain⟨arr2,el2,b1,b2,b3,b4⟩:=hg.head;rw[hb]at b1;cases b1;have hfit:hd.off+xss.length + [v].length<=arr.size:=by
  have:=hg.cap;have:=hg.len;simp only[List.length_cons,List.length_nil];omega
 obtain⟨arr',harr,hasz,hget⟩:∃arr':Array Value,(arr.toList.take (hd.off+xss.length)++[v]++arr.toList.drop (hd.off+xss.length + [v].length)).toArray=arr'/\arr'.size=arr.size/\
  ∀k,arr'[k]?=if k=hd.off+xss.length then some v else arr[k]?:=by
  refine⟨_,rfl, ?_,λk=>?_⟩
  ·simp only[dZ,bD,bP,cI,cX,List.length_cons,List.length_nil]at hfit ⊢;omega
  ·rw[getElem?_spliced hfit];by_cases hk:k=hd.off+xss.length
   ·subst hk;simp
   ·rw[aL hk,aL (by simp only[List.length_cons,List.length_nil];omega)]
 rw[harr];let kid:Nat->Option (Option Hdr):=λi=>if i=xss.length then some (E.ρ j)else E.K id i
 let E':Env:={ E with
  w:=E.w.setRow hd.blk arr'
  L:=λi=>E.L i/\i≠j
  W:=λi=>E.W i/\i≠j
  K:=λi=>if i=id then kid else E.K i }
 have hKid:E'.K id=kid:=by show(if id=id then kid else E.K id)=kid;rw[aP rfl]
 have hKo:∀i,i≠id->E'.K i=E.K i:=λi hi=>by show(if i=id then kid else E.K i)=E.K i;rw[aL hi]
 have own:∀i b,E'.Own i b->E.Own i b\/(i=id/\E.Own j b):=by
  intro i b ho;rcases ho with⟨h,hh,hb⟩|⟨c,h,hh,hb⟩
  ·exact .inl (.inl ⟨h,hh,hb⟩)
  ·by_cases hi:i=id
   ·subst hi;rw[hKid]at hh;simp only[kid]at hh;split at hh
    ·exact .inr ⟨rfl,.inl ⟨h,by simpa using hh,hb⟩⟩
    ·exact .inl (.inr ⟨c,h,hh,hb⟩)
   ·rw[hKo i hi]at hh;exact .inl (.inr ⟨c,h,hh,hb⟩)
 have heap:∀b,b≠hd.blk->E'.w.heap[b]?=E.w.heap[b]?:=λb hb=>setRow_other _ _ _ _ hb
 have hsz:E'.w.heap.size=E.w.heap.size:=by simp[E']
 have hevo:∀n0,Evo n0 E E':=by
  intro n0;refine⟨rfl,rfl,rfl,⟨rfl,rfl,rfl,by rw[hsz];exact bA _,λb hb=>heap b (by omega)⟩,λ_ _ h=>h,λi _ _ hl=>⟨hl.1,rfl⟩,λi _ _ hl c o ho=>?_,λb hb=>⟨⟨by rw[hsz];exact hb.1,λi hW ho=>?_,hb.2.2⟩,heap b λe=>?_⟩,rfl,λb hb=>heap b λe=>hr.hid id b hl (.inl ⟨hd,hρ,e.symm⟩) hb⟩
  ·by_cases hi:i=id
   ·subst hi;rw[hKid];simp only[kid];rw[aL]
    ·exact ho
    ·rintro rfl;rw[hg.past _ (bA _)]at ho;cases ho
   ·rw[hKo i hi];exact ho
  ·rcases own i b ho with h|⟨rfl,h⟩
   ·exact hb.2.1 i hW.1 h
   ·exact hb.2.1 j hWj h
  ·exact hb.2.1 id hW (.inl ⟨hd,hρ,e.symm⟩)
 have hx:Ext E n ⟨q,g,.any,[],some j,some (id,.grid gt (m-1) (xss++[zs])),[]⟩ wn E':=by
  refine⟨hevo,λi=>?_,λi=>?_,λi=>?_, ?_, ?_, ?_,λk ob hk=>(by simp at hk), ?_, ?_, ?_⟩
  ·show(E.L i/\i≠j)<->_;simp only[List.length_nil,dH,ne_eq,aU];constructor
   ·rintro⟨h1,h2⟩;exact .inl ⟨h1,λe=>h2 e.symm⟩
   ·rintro(⟨h1,h2⟩|h);exact⟨h1,λe=>h2 e.symm⟩;omega
  ·show(E.W i/\i≠j)<->_;simp only[List.length_nil,dH,ne_eq,aU,dB,not_false_eq_true,and_true];constructor
   ·rintro⟨h1,h2⟩;exact .inl ⟨h1,λe=>h2 e.symm⟩
   ·rintro(⟨h1,h2⟩|h);exact⟨h1,λe=>h2 e.symm⟩;omega
  ·show E.A i<->_;simp only[List.length_nil,dH];constructor
   ·exact .inl
   ·rintro(h|h);exact h;omega
  ·intro i i' b hl1 hl2 ho1 ho2;have hl1:E.L i/\i≠j:=hl1;have hl2:E.L i'/\i'≠j:=hl2;rcases own i b ho1 with h1|⟨rfl,h1⟩<;>rcases own i' b ho2 with h2|⟨rfl,h2⟩
   ·exact hr.injO i i' b hl1.1 hl2.1 h1 h2
   ·exact aT (hr.injO i j b hl1.1 hlj h1 h2) hl1.2
   ·exact aT (hr.injO i' j b hl2.1 hlj h2 h1) hl2.2
   ·rfl
  ·intro i b hl1 ho1;have hl1:E.L i/\i≠j:=hl1;rw[show E'.B=E.B from rfl,hsz];rcases own i b ho1 with h1|⟨rfl,h1⟩
   ·exact hr.ltO i b hl1.1 h1
   ·exact hr.ltO j b hlj h1
  ·intro i b hl1 ho1;have hl1:E.L i/\i≠j:=hl1;rcases own i b ho1 with h1|⟨rfl,h1⟩
   ·exact hr.hid i b hl1.1 h1
   ·exact hr.hid j b hlj h1
  ·intro i ob hi;cases hi;refine⟨hd,hρ, ?_⟩;rw[hKid];have kin:∀i,i<xss.length->kid i=E.K id i:=λi hi=>by simp only[kid];rw[aL (by omega)]
   have kat:kid xss.length=some (E.ρ j):=by simp only[kid];rw[aP trivial]
   have hblkj:∀h',E.ρ j=some h'->h'.blk≠hd.blk:=λh' hh=>hr.inj j id h' hd hlj hl hh hρ (Ne.symm hid)
   refine⟨by simp;have:=hg.len;omega,hg.cap,hg.lim,hg.max,⟨arr',el,setRow_heap _ _ arr _ el _ hb,by rw[hasz];exact b2,λi hi=>?_,λi hi1 hi2=>?_⟩,λi xs hi=>?_,λi hi=>?_,λi h' hi=>?_,λi1 i2 h1 h2 hh1 hh2 hne=>?_⟩
   ·rw[hget];by_cases he:i=xss.length
    ·subst he;exact⟨E.ρ j,v,kat,by rw[aP rfl],hv⟩
    ·have hi':i<xss.length:=by simp at hi;omega
     obtain⟨o,u,c1,c2,c3⟩:=b3 i hi';exact⟨o,u,(kin i hi').trans c1,by rw[aL (by omega)];exact c2,c3⟩
   ·simp only[bD,List.length_cons,List.length_nil]at hi1 hi2;obtain⟨ba,c⟩:=b4 i (by omega) (by omega);exact⟨ba,by rw[hget,aL (by omega)];exact c⟩
   ·by_cases he:i=xss.length
    ·subst he;have:xs=zs:=by simpa using hi.symm
     subst this;refine⟨E.ρ j,kat,hrow.mono (hevo 0).fz λh' hh=>heap _ (hblkj h' hh)⟩
    ·have hi':i<xss.length:=by
      have:=(aW.1 hi).1;simp at this;omega
     rw[bX hi']at hi;obtain⟨o,c1,c2⟩:=hg.rows i xs hi;refine⟨o,(kin i hi').trans c1,c2.mono (hevo 0).fz λh' hh=>heap _ ?_⟩;subst hh;exact hg.apart i h' c1
   ·simp only[bD,List.length_cons,List.length_nil]at hi;simp only[kid];rw[aL (by omega)];exact hg.past i (by omega)
   ·simp only[kid]at hi;split at hi
    ·exact hblkj h' (by simpa using hi)
    ·exact hg.apart i h' hi
   ·simp only[kid]at hh1 hh2;split at hh1<;>split at hh2
    ·omega
    ·intro e;have:=hr.injO j id h2.blk hlj hl (.inl ⟨h1,by simpa using hh1,e⟩) (.inr ⟨i2,h2,hh2,rfl⟩);exact hid this.symm
    ·intro e;have:=hr.injO j id h1.blk hlj hl (.inl ⟨h2,by simpa using hh2,e.symm⟩) (.inr ⟨i1,h1,hh1,rfl⟩);exact hid this.symm
    ·exact hg.two i1 i2 h1 h2 hh1 hh2 hne
  ·intro i b hl1 ho1 hk hs;have hne:i≠id:=λe=>hs _ rfl e.symm
   refine heap b λe=>?_
   subst e;exact hne (hr.injO i id _ hl1 hl ho1 (.inl ⟨hd,hρ,rfl⟩))
  ·intro i ob hl1 hk hs hok;have hne:i≠id:=λe=>hs _ rfl e.symm
   refine OkOb.mono (hevo N) hN (hr.sub i hl1) ⟨hl1,λe=>hk (by rw[e])⟩ (hKo i hne) (λb ho1=>heap b λe=>?_) hok;subst e;exact hne (hr.injO i id _ hl1 hl ho1 (.inl ⟨hd,hρ,rfl⟩))
 exact hK E' hx
theorem Acg{id i j m:Nat}{gt:Ty}{xss:List (List gt.den)}{y:gt.den}{hd h':Hdr}{v:Value}{arr:Array Value}{el:TypeId}{q g:Option Prop}(hr:Ready E n 0)(hA:∃N,∀id,E.A id->id<N)
 (hW:E.W id)(hρ:E.ρ id=some hd)(hg:GridAt E gt m xss hd (E.K id))(hK':E.K id i=some (some h'))(hj:j<h'.len)(hb:E.w.heap[h'.blk]?=some (.cells arr el (0,0)))(hsz1:gt.size=1)
 (hv:∃p,enc gt y=[p]/\∀(w:World)(F:Nat->Nat->Prop),RdP w F v p)(hone:v.oneCell'=true)
 {K:World->Prop}(hK:∀E',Ext E n ⟨q,g,.any,[],none,some (id,.grid gt m (xss.set i ((xss.getD i []).set j y))),[]⟩ wn E'->K E'.w):
 K (E.w.setRow h'.blk ((arr.toList.take (h'.off+j)++v.cells.toList++arr.toList.drop (h'.off+j+v.cells.toList.length)).toArray)):=by
 have hl:=hr.wl id hW;have hvc:v.cells.toList=[v]:=by cases v<;>simp_all [Value.cells,Value.oneCell']
 rw[hvc];have hown:E.Own id h'.blk:=.inr ⟨i,h',hK',rfl⟩;have hlt:=hr.ltO id _ hl hown;have hi:i<xss.length:=by
  rcases cN i xss.length with h|h
  ·exact h
  ·rw[hg.past i h]at hK';cases hK'
 obtain⟨o,k1,k2⟩:=hg.rows i _ (aR hi);rw[hK']at k1;cases k1;obtain⟨g1,g2,g3,g3',arr2,el2,g4,g5,g6⟩:=k2;rw[hb]at g4;cases g4;rw[hsz1]at g5;have hfit:h'.off+j + [v].length<=arr.size:=by simp only[List.length_cons,List.length_nil];omega
 obtain⟨arr',harr,hasz,hget⟩:∃arr':Array Value,(arr.toList.take (h'.off+j)++[v]++arr.toList.drop (h'.off+j + [v].length)).toArray=arr'/\arr'.size=arr.size/\
  ∀k,arr'[k]?=if k=h'.off+j then some v else arr[k]?:=by
  refine⟨_,rfl, ?_,λk=>?_⟩
  ·simp only[dZ,bD,bP,cI,cX,List.length_cons,List.length_nil]at hfit ⊢;omega
  ·rw[getElem?_spliced hfit];by_cases hk:k=h'.off+j
   ·subst hk;simp
   ·rw[aL hk,aL (by simp only[List.length_cons,List.length_nil];omega)]
 rw[harr];have hs:Step E n ⟨q,g,.any,[],none,some (id,.grid gt m (xss.set i ((xss.getD i []).set j y))),[]⟩ (E.w.setRow h'.blk arr') (λ_=>none):=by
  refine⟨⟨rfl,rfl,rfl,by simp,λb hb=>setRow_other _ _ _ _ (by omega)⟩,λb hb hne=>setRow_other _ _ _ _ (λe=>hne id hW (.inr rfl) (e ▸ hown)), ?_, ?_,λi hi=>(by cases hi),λp hp=>(by cases hp;exact hW)⟩
  ·intro j h hj;simp at hj
  ·intro j j' h h' hj;simp at hj
 have hx:=hs.ext (wn:=wn) (by simpa using hr) hA (λ_ j ob hj=>by simp at hj) (λhevo i' ob hi'=>by
  cases hi';have heap:∀b,b≠h'.blk->(E.w.setRow h'.blk arr').heap[b]?=E.w.heap[b]?:=λb hb=>setRow_other _ _ _ _ hb
  have hρ2:(E.ext n (List.length ([]:List Ob)) none [] wn (E.w.setRow h'.blk arr') (λ_=>none)).ρ id=some hd:=by
   simp only[Env.ext];rw[aL (by simp)];exact hρ
  have hK2:(E.ext n (List.length ([]:List Ob)) none [] wn (E.w.setRow h'.blk arr') (λ_=>none)).K id=E.K id:=by
   simp only[Env.ext];rw[aL (by simp)]
  refine⟨hd,hρ2, ?_⟩;rw[hK2];obtain⟨arr3,el3,b1,b2,b3,b4⟩:=hg.head;have hlen:(xss.set i ((xss.getD i []).set j y)).length=xss.length:=cE;refine⟨by rw[hlen];exact hg.len,hg.cap,hg.lim,hg.max,⟨arr3,el3,(heap _ (Ne.symm (hg.apart i h' hK'))).trans b1,b2,by rw[hlen];exact b3,by rw[hlen];exact b4⟩,λi2 xs hx2=>?_,by rw[hlen];exact hg.past,hg.apart,hg.two⟩;by_cases he:i2=i
  ·subst he;rw[List.getElem?_set_self hi]at hx2;cases hx2;refine⟨some h',hK', ?_⟩;have hgd:xss.getD i2 []=xss[i2]:=by simp[List.getD,hi]
   rw[hgd];refine⟨by simp[g1],g2,g3,g3',arr',el,setRow_heap _ _ arr _ el _ hb,by rw[hasz,hsz1];exact g5,λc p hp=>?_⟩;rw[hget];rw[Zk gt _ j y (by rw[<-g1];exact hj),hsz1,fX]at hp;by_cases hc:c=j
   ·subst hc;rw[aP ⟨bA _,by omega⟩,fO]at hp;obtain⟨p',e1,e2⟩:=hv;rw[e1]at hp;cases hp;exact⟨v,by rw[aP rfl],e2 _ _⟩
   ·rw[aL (by omega)]at hp;obtain⟨u,u1,u2⟩:=g6 c p hp;exact⟨u,by rw[aL (by omega)];exact u1,u2.mono (hevo 0).fz⟩
  ·rw[List.getElem?_set_ne (Ne.symm he)]at hx2;obtain⟨o,c1,c2⟩:=hg.rows i2 xs hx2;refine⟨o,c1,c2.mono (hevo 0).fz λh2 hh=>heap _ ?_⟩;subst hh;exact hg.two i2 i h2 h' c1 hK' he)
 exact hK _ hx
theorem Am8{t:TypeId}{p x:Operand}(hr:Ready E n r.news.length)(hA:∃N,∀id,E.A id->id<N)(hL:∀id,E.A id->Ac H id≠.dead->E.L id)(hH:∀id,E.L id->Ac H id≠.dead->OkOb E id (Ac H id))
 (hWk:∀id,r.kill=some id->E.W id)(hW:∀q,r.st=some q->E.W q.1)(hp:RdA E (a.eval p) (e p))(hx:RdA E (a.eval x) (e x))(hn:A7 r.need)
 (h:evOp cx P e H n ⟨dst,.store t p x,ty,pos,after,guard⟩=some r)
 (hK:∀E' v,Ext E n r wn E'->A7 r.given->RdA E' v r.val->K (a.put dst v) E'.w):(⟨dst,.store t p x,ty,pos,after,guard⟩:Oper).wpI ro P a E.w K Q:=by
 simp only[evOp]at h;split at h
 ·cases h
 ·rename_i vs hvs;have hc:=Iu hx hvs;split at h
  ·rename_i hsz;have hsz':vs.length=Bk P t:=bB hsz;have hne0:0<vs.length\/vs.length=0:=by omega
   have run:∀(b o:Nat)(arr:Array Value)(el:TypeId),a.eval p=.pointer (some ⟨b,o,none⟩)->E.w.heap[b]?=some (.cells arr el (0,0))->o+vs.length<=arr.size->(P.info? t).isSome=true->
    (execOp a.eval ⟨dst,.store t p x,ty,pos,after,guard⟩).run P E.w=.ok .skip (E.w.setRow b ((arr.toList.take o++(a.eval x).cells.toList++arr.toList.drop (o+(a.eval x).cells.toList.length)).toArray)):=by
    intro b o arr el hv hb ho hi;obtain⟨info,hi⟩:=fG.1 hi;have h1:(a.eval x).cells.size=info.size:=by
     have:=hc.1;simp only[cX]at this;rw[this,hsz',Bk,hi]
    have hst:=run_storeCells_at P b o el (a.eval x).cells.toList 0 arr E.w hb (by rw[hc.1];simpa using ho) (λu hu=>by
     obtain⟨i,hi⟩:=fP.1 hu;have hlt:i<vs.length:=by rw[<-hc.1];exact(aW.1 hi).1
     exact(hc.2 i u _ hi (aR hlt)).1)
    simp only[dH]at hst;simp only[execOp,hv,Instr.storeAt,Instr.sureAddr,Sem.run_bind,Sem.run_pure,Result.andThen_ok,storeVar,sizeOf,typeInfo,run_program,hi,h1,ne_eq,not_true_eq_false,if_false];simp[hst]
   split at h
   ·cases h
   rename_i info hinfo;have hii:(P.info? t).isSome=true:=by rw[hinfo];rfl
   split at h
   ·rename_i id off hv;rw[hv]at hp;split at h
    ·rename_i cs hob;split at h
     ·rename_i hle;have hle':off+vs.length<=cs.length:=cB hle;have hA':E.A id:=hp.ptr_inv.1;have hne:Ac H id≠.dead:=by rw[hob];simp
      have hl:=hL id hA' hne;have hok:=hH id hl hne;rw[hob]at hok;obtain⟨hd,hρ,arr,el,hb,hasz,hcells⟩:=hok;obtain⟨hd',hρ',hval⟩:=hp.ptr_inv.2.2 hl;rw[hρ]at hρ';cases hρ';have hcl:CellL E arr.toList cs:=⟨by simpa using hasz,λi v y hv hy=>hcells i v y (by simpa using hv) hy⟩;have hrun:=run hd.blk off arr el hval hb (by omega) hii;split at h
      ·rename_i id2 ob hpr;have hr0:=(Option.some.inj h).symm;subst hr0;refine J2 hrun ?_;exact Ace (by simpa using hr) hA hL hH (hWk _ rfl) (hW _ rfl) hρ hob hb hcl hx hpr hvs hle' (λE' h=>hK E' undef h trivial (.any _))
      ·have hr0:=(Option.some.inj h).symm;subst hr0;have hWid:E.W id:=hW _ rfl;refine J2 hrun ?_;have hs:Step E n ⟨none,none,.any,[],none,some (id,.cells (splice cs off vs)),[]⟩ (E.w.setRow hd.blk ((arr.toList.take off++(a.eval x).cells.toList++arr.toList.drop (off+(a.eval x).cells.toList.length)).toArray)) (λ_=>none):=
        J6 hr rfl rfl rfl hWid hρ _
       obtain⟨N,hN⟩:=hA;refine hK _ undef (hs.ext (wn:=wn) hr ⟨N,hN⟩ (λ_ j ob hj=>by simp at hj) (λhevo i ob hi=>?_)) trivial (.any _);cases hi;have hcl':=hcl.splice hc hle';refine⟨hd,by simp only[Env.ext];rw[aL (by simp)];exact hρ,_,el,setRow_heap _ _ arr _ el _ hb, ?_,λi v y hv hy=>?_⟩
       ·have h1:=hc.1;rw[Fs hle'];simp only[dZ,bD,bP,cI,cX]at h1 ⊢;omega
       ·have hv':(splice arr.toList off (a.eval x).cells.toList)[i]?=some v:=by
         rw[Hc _ _ _ (by rw[hc.1];simp;omega)];simpa using hv
        obtain⟨h2,h3⟩:=hcl'.2 i v y hv' hy;exact⟨h2,h3.mono (hevo N) hN⟩
     ·cases h
    ·cases h
   ·rename_i id k row off hv;rw[hv]at hp;split at h
    ·rename_i t' xs hob;split at h
     ·rename_i hcond;simp only[aS]at hcond;have hk:k=t'.size:=bB hcond.1;have hle:off+vs.length<=k:=cB hcond.2;subst hk;split at h
      ·rename_i ps ids hd;split at h
       ·rename_i y hy;split at h
        ·cases h
        ·rename_i hnc;have hr0:=(Option.some.inj h).symm;subst hr0;have hnotin:id ∉ ids:=by simpa using hnc
         have hA':E.A id:=hp.rptr_inv.1;have hne:Ac H id≠.dead:=by rw[hob];simp
         have hl:=hL id hA' hne;have hok:RowsAt E t' xs (E.ρ id):=by
          have:=hH id hl hne;rw[hob]at this;exact this
         obtain⟨hd',hρ,hrow,hval⟩:=hp.rptr_inv.2.2 hl;rw[hρ]at hok;obtain⟨g1,g2,g3,g3',arr,el,g4,g5,g6⟩:=hok;have hWid:E.W id:=hW _ rfl;have hrow':row<xs.length:=by omega
         have hcap:row*t'.size+t'.size<=hd'.cap*t'.size:=by
          have:row*t'.size+t'.size=(row+1)*t'.size:=by rw[cS,gY]
          rw[this];exact cY _ (by omega)
         have hfit:hd'.off+row*t'.size+off+vs.length<=arr.size:=by omega
         have hcl:=hc.1;obtain⟨arr',harr,hasz,hget⟩:∃arr':Array Value,(arr.toList.take (hd'.off+row*t'.size+off)++(a.eval x).cells.toList++arr.toList.drop (hd'.off+row*t'.size+off+(a.eval x).cells.toList.length)).toArray=arr'/\arr'.size=arr.size/\
          ∀j,arr'[j]?=if hd'.off+row*t'.size+off<=j/\j<hd'.off+row*t'.size+off+vs.length then(a.eval x).cells.toList[j-(hd'.off+row*t'.size+off)]? else arr[j]?:=by
          refine⟨_,rfl, ?_,λj=>by rw[getElem?_spliced (by rw[hcl];exact hfit),hcl]⟩;simp only[dZ,bD,bP,cI,cX]at hcl ⊢;omega
         have hrun:=run hd'.blk (hd'.off+row*t'.size+off) arr el hval g4 hfit hii;rw[harr]at hrun;refine J2 hrun ?_;have hs:Step E n ⟨none,none,.any,[],none,some (id,.rows t' (xs.set row y)),ids⟩ (E.w.setRow hd'.blk arr') (λ_=>none):=J6 hr rfl rfl rfl hWid hρ _;have hff:∀b o,FF E ids b o->(E.ext n 0 none ids wn (E.w.setRow hd'.blk arr') (λ_=>none)).Fz b o/\(E.w.setRow hd'.blk arr').cell? ⟨b,o,none⟩=E.w.cell? ⟨b,o,none⟩:=λb o hb=>hs.ff (wn:=wn) hr rfl (λq hq=>by cases hq;exact hnotin) hb
         have hx:=hs.ext (wn:=wn) hr hA (λ_ j ob hj=>by simp at hj) (λhevo i ob hi=>by
          cases hi;show RowsAt _ t' (xs.set row y) _;have hρ2:(E.ext n 0 none ids wn (E.w.setRow hd'.blk arr') (λ_=>none)).ρ id=some hd':=by
           simp only[Env.ext];rw[aL (by omega)];exact hρ
          rw[show(E.ext n (List.length ([]:List Ob)) none ids wn (E.w.setRow hd'.blk arr') (λ_=>none)).ρ id=some hd' from hρ2];have hevo0:=(hevo 0).fz;obtain⟨d1,d2⟩:=Gm (ids':=ids) hL hH hc hd (λ_ h=>h);have hle2:=Ir t' _ y hy;refine⟨by simp[g1],g2,g3,g3',arr',el,setRow_heap _ _ arr _ el _ g4,by rw[hasz];exact g5,λj q hq=>?_⟩;rw[hget];rw[Zk t' xs row y hrow']at hq;by_cases hin:row*t'.size+off<=j/\j<row*t'.size+off+vs.length
          ·rw[aP (by omega)];rw[aP (by omega)]at hq;have hidx:hd'.off+j-(hd'.off+row*t'.size+off)=j-row*t'.size-off:=by omega
           rw[hidx];have hlt:j-row*t'.size-off<(a.eval x).cells.toList.length:=by rw[hcl];omega
           have hu:(a.eval x).cells.toList[j-row*t'.size-off]?=some ((a.eval x).cells.toList[j-row*t'.size-off]'hlt):=aR hlt;have hps:ps[j-row*t'.size-off]?=some (ps[j-row*t'.size-off]'(by omega)):=aR (by omega);have hle3:PV.le (ps[j-row*t'.size-off]'(by omega)) q:=by
            refine hle2.get.2 (j-row*t'.size) _ _ ?_ hq;rw[Ey (by rw[Aw];omega),aP (by omega)];exact hps
           exact⟨_,hu,((d2 _ _ _ hu hps).2.le hle3).mono hff⟩
          ·rw[aL (by omega)];by_cases hin2:row*t'.size<=j/\j<row*t'.size+t'.size
           ·rw[aP hin2]at hq;have henc:(enc t' (xs.getD row (Ab t')))[j-row*t'.size]?=some ((enc t' (xs.getD row (Ab t')))[j-row*t'.size]'(by rw[Aw];omega)):=aR (by rw[Aw];omega);have hold:=Ot t' xs row hrow' (Ab t') _ _ henc;rw[show row*t'.size+(j-row*t'.size)=j by omega]at hold;obtain⟨v,h3,h4⟩:=g6 j _ hold;have hle3:PV.le ((enc t' (xs.getD row (Ab t')))[j-row*t'.size]'(by rw[Aw];omega)) q:=by
             refine hle2.get.2 (j-row*t'.size) _ _ ?_ hq;rw[Ey (by rw[Aw];omega),aL (by omega)];exact henc
            exact⟨v,h3,(h4.le hle3).mono hevo0⟩
           ·rw[aL hin2]at hq;obtain⟨v,h3,h4⟩:=g6 j q hq;exact⟨v,h3,h4.mono hevo0⟩)
         exact hK _ undef hx trivial (.any _)
       ·cases h
      ·cases h
     ·cases h
    ·rename_i gt m xss hob;split at h
     ·rename_i hcond;simp only[aS]at hcond;have hk:=bB hcond.1;have hoff:=bB hcond.2;subst hk;subst hoff;split at h
      ·rename_i j hvx;split at h
       ·rename_i t' xs hobj;split at h
        ·rename_i zs hz;have hr0:=(Option.some.inj h).symm;have hneed:row=xss.length/\1<=m:=by rw[hr0]at hn;exact hn
         obtain⟨rfl,hm⟩:=hneed;have hWj:E.W j:=hWk j (by rw[hr0]);have hWid:E.W id:=hW (id,.grid gt (m-1) (xss++[zs])) (by rw[hr0]);rw[hr0]at hr;subst hr0;have hne:Ac H id≠.dead:=by rw[hob];simp
         have hl:=hL id hp.rptr_inv.1 hne;have hok:=hH id hl hne;rw[hob]at hok;obtain⟨hd,hρ,hg⟩:=hok;obtain⟨hd',hρ',hlt,hval⟩:=hp.rptr_inv.2.2 hl;rw[hρ]at hρ';cases hρ';have hx':=hx;rw[hvx]at hx';have hnej:Ac H j≠.dead:=by rw[hobj];simp
         have hlj:=hL j hx'.own_inv.1 hnej;have hokj:=hH j hlj hnej;rw[hobj]at hokj;have hrow:RowsAt E gt zs (E.ρ j):=by
          have h1:RowsAt E t' xs (E.ρ j):=hokj;obtain⟨e1,e2⟩:=Ha hz;subst e1;cases e2;exact h1
         have hidj:id≠j:=by rintro rfl;rw[hob]at hobj;cases hobj
         obtain⟨arr,el,b1,b2,_⟩:=hg.head;rw[fX,dH]at hval;have hvs1:vs.length=1:=by
          rw[hvx]at hvs;simp only[cellsOf,aU]at hvs;rw[<-hvs];rfl
         have hrun:=run hd.blk (hd.off+xss.length) arr el hval b1 (by have:=hg.cap;omega) hii;refine J2 hrun ?_;exact Acf (by simpa using hr) hA hWj hWid hidj hρ hg b1 hm hrow (hx'.own_inv.2.2 hlj) hx'.own_inv.2.1 (λE' h=>hK E' undef h trivial (.any _))
        ·cases h
       ·cases h
      ·cases h
     ·cases h
    ·cases h
   ·rename_i id gi gj hv;rw[hv]at hp;split at h
    ·rename_i gt m xss hob;split at h
     ·rename_i hcond;simp only[aS]at hcond;have hsz1:=bB hcond.1;split at h
      ·rename_i ps ids hd;split at h
       ·rename_i y hy;have hr0:=(Option.some.inj h).symm;have hWid:E.W id:=hW (id,.grid gt m (xss.set gi ((xss.getD gi []).set gj y))) (by rw[hr0]);rw[hr0]at hr;subst hr0;have hne:Ac H id≠.dead:=by rw[hob];simp
        have hl:=hL id hp.gptr_inv.1 hne;have hok:=hH id hl hne;rw[hob]at hok;obtain⟨hd0,hρ,hg⟩:=hok;obtain⟨h',hK',hlt,hval⟩:=hp.gptr_inv.2.2 hl;obtain⟨d1,d2⟩:=Gm (ids':=ids) hL hH hc hd (λ_ h=>h);have hle2:=Ir gt _ y hy;have hgi:gi<xss.length:=by
         rcases cN gi xss.length with h|h
         ·exact h
         ·rw[hg.past gi h]at hK';cases hK'
        obtain⟨o,k1,k2⟩:=hg.rows gi _ (aR hgi);rw[hK']at k1;cases k1;obtain⟨g1,g2,g3,g3',arr,el,g4,g5,g6⟩:=k2;rw[hsz1]at g5;have hps1:ps.length=1:=by rw[hle2.get.1,Aw,hsz1]
        have hvs1:vs.length=1:=by have:=hc.1;omega
        have hrun:=run h'.blk (h'.off+gj) arr el hval g4 (by omega) hii;refine J2 hrun ?_;obtain⟨u,hu⟩:∃u,(a.eval x).cells.toList=[u]:=by
         have h1:(a.eval x).cells.toList.length=1:=by rw[d1,hps1]
         match hh:(a.eval x).cells.toList,h1 with
         |[u],_=>exact⟨u,rfl⟩
        obtain⟨p0,hp0⟩:∃p,ps=[p]:=by
         match ps,hps1 with
         |[p],_=>exact⟨p,rfl⟩
        obtain⟨p1,hp1⟩:∃p,enc gt y=[p]:=by
         have h1:(enc gt y).length=1:=by rw[Aw,hsz1]
         match hh:enc gt y,h1 with
         |[p],_=>exact⟨p,rfl⟩
        have hd2:=d2 0 u p0 (by rw[hu];rfl) (by rw[hp0];rfl);have hple:=hle2.get.2 0 p0 p1 (by rw[hp0];rfl) (by rw[hp1];rfl);have hrd:=hd2.2.le hple;have hu1:u.cells.toList=[u]:=by
         have:=hd2.1;cases u<;>simp_all [Value.cells,Value.oneCell']
        have hfree:∀(w:World)(F:Nat->Nat->Prop),RdP w F u p1:=by
         intro w F;have hm1:(flat gt [y])[0]?=some p1:=by simp[flat,hp1]
         exact Ael hcond.2 hm1 hrd
        rw[hu,<-hu1];exact Acg (by simpa using hr) hA hWid hρ hg hK' hlt g4 hsz1 ⟨p1,hp1,hfree⟩ hd2.1 (λE' h=>hK E' undef h trivial (.any _))
       ·cases h
      ·cases h
     ·cases h
    ·cases h
   ·cases h
  ·cases h
theorem Ov{k:IntKind}{q:Int}:∀(l:List MapEntry)(es:List (Int×AV))(i:Nat),l.length=es.length->(∀(i:Nat) m p,l[i]?=some m->es[i]?=some p->m.key=.int .i64 p.1)->(∀p∈es,q≠p.1)->
 Instr.findNow (.int k) (.int .i64 q) l i=some none
 |[],_,_,_,_,_=>rfl
 |m::l,[],_,h,_,_=>by simp at h
 |m::l,p::es,i,h,hk,hq=>by
  have h1:=hk 0 m p rfl rfl;have h2:(q==p.1)=false:=by simpa using hq p (by simp)
  simp only[Instr.findNow,h1,Instr.sameNow,if_true,h2];exact Ov l es (i+1) (by simpa using h) (λi m p hm hp=>hk (i+1) m p (by simpa using hm) (by simpa using hp)) (λp hp=>hq p (by simp[hp]))
theorem U8{kt:TypeId}{k:IntKind}(hk:P.underlying kt=some (.int k))(b:Bool)(q:Int)(w:World)(m:Nat):(Instr.checkKey b (m+1) kt (.int .i64 q)).run P w=.ok () w:=by
 simp[Instr.checkKey,run_underlying hk]
theorem K0{kt:TypeId}{k:IntKind}(hk:P.underlying kt=some (.int k))(b:Bool)(q:Int)(w:World):(Instr.checkKey b 10000 kt (.int .i64 q)).run P w=.ok () w:=U8 hk b q w 9999
theorem Ajg{t:TypeId}{m k x:Operand}(hr:Ready E n r.news.length)(hA:∃N,∀id,E.A id->id<N)(hL:∀id,E.A id->Ac H id≠.dead->E.L id)(hH:∀id,E.L id->Ac H id≠.dead->OkOb E id (Ac H id))
 (hW:∀q,r.st=some q->E.W q.1)(hm:RdA E (a.eval m) (e m))(hk:RdA E (a.eval k) (e k))(hx:RdA E (a.eval x) (e x))
 (h:evOp cx P e H n ⟨dst,.insert t m k x,ty,pos,after,guard⟩=some r)
 (hK:∀E' v,Ext E n r wn E'->A7 r.given->RdA E' v r.val->K (a.put dst v) E'.w):(⟨dst,.insert t m k x,ty,pos,after,guard⟩:Oper).wpI ro P a E.w K Q:=by
 simp only[evOp]at h;split at h
 ·rename_i kt et hu;split at h
  ·rename_i kk id q hkt hme hke;rw[hme]at hm;rw[hke]at hk;split at h
   ·rename_i es hob;split at h
    ·rename_i hall;have hr0:=(Option.some.inj h).symm;subst hr0;have hA':E.A id:=hm.mp_inv.1;have hne:Ac H id≠.dead:=by rw[hob];simp
     have hl:=hL id hA' hne;have hok:=hH id hl hne;rw[hob]at hok;obtain⟨hd,hρ,ms,clock,hb,hsz,hes⟩:=hok;obtain⟨hd',hρ',hval⟩:=hm.mp_inv.2.2 hl;rw[hρ]at hρ';cases hρ';have hWid:E.W id:=hW _ rfl;have hfind:=Ov (k:=kk) (q:=q) ms.toList es 0 (by simpa using hsz) (λi m p hm hp=>(hes i m p (by simpa using hm) hp).1) (λp hp=>by simpa using bV.1 hall p hp);have hkv:=hk.int_inv;have hrun:(execOp a.eval ⟨dst,.insert t m k x,ty,pos,after,guard⟩).run P E.w=.ok .skip { E.w with heap:=E.w.heap.setIfInBounds hd.blk (.map (ms.push { key:=.int .i64 q,val:=a.eval x,born:=clock }) (clock+1)) }:=by
      have hck:=K0 (P:=P) hkt false q E.w;simp[execOp,hval,hkv,Instr.mapUpdate,run_underlying hu,run_underlying hkt,Instr.findKey,hfind,hck,getObj,setObj,Sem.run,hb]
     refine J2 hrun ?_;have hlt:=hr.lt id hd (hr.wl id hWid) hρ;have hs:Step E n ⟨none,none,.any,[],none,some (id,.fmap (es++[(q,e x)])),[]⟩ { E.w with heap:=E.w.heap.setIfInBounds hd.blk (.map (ms.push { key:=.int .i64 q,val:=a.eval x,born:=clock }) (clock+1)) } (λ_=>none):=by
      refine⟨⟨rfl,rfl,rfl,by simp,λb hb=>?_⟩,λb hb hne=>?_, ?_, ?_, ?_, ?_⟩
      ·simp only[dV];rw[aL (by omega)]
      ·simp only[dV];rw[aL (λe=>hne id hWid (.inr rfl) (.inl ⟨hd,hρ,e⟩))]
      ·intro j h hj;simp at hj
      ·intro j j' h h' hj;simp at hj
      ·intro i hi;cases hi
      ·intro p hp;cases hp;exact hWid
     obtain⟨N,hN⟩:=hA;refine hK _ undef (hs.ext (wn:=wn) hr ⟨N,hN⟩ (λ_ j ob hj=>by simp at hj) (λhevo i ob hi=>?_)) trivial (.any _);cases hi;refine⟨hd,by simp only[Env.ext];rw[aL (by simp)];exact hρ,ms.push { key:=.int .i64 q,val:=a.eval x,born:=clock },clock+1, ?_,by simp[hsz],λi m' p hm' hp=>?_⟩
     ·show(E.w.heap.setIfInBounds hd.blk _)[hd.blk]?=_;simp only[dV];rw[aP trivial,aP hlt.2]
     ·rw[Array.getElem?_push]at hm';rw[eA]at hp;by_cases hi:i<es.length
      ·rw[aL (by omega)]at hm';rw[aP hi]at hp;obtain⟨h1,h2⟩:=hes i m' p hm' hp;exact⟨h1,h2.mono (hevo N) hN⟩
      ·rw[aL hi]at hp;have hlt:=(aW.1 hp).1;have hi':i=es.length:=by simp at hlt;omega
       subst hi';rw[aP hsz.symm]at hm';cases hm';simp at hp;subst hp;exact⟨rfl,hx.mono (hevo N) hN⟩
    ·cases h
   ·cases h
  ·cases h
 ·cases h
theorem Mn{v:Value}{x:AV}(b:Bool)(h:RdA E v x):RdA E (.tuple #[v,.bool b]) (.tup [x,.bool b]):=by
 refine .tup _ _ rfl λi u y hu hy=>?_
 match i,hu,hy with
 |0,hu,hy=>cases hu;cases hy;exact h
 |1,hu,hy=>cases hu;cases hy;exact .bool _
 |i+2,hu,hy=>simp at hy
theorem Agq{q:Int}{z:AV}{v:Value}:∀{es:List (Int×AV)},RdA E v (Ds q z es)->RdA E v (Ab5 q z es):=by
 intro es h;unfold Ab5;split
 ·rename_i k n;split
  ·rename_i l hl;have:∀(es:List (Int×AV)) l,Amx k es=some l->Ds q (AV.int k n) es=.int k (Ds q n l):=by
    intro es
    induction es with
    |nil=>intro l hl;cases hl;rfl
    |cons p es ih=>
     obtain⟨p,x⟩:=p;intro l hl;unfold Amx at hl;split at hl
     ·rename_i heq;cases heq
     ·rename_i p' k' n' l' heq;cases heq;split at hl
      ·rename_i hk;have:=IntKind.eq_of_beq' hk;subst this;split at hl
       ·rename_i r hr;cases hl;simp only[Ds];split
        ·rfl
        ·exact ih _ hr
       ·cases hl
      ·cases hl
     ·cases hl
   rw[this es l hl]at h;exact h
  ·exact .any _
 ·rename_i s;split
  ·rename_i l hl;have:∀(es:List (Int×AV)) l,Amy es=some l->Ds q (AV.str s) es=.str (Ds q s l):=by
    intro es
    induction es with
    |nil=>intro l hl;cases hl;rfl
    |cons p es ih=>
     obtain⟨p,x⟩:=p;intro l hl;unfold Amy at hl;split at hl
     ·rename_i heq;cases heq
     ·rename_i p' s' l' heq;cases heq;split at hl
      ·rename_i r hr;cases hl;simp only[Ds];split
       ·rfl
       ·exact ih _ hr
      ·cases hl
     ·cases hl
   rw[this es l hl]at h;exact h
  ·exact .any _
 ·exact .any _
theorem Mo{α β:Type}(q:Int)(z:α)(f:α->β):∀(l:List (Int×α)),Ds q (f z) (l.map λp=>(p.1,f p.2))=f (Ds q z l)
 |[]=>rfl
 |(p,a)::l=>by
  simp only[Ds,eD];split
  ·rfl
  ·exact Mo q z f l
theorem Nn(q:Int):∀(zs:List AV)(l:List (Int×List AV)),(Lw q zs l).length=zs.length
 |[],_=>rfl
 |_::zs,l=>by simp only[Lw,List.length_cons];rw[Nn q zs]
theorem Vo{q:Int}:∀(zs:List AV)(l:List (Int×List AV))(i:Nat)(v:Value)(x:AV),(Lw q zs l)[i]?=some x->(∀y,(Ds q zs l)[i]?=some y->RdA E v y)->(∀p∈l,p.2.length=zs.length)->RdA E v x
 |[],_,i,v,x,hx,_,_=>by simp[Lw]at hx
 |z::zs,l,0,v,x,hx,h,hl=>by
  simp only[Lw,dP,aU]at hx;subst hx;refine Agq (h _ ?_);have h1:=Mo q (z::zs) (λl=>l.headD .any) l;simp only[List.headD_cons]at h1;rw[h1];have:(Ds q (z::zs) l).length=zs.length+1:=by
   clear h h1
   induction l with
   |nil=>rfl
   |cons p l ih=>
    simp only[Ds];split
    ·simpa using hl p (by simp)
    ·exact ih λp hp=>hl p (by simp[hp])
  match hd:Ds q (z::zs) l,this with
  |y::ys,_=>rfl
 |z::zs,l,i+1,v,x,hx,h,hl=>by
  simp only[Lw,gH]at hx;refine Vo zs (l.map λp=>(p.1,p.2.tail)) i v x hx (λy hy=>h y ?_) (λp hp=>?_)
  ·have h1:=Mo q (z::zs) (λl=>l.tail) l;simp only[List.tail_cons]at h1;rw[h1]at hy;simpa using hy
  ·obtain⟨p',hp',rfl⟩:=cU.1 hp;have:=hl p' hp';simp[this]
theorem Aem{m:Nat}:∀{es:List (Int×AV)}{l:List (Int×List AV)},Amz m es=some l->es=l.map (λp=>(p.1,.agg p.2))/\∀p∈l,p.2.length=m
 |[],l,h=>by cases h;exact⟨rfl,by simp⟩
 |(p,x)::es,l,h=>by
  unfold Amz at h;split at h
  ·rename_i heq;cases heq
  ·rename_i p' cs l' heq;cases heq;split at h
   ·rename_i hm;split at h
    ·rename_i r hr;cases h;obtain⟨h1,h2⟩:=Aem hr;refine⟨by rw[h1];rfl,λp hp=>?_⟩;rcases cT.1 hp with rfl|hp
     ·exact bB hm
     ·exact h2 p hp
    ·cases h
   ·cases h
  ·cases h
theorem Ij{q:Int}{z x:AV}{es:List (Int×AV)}{v:Value}(h:N0 q z es=some x)(hv:RdA E v (Ds q z es)):RdA E v x:=by
 unfold N0 at h;split at h
 ·rename_i zs;split at h
  ·rename_i l hl;cases h;obtain⟨h1,h2⟩:=Aem hl;rw[h1,Mo q zs AV.agg l]at hv;obtain⟨vs,rfl,h3,h4,h5⟩:=hv.agg_inv;have hlen:(Ds q zs l).length=zs.length:=by
    clear h1 hl h3 h4 h5 hv
    induction l with
    |nil=>rfl
    |cons p l ih=>
     simp only[Ds];split
     ·exact h2 p (by simp)
     ·exact ih λp hp=>h2 p (by simp[hp])
   refine .agg vs _ (by rw[h3,hlen,Nn]) h4 λi v x hv hx=>Vo zs l i v x hx (λy hy=>h5 i v y hv hy) h2
  ·cases h
 ·cases h
theorem Ach{kk:IntKind}{q:Int}{zr:AV}:∀(l:List MapEntry)(es:List (Int×AV))(i:Nat),l.length=es.length->
 (∀(i:Nat) m p,l[i]?=some m->es[i]?=some p->m.key=.int .i64 p.1/\RdA E m.val p.2)->
 (∃j u,Instr.findNow (.int kk) (.int .i64 q) l i=some (some (j,u))/\RdA E u (Ds q zr es)/\Nz q es=true)\/
 (Instr.findNow (.int kk) (.int .i64 q) l i=some none/\Ds q zr es=zr/\Nz q es=false)
 |[],[],_,_,_=>.inr ⟨rfl,rfl,rfl⟩
 |[],_::_,_,hl,_=>by simp at hl
 |_::_,[],_,hl,_=>by simp at hl
 |m::l,p::es,i,hl,hk=>by
  obtain⟨h1,h2⟩:=hk 0 m p rfl rfl;by_cases hq:q=p.1
  ·refine .inl ⟨i,m.val, ?_,by simp only[Ds,aP hq];exact h2,by simp only[Nz,aP hq]⟩;simp[Instr.findNow,h1,Instr.sameNow,hq]
  ·have h3:(q==p.1)=false:=by simpa using hq
   simp only[Instr.findNow,h1,Instr.sameNow,if_true,h3,Ds,Nz,aL hq];exact Ach l es (i+1) (by simpa using hl) (λi m p hm hp=>hk (i+1) m p (by simpa using hm) (by simpa using hp))
theorem Iw(v:Value):RdA E v (Jf v):=by
 have one:∀u:Value,Ef u=true->RdA E u (Eo u):=λu hu=>Ml (by cases u<;>first|rfl|cases hu)
 cases v with
 |agg cs=>
  simp only[Jf];split
  ·rename_i h;exact(Iv h).agg
  ·exact .any _
 |tuple vs=>exact .any _
 |_=>exact one _ rfl
theorem FlatRd.rd{v:Value}{cs:List (Option PV)}(h:FlatRd v cs):RdA E v (.agg (cs.map Ai2)):=by
 obtain⟨vs,rfl,h1,h2,h3⟩:=h;refine .agg vs _ (by rw[h1];simp) h2 λi u x hu hx=>?_
 rw[cL,bC]at hx;obtain⟨c,hc,rfl⟩:=hx;cases c with
 |none=>exact .any _
 |some p=>
  have:=h3 i u p hu hc;cases p<;>first
   |exact this.elim
   |(have e:u=_:=this;subst e;first|exact .int _ _|exact .bool _|exact .str _)
theorem Ajh{t:TypeId}{m k:Operand}{ok:Bool}(hm:RdA E (a.eval m) (e m))(hk:RdA E (a.eval k) (e k))
 (h:evOp cx P e H n ⟨dst,.lookup t m k ok,ty,pos,after,guard⟩=some r):PureRun P E a ⟨dst,.lookup t m k ok,ty,pos,after,guard⟩ r:=by
 simp only[evOp]at h;split at h
 ·rename_i kt et hu;split at h
  ·rename_i kk z es q hkt hz hme hke;split at h
   ·rename_i y hy;cases h;rw[hme]at hm;rw[hke]at hk;generalize hval:a.eval m=val at hm;cases hm with
    |dmp b _ ms clock hB hb hh hsz hes=>
    have hxv:=hk.int_inv;have hck:=λb=>K0 (P:=P) hkt b q E.w
    have hzr:=J5 hz E.w;have hall:∀(i:Nat) m p,ms.toList[i]?=some m->(U7 es)[i]?=some p->m.key=.int .i64 p.1/\RdA E m.val p.2:=by
     intro i m p hm hp;unfold U7 at hp;rw[cL,bC]at hp;obtain⟨p',hp',rfl⟩:=hp;obtain⟨h1,h2⟩:=hes i m p' (by simpa using hm) hp';exact⟨h1,h2.rd⟩
    have hlen:ms.toList.length=(U7 es).length:=by unfold U7;simpa using hsz
    rcases Ach (kk:=kk) (q:=q) (zr:=Jf z) ms.toList (U7 es) 0 hlen hall with⟨j,u,h1,h2,h3⟩|⟨h1,h2,h3⟩
    ·rw[h3];cases ok
     ·exact⟨rfl,rfl,rfl,rfl,u,by simp[execOp,hval,hxv,Instr.lookup,run_underlying hu,run_underlying hkt,Instr.findKey,h1,hck,getObj,Sem.run,hh],Ij hy h2,trivial⟩
     ·exact⟨rfl,rfl,rfl,rfl,_,by simp[execOp,hval,hxv,Instr.lookup,run_underlying hu,run_underlying hkt,Instr.findKey,h1,hck,getObj,Sem.run,hh],Mn true (Ij hy h2),trivial⟩
    ·rw[h3];have hZ:RdA E z y:=Ij hy (by rw[h2];exact Iw z);cases ok
     ·exact⟨rfl,rfl,rfl,rfl,z,by simp[execOp,hval,hxv,Instr.lookup,run_underlying hu,run_underlying hkt,Instr.findKey,h1,hck,getObj,Sem.run,hh,hzr],hZ,trivial⟩
     ·exact⟨rfl,rfl,rfl,rfl,_,by simp[execOp,hval,hxv,Instr.lookup,run_underlying hu,run_underlying hkt,Instr.findKey,h1,hck,getObj,Sem.run,hh,hzr],Mn false hZ,trivial⟩
   ·cases h
  ·cases h
 ·cases h
end
end Go.Sx
namespace Go.Sx
open Go.RowKit
section
variable {P:Program}{cx:Ctx}{E:Env}{a:Act}{e:Operand->AV}{H:List Ob}{n:Nat}{r:Res}
 {dst:Option Tmp}{ty:TypeId}{pos:String}{after:Array Go.Edge}{guard:Option (Nat×Bool)}{wn:Nat->Prop}{K:Act->World->Prop}{Q:Exit->Act->World->Prop}{ro:Option Nat}
inductive Src(E:Env)(t:Ty)(ys:List t.den)(v:Value):Prop
 |none (ba:Option Addr) (c:Nat) (h:ys=[]) (hv:v=.slice ba 0 c):Src E t ys v
 |some (b o c:Nat) (us:List Value) (hv:v=.slice (some ⟨b,o,none⟩) ys.length c) (hl:us.length=ys.length*t.size) (hcell:∀(j:Nat) u,us[j]?=some u->E.w.cell? ⟨b,o+j,none⟩=some u)
  (h1:∀u∈us,u.oneCell'=true)(hrd:∀(j:Nat) p,(flat t ys)[j]?=some p->∃u,us[j]?=some u/\RdP E.w E.Fz u p)(hlim:ys.length<=big):Src E t ys v
theorem J7{b o m:Nat}{t:Ty}{ys:List t.den}{v:Value}{c:Nat}(hv:v=.slice (some ⟨b,o,none⟩) ys.length c)(hlim:ys.length<=big)(h:∀j p,(flat t ys)[j]?=some p->∃u,E.w.cell? ⟨b,o+j,none⟩=some u/\RdP E.w E.Fz u p)(_hm:m=0):Src E t ys v:=by
 let f:Nat->Value:=λj=>(E.w.cell? ⟨b,o+j,none⟩).getD undef
 have key:∀j,j<ys.length*t.size->∃p,(flat t ys)[j]?=some p/\E.w.cell? ⟨b,o+j,none⟩=some (f j)/\RdP E.w E.Fz (f j) p:=by
  intro j hj;have hp:(flat t ys)[j]?=some ((flat t ys)[j]'(by rw[Az];exact hj)):=aR (by rw[Az];exact hj);obtain⟨u,h1,h2⟩:=h j _ hp;have hf:f j=u:=by simp[f,h1]
  exact⟨_,hp,by rw[hf];exact h1,by rw[hf];exact h2⟩
 have get:∀(j:Nat) u,((List.range (ys.length*t.size)).map f)[j]?=some u->j<ys.length*t.size/\u=f j:=by
  intro j u hu;simp only[cL,bC]at hu;obtain⟨i,hi,rfl⟩:=hu;have hlt:j<ys.length*t.size:=by have:=(aW.1 hi).1;simpa using this
  rw[eW hlt]at hi;cases hi;exact⟨hlt,rfl⟩
 refine .some b o c ((List.range (ys.length*t.size)).map f) hv (by simp) (λj u hu=>?_) (λu hu=>?_) (λj p hp=>?_) hlim
 ·obtain⟨h1,rfl⟩:=get j u hu;obtain⟨p,_,h2,_⟩:=key j h1;exact h2
 ·obtain⟨j,hj⟩:=fP.1 hu;obtain⟨h1,rfl⟩:=get j u hj;obtain⟨p,_,_,h3⟩:=key j h1;exact h3.one
 ·have hlt:j<ys.length*t.size:=by have:=(aW.1 hp).1;rwa [Az]at this
  obtain⟨p',hp',_,h3⟩:=key j hlt;rw[hp]at hp';cases hp';exact⟨f j,by simp[eW hlt],h3⟩
theorem Ix(hL:∀id,E.A id->Ac H id≠.dead->E.L id)(hH:∀id,E.L id->Ac H id≠.dead->OkOb E id (Ac H id)){v:Value}{x:AV}{t:Ty}{ys:List t.den}(hx:RdA E v x)(h:Fb H x=some ⟨t,ys⟩):Src E t ys v:=by
 have own:∀(id:Nat)(t:Ty)(ys:List t.den),RowsAt E t ys (E.ρ id)->P1 (E.ρ id) v->Src E t ys v:=by
  intro id t ys hrow hv;cases hρ:E.ρ id with
  |none=>rw[hρ]at hrow hv;obtain⟨ba,hv⟩:=hv;exact .none ba 0 hrow hv
  |some hd=>
   rw[hρ]at hrow hv;obtain⟨g1,g2,g3,g3',arr,el,g4,g5,g6⟩:=hrow;have hv':v=.slice (some ⟨hd.blk,hd.off,none⟩) hd.len hd.cap:=hv;rw[g1]at hv' g3;refine J7 (m:=0) hv' (Kx g3) (λj p hp=>?_) rfl;obtain⟨u,hu,hr⟩:=g6 j p hp;exact⟨u,by simp[World.cell?,g4,hu],hr⟩
 have part:∀(id k lo len:Nat)(t:Ty)(xs:List t.den),RowsAt E t xs (E.ρ id)->k=t.size->Y9 k lo len (E.ρ id) v->Src E t ((xs.drop lo).take len) v:=by
  intro id k lo len t xs hrow hk hv;subst hk;cases hρ:E.ρ id with
  |none=>
   rw[hρ]at hv hrow;obtain⟨h0,ba,hv⟩:=hv;subst h0;exact .none ba 0 (by simp) hv
  |some hd=>
   rw[hρ]at hv hrow;obtain⟨h1,o,c,hv,h2,_,h3⟩:=hv;obtain⟨g1,g2,g3,g3',arr,el,g4,g5,g6⟩:=hrow;by_cases h0:len=0
   ·subst h0;exact .none _ c (by simp) hv
   ·have ho:o=hd.off+lo*t.size:=h3.resolve_right (by omega);subst ho;have hlen:((xs.drop lo).take len).length=len:=by rw[bP,cI];omega
    refine J7 (m:=0) (by rw[hlen];exact hv) (Kx (by omega)) (λj p hp=>?_) rfl;rw[Dx,Dw]at hp;have hj:j<len*t.size:=by
     have:=(aW.1 hp).1;rw[bP]at this;omega
    rw[cQ hj,cK]at hp;obtain⟨u,hu,hr⟩:=g6 _ p hp;rw[<-eK]at hu;exact⟨u,by simp[World.cell?,g4,hu],hr⟩
 cases x with
 |sl t' xs=>
  simp only[Fb,aU]at h;cases h;rcases hx.sl_inv.sl_inv with⟨hnil,ba,c,hv⟩|⟨b,o,c,g,hv,hc,hl,hcell,hrd⟩
  ·exact .none ba c hnil hv
  ·exact J7 (m:=0) hv hl (λj p hp=>⟨g j,(hcell j (aW.1 hp).1).2,hrd j p hp⟩) rfl
 |own id=>
  simp only[Fb]at h;have hA:=hx.own_inv.1;split at h
  ·rename_i t' xs hob;cases h;have hne:Ac H id≠.dead:=by rw[hob];simp
   have hl:=hL id hA hne;have hok:=hH id hl hne;rw[hob]at hok;exact own id _ _ hok (hx.own_inv.2.2 hl)
  ·rename_i t' xs hob;cases h;have hne:Ac H id≠.dead:=by rw[hob];simp
   have hl:=hL id hA hne;have hok:=hH id hl hne;rw[hob]at hok;exact own id _ _ hok (hx.own_inv.2.2 hl)
  ·cases h
 |ownp id k lo len=>
  simp only[Fb]at h;have hA:=hx.ownp_inv.1;split at h
  ·rename_i t' xs hob;split at h
   ·rename_i hk;cases h;have hne:Ac H id≠.dead:=by rw[hob];simp
    have hl:=hL id hA hne;have hok:=hH id hl hne;rw[hob]at hok;exact part id k lo len _ _ hok (by simpa using hk) (hx.ownp_inv.2.2 hl).q
   ·cases h
  ·rename_i t' xs hob;split at h
   ·rename_i hk;cases h;have hne:Ac H id≠.dead:=by rw[hob];simp
    have hl:=hL id hA hne;have hok:=hH id hl hne;rw[hob]at hok;exact part id k lo len _ _ hok (by simpa using hk) (hx.ownp_inv.2.2 hl).q
   ·cases h
  ·cases h
 |ownc id k lo len=>
  simp only[Fb]at h;have hA:=hx.ownc_inv.1;have toP:∀{t:Ty}{xs:List t.den},RowsAt E t xs (E.ρ id)->E.L id->Y9 k lo len (E.ρ id) v:=by
   intro t xs hrow hl;obtain⟨hd,hρ,h1,h2⟩:=hx.ownc_inv.2.2 hl;rw[hρ]at hrow ⊢;have:=hrow.2.1;exact⟨h1,_,_,h2,by omega,by omega,.inl rfl⟩
  split at h
  ·rename_i t' xs hob;split at h
   ·rename_i hk;cases h;have hne:Ac H id≠.dead:=by rw[hob];simp
    have hl:=hL id hA hne;have hok:=hH id hl hne;rw[hob]at hok;exact part id k lo len _ _ hok (by simpa using hk) (toP hok hl)
   ·cases h
  ·rename_i t' xs hob;split at h
   ·rename_i hk;cases h;have hne:Ac H id≠.dead:=by rw[hob];simp
    have hl:=hL id hA hne;have hok:=hH id hl hne;rw[hob]at hok;exact part id k lo len _ _ hok (by simpa using hk) (toP hok hl)
   ·cases h
  ·cases h
 |slf t' xs=>
  simp only[Fb,aU]at h;cases h;rcases hx.slf_inv.2.sl_inv with⟨hnil,ba,c,hv⟩|⟨b,o,c,g,hv,hc,hl,hcell,hrd⟩
  ·exact .none ba c hnil hv
  ·exact J7 (m:=0) hv hl (λj p hp=>⟨g j,(hcell j (aW.1 hp).1).2,hrd j p hp⟩) rfl
 |_=>simp[Fb]at h
theorem Dh{t elem u:TypeId}{base ba:Option Addr}{len cp c:Nat}{info:TypeInfo}(hu:P.underlying t=some (.slice elem))(hi:P.info? elem=some info)(hle:len<=cp)(w:World):
 (Builtin.append_ #[t,t] u #[.slice base len cp,.slice ba 0 c]).run P w=.ok (.slice base len cp) w:=by
 cases ba<;>cases base<;>simp[Builtin.append_,run_underlying hu,sizeOf,typeInfo,hi,Builtin.lenOf,hle,Builtin.firstCells,loadCells,loadCellsFrom,storeCells]
theorem He(w:World)(t ty e:TypeId)(i:TypeInfo)(ht:P.underlying t=some (.slice e))(hi:P.info? e=some i)
 (g o sLen sCap:Nat)(cur:Array Value)(el:TypeId)(hg:w.heap[g]?=some (.cells cur el (0,0)))
 (a:Addr)(m c:Nat)(news:List Value)(hl:news.length=m*i.size)(hnews:∀(j:Nat) u,news[j]?=some u->w.cell? (a.add j)=some u)(h1:∀u∈news,u.oneCell'=true)
 (hroom:sLen+m<=sCap)(hfit:o+sLen*i.size+news.length<=cur.size):
 (Builtin.append_ #[t,t] ty #[.slice (some ⟨g,o,none⟩) sLen sCap,.slice (some a) m c]).run P w =
   .ok (.slice (some ⟨g,o,none⟩) (sLen+m) sCap) (w.setRow g (cur.toList.take (o+sLen*i.size)++news++cur.toList.drop (o+sLen*i.size+news.length)).toArray):=by
 have hf:=run_firstCells_some (P:=P) w i.size m a m c news hl hnews;have hst:=run_storeCells_at P g (o+sLen*i.size) el news 0 cur w hg (by simpa using hfit) h1;simp only[dH]at hst;simp[Builtin.append_,run_underlying ht,sizeOf,typeInfo,hi,Builtin.lenOf,hroom,hf,Cm,hst]
theorem Fc{w':World}{hd:Option Hdr}{t:Ty}{zs:List t.den}{v':Value}{kill:Option Nat}{q:Option Prop}(hr:Ready E n 1)(hA:∃N,∀id,E.A id->id<N)(h0:r=⟨q,none,.own n,[.rows t zs],kill,none,[]⟩)(hs:Step E n r w' (λ_=>hd))
 (hv:P1 hd v')(h1:v'.oneCell'=true)(hrow:∀E':Env,E'.w=w'->(∀b o,E.Fz b o->E'.Fz b o/\E'.w.cell? ⟨b,o,none⟩=E.w.cell? ⟨b,o,none⟩)->RowsAt E' t zs hd)
 (hK:∀E' v,Ext E n r wn E'->A7 r.given->RdA E' v r.val->K (a.put dst v) E'.w):K (a.put dst v') w':=by
 subst h0;have hρ:(E.ext n 1 kill [] wn w' (λ_=>hd)).ρ n=hd:=by simp[Env.ext]
 have hx:=hs.ext (wn:=wn) hr hA (λhevo j ob hj=>by
  match j,hj with
  |0,hj=>
   cases hj;show RowsAt _ t zs _;have:(E.ext n (List.length [Ob.rows t zs]) kill [] wn w' (λ_=>hd)).ρ (n+0)=hd:=hρ;rw[this];exact hrow _ rfl (hevo 0).fz) (λ_ id ob h=>by cases h)
 refine hK _ _ hx trivial (.own _ n (.inr ⟨bA _,by simp⟩) h1 λ_=>?_);have:(E.ext n (List.length [Ob.rows t zs]) kill [] wn w' (λ_=>hd)).ρ n=hd:=hρ;rw[this];exact hv
theorem Ik{t:Ty}{ys:List t.den}{v:Value}(h:Src E t ys v)(hm:ys≠[]):∃(b o c:Nat)(us:List Value),v=.slice (some ⟨b,o,none⟩) ys.length c/\us.length=ys.length*t.size/\(∀(j:Nat) u,us[j]?=some u->E.w.cell? ⟨b,o+j,none⟩=some u)/\
 (∀u∈us,u.oneCell'=true)/\(∀(j:Nat) p,(flat t ys)[j]?=some p->∃u,us[j]?=some u/\RdP E.w E.Fz u p):=by
 cases h with
 |none ba c h hv=>exact aT h hm
 |some b o c us hv hl hcell h1 hrd hlim=>exact⟨b,o,c,us,hv,hl,hcell,h1,hrd⟩
theorem Ow{t:Ty}{ys:List t.den}{v:Value}(h:Src E t ys v)(hm:ys=[]):∃ba c,v=.slice ba 0 c:=by
 cases h with
 |none ba c h hv=>exact⟨ba,c,hv⟩
 |some b o c us hv hl hcell h1 hrd hlim=>subst hm;exact⟨_,c,hv⟩
theorem Mp{t elem:TypeId}{info:TypeInfo}{z:Value}{ty':Ty}{xs ys:List ty'.den}{base:Option Addr}{cp:Nat}{v:Value}{olds:List Value}{kill:Option Nat}{q:Option Prop}
 (hr:Ready E n 1)(hA:∃N,∀id,E.A id->id<N)(hW:∀id,kill=some id->E.W id)(hu:P.underlying t=some (.slice elem))(hi:P.info? elem=some info)(hs:info.size=ty'.size)(hz:info.zero=some z)(hzs:z.cells.size=ty'.size)(hby:1<=info.bytes)
 (hlo:olds.length=xs.length*ty'.size)(hold:∀(j:Nat) p,(flat ty' xs)[j]?=some p->∃u,olds[j]?=some u/\RdP E.w E.Fz u p)(hbase:(base=none/\xs=[]/\cp=0)\/∃b,base=some b/\∀(j:Nat) u,olds[j]?=some u->E.w.cell? (b.add j)=some u)
 (hsrc:Src E ty' ys v)(hm:ys≠[])(hcap:cp<xs.length+ys.length)(hneed:(xs.length+ys.length)*info.bytes<=lim)(h0:r=⟨q,none,.own n,[.rows ty' (xs++ys)],kill,none,[]⟩)
 (hK:∀E' v,Ext E n r wn E'->A7 r.given->RdA E' v r.val->K (a.put dst v) E'.w):∃v' w',(Builtin.append_ #[t,t] ty #[.slice base xs.length cp,v]).run P E.w=.ok v' w'/\K (a.put dst v') w':=by
 obtain⟨b,o,c,us,rfl,hul,hucell,hu1,hurd⟩:=Ik hsrc hm;have hlen1:1*(xs.length+ys.length)<=(xs.length+ys.length)*info.bytes:=by rw[Nat.mul_comm];exact fY _ hby
 have hlimv:lim=140737488355328:=rfl;have hpos:0<ys.length:=eX.2 hm;have hucell':∀j u,us[j]?=some u->E.w.cell? ((⟨b,o,none⟩:Addr).add j)=some u:=λj u h=>by rw[Cm];exact hucell j u h
 have hul':us.length=ys.length*info.size:=by rw[hs];exact hul
 have fin:∀(arr:Array Value)(cap':Nat),xs.length+ys.length<=cap'->cap'<=maxLen->arr.toList=olds++us++(Builtin.zeroCells z.cells (cap'-(xs.length+ys.length))).toList->
  K (a.put dst (.slice (some ⟨E.w.heap.size,0,none⟩) (xs.length+ys.length) cap')) (E.w.drew.alloc (.cells arr elem)):=by
  intro arr cap' hc1 hc2 harr;have hsz:arr.size=cap'*ty'.size:=by
   have:=bI List.length harr;simp only[cX,bD,size_zeroCells,hlo,hul,hzs]at this;rw[this,<-cS,<-cS]
   congr 1
   omega
  have hstep:Step E n r (E.w.drew.alloc (.cells arr elem)) (λ_=>some ⟨E.w.heap.size,0,xs.length+ys.length,cap'⟩):=by
   subst h0;refine⟨((Below.refl _ _).drew).alloc hr.B _,λb hb _=>Below.heap_alloc _ _ _ hb, ?_, ?_,hW, ?_⟩
   ·intro j h _ hj;cases hj;exact⟨by simp,.inl (bA _)⟩
   ·intro j j' h h' hj hj' _ _ hne;simp at hj hj';omega
   ·intro p hp;cases hp
  refine Fc (wn:=wn) hr hA h0 hstep rfl rfl (λE' hw hfz=>?_) hK;refine⟨by simp,hc1,by simp[lim];omega,hc2,arr,elem, ?_,by simp[hsz],λj p hp=>?_⟩
  ·rw[hw];exact heap_alloc_new E.w.drew _
  ·have hget:arr[j]?=(olds++us++(Builtin.zeroCells z.cells (cap'-(xs.length+ys.length))).toList)[j]?:=by rw[<-harr];simp
   rw[dF,hget];rw[Cv]at hp;by_cases hj:j<(flat ty' xs).length
   ·rw[bX hj]at hp;obtain⟨u,h1,h2⟩:=hold j p hp;rw[Az,<-hlo]at hj;exact⟨u,by rw[dR,bX hj];exact h1,h2.mono hfz⟩
   ·rw[cD (by omega)]at hp;obtain⟨u,h1,h2⟩:=hurd _ p hp;rw[Az,<-hlo]at h1 hj;have hlt:=(aW.1 h1).1;exact⟨u,by rw[dR,cD (by omega),bX hlt];exact h1,h2.mono hfz⟩
 rcases hbase with⟨rfl,hxs,hcp⟩|⟨b',rfl,hb'⟩
 ·subst hxs;subst hcp;simp only[List.length_nil,dF]at hneed hcap fin hlen1 ⊢;have hol:olds=[]:=cV (by simpa using hlo);subst hol;exact⟨_,_,run_append_nil (P:=P) E.w t ty elem info z hu hi hz ⟨b,o,none⟩ ys.length c us hul' hucell' hpos (by omega) (by omega),fin _ _ (grownCap_ge _ _ _ _) (grownCap_le_maxLen _ _ _ _ (by simp only[maxLen];omega)) (by simp)⟩
 ·have hlo':olds.length=xs.length*info.size:=by rw[hs];exact hlo
  exact⟨_,_,run_append_grow (P:=P) E.w t ty elem info z hu hi hz b' xs.length cp olds hlo' hb' ⟨b,o,none⟩ ys.length c us hul' hucell' hcap (by omega) (growslice_fits hcap (by omega)),
   fin _ _ (grownCap_ge _ _ _ _) (grownCap_le_maxLen _ _ _ _ (by simp only[maxLen];omega)) (by simp)⟩
theorem P8{P:Program}(w:World)(t tn ty e:TypeId)(i:TypeInfo)(z:Value)(k kn:IntKind)(ht:P.underlying t=some (.slice e))(htn:P.underlying tn=some (.int kn))(hi:P.info? e=some i)(hz:i.zero=some z)
 (ba:Option Addr)(n:Nat)(h0:0<n)(hs:0<i.size)(h63:(n:Int)<=9223372036854775807)(h48:n*i.bytes<=281474976710656):
 (Builtin.append_ #[t,tn] ty #[.slice ba 0 0,.int k n]).run P w =
   .ok (.slice (some ⟨w.heap.size,0,none⟩) n (grownCap w n 0 e)) (w.drew.alloc (.cells (Builtin.zeroCells z.cells n++Builtin.zeroCells z.cells (grownCap w n 0 e-n)) e)):=by
 have hn:n≠0:=by omega
 have hw:IntKind.i64.wrap (n:Int)=n:=by rw[IntKind.wrap_i64];omega
 have h63':¬(9223372036854775807<(n:Int)):=by omega
 have h48':¬(281474976710656<Builtin.nextslicecap n 0*i.bytes):=by rw[nextslicecap_zero h0];omega
 have h48i:¬(281474976710656<(n:Int)*(i.bytes:Int)):=by
  rw[<-Int.natCast_mul];omega
 have hneg:¬((n:Int)<0):=by omega
 have hns:¬(n*i.size=0):=Nat.mul_ne_zero hn (by omega);have hf:(Builtin.firstCells i.size 0 (.slice ba 0 0)).run P w.drew=.ok #[] w.drew:=by
  cases ba<;>simp[Builtin.firstCells,loadCells,loadCellsFrom]
 simp[Builtin.append_,run_underlying ht,run_underlying htn,sizeOf,typeInfo,zeroValue,hi,hz,asInt,asIntOf,hw,hn,hneg,hns,h63',h48',h48i,Question.forced,hf,newRow,grownCap]
theorem Aci{t tn:TypeId}{x y:Operand}(hn:A7 r.need)(hr:Ready E n r.news.length)(hA:∃N,∀id,E.A id->id<N)
 (hx:RdA E (a.eval x) (e x))(hy:RdA E (a.eval y) (e y))(h:Oi cx P n t tn (e x) (e y)=some r)
 (hK:∀E' v,Ext E n r wn E'->A7 r.given->RdA E' v r.val->K (a.put dst v) E'.w):∃v w',(Builtin.append_ #[t,tn] ty #[a.eval x,a.eval y]).run P E.w=.ok v w'/\K (a.put dst v) w':=by
 unfold Oi at h;split at h
 ·rename_i elem kn k c hu htn hvx hvy;split at h
  ·rename_i u z hlook hz;split at h
   ·rename_i hk;simp only[aS]at hk;obtain⟨info,hi,hs⟩:=Bs hk.1 (Bh u);split at h
    ·rename_i ps ids hd;split at h
     ·rename_i y' bs hy' hbs;have hbs':=Jg hbs;subst hbs';have h0:=(Option.some.inj h).symm;have hr':Ready E n 1:=by rw[h0]at hr;exact hr
      have hn':0<c/\c*(C0 P elem:Int)<=(lim:Int)/\c<=(lim:Int):=by rw[h0]at hn;exact hn
      obtain⟨n1,n2,n3⟩:=hn';have hb:C0 P elem=info.bytes:=by simp[C0,hi]
      have hiz:info.zero=some z:=by simpa[Eg,hi]using hz
      have hlimv:lim=140737488355328:=rfl;rw[hvx]at hx;rw[hvy]at hy;obtain⟨ba,hvv⟩:=hx.cap0_inv;have hc:((c.toNat:Nat):Int)=c:=Int.toNat_of_nonneg (by omega);have hcb:c.toNat*info.bytes<=lim:=by
       rw[hb,<-hc]at n2;exact Int.ofNat_le.1 (by rw[Int.natCast_mul];exact n2)
      have hpos:=Bh u;have hrun:=P8 (P:=P) E.w t tn ty elem info z k kn hu htn hi hiz ba c.toNat (by omega) (by omega) (by omega) (by omega);rw[hc]at hrun;rw[hvv,hy.int_inv];refine⟨_,_,hrun, ?_⟩;have hzc:=Iv (E:=E) hk.2;obtain⟨g1,g2⟩:=Gm (ids':=[]) (H:=[]) (E:=E) (λid _ hne=>aT rfl hne) (λid _ hne=>aT rfl hne) hzc hd (λid hid=>by
       have:ids=[]:=by
        have:∀(l:List AV) ps ids,Di [] l=some (ps,ids)->ids=[]:=by
         intro l
         induction l with
         |nil=>intro ps ids h;simp[Di]at h;exact h.2
         |cons x l ih=>
          intro ps ids h;simp only[Di]at h;split at h
          ·rename_i p ia qs ib h1 h2;simp only[aU,bG]at h;obtain⟨_,rfl⟩:=h;have hib:=ih _ _ h2;subst hib;rw[P7 h1];rfl
          ·cases h
        exact this _ _ _ hd
       subst this;exact hid)
      have hle:=Ir u ps y' hy';have hz':z.cells.size=u.size:=by
       have h1:=hle.get.1;rw[Aw]at h1;simp at g1;omega
      have hc1:=grownCap_ge E.w c.toNat 0 elem;have hc2:=grownCap_le_maxLen E.w c.toNat 0 elem (by simp only[maxLen];omega);generalize grownCap E.w c.toNat 0 elem=cap' at hc1 hc2 ⊢;have hzl:z.cells.toList.length=u.size:=by simpa using hz'
      have hget0:∀j,j<c.toNat*u.size->(Builtin.zeroCells z.cells c.toNat)[j]?=some (z.cells[j % u.size]!):=by
       intro j hj;simp only[Builtin.zeroCells,hz',gB,gS,hj];rfl
      have hsz:(Builtin.zeroCells z.cells c.toNat++Builtin.zeroCells z.cells (cap'-c.toNat)).size=cap'*u.size:=by
       simp only[Builtin.zeroCells,hz',gK,Array.size_map,Array.size_range];rw[<-cS]
       congr 1
       omega
      have hstep:Step E n r (E.w.drew.alloc (.cells (Builtin.zeroCells z.cells c.toNat++Builtin.zeroCells z.cells (cap'-c.toNat)) elem)) (λ_=>some ⟨E.w.heap.size,0,c.toNat,cap'⟩):=by
       subst h0;refine⟨((Below.refl _ _).drew).alloc hr.B _,λb hb _=>Below.heap_alloc _ _ _ hb, ?_, ?_, ?_, ?_⟩
       ·intro j h _ hj;cases hj;exact⟨by simp,.inl (bA _)⟩
       ·intro j j' h h' hj hj' _ _ hne;simp at hj hj';omega
       ·intro id hid;cases hid
       ·intro p hp;cases hp
      refine Fc (wn:=wn) hr' hA h0 hstep rfl rfl (λE' hw hfz=>?_) hK;refine⟨by simp,hc1,by simp[lim];omega,hc2,_,elem, ?_,by rw[hsz];simp,λj p hp=>?_⟩
      ·rw[hw];exact heap_alloc_new E.w.drew _
      ·have hj:j<c.toNat*u.size:=by
        have:=(aW.1 hp).1;rw[Az,bZ]at this;exact this
       have hp':=Gn u y' _ j p hp;have hmod:j % u.size<u.size:=Nat.mod_lt _ hpos;have hu':z.cells.toList[j % u.size]?=some (z.cells.toList[j % u.size]'(by omega)):=aR (by omega);refine⟨z.cells.toList[j % u.size]'(by omega), ?_, ?_⟩
       ·rw[dF,fU (by simp only[Builtin.zeroCells,hz',Array.size_map,Array.size_range];exact hj),hget0 j hj,getElem!_pos z.cells _ (by omega)];rfl
       ·have hpl:ps[j % u.size]?=some (ps[j % u.size]'(by rw[<-g1];omega)):=aR (by rw[<-g1];omega);exact((g2 _ _ _ hu' hpl).2.le (hle.get.2 _ _ _ hpl hp')).mono (λb o hb=>by
         rcases hb with hb|⟨id,hid,_⟩
         ·exact hfz b o hb
         ·cases hid)
     ·cases h
    ·cases h
   ·cases h
  ·cases h
 ·cases h
theorem J8{t u:Ty}{ys:List t.den}{zs:List u.den}(h:Lp t u ys=some zs){v:Value}(hs:Src E t ys v):Src E u zs v:=by
 obtain⟨e,h⟩:=Ha h;subst e;cases h;exact hs
theorem P9{t elem:TypeId}{info:TypeInfo}{z:Value}{u:Ty}{xs zs:List u.den}{x y:Operand}{id:Nat}{hd? : Option Hdr}{q:Option Prop}(hr':Ready E n 1)(hA:∃N,∀id,E.A id->id<N)(hWid:∀id',some id=some id'->E.W id')(hl:E.L id)
 (hu:P.underlying t=some (.slice elem))(hi:P.info? elem=some info)(hs':info.size=u.size)(hz:info.zero=some z)(hzs':z.cells.size=u.size)(hby':1<=info.bytes)
 (hsrc':Src E u zs (a.eval y))(hok:RowsAt E u xs hd?)(hown:P1 hd? (a.eval x))(hblk:∀hd,hd?=some hd->∃hd0,E.ρ id=some hd0/\hd0.blk=hd.blk)(hn':(xs.length+zs.length)*info.bytes<=lim)
 (h0:r=⟨q,none,.own n,[.rows u (xs++zs)],some id,none,[]⟩)
 (hK:∀E' v,Ext E n r wn E'->A7 r.given->RdA E' v r.val->K (a.put dst v) E'.w):∃v w',(Builtin.append_ #[t,t] ty #[a.eval x,a.eval y]).run P E.w=.ok v w'/\K (a.put dst v) w':=by
 cases hd? with
 |none=>
  obtain⟨ba,hvv⟩:=hown;have hxs:xs=[]:=hok;subst hxs;rw[hvv];by_cases hm:zs=[]
  ·obtain⟨ba',c,hvy⟩:=Ow hsrc' hm;rw[hvy];refine⟨_,_,Dh hu hi (bA _) _, ?_⟩;have hstep:Step E n r E.w (λ_=>none):=by
    subst h0;refine⟨Below.refl _ _,λb hb _=>rfl, ?_, ?_,hWid, ?_⟩
    ·intro j h _ hj;cases hj
    ·intro j j' h h' _ _ hj;cases hj
    ·intro p hp;cases hp
   exact Fc (wn:=wn) hr' hA h0 hstep ⟨ba,rfl⟩ rfl (λE' _ _=>by subst hm;rfl) hK
  ·exact Mp (xs:=[]) (olds:=[]) hr' hA hWid hu hi hs' hz hzs' hby' (by simp) (λj p hp=>by simp[flat]at hp)
    (by cases ba with
      |none=>exact .inl ⟨rfl,rfl,rfl⟩
      |some b=>exact .inr ⟨b,rfl,λj u hu=>by simp at hu⟩) hsrc' hm (by have:=eX.2 hm;simpa using this) (by simpa using hn') h0 hK
 |some hd=>
  have hvv:a.eval x=.slice (some ⟨hd.blk,hd.off,none⟩) hd.len hd.cap:=hown;obtain⟨g1,g2,g3,g3',arr,el,g4,g5,g6⟩:=hok;have hWi:E.W id:=hWid id rfl;obtain⟨hd0,hρ,hb0⟩:=hblk hd rfl;have hlt:=hr'.lt id hd0 hl hρ;rw[hb0]at hlt;rw[hvv];by_cases hroom:hd.len+zs.length<=hd.cap
  ·
   by_cases hm:zs=[]
   ·obtain⟨ba',c,hvy⟩:=Ow hsrc' hm;rw[hvy];refine⟨_,_,Dh hu hi g2 _, ?_⟩;have hstep:Step E n r E.w (λ_=>some hd):=by
     subst h0;refine⟨Below.refl _ _,λb hb _=>rfl, ?_, ?_,hWid, ?_⟩
     ·intro j h _ hj;cases hj;exact⟨hlt.2,.inr ⟨id,hWi,rfl,.inl ⟨hd0,hρ,hb0⟩⟩⟩
     ·intro j j' h h' hj hj' _ _ hne;simp at hj hj';omega
     ·intro p hp;cases hp
    exact Fc (wn:=wn) hr' hA h0 hstep rfl rfl (λE' hw hfz=>by
     subst hm;rw[cC];refine⟨g1,g2,g3,g3',arr,el,by rw[hw];exact g4,g5,λj p hp=>?_⟩;obtain⟨v,h1,h2⟩:=g6 j p hp;exact⟨v,h1,h2.mono hfz⟩) hK
   ·obtain⟨b,o,c,us,hvy,hul,hucell,hu1,hurd⟩:=Ik hsrc' hm;rw[hvy];have hmul:(hd.len+zs.length)*u.size<=hd.cap*u.size:=cY _ hroom;rw[cS]at hmul;have hfit:hd.off+hd.len*info.size+us.length<=arr.size:=by rw[hs',hul];omega
    have hrun:=He (P:=P) E.w t ty elem info hu hi hd.blk hd.off hd.len hd.cap arr el g4 ⟨b,o,none⟩ zs.length c us (by rw[hs'];exact hul) (λj u h=>by rw[Cm];exact hucell j u h) hu1 hroom hfit;obtain⟨arr',harr,hasz,hget⟩:∃arr':Array Value,(arr.toList.take (hd.off+hd.len*info.size)++us++arr.toList.drop (hd.off+hd.len*info.size+us.length)).toArray=arr'/\arr'.size=arr.size/\
     ∀j,arr'[j]?=if hd.off+hd.len*u.size<=j/\j<hd.off+hd.len*u.size+us.length then us[j-(hd.off+hd.len*u.size)]? else arr[j]?:=by
     refine⟨_,rfl, ?_,λj=>by rw[getElem?_spliced hfit,hs']⟩;simp only[dZ,bD,bP,cI,cX];omega
    rw[harr]at hrun;refine⟨_,_,hrun, ?_⟩;have hstep:Step E n r (E.w.setRow hd.blk arr') (λ_=>some ⟨hd.blk,hd.off,hd.len+zs.length,hd.cap⟩):=by
     subst h0;refine⟨⟨rfl,rfl,rfl,by simp,λb hb=>setRow_other _ _ _ _ (by omega)⟩,λb hb hne=>setRow_other _ _ _ _ (λe=>hne id hWi (.inl rfl) (.inl ⟨hd0,hρ,hb0.trans e.symm⟩)), ?_, ?_,hWid, ?_⟩
     ·intro j h _ hj;cases hj;exact⟨by simpa using hlt.2,.inr ⟨id,hWi,rfl,.inl ⟨hd0,hρ,hb0⟩⟩⟩
     ·intro j j' h h' hj hj' _ _ hne;simp at hj hj';omega
     ·intro p hp;cases hp
    refine Fc (wn:=wn) hr' hA h0 hstep rfl rfl (λE' hw hfz=>?_) hK;have hlen1:1*(xs.length+zs.length)<=(xs.length+zs.length)*info.bytes:=by rw[Nat.mul_comm];exact fY _ hby'
    refine⟨by simp[g1],hroom,by simp only;omega,g3',arr',el,by rw[hw];exact setRow_heap _ _ arr _ el _ g4,by rw[hasz];exact g5,λj p hp=>?_⟩;simp only;rw[hget];rw[Cv]at hp;have hfl:(flat u xs).length=hd.len*u.size:=by rw[Az,g1]
    by_cases hj:j<(flat u xs).length
    ·rw[bX hj]at hp;rw[aL (by omega)];obtain⟨v,h1,h2⟩:=g6 j p hp;exact⟨v,h1,h2.mono hfz⟩
    ·rw[cD (by omega)]at hp;obtain⟨v,h1,h2⟩:=hurd _ p hp;have hlt:=(aW.1 h1).1;rw[hfl]at h1 hlt hj;rw[aP (by omega)];exact⟨v,by rw[<-h1];congr 1;omega,h2.mono hfz⟩
  ·have hm:zs≠[]:=by rintro rfl;simp at hroom;omega
   have hsrcx:Src E u xs (a.eval x):=by
    rw[hvv];refine J7 (m:=0) (by rw[g1]) (Kx (by omega)) (λj p hp=>?_) rfl;obtain⟨v,h1,h2⟩:=g6 j p hp;exact⟨v,by simp[World.cell?,g4,h1],h2⟩
   by_cases hxs:xs=[]
   ·subst hxs;have h00:hd.len=0:=by simpa using g1
    rw[h00];exact Mp (xs:=[]) (olds:=[]) (cp:=hd.cap) hr' hA hWid hu hi hs' hz hzs' hby' (by simp) (λj p hp=>by simp[flat]at hp)
     (.inr ⟨_,rfl,λj u hu=>by simp at hu⟩) hsrc' hm (by simp;omega) (by simpa using hn') h0 hK
   ·obtain⟨b,o,c,us,hvx2,hul,hucell,hu1,hurd⟩:=Ik hsrcx hxs;rw[hvv]at hvx2;simp only[Value.slice.injEq,aU,Addr.mk.injEq,and_true]at hvx2;obtain⟨⟨hb1,hb2⟩,hb3,hb4⟩:=hvx2;rw[g1];exact Mp (xs:=xs) (olds:=us) (cp:=hd.cap) hr' hA hWid hu hi hs' hz hzs' hby' hul hurd
     (.inr ⟨_,rfl,λj w hw=>by rw[Cm,hb1,hb2];exact hucell j w hw⟩) hsrc' hm (by omega) hn' h0 hK
theorem Acj{t elem:TypeId}{x y:Operand}(hn:A7 r.need)(hr:Ready E n r.news.length)(hA:∃N,∀id,E.A id->id<N)(hL:∀id,E.A id->Ac H id≠.dead->E.L id)(hH:∀id,E.L id->Ac H id≠.dead->OkOb E id (Ac H id))
 (hW:∀id,r.kill=some id->E.W id)(hx:RdA E (a.eval x) (e x))(hy:RdA E (a.eval y) (e y))(hu:P.underlying t=some (.slice elem))(h:Lv P H n elem (e x) (e y)=some r)
 (hK:∀E' v,Ext E n r wn E'->A7 r.given->RdA E' v r.val->K (a.put dst v) E'.w):∃v w',(Builtin.append_ #[t,t] ty #[a.eval x,a.eval y]).run P E.w=.ok v w'/\K (a.put dst v) w':=by
 unfold Lv at h;split at h
 ·split at h
  ·cases h
  rename_i info hi;have same:∀(w:AV),r=Res.pure w->RdA E (a.eval x) w->(∃ba len c,a.eval x=.slice ba len c/\len<=c)->(∃ba c,a.eval y=.slice ba 0 c)->∃v w',(Builtin.append_ #[t,t] ty #[a.eval x,a.eval y]).run P E.w=.ok v w'/\K (a.put dst v) w':=by
   rintro w rfl hxw ⟨ba,len,c,hvx,hle⟩ ⟨ba',c',hvy⟩;refine⟨_,_, ?_,hK E (a.eval x) (Ext.idle hr rfl rfl rfl rfl) trivial hxw⟩;rw[hvx,hvy];exact Dh hu hi hle _
  split at h
  ·rename_i hvy hvx;rw[hvy]at hy;rw[hvx]at hx;obtain⟨ba,hb⟩:=hx.cap0_inv;obtain⟨ba',hb'⟩:=hy.cap0_inv;exact same _ (Option.some.inj h).symm hx ⟨_,_,_,hb,bA _⟩ ⟨_,_,hb'⟩
  ·rename_i hvy hvx;rw[hvy]at hy;rw[hvx]at hx;obtain⟨ba,hb⟩:=hx.cap0_inv;obtain⟨ba',c,hb'⟩:=hy.nils_inv;exact same _ (Option.some.inj h).symm hx ⟨_,_,_,hb,bA _⟩ ⟨_,_,hb'⟩
  ·rename_i id hvy hvx;rw[hvy]at hy;rw[hvx]at hx;obtain⟨ba',hb'⟩:=hy.cap0_inv;split at h
   ·rename_i t' xs hob;have hne:Ac H id≠.dead:=by rw[hob];simp
    have hl:=hL id hx.own_inv.1 hne;have hok:=hH id hl hne;rw[hob]at hok;exact same _ (Option.some.inj h).symm hx (Kz (hx.own_inv.2.2 hl) (Mk hok)) ⟨_,_,hb'⟩
   ·cases h
  ·rename_i id hvy hvx;rw[hvy]at hy;rw[hvx]at hx;obtain⟨ba',c,hb'⟩:=hy.nils_inv;split at h
   ·rename_i t' xs hob;have hne:Ac H id≠.dead:=by rw[hob];simp
    have hl:=hL id hx.own_inv.1 hne;have hok:=hH id hl hne;rw[hob]at hok;exact same _ (Option.some.inj h).symm hx (Kz (hx.own_inv.2.2 hl) (Mk hok)) ⟨_,_,hb'⟩
   ·cases h
  ·cases h
 ·rename_i t' ys hcon;have hsrc:=Ix hL hH hy hcon;split at h
  ·rename_i hcond;simp only[aS]at hcond;obtain⟨⟨hk,hzz⟩,hby⟩:=hcond;obtain⟨info,hi,hs⟩:=Bs hk (Bh t');have hb:C0 P elem=info.bytes:=by simp[C0,hi]
   have hby':1<=info.bytes:=by rw[<-hb];exact cB hby
   obtain⟨z,hz,hzs⟩:∃z,info.zero=some z/\z.cells.size=t'.size:=by
    unfold Og at hzz;cases hzt:Eg P elem with
    |none=>simp[hzt]at hzz
    |some z=>
     simp only[hzt]at hzz;exact⟨z,by simpa[Eg,hi]using hzt,bB hzz⟩
   cases hbs:Sr (C0 P elem) Q1 with
   |none=>rw[hbs]at h;cases h
   |some bs=>
   rw[hbs]at h;have hbs':=Jg hbs;subst hbs';simp only at h;split at h
   ·rename_i hvx;rw[hvx]at hx;obtain⟨ba,hvv⟩:=hx.cap0_inv;have h0:=(Option.some.inj h).symm;have hr':Ready E n 1:=by rw[h0]at hr;exact hr
    have hn':ys.length*info.bytes<=lim:=by rw[h0]at hn;rw[<-hb];exact hn
    rw[hvv];by_cases hm:ys=[]
    ·obtain⟨ba',c,hvy⟩:=Ow hsrc hm;rw[hvy];refine⟨_,_,Dh hu hi (bA _) _, ?_⟩;have hstep:Step E n r E.w (λ_=>none):=by
      subst h0;refine⟨Below.refl _ _,λb hb _=>rfl, ?_, ?_, ?_, ?_⟩
      ·intro j h _ hj;cases hj
      ·intro j j' h h' _ _ hj;cases hj
      ·intro id hid;cases hid
      ·intro p hp;cases hp
     exact Fc (wn:=wn) hr' hA h0 hstep ⟨ba,rfl⟩ rfl (λE' _ _=>hm) hK
    ·exact Mp (xs:=[]) (olds:=[]) hr' hA (λid hid=>by cases hid) hu hi hs hz hzs hby' (by simp) (λj p hp=>by simp[flat]at hp)
      (by cases ba with
        |none=>exact .inl ⟨rfl,rfl,rfl⟩
        |some b=>exact .inr ⟨b,rfl,λj u hu=>by simp at hu⟩) hsrc hm (by have:=eX.2 hm;simpa using this) (by simpa using hn') h0 hK
   ·rename_i id hvx;rw[hvx]at hx;split at h
    ·rename_i u xs hob;split at h
     ·rename_i zs hcast;have hsrc':=J8 hcast hsrc;obtain⟨hteq,_⟩:=Ha hcast;have h0:=(Option.some.inj h).symm;have hr':Ready E n 1:=by rw[h0]at hr;exact hr
      have hn':(xs.length+zs.length)*info.bytes<=lim:=by rw[h0]at hn;rw[<-hb];exact hn
      have hs':info.size=u.size:=by rw[hs,hteq]
      have hzs':z.cells.size=u.size:=by rw[hzs,hteq]
      have hne:Ac H id≠.dead:=by rw[hob];simp
      have hl:=hL id hx.own_inv.1 hne;have hok:RowsAt E u xs (E.ρ id):=by
       have:=hH id hl hne;rw[hob]at this;exact this
      have hWid:∀id',some id=some id'->E.W id':=by rw[h0]at hW;exact hW
      have hown:=hx.own_inv.2.2 hl;exact P9 hr' hA hWid hl hu hi hs' hz hzs' hby' hsrc' hok hown (λhd hhd=>⟨hd,hhd,rfl⟩) hn' h0 hK
     ·cases h
    ·cases h
   ·rename_i id k lo len hvx;rw[hvx]at hx;split at h
    ·rename_i u xs hob;split at h
     ·rename_i hk;split at h
      ·rename_i zs hcast;have hk':=bB hk;have hsrc':=J8 hcast hsrc;obtain⟨hteq,_⟩:=Ha hcast;have h0:=(Option.some.inj h).symm;have hr':Ready E n 1:=by rw[h0]at hr;exact hr
       have hn':(((xs.drop lo).take len).length+zs.length)*info.bytes<=lim:=by rw[h0]at hn;rw[<-hb];exact hn
       have hs':info.size=u.size:=by rw[hs,hteq]
       have hzs':z.cells.size=u.size:=by rw[hzs,hteq]
       have hne:Ac H id≠.dead:=by rw[hob];simp
       have hl:=hL id hx.ownp_inv.1 hne;have hok:RowsAt E u xs (E.ρ id):=by
        have:=hH id hl hne;rw[hob]at this;exact this
       have hWid:∀id',some id=some id'->E.W id':=by rw[h0]at hW;exact hW
       have hown:=hx.ownp_inv.2.2 hl;cases hρ:E.ρ id with
       |none=>
        rw[hρ]at hown;obtain⟨h00,ba,hv⟩:=hown;subst h00;exact P9 (hd?:=none) hr' hA hWid hl hu hi hs' hz hzs' hby' hsrc' (by simp[RowsAt]) ⟨ba,hv⟩ (λhd hhd=>by cases hhd) hn' h0 hK
       |some hd=>
        rw[hρ]at hown hok;obtain⟨h1,o,c,hv,h2,h3,h4⟩:=hown;obtain⟨g1,g2,g3,g3',arr,el,g4,g5,g6⟩:=hok;have hlen:((xs.drop lo).take len).length=len:=by rw[bP,cI];omega
        refine P9 (hd?:=some ⟨hd.blk,o,len,c⟩) hr' hA hWid hl hu hi hs' hz hzs' hby' hsrc' ⟨hlen.symm,h2,by simp only;omega,by simp only;omega,arr,el,g4, ?_,λj p hp=>?_⟩ hv (λhd' hhd=>by cases hhd;exact⟨hd,hρ,rfl⟩) hn' h0 hK
        ·simp only;rcases h4 with rfl|⟨rfl,h4⟩
         ·have hcm:(lo+c)*u.size<=hd.cap*u.size:=cY _ (by omega);rw[cS]at hcm;rw[hk'];omega
         ·rw[hk']at h4;rw[Nat.zero_mul];omega
        ·have hj:j<len*u.size:=by
          have:=(aW.1 hp).1;rw[Az,hlen]at this;exact this
         have ho:o=hd.off+lo*k:=h4.resolve_right (λhc=>by
          have:len=0:=by omega
          rw[this,Nat.zero_mul]at hj;omega)
         rw[Dx,Dw,cQ hj,cK]at hp;obtain⟨v,hv1,hv2⟩:=g6 _ p hp;refine⟨v, ?_,hv2⟩;simp only;rw[<-hv1,ho,hk',eK]
      ·cases h
     ·cases h
    ·cases h
   ·cases h
  ·cases h
theorem Ack{t elem:TypeId}{x y:Operand}(hn:A7 r.need)(hr:Ready E n r.news.length)(hA:∃N,∀id,E.A id->id<N)(hL:∀id,E.A id->Ac H id≠.dead->E.L id)(hH:∀id,E.L id->Ac H id≠.dead->OkOb E id (Ac H id))
 (hWs:∀q,r.st=some q->E.W q.1)(hx:RdA E (a.eval x) (e x))(hy:RdA E (a.eval y) (e y))(hu:P.underlying t=some (.slice elem))(h:Oh P H elem (e x) (e y)=some r)
 (hK:∀E' v,Ext E n r wn E'->A7 r.given->RdA E' v r.val->K (a.put dst v) E'.w):∃v w',(Builtin.append_ #[t,t] ty #[a.eval x,a.eval y]).run P E.w=.ok v w'/\K (a.put dst v) w':=by
 unfold Oh at h;split at h
 ·rename_i id k lo len t' ys hvx hcont;rw[hvx]at hx;have hsrc:=Ix hL hH hy hcont;split at h
  ·rename_i u xs hob;split at h
   ·rename_i hk;simp only[aS]at hk;obtain⟨info,hi,hs⟩:=Bs hk.1 (Bh u);have hk2:=bB hk.2;subst hk2;split at h
    ·rename_i zs hz;have h0:=(Option.some.inj h).symm;have hsrc':=J8 hz hsrc;have hroom:lo+len+zs.length<=xs.length:=by rw[h0]at hn;exact hn
     have hne:Ac H id≠.dead:=by rw[hob];simp
     have hl:=hL id hx.ownp_inv.1 hne;have hok:RowsAt E u xs (E.ρ id):=by
      have:=hH id hl hne;rw[hob]at this;exact this
     have hown:=hx.ownp_inv.2.2 hl;have hWi:E.W id:=hWs _ (by rw[h0]);subst h0;by_cases hm:zs=[]
     ·obtain⟨ba',c',hvy⟩:=Ow hsrc' hm;obtain⟨ba,c,hvv,hcc⟩:∃ba c,a.eval x=.slice ba len c/\len<=c:=by
       cases hρ:E.ρ id with
       |none=>
        rw[hρ]at hown;obtain⟨h1,ba,h2⟩:=hown;subst h1;exact⟨ba,0,h2,bA _⟩
       |some hd=>
        rw[hρ]at hown;obtain⟨h1,o,c,h2,h3,_⟩:=hown;exact⟨_,c,h2,h3⟩
      rw[hvv,hvy];refine⟨_,_,Dh hu hi hcc _, ?_⟩;subst hm;have hstep:Step E n ⟨some (lo+len+([]:List u.den).length<=xs.length),none,.ownp id u.size lo (len+([]:List u.den).length),[],none,some (id,.rows u (xs.take (lo+len)++([]++xs.drop (lo+len+([]:List u.den).length)))),[]⟩ E.w (λ_=>none):=by
       refine⟨Below.refl _ _,λb hb _=>rfl, ?_, ?_,λi hi=>(by cases hi),λp hp=>(by cases hp;exact hWi)⟩
       ·intro j h hj;simp at hj
       ·intro j j' h h' hj;simp at hj
      have hxx:=hstep.ext (wn:=wn) hr hA (λ_ j ob hj=>by simp at hj) (λhevo i ob hi=>by
       cases hi;show RowsAt _ u _ _;have hρ2:(E.ext n (List.length ([]:List Ob)) none [] wn E.w (λ_=>none)).ρ id=E.ρ id:=by
        simp only[Env.ext];rw[aL (by simp)]
       rw[hρ2];have e1:xs.take (lo+len)++([]++xs.drop (lo+len+([]:List u.den).length))=xs:=by simp
       rw[e1];exact(RowsAt.mono (o:=E.ρ id) (hevo 0).fz (λ_ _=>rfl) hok))
      refine hK (E.ext n (List.length ([]:List Ob)) none [] wn E.w (λ_=>none)) _ hxx trivial ?_;obtain⟨N,hN⟩:=hA;have hx2:=hx.mono (hxx.evo N) hN;rw[hvv]at hx2;simpa using hx2
     ·obtain⟨b,o2,c2,us,hvy,hul,hucell,hu1,hurd⟩:=Ik hsrc' hm;have hzl:=eX.2 hm;cases hρ:E.ρ id with
      |none=>
       rw[hρ]at hok;have:xs=[]:=hok;subst this;simp only[List.length_nil]at hroom;omega
      |some hd=>
       rw[hρ]at hown hok;obtain⟨q1,o,c,hvv,q2,q3,q4⟩:=hown;obtain⟨g1,g2,g3,g3',arr,el,g4,g5,g6⟩:=hok;have ho:o=hd.off+lo*u.size:=q4.resolve_right (λhc=>by omega);subst ho;rw[hvv,hvy];have hlen:hd.len=xs.length:=g1;have hmul:(lo+len+zs.length)*u.size<=hd.cap*u.size:=cY _ (by omega);rw[cS,cS]at hmul;have hfit:hd.off+lo*u.size+len*info.size+us.length<=arr.size:=by rw[hs,hul];omega
       have hrun:=He (P:=P) E.w t ty elem info hu hi hd.blk (hd.off+lo*u.size) len c arr el g4 ⟨b,o2,none⟩ zs.length c2 us (by rw[hs];exact hul) (λj u h=>by rw[Cm];exact hucell j u h) hu1 (by omega) hfit;obtain⟨arr',harr,hasz,hget⟩:∃arr':Array Value,(arr.toList.take (hd.off+lo*u.size+len*info.size)++us++arr.toList.drop (hd.off+lo*u.size+len*info.size+us.length)).toArray=arr'/\arr'.size=arr.size/\
        ∀j,arr'[j]?=if hd.off+lo*u.size+len*u.size<=j/\j<hd.off+lo*u.size+len*u.size+us.length then us[j-(hd.off+lo*u.size+len*u.size)]? else arr[j]?:=by
        refine⟨_,rfl, ?_,λj=>by rw[getElem?_spliced hfit,hs]⟩;simp only[dZ,bD,bP,cI,cX];omega
       rw[harr]at hrun;refine⟨_,_,hrun, ?_⟩;let r0:Res:=⟨some (lo+len+zs.length<=xs.length),none,.ownp id u.size lo (len+zs.length),[],none,some (id,.rows u (xs.take (lo+len)++(zs++xs.drop (lo+len+zs.length)))),[]⟩;have hstep:Step E n r0 (E.w.setRow hd.blk arr') (λ_=>none):=J6 (by simpa using hr) rfl rfl rfl hWi hρ _;have hρ2:(E.ext n r0.news.length r0.kill r0.frz wn (E.w.setRow hd.blk arr') (λ_=>none)).ρ id=some hd:=by
        simp only[Env.ext];rw[aL (by simp[r0])];exact hρ
       have hxx:=hstep.ext (wn:=wn) hr hA (λ_ j ob hj=>by simp[r0]at hj) (λhevo i ob hi=>by
        cases hi;show RowsAt _ u _ _;rw[hρ2];have hln:(xs.take (lo+len)++(zs++xs.drop (lo+len+zs.length))).length=xs.length:=by
         simp only[bD,bP,cI];omega
        refine⟨by rw[hln];exact g1,g2,g3,g3',arr',el,setRow_heap _ _ arr _ el _ g4,by rw[hasz];exact g5,λj p hp=>?_⟩;rw[hget];have f1:(flat u (xs.take (lo+len))).length=lo*u.size+len*u.size:=by
         rw[Az,bP,eQ (by omega),cS]
        have f2:(flat u zs).length=us.length:=by rw[Az,hul]
        rw[Cv,Cv]at hp;by_cases hj:j<lo*u.size+len*u.size
        ·rw[bX (by omega)]at hp;rw[aL (by omega)];rw[Dx]at hp;have hjj:j<(lo+len)*u.size:=by rw[cS];exact hj
         rw[cQ hjj]at hp;obtain⟨v,k1,k2⟩:=g6 j p hp;exact⟨v,k1,k2.mono (hevo 0).fz⟩
        ·rw[cD (by omega),f1]at hp;by_cases hj2:j-(lo*u.size+len*u.size)<us.length
         ·rw[bX (by omega)]at hp;obtain⟨v,k1,k2⟩:=hurd _ p hp;rw[aP (by omega)];exact⟨v,by rw[<-k1];congr 1;omega,k2.mono (hevo 0).fz⟩
         ·rw[cD (by omega),f2,Dw,cK]at hp;rw[aL (by omega)];have hidx:(lo+len+zs.length)*u.size+(j-(lo*u.size+len*u.size)-us.length)=j:=by
           rw[cS,cS,<-hul];omega
          rw[hidx]at hp;obtain⟨v,k1,k2⟩:=g6 j p hp;exact⟨v,k1,k2.mono (hevo 0).fz⟩)
       refine hK _ _ hxx trivial (.ownp _ id u.size lo (len+zs.length) ((hxx.A id).2 (.inl hx.ownp_inv.1)) rfl λ_=>?_);rw[hρ2];exact⟨by omega,hd.off+lo*u.size,c,rfl,by omega,q3,.inl rfl⟩
    ·cases h
   ·cases h
  ·cases h
 ·cases h
theorem Agr{t elem:TypeId}{x y:Operand}(hn:A7 r.need)(hr:Ready E n r.news.length)(hA:∃N,∀id,E.A id->id<N)(hL:∀id,E.A id->Ac H id≠.dead->E.L id)(hH:∀id,E.L id->Ac H id≠.dead->OkOb E id (Ac H id))
 (hW:∀id,r.kill=some id->E.W id)(hWs:∀q,r.st=some q->E.W q.1)(hx:RdA E (a.eval x) (e x))(hy:RdA E (a.eval y) (e y))(hu:P.underlying t=some (.slice elem))(h:Kw P H n elem (e x) (e y)=some r)
 (hK:∀E' v,Ext E n r wn E'->A7 r.given->RdA E' v r.val->K (a.put dst v) E'.w):∃v w',(Builtin.append_ #[t,t] ty #[a.eval x,a.eval y]).run P E.w=.ok v w'/\K (a.put dst v) w':=by
 unfold Kw at h;split at h
 ·exact Ack hn hr hA hL hH hWs hx hy hu h hK
 split at h
 ·rename_i id k lo len hvx;rw[hvx]at hx;unfold R2 at h;split at h
  ·cases h
  ·rename_i t' ys hcont;have hsrc:=Ix hL hH hy hcont;split at h
   ·rename_i u xs hob;split at h
    ·rename_i hk;simp only[aS]at hk;obtain⟨info,hi,hs⟩:=Bs hk.1 (Bh u);have hk2:=bB hk.2;subst hk2;split at h
     ·rename_i zs hz;have h0:=(Option.some.inj h).symm;have hsrc':=J8 hz hsrc;have hroom:lo+len+zs.length<=xs.length:=by rw[h0]at hn;exact hn
      have hne:Ac H id≠.dead:=by rw[hob];simp
      have hl:=hL id hx.ownc_inv.1 hne;have hok:=hH id hl hne;rw[hob]at hok;obtain⟨hd,hρ,h1,hvv⟩:=hx.ownc_inv.2.2 hl;have hrow:RowsAt E u xs (some hd):=by rw[<-hρ];exact hok
      obtain⟨g1,g2,g3,g3',arr,el,g4,g5,g6⟩:=hrow;have hWi:E.W id:=hWs _ (by rw[h0]);have hlt:=hr.lt id hd hl hρ;rw[hvv];subst h0;by_cases hm:zs=[]
      ·obtain⟨ba',c,hvy⟩:=Ow hsrc' hm;rw[hvy];refine⟨_,_,Dh hu hi (by omega) _, ?_⟩;subst hm;have hstep:Step E n ⟨some (lo+len+([]:List u.den).length<=xs.length),none,.ownc id u.size lo (len+([]:List u.den).length),[],none,some (id,.rows u (xs.take (lo+len)++([]++xs.drop (lo+len+([]:List u.den).length)))),[]⟩ E.w (λ_=>none):=by
        refine⟨Below.refl _ _,λb hb _=>rfl, ?_, ?_,λi hi=>(by cases hi),λp hp=>(by cases hp;exact hWi)⟩
        ·intro j h hj;simp at hj
        ·intro j j' h h' hj;simp at hj
       have hxx:=hstep.ext (wn:=wn) hr hA (λ_ j ob hj=>by simp at hj) (λhevo i ob hi=>by
        cases hi;show RowsAt _ u _ _;have hρ2:(E.ext n (List.length ([]:List Ob)) none [] wn E.w (λ_=>none)).ρ id=some hd:=by
         simp only[Env.ext];rw[aL (by simp)];exact hρ
        rw[hρ2];have e1:xs.take (lo+len)++([]++xs.drop (lo+len+([]:List u.den).length))=xs:=by simp
        rw[e1];exact(RowsAt.mono (o:=some hd) (hevo 0).fz (λ_ _=>rfl) ⟨g1,g2,g3,g3',arr,el,g4,g5,g6⟩))
       refine hK (E.ext n (List.length ([]:List Ob)) none [] wn E.w (λ_=>none)) _ hxx trivial ?_;obtain⟨N,hN⟩:=hA;have hx2:=hx.mono (hxx.evo N) hN;rw[hvv]at hx2;simpa using hx2
      ·obtain⟨b,o,c,us,hvy,hul,hucell,hu1,hurd⟩:=Ik hsrc' hm;rw[hvy];have hlen:hd.len=xs.length:=g1;have hmul:(lo+len+zs.length)*u.size<=hd.cap*u.size:=cY _ (by omega);rw[cS,cS]at hmul;have hfit:hd.off+lo*u.size+len*info.size+us.length<=arr.size:=by rw[hs,hul];omega
       have hrun:=He (P:=P) E.w t ty elem info hu hi hd.blk (hd.off+lo*u.size) len (hd.len-lo) arr el g4 ⟨b,o,none⟩ zs.length c us (by rw[hs];exact hul) (λj u h=>by rw[Cm];exact hucell j u h) hu1 (by omega) hfit;obtain⟨arr',harr,hasz,hget⟩:∃arr':Array Value,(arr.toList.take (hd.off+lo*u.size+len*info.size)++us++arr.toList.drop (hd.off+lo*u.size+len*info.size+us.length)).toArray=arr'/\arr'.size=arr.size/\
        ∀j,arr'[j]?=if hd.off+lo*u.size+len*u.size<=j/\j<hd.off+lo*u.size+len*u.size+us.length then us[j-(hd.off+lo*u.size+len*u.size)]? else arr[j]?:=by
        refine⟨_,rfl, ?_,λj=>by rw[getElem?_spliced hfit,hs]⟩;simp only[dZ,bD,bP,cI,cX];omega
       rw[harr]at hrun;refine⟨_,_,hrun, ?_⟩;let r0:Res:=⟨some (lo+len+zs.length<=xs.length),none,.ownc id u.size lo (len+zs.length),[],none,some (id,.rows u (xs.take (lo+len)++(zs++xs.drop (lo+len+zs.length)))),[]⟩;have hstep:Step E n r0 (E.w.setRow hd.blk arr') (λ_=>none):=J6 (by simpa using hr) rfl rfl rfl hWi hρ _;have hρ2:(E.ext n r0.news.length r0.kill r0.frz wn (E.w.setRow hd.blk arr') (λ_=>none)).ρ id=some hd:=by
        simp only[Env.ext];rw[aL (by simp[r0])];exact hρ
       have hxx:=hstep.ext (wn:=wn) hr hA (λ_ j ob hj=>by simp[r0]at hj) (λhevo i ob hi=>by
        cases hi;show RowsAt _ u _ _;rw[hρ2];have hln:(xs.take (lo+len)++(zs++xs.drop (lo+len+zs.length))).length=xs.length:=by
         simp only[bD,bP,cI];omega
        refine⟨by rw[hln];exact g1,g2,g3,g3',arr',el,setRow_heap _ _ arr _ el _ g4,by rw[hasz];exact g5,λj p hp=>?_⟩;rw[hget];have f1:(flat u (xs.take (lo+len))).length=lo*u.size+len*u.size:=by
         rw[Az,bP,eQ (by omega),cS]
        have f2:(flat u zs).length=us.length:=by rw[Az,hul]
        rw[Cv,Cv]at hp;by_cases hj:j<lo*u.size+len*u.size
        ·rw[bX (by omega)]at hp;rw[aL (by omega)];rw[Dx]at hp;have hjj:j<(lo+len)*u.size:=by rw[cS];exact hj
         rw[cQ hjj]at hp;obtain⟨v,k1,k2⟩:=g6 j p hp;exact⟨v,k1,k2.mono (hevo 0).fz⟩
        ·rw[cD (by omega),f1]at hp;by_cases hj2:j-(lo*u.size+len*u.size)<us.length
         ·rw[bX (by omega)]at hp;obtain⟨v,k1,k2⟩:=hurd _ p hp;rw[aP (by omega)];exact⟨v,by rw[<-k1];congr 1;omega,k2.mono (hevo 0).fz⟩
         ·rw[cD (by omega),f2,Dw,cK]at hp;rw[aL (by omega)];have hidx:(lo+len+zs.length)*u.size+(j-(lo*u.size+len*u.size)-us.length)=j:=by
           rw[cS,cS,<-hul];omega
          rw[hidx]at hp;obtain⟨v,k1,k2⟩:=g6 j p hp;exact⟨v,k1,k2.mono (hevo 0).fz⟩)
       refine hK _ _ hxx trivial (.ownc _ id u.size lo (len+zs.length) ((hxx.A id).2 (.inl hx.ownc_inv.1)) rfl λ_=>⟨hd,hρ2,by omega,rfl⟩)
     ·cases h
    ·cases h
   ·cases h
 ·rename_i u xs hvx;rw[hvx]at hx;unfold R3 at h;split at h
  ·cases h
  ·rename_i t' ys hcont;have hsrc:=Ix hL hH hy hcont;split at h
   ·rename_i hk;simp only[aS]at hk;obtain⟨⟨hk1,hzf⟩,hby⟩:=hk;obtain⟨info,hi,hs⟩:=Bs hk1 (Bh u);split at h
    ·rename_i bs zs hbs hz;have hbs':=Jg hbs;subst hbs';have h0:=(Option.some.inj h).symm;have hsrc':=J8 hz hsrc;have hn':zs≠[]/\(xs.length+zs.length)*C0 P elem<=lim:=by rw[h0]at hn;exact hn
     obtain⟨hm,hlim⟩:=hn';obtain⟨z,hzt,hzs⟩:∃z,Eg P elem=some z/\z.cells.size=u.size:=by
      unfold Og at hzf;split at hzf
      ·rename_i z hz;exact⟨z,hz,bB hzf⟩
      ·cases hzf
     have hb:C0 P elem=info.bytes:=by simp[C0,hi]
     have hiz:info.zero=some z:=by simpa[Eg,hi]using hzt
     obtain⟨⟨ba,hvv⟩,hp⟩:=hx.slf_inv;rw[hvv]at hp;rw[hvv];have hr':Ready E n 1:=by rw[h0]at hr;exact hr
     rcases hp.sl_inv with⟨hnil,ba',c',hv'⟩|⟨b,o,c,g,hv',hc,hl,hcell,hrd⟩
     ·subst hnil;exact Mp (xs:=[]) (olds:=[]) (kill:=none) hr' hA (λ_ h=>by cases h) hu hi hs hiz hzs (by rw[<-hb];exact cB hby) (by simp) (λj p hp=>by simp[flat]at hp)
       (by cases ba with
         |none=>exact .inl ⟨rfl,rfl,rfl⟩
         |some b=>exact .inr ⟨b,rfl,λj u hu=>by simp at hu⟩) hsrc' hm (by have:=eX.2 hm;simpa using this) (by rw[<-hb];exact hlim) h0 hK
     ·simp only[Value.slice.injEq]at hv';obtain⟨hba,_,_⟩:=hv';subst hba;refine Mp (xs:=xs) (olds:=(List.range (flat u xs).length).map g) (kill:=none) hr' hA (λ_ h=>by cases h) hu hi hs hiz hzs (by rw[<-hb];exact cB hby) (by simp[Az]) (λj p hp=>?_)
       (.inr ⟨_,rfl,λj w hw=>?_⟩) hsrc' hm (by have:=eX.2 hm;omega) (by rw[<-hb];exact hlim) h0 hK
      ·have hj:=(aW.1 hp).1;exact⟨g j,by simp[hj],hrd j p hp⟩
      ·have hj:j<(flat u xs).length:=by
        have:=(aW.1 hw).1;simpa using this
       have:w=g j:=by simp[hj]at hw;exact hw.symm
       rw[this,Cm];exact(hcell j hj).2
    ·cases h
   ·cases h
 ·exact Acj hn hr hA hL hH hW hx hy hu h hK
end
end Go.Sx
namespace Go.Sx
open Go.RowKit
section
variable {P:Program}{cx:Ctx}{E:Env}{a:Act}{e:Operand->AV}{H:List Ob}{n:Nat}{r:Res}
 {dst:Option Tmp}{ty:TypeId}{pos:String}{after:Array Go.Edge}{guard:Option (Nat×Bool)}{wn:Nat->Prop}{K:Act->World->Prop}{Q:Exit->Act->World->Prop}{ro:Option Nat}
theorem Am9{t elem:TypeId}{x y:Operand}{id:Nat}{u t':Ty}{xs zs:List u.den}{ys:List t'.den}(hr:Ready E n r.news.length)(hA:∃N,∀id,E.A id->id<N)(hL:∀id,E.A id->Ac H id≠.dead->E.L id)(hH:∀id,E.L id->Ac H id≠.dead->OkOb E id (Ac H id))
 (hW:∀q,r.st=some q->E.W q.1)(hx:RdA E (a.eval x) (.own id))(hy:RdA E (a.eval y) (e y))(hu:P.underlying t=some (.slice elem))(hk:Nat.beq (Bk P elem) u.size=true)(hob:Ac H id=.rows u xs)(hcon:Fb H (e y)=some ⟨t',ys⟩)(hcast:Lp t' u ys=some zs)
 (h0:r=⟨none,none,.int .i64 ((Nat.min zs.length xs.length:Nat):Int),[],none,some (id,.rows u (zs.take xs.length++xs.drop zs.length)),[]⟩)
 (hK:∀E' v,Ext E n r wn E'->A7 r.given->RdA E' v r.val->K (a.put dst v) E'.w):∃v w',(Builtin.copy_ #[t,t] ty #[a.eval x,a.eval y]).run P E.w=.ok v w'/\K (a.put dst v) w':=by
 obtain⟨info,hi,hs⟩:=Bs hk (Bh u);have hsrc:=J8 hcast (Ix hL hH hy hcon);have hne:Ac H id≠.dead:=by rw[hob];simp
 have hl:=hL id hx.own_inv.1 hne;have hok:RowsAt E u xs (E.ρ id):=by
  have:=hH id hl hne;rw[hob]at this;exact this
 have hWid:E.W id:=by rw[h0]at hW;exact hW _ rfl
 have hown:=hx.own_inv.2.2 hl;have hsr:(sizeOf elem).run P E.w=.ok u.size E.w:=by simp[sizeOf,typeInfo,hi,hs]
 have idle:Nat.min zs.length xs.length=0->(∃ba len c,a.eval x=.slice ba len c/\len=xs.length)->(∃ba len c,a.eval y=.slice ba len c/\len=zs.length)->∃v w',(Builtin.copy_ #[t,t] ty #[a.eval x,a.eval y]).run P E.w=.ok v w'/\K (a.put dst v) w':=by
  rintro hmin ⟨ba,len,c,hvx,hlx⟩ ⟨ba',len',c',hvy,hly⟩;subst hlx;subst hly;refine⟨.int .i64 0,E.w, ?_, ?_⟩
  ·rw[hvx,hvy];cases ba<;>cases ba'<;>simp[Builtin.copy_,run_underlying hu,Builtin.lenOf,Builtin.firstCells,hsr,hmin,loadCells,loadCellsFrom,storeCells,goInt]
  ·have hnew:zs.take xs.length++xs.drop zs.length=xs:=by
    have h1:zs.length=0\/xs.length=0:=by
     rcases Nat.le_total zs.length xs.length with h|h
     ·left;rw[<-hmin];exact(eQ h).symm
     ·right;rw[<-hmin];exact(fS h).symm
    rcases h1 with h1|h1
    ·have:=cV h1;subst this;simp
    ·have:=cV h1;subst this;simp
   subst h0;have hstep:Step E n ⟨none,none,.int .i64 ((Nat.min zs.length xs.length:Nat):Int),[],none,some (id,.rows u (zs.take xs.length++xs.drop zs.length)),[]⟩ E.w (λ_=>none):=by
    refine⟨Below.refl _ _,λb hb _=>rfl, ?_, ?_, ?_, ?_⟩
    ·intro j h hj;simp at hj
    ·intro j j' h h' hj;simp at hj
    ·intro id hid;cases hid
    ·intro p hp;cases hp;exact hWid
   have hx:=hstep.ext (wn:=wn) hr hA (λ_ j ob hj=>by simp at hj) (λhevo i ob hi=>by
    cases hi;show RowsAt _ u _ _;rw[hnew];have hρ2:(E.ext n 0 none [] wn E.w (λ_=>none)).ρ id=E.ρ id:=by simp only[Env.ext];rw[aL (by omega)]
    rw[show(E.ext n (List.length ([]:List Ob)) none [] wn E.w (λ_=>none)).ρ id=E.ρ id from hρ2];exact hok.mono (hevo 0).fz (λ_ _=>rfl))
   have:=hK _ (.int .i64 0) hx trivial (by rw[hmin];exact .int _ _);exact this
 cases hρ:E.ρ id with
 |none=>
  rw[hρ]at hok hown;obtain⟨ba,hvx⟩:=hown;have hxs:xs=[]:=hok;subst hxs;refine idle (fS (aV _)) ⟨_,_,_,hvx,rfl⟩ ?_;cases hsrc with
  |none ba' c h hv=>subst h;exact⟨_,_,_,hv,rfl⟩
  |some b o c us hv _ _ _ _ _=>exact⟨_,_,_,hv,rfl⟩
 |some hd=>
  rw[hρ]at hok hown;have hvx:a.eval x=.slice (some ⟨hd.blk,hd.off,none⟩) hd.len hd.cap:=hown;obtain⟨g1,g2,g3,g3',arr,el,g4,g5,g6⟩:=hok;by_cases hmin:Nat.min zs.length xs.length=0
  ·refine idle hmin ⟨_,_,_,hvx,g1⟩ ?_;cases hsrc with
   |none ba' c h hv=>subst h;exact⟨_,_,_,hv,rfl⟩
   |some b o c us hv _ _ _ _ _=>exact⟨_,_,_,hv,rfl⟩
  ·have hzs:zs≠[]:=by rintro rfl;exact hmin (eQ (aV _))
   obtain⟨b,o,c,us,hvy,hul,hucell,hu1,hurd⟩:=Ik hsrc hzs;rw[hvx,hvy];have hmle:Nat.min zs.length xs.length<=zs.length:=Nat.min_le_left _ _;have hmle':Nat.min zs.length xs.length<=xs.length:=Nat.min_le_right _ _;generalize hmm:Nat.min zs.length xs.length=m at *;have hmz:m*u.size<=zs.length*u.size:=cY _ hmle;have hmx:m*u.size<=hd.cap*u.size:=cY _ (by omega);have hcl:(us.take (m*u.size)).length=m*u.size:=by rw[bP,hul];omega
   have hf:=run_firstCells_some (P:=P) E.w u.size m ⟨b,o,none⟩ zs.length c (us.take (m*u.size)) hcl (λj v hv=>by
    rw[Cm];have hj:j<m*u.size:=by have:=(aW.1 hv).1;omega
    rw[cQ hj]at hv;exact hucell j v hv)
   have hfit:hd.off+(us.take (m*u.size)).length<=arr.size:=by rw[hcl];omega
   have hst:=run_storeCells_at P hd.blk hd.off el (us.take (m*u.size)) 0 arr E.w g4 (by simpa using hfit) (λv hv=>hu1 v (fD hv));simp only[dH]at hst;obtain⟨arr',harr,hasz,hget⟩:∃arr':Array Value,(arr.toList.take hd.off++us.take (m*u.size)++arr.toList.drop (hd.off+(us.take (m*u.size)).length)).toArray=arr'/\arr'.size=arr.size/\
    ∀j,arr'[j]?=if hd.off<=j/\j<hd.off+m*u.size then us[j-hd.off]? else arr[j]?:=by
    refine⟨_,rfl, ?_,λj=>?_⟩
    ·simp only[dZ,bD,cI,cX];rw[hcl]at hfit ⊢;simp only[bP,cX];omega
    ·rw[getElem?_spliced hfit,hcl];split
     ·rw[cQ (by omega)]
     ·rfl
   rw[harr]at hst;refine⟨.int .i64 (m:Int),E.w.setRow hd.blk arr', ?_, ?_⟩
   ·simp[Builtin.copy_,run_underlying hu,Builtin.lenOf,hsr,g1,hmm,hf,hst,goInt]
   ·subst h0;have hs:Step E n ⟨none,none,.int .i64 (m:Int),[],none,some (id,.rows u (zs.take xs.length++xs.drop zs.length)),[]⟩ (E.w.setRow hd.blk arr') (λ_=>none):=J6 hr rfl rfl rfl hWid hρ _;have hx:=hs.ext (wn:=wn) hr hA (λ_ j ob hj=>by simp at hj) (λhevo i ob hi=>by
     cases hi;show RowsAt _ u _ _;have hρ2:(E.ext n 0 none [] wn (E.w.setRow hd.blk arr') (λ_=>none)).ρ id=some hd:=by simp only[Env.ext];rw[aL (by omega)];exact hρ
     rw[show(E.ext n (List.length ([]:List Ob)) none [] wn (E.w.setRow hd.blk arr') (λ_=>none)).ρ id=some hd from hρ2];have hevo0:=(hevo 0).fz;have hnl:(zs.take xs.length++xs.drop zs.length).length=xs.length:=by
      rw[bD,bP,cI];omega
     refine⟨by rw[hnl];exact g1,g2,g3,g3',arr',el,setRow_heap _ _ arr _ el _ g4,by rw[hasz];exact g5,λj p hp=>?_⟩;rw[hget];have htl:(zs.take xs.length).length=m:=by rw[bP,Nat.min_comm];exact hmm
     rw[Cv]at hp;by_cases hj:j<m*u.size
     ·rw[bX (by rw[Az,htl];exact hj)]at hp;rw[aP (by omega),eM];rw[Dx]at hp;have:j<xs.length*u.size:=cA hj (cY _ hmle');rw[cQ this]at hp;obtain⟨v,h1,h2⟩:=hurd j p hp;exact⟨v,h1,h2.mono hevo0⟩
     ·rw[cD (by rw[Az,htl];omega),Az,htl,Dw,cK]at hp;rw[aL (by omega)];have hlt:=(aW.1 hp).1;rw[Az]at hlt;have hzm:zs.length=m:=by
       rcases Nat.le_total zs.length xs.length with h|h
       ·rw[<-hmm];exact(eQ h).symm
       ·exfalso;have:=cY u.size h;omega
      rw[hzm,show m*u.size+(j-m*u.size)=j by omega]at hp;obtain⟨v,h1,h2⟩:=g6 j p hp;exact⟨v,h1,h2.mono hevo0⟩)
    have:=hK _ (.int .i64 (m:Int)) hx trivial (.int _ _);exact this
theorem Ags:∀(l:List AV) ps ids,Di [] l=some (ps,ids)->ids=[]:=by
 intro l
 induction l with
 |nil=>intro ps ids h;simp[Di]at h;exact h.2
 |cons x l ih=>
  intro ps ids h;simp only[Di]at h;split at h
  ·rename_i p ia qs ib h1 h2;simp only[aU,bG]at h;obtain⟨_,rfl⟩:=h;have hib:=ih _ _ h2;subst hib;rw[P7 h1];rfl
  ·cases h
theorem Aji{t elem:TypeId}{x:Operand}{id lo len:Nat}{u:Ty}{xs:List u.den}{z:Value}{ps:List PV}{ids:List Nat}{y:u.den}(hr:Ready E n r.news.length)(hA:∃N,∀id,E.A id->id<N)(hL:∀id,E.A id->Ac H id≠.dead->E.L id)(hH:∀id,E.L id->Ac H id≠.dead->OkOb E id (Ac H id))
 (hW:∀q,r.st=some q->E.W q.1)(hx:RdA E (a.eval x) (.ownp id u.size lo len))(hu:P.underlying t=some (.slice elem))(hk:Nat.beq (Bk P elem) u.size=true)(hob:Ac H id=.rows u xs)
 (hz:Eg P elem=some z)(hall:z.cells.toList.all Ef=true)(hd:Di [] (z.cells.toList.map Eo)=some (ps,ids))(hy:dec u ps=some y)
 (h0:r=⟨none,none,.any,[],none,some (id,.rows u (xs.take lo++(List.replicate len y++xs.drop (lo+len)))),[]⟩)
 (hK:∀E' v,Ext E n r wn E'->A7 r.given->RdA E' v r.val->K (a.put dst v) E'.w):∃v w',(Builtin.clear_ #[t] ty #[a.eval x]).run P E.w=.ok v w'/\K (a.put dst v) w':=by
 obtain⟨info,hi,hs⟩:=Bs hk (Bh u);have hne:Ac H id≠.dead:=by rw[hob];simp
 have hl:=hL id hx.ownp_inv.1 hne;have hok:RowsAt E u xs (E.ρ id):=by
  have:=hH id hl hne;rw[hob]at this;exact this
 have hWid:E.W id:=by rw[h0]at hW;exact hW _ rfl
 have hown:=hx.ownp_inv.2.2 hl;have hzc:=Iv (E:=E) hall;obtain⟨g1,g2⟩:=Gm (ids':=[]) (H:=[]) (E:=E) (λid _ hne=>aT rfl hne) (λid _ hne=>aT rfl hne) hzc hd (λid hid=>by
  rw[Ags _ _ _ hd]at hid;exact hid)
 have hle:=Ir u ps y hy;have hz':z.cells.size=u.size:=by
  have h1:=hle.get.1;rw[Aw]at h1;simp at g1;omega
 have idle:len=0->(∃ba c,a.eval x=.slice ba 0 c)->∃v w',(Builtin.clear_ #[t] ty #[a.eval x]).run P E.w=.ok v w'/\K (a.put dst v) w':=by
  rintro rfl ⟨ba,c,hvx⟩;refine⟨.tuple #[],E.w, ?_, ?_⟩
  ·rw[hvx];cases ba<;>simp[Builtin.clear_,run_underlying hu]
  ·have hnew:xs.take lo++(List.replicate 0 y++xs.drop (lo+0))=xs:=by simp
   rw[hnew]at h0;subst h0;have hstep:Step E n ⟨none,none,.any,[],none,some (id,.rows u xs),[]⟩ E.w (λ_=>none):=by
    refine⟨Below.refl _ _,λb hb _=>rfl, ?_, ?_, ?_, ?_⟩
    ·intro j h hj;simp at hj
    ·intro j j' h h' hj;simp at hj
    ·intro id hid;cases hid
    ·intro p hp;cases hp;exact hWid
   have hx:=hstep.ext (wn:=wn) hr hA (λ_ j ob hj=>by simp at hj) (λhevo i ob hi=>by
    cases hi;show RowsAt _ u _ _;have hρ2:(E.ext n 0 none [] wn E.w (λ_=>none)).ρ id=E.ρ id:=by simp only[Env.ext];rw[aL (by omega)]
    rw[show(E.ext n (List.length ([]:List Ob)) none [] wn E.w (λ_=>none)).ρ id=E.ρ id from hρ2];exact hok.mono (hevo 0).fz (λ_ _=>rfl))
   have:=hK _ (.tuple #[]) hx trivial (.any _);exact this
 cases hρ:E.ρ id with
 |none=>
  rw[hρ]at hown;obtain⟨h1,ba,hvx⟩:=hown;exact idle h1 ⟨_,_,hvx⟩
 |some hd=>
  rw[hρ]at hok hown;obtain⟨hlo,o,c,hvx,hlc,hcc,hoo⟩:=hown;obtain⟨k1,k2,k3,k3',arr,el,k4,k5,k6⟩:=hok;by_cases hlen:len=0
  ·rw[hlen]at hvx;exact idle hlen ⟨_,_,hvx⟩
  ·have ho:o=hd.off+lo*u.size:=by
    rcases hoo with h|⟨h,_⟩
    ·exact h
    ·omega
   subst ho;rw[hvx];have hcl:(Builtin.zeroCells z.cells len).toList.length=len*u.size:=by simp[Builtin.zeroCells,hz']
   have hget0:∀j,j<len*u.size->(Builtin.zeroCells z.cells len).toList[j]?=some (z.cells[j % u.size]!):=by
    intro j hj;simp only[Builtin.zeroCells,hz',eF,gB,gS,hj];simp
   have hzone:∀v∈(Builtin.zeroCells z.cells len).toList,v.oneCell'=true:=by
    intro v hv;obtain⟨j,hj⟩:=fP.1 hv;have hjl:j<len*u.size:=by rw[<-hcl];exact(aW.1 hj).1
    rw[hget0 j hjl]at hj;cases hj;have hmod:j % u.size<z.cells.size:=by rw[hz'];exact Nat.mod_lt _ (Bh u)
    rw[getElem!_pos z.cells _ hmod];exact bV.1 hall _ (by simp)
   have hroom:(lo+len)*u.size<=hd.cap*u.size:=cY _ (by omega);rw[cS]at hroom;have hfit:hd.off+lo*u.size+(Builtin.zeroCells z.cells len).toList.length<=arr.size:=by rw[hcl];omega
   have hst:=run_storeCells_at P hd.blk (hd.off+lo*u.size) el (Builtin.zeroCells z.cells len).toList 0 arr E.w k4 (by simpa using hfit) hzone;simp only[dH]at hst;obtain⟨arr',harr,hasz,hget⟩:∃arr':Array Value,(arr.toList.take (hd.off+lo*u.size)++(Builtin.zeroCells z.cells len).toList++arr.toList.drop (hd.off+lo*u.size+(Builtin.zeroCells z.cells len).toList.length)).toArray=arr'/\arr'.size=arr.size/\
    ∀j,arr'[j]?=if hd.off+lo*u.size<=j/\j<hd.off+lo*u.size+len*u.size then(Builtin.zeroCells z.cells len).toList[j-(hd.off+lo*u.size)]? else arr[j]?:=by
    refine⟨_,rfl, ?_,λj=>?_⟩
    ·rw[hcl]at hfit;simp only[dZ,bD,cI,bP,hcl];simp only[cX];omega
    ·rw[getElem?_spliced hfit,hcl]
   rw[harr]at hst;refine⟨.tuple #[],E.w.setRow hd.blk arr', ?_, ?_⟩
   ·cases hlen2:len with
    |zero=>exact aT hlen2 hlen
    |succ m=>
     rw[hlen2]at hst;simp[Builtin.clear_,run_underlying hu,J5 hz,hst]
   ·subst h0;have hs:Step E n ⟨none,none,.any,[],none,some (id,.rows u (xs.take lo++(List.replicate len y++xs.drop (lo+len)))),[]⟩ (E.w.setRow hd.blk arr') (λ_=>none):=J6 hr rfl rfl rfl hWid hρ _;refine hK _ (.tuple #[]) (hs.ext (wn:=wn) hr hA (λ_ j ob hj=>by simp at hj) (λhevo i ob hi=>?_)) trivial (.any _);cases hi;show RowsAt _ u _ _;have hρ2:(E.ext n 0 none [] wn (E.w.setRow hd.blk arr') (λ_=>none)).ρ id=some hd:=by simp only[Env.ext];rw[aL (by omega)];exact hρ
    rw[show(E.ext n (List.length ([]:List Ob)) none [] wn (E.w.setRow hd.blk arr') (λ_=>none)).ρ id=some hd from hρ2];have hevo0:=(hevo 0).fz;have hnl:(xs.take lo++(List.replicate len y++xs.drop (lo+len))).length=xs.length:=by
     simp only[bD,bP,cI,bZ];omega
    refine⟨by rw[hnl];exact k1,k2,k3,k3',arr',el,setRow_heap _ _ arr _ el _ k4,by rw[hasz];exact k5,λj p hp=>?_⟩;rw[hget];have htl:(xs.take lo).length=lo:=by rw[bP];omega
    rw[Cv]at hp;by_cases hj:j<lo*u.size
    ·rw[bX (by rw[Az,htl];exact hj),Dx,cQ hj]at hp;rw[aL (by omega)];obtain⟨v,h1,h2⟩:=k6 j p hp;exact⟨v,h1,h2.mono hevo0⟩
    ·rw[cD (by rw[Az,htl];omega),Az,htl,Cv]at hp;by_cases hj2:j-lo*u.size<len*u.size
     ·rw[bX (by rw[Az,bZ];exact hj2)]at hp;rw[aP (by omega),show hd.off+j-(hd.off+lo*u.size)=j-lo*u.size by omega,hget0 _ hj2];have hp':=Gn u y _ _ p hp;have hmod:(j-lo*u.size) % u.size<z.cells.size:=by rw[hz'];exact Nat.mod_lt _ (Bh u)
      refine⟨_,rfl, ?_⟩;rw[getElem!_pos z.cells _ hmod];have hzl:z.cells.toList[(j-lo*u.size) % u.size]?=some (z.cells[(j-lo*u.size) % u.size]'hmod):=by simp
      have hpl:ps[(j-lo*u.size) % u.size]?=some (ps[(j-lo*u.size) % u.size]'(by rw[<-g1];simpa using hmod)):=aR _;have:=(g2 _ _ _ hzl hpl).2.le (hle.get.2 _ _ _ hpl hp');exact(this.monoF (λb o hb=>by
       rcases hb with hb|⟨i,hi,_⟩
       ·exact hb
       ·cases hi)).mono hevo0
     ·rw[cD (by rw[Az,bZ];omega),Az,bZ,Dw,cK]at hp;rw[aL (by omega)];rw[cS,show lo*u.size+len*u.size+(j-lo*u.size-len*u.size)=j by omega]at hp;obtain⟨v,h1,h2⟩:=k6 j p hp;exact⟨v,h1,h2.mono hevo0⟩
end
end Go.Sx
namespace Go.Sx
open Go.RowKit
def Env.base(w:World)(F0:Nat->Nat->Prop):Env:=⟨w,w.heap.size,F0,λ_=>none,λ_=>False,λ_=>False,λ_=>False,λ_ _=>none,w.heap.size,λ_=>False⟩
def Env.aft(w w':World)(F0:Nat->Nat->Prop)(m:Nat)(hd:Nat->Option Hdr)(kd:Nat->Nat->Option (Option Hdr)):Env:=⟨w',w.heap.size,F0,hd,λid=>id<m,λid=>id<m,λid=>id<m,kd,w.heap.size,λ_=>False⟩
def Zl(w:World)(F0:Nat->Nat->Prop)(r:CR)(e:Ending)(w':World):Prop:=
 A7 r.given/\∃v hd kd,e=.returned v/\Below w.heap.size w w'/\RdA (Env.aft w w' F0 r.news.length hd kd) v r.res/\
  (∀(j:Nat) ob,r.news[j]?=some ob->OkOb (Env.aft w w' F0 r.news.length hd kd) j ob)/\
  (∀j h,j<r.news.length->hd j=some h->w.heap.size<=h.blk/\h.blk<w'.heap.size)/\
  (∀j j' h h',j<r.news.length->j'<r.news.length->hd j=some h->hd j'=some h'->j≠j'->h.blk≠h'.blk)
structure GoodC(P:Program)(g:FuncId)(C:Ctr):Prop where
 fn:∃fn,P.funcs[g]?=some fn/\fn.body.isSome=true/\(fn.name == "runtime.NumGoroutine")=false
 gen:∀args r,C args=some r->∀k,r.gen k->k r.cr.res
 calls:∀args r gen,C args=some ⟨r,gen⟩->A7 r.need->∀(w:World)(F0:Nat->Nat->Prop)(vs:Array Value),(∀b o,F0 b o->b<w.heap.size)->vs.size=args.length->
  (∀(i:Nat) v x,vs[i]?=some v->args[i]?=some x->RdA (Env.base w F0) v x)->Calls P g vs w (Zl w F0 r)
def Ai(P:Program)(cx:Ctx):Prop:=∀g s C,G3 cx.tab g=some (s,C)->GoodC P g C
mutual
theorem Ajj{E:Env}:∀(s:Sh)(x:AV){v:Value},RdA E v x->RdA E v (fit s x)
 |.any,x,v,h=>by unfold fit;exact h
 |.ints t,x,v,h=>by
  unfold fit;split
  ·obtain⟨_,rfl⟩:=h.cap0_inv;exact .sl _ _ _ (.sl0 _ _ _)
  ·obtain⟨_,_,rfl⟩:=h.nils_inv;exact .sl _ _ _ (.sl0 _ _ _)
  ·rename_i he;cases he
  ·rename_i he;cases he
  ·exact h
 |.agg l,x,v,h=>by
  cases x with
  |agg cs=>
   obtain⟨vs,rfl,h1,h2,h3⟩:=h.agg_inv;obtain⟨g1,g2⟩:=R8 (E:=E) l cs;exact .agg vs _ (by rw[h1,g1]) h2 λi u y hu hy=>g2 i u y (λx hx=>h3 i u x hu hx) hy
  |tup cs=>
   have⟨vs,hv,h1,h3⟩:∃vs:Array Value,v=.tuple vs/\vs.size=cs.length/\∀(i:Nat) u x,vs[i]?=some u->cs[i]?=some x->RdA E u x:=match h with|.tup vs _ h1 h2=>⟨vs,rfl,h1,h2⟩
   subst hv;obtain⟨g1,g2⟩:=R8 (E:=E) l cs;exact .tup vs _ (by rw[h1,g1]) λi u y hu hy=>g2 i u y (λx hx=>h3 i u x hu hx) hy
  |_=>unfold fit;exact h
theorem R8{E:Env}:∀(ss:List Sh)(l:List AV),l.length=(Nd ss l).length/\∀(i:Nat)(u:Value)(y:AV),(∀x,l[i]?=some x->RdA E u x)->(Nd ss l)[i]?=some y->RdA E u y
 |[],l=>⟨by cases l<;>rfl,λi u y h hy=>h y (by cases l<;>exact hy)⟩
 |s::ss,[]=>⟨rfl,λi u y h hy=>by simp[Nd]at hy⟩
 |s::ss,x::l=>by
  obtain⟨g1,g2⟩:=R8 (E:=E) ss l;refine⟨by simp[Nd,<-g1],λi u y h hy=>?_⟩;cases i with
  |zero=>
   simp only[Nd,dP,aU]at hy;subst hy;exact Ajj s x (h x rfl)
  |succ i=>exact g2 i u y (λx hx=>h x (by simpa using hx)) (by simpa[Nd]using hy)
end
section
variable {P:Program}{cx:Ctx}{E:Env}{a:Act}{e:Operand->AV}{H:List Ob}{n:Nat}{r:Res}
 {dst:Option Tmp}{ty:TypeId}{pos:String}{after:Array Go.Edge}{guard:Option (Nat×Bool)}{wn:Nat->Prop}{K:Act->World->Prop}{Q:Exit->Act->World->Prop}{ro:Option Nat}
theorem Xk{w:World}{F:Nat->Nat->Prop}{b o:Nat}(hb:b<w.heap.size)(h:F b o):(Env.base w F).Fz b o:=.inl ⟨hb,h⟩
theorem R9{p:PV}{E':Env}{v:Value}(h:RdP E'.w E'.Fz v p):RdA E' v (up p):=.up h
theorem Ta{w:World}{F:Nat->Nat->Prop}{t:Ty}:∀{ps:List PV}{xss:List (List t.den)},Nk t ps=some xss->ps.length=xss.length/\
 ∀(i:Nat) p xs v,ps[i]?=some p->xss[i]?=some xs->RdP w F v p->RdP w F v (.sl t xs)
 |[],xss,h=>by
  cases h;exact⟨rfl,λi p xs v hp=>by simp at hp⟩
 |.nils::l,xss,h=>by
  simp only[Nk,bC]at h;obtain⟨ys,h1,rfl⟩:=h;obtain⟨g1,g2⟩:=Ta (w:=w) (F:=F) h1;refine⟨by simp[g1],λi p xs v hp hx hv=>?_⟩;cases i with
  |zero=>
   simp only[dP,aU]at hp hx;subst hp;subst hx;cases hv;exact .sl0 _ _ _
  |succ i=>exact g2 i p xs v (by simpa using hp) (by simpa using hx) hv
 |.sl t' ys::l,xss,h=>by
  simp only[Nk]at h;split at h
  ·rename_i zs hz;simp only[bC]at h;obtain⟨us,h1,rfl⟩:=h;obtain⟨g1,g2⟩:=Ta (w:=w) (F:=F) h1;refine⟨by simp[g1],λi p xs v hp hx hv=>?_⟩;cases i with
   |zero=>
    simp only[dP,aU]at hp hx;subst hp;subst hx;obtain⟨e,he⟩:=Ha hz;subst e;subst he;exact hv
   |succ i=>exact g2 i p xs v (by simpa using hp) (by simpa using hx) hv
  ·cases h
 |.int _ _::_,_,h=>by simp[Nk]at h
 |.bool _::_,_,h=>by simp[Nk]at h
 |.str _::_,_,h=>by simp[Nk]at h
 |.val _::_,_,h=>by simp[Nk]at h
theorem Qa(t:Ty):∀xss:List (List t.den),flat (.sl t) xss=xss.map (PV.sl t)
 |[]=>rfl
 |x::xs=>by
  have h:=Qa t xs;unfold flat at h ⊢;rw[fB,h];rfl
theorem Vp(hL:∀id,E.A id->Ac H id≠.dead->E.L id)(hH:∀id,E.L id->Ac H id≠.dead->OkOb E id (Ac H id)){ids':List Nat}{v:Value}{t:Ty}{id m:Nat}(hx:RdA E v (.csl t id m))
 {x':AV}{ids:List Nat}(h:An H (.csl t id m)=some (x',ids))(hsub:∀id∈ids,id∈ids'):∃xss:List (List t.den),x'=.sl (.sl t) xss/\RdP E.w (FF E ids') v (.sl (.sl t) xss):=by
 simp only[An]at h;split at h
 ·rename_i cs hob;split at h
  ·rename_i hm;split at h
   ·rename_i ps l hd;split at h
    ·rename_i xss hr;cases h;refine⟨xss,rfl, ?_⟩;simp only[aS]at hm;have hm':=bB hm.1;have hm2:=cB hm.2;obtain⟨hA,h1,hp⟩:=hx.csl_inv;have hne:Ac H id≠.dead:=by rw[hob];simp
     have hl:=hL id hA hne;have hok:=hH id hl hne;rw[hob]at hok;obtain⟨hd',hρ,arr,el,g1,g2,g3⟩:=hok;obtain⟨hd'',hρ',hv⟩:=hp hl;rw[hρ]at hρ';cases hρ';have hcl:CellL E arr.toList cs:=⟨by simpa using g2,λi u y hu hy=>g3 i u y (by simpa using hu) hy⟩;obtain⟨d1,d2⟩:=Gm (ids':=ids') hL hH hcl hd (λi hi=>hsub i (by simp[hi]));obtain⟨r1,r2⟩:=Ta (w:=E.w) (F:=FF E ids') hr;subst hv;have hlen:xss.length=m:=by
      have:arr.toList.length=ps.length:=d1;rw[cX]at this;omega
     by_cases h0:m=0
     ·subst h0;have:xss=[]:=cV hlen;subst this;exact .sl0 _ _ _
     ·refine .sl hd'.blk 0 m m (.sl t) xss (λj=>(arr[j]?).getD undef) hlen.symm (bA _) ?_ (λj hj=>?_) (λj p hp=>?_)
      ·exact cP hm2 (by decide)
      ·have hj':j<m:=by
        have:=Qa t xss;rw[this,bN]at hj;omega
       have hlt:j<arr.size:=by omega
       refine⟨.inr ⟨id,hsub id (by simp),hl,.inl ⟨hd',hρ,rfl⟩⟩, ?_⟩;rw[dF];simp[World.cell?,g1,hlt]
      ·rw[Qa,cL,bC]at hp;obtain⟨xs,hxs,rfl⟩:=hp;have hj:j<xss.length:=(aW.1 hxs).1;have hjp:j<ps.length:=by omega
       have hja:j<arr.toList.length:=by rw[d1];exact hjp
       have hv:=aR hja;have:=(d2 j _ _ hv (aR hjp)).2;have h2:=r2 j _ _ _ (aR hjp) hxs this;have e:(arr[j]?).getD undef=arr.toList[j]:=by
        have hlt:j<arr.size:=by simpa using hja
        simp[hlt]
       rw[e];exact h2
    ·cases h
   ·cases h
  ·cases h
 ·cases h
theorem lowerArg_ok(hL:∀id,E.A id->Ac H id≠.dead->E.L id)(hH:∀id,E.L id->Ac H id≠.dead->OkOb E id (Ac H id)){F:Nat->Nat->Prop}{ids':List Nat}(hF:∀b o,FF E ids' b o->F b o/\b<E.w.heap.size){v:Value}{x:AV}(hx:RdA E v x):
 ∀(x':AV)(ids:List Nat),An H x=some (x',ids)->(∀id∈ids,id∈ids')->RdA (Env.base E.w F) v x':=by
 have toB:∀{v p},RdP E.w (FF E ids') v p->RdP E.w (Env.base E.w F).Fz v p:=λh=>h.monoF λb o hb=>Xk (hF b o hb).2 (hF b o hb).1
 have toB':∀{v p},RdP E.w E.Fz v p->RdP E.w (Env.base E.w F).Fz v p:=λh=>toB (h.monoF λb o hb=>.inl hb)
 have ffid:∀{id:Nat}{hd:Hdr},id∈ids'->E.L id->E.ρ id=some hd->∀o,(Env.base E.w F).Fz hd.blk o:=λhid hl hρ o=>
  Xk (hF _ o (.inr ⟨_,hid,hl,.inl ⟨_,hρ,rfl⟩⟩)).2 (hF _ o (.inr ⟨_,hid,hl,.inl ⟨_,hρ,rfl⟩⟩)).1
 induction hx with
 |int k m=>intro x' ids h _;simp only[An,aU,bG]at h;obtain⟨rfl,_⟩:=h;exact .int _ _
 |bool b=>intro x' ids h _;simp only[An,aU,bG]at h;obtain⟨rfl,_⟩:=h;exact .bool _
 |str s=>intro x' ids h _;simp only[An,aU,bG]at h;obtain⟨rfl,_⟩:=h;exact .str _
 |val v h1=>intro x' ids h _;simp only[An,aU,bG]at h;obtain⟨rfl,_⟩:=h;exact .val _ h1
 |nils b c=>intro x' ids h _;simp only[An,aU,bG]at h;obtain⟨rfl,_⟩:=h;exact .nils _ _
 |cap0 b=>intro x' ids h _;simp only[An,aU,bG]at h;obtain⟨rfl,_⟩:=h;exact .cap0 _
 |sl v t xs h1=>intro x' ids h _;simp only[An,aU,bG]at h;obtain⟨rfl,_⟩:=h;exact .sl _ _ _ (toB' h1)
 |mp v id _ _ _=>intro x' ids h _;simp[An]at h
 |any v=>intro x' ids h _;simp[An]at h
 |tup vs xs hv _ ih=>intro x' ids h _;simp[An]at h
 |when v c s w x _ _ _=>intro x' ids h _;simp[An]at h
 |yld=>intro x' ids h _;simp[An]at h
 |grow=>intro x' ids h _;simp[An]at h
 |gptr=>intro x' ids h _;simp[An]at h
 |slf t xs ba h1=>intro x' ids h _;simp only[An,aU,bG]at h;obtain⟨rfl,_⟩:=h;exact .sl _ _ _ (toB' h1)
 |ownc v id k lo m hA h1 hp=>
  intro x' ids h hsub;simp only[An,bC,bG,Prod.exists]at h;obtain⟨p,l,h2,rfl,rfl⟩:=h;exact R9 (E':=Env.base E.w F) (toB (Ou hL hH (.ownc v id k lo m hA h1 hp) h2 hsub))
 |own v id hA h1 hp=>
  intro x' ids h hsub;simp only[An,bC,bG,Prod.exists]at h;obtain⟨p,l,h2,rfl,rfl⟩:=h;exact R9 (E':=Env.base E.w F) (toB (Ou hL hH (.own v id hA h1 hp) h2 hsub))
 |ownp v id k lo m hA h1 hp=>
  intro x' ids h hsub;simp only[An,bC,bG,Prod.exists]at h;obtain⟨p,l,h2,rfl,rfl⟩:=h;exact R9 (E':=Env.base E.w F) (toB (Ou hL hH (.ownp v id k lo m hA h1 hp) h2 hsub))
 |dmp b es ms clock hB hb hh hsz hes=>intro x' ids h hsub;simp[An]at h
 |csl v t id m hA h1 hp=>
  intro x' ids h hsub;obtain⟨y,hy⟩:=Vp hL hH (ids':=ids') (.csl v t id m hA h1 hp) h hsub;obtain⟨rfl,hy⟩:=hy;exact R9 (E':=Env.base E.w F) (p:=.sl _ _) (toB hy)
 |ptr v id off hA h1 hp=>
  intro x' ids h hsub;simp only[An]at h;split at h
  ·rename_i cs hob;split at h
   ·rename_i ps l hd;simp only[aU,bG]at h;obtain⟨rfl,rfl⟩:=h;have hne:Ac H id≠.dead:=by rw[hob];simp
    have hl:=hL id hA hne;have hok:=hH id hl hne;rw[hob]at hok;obtain⟨hd',hρ,arr,el,g1,g2,g3⟩:=hok;obtain⟨hd'',hρ',hv⟩:=hp hl;rw[hρ]at hρ';cases hρ';have hcl:CellL E (arr.toList.drop off) (cs.drop off):=by
     refine⟨by simp[g2],λi u y hu hy=>?_⟩;rw[cK]at hu hy;exact g3 _ u y (by simpa using hu) hy
    obtain⟨d1,d2⟩:=Gm (ids':=ids') hL hH hcl hd (λi hi=>hsub i (by simp[hi]));subst hv;refine .eptr hd'.blk off ps (λj=>(arr[off+j]?).getD undef) (λj hj=>⟨ffid (hsub id (by simp)) hl hρ _, ?_⟩) (λj p hp=>?_)
    ·have hlt:off+j<arr.size:=by
      rw[<-d1]at hj;simp only[cI,cX]at hj;omega
     simp[World.cell?,g1,hlt,Env.base]
    ·have hlt:j<(arr.toList.drop off).length:=by rw[d1];exact(aW.1 hp).1
     have hu:(arr.toList.drop off)[j]?=some ((arr.toList.drop off)[j]):=aR hlt;have h3:=(d2 j _ p hu hp).2;rw[cK]at hu;have h4:(arr[off+j]?).getD undef=(arr.toList.drop off)[j]:=by
      have:arr[off+j]?=some ((arr.toList.drop off)[j]):=by simp
      rw[this];rfl
     rw[h4];exact toB h3
   ·cases h
  ·cases h
 |rptr v id k row off hA h1 hp=>
  intro x' ids h hsub;have key:∀(t:Ty)(xs:List t.den),RowsAt E t xs (E.ρ id)->E.L id->(if k==t.size then some (AV.eptr ((enc t (xs.getD row (Ab t))).drop off),[id])else none)=some (x',ids)->RdA (Env.base E.w F) v x':=by
   intro t xs hrow hl h;split at h
   ·rename_i hk;simp only[aU,bG]at h;obtain⟨rfl,rfl⟩:=h;have hk':k=t.size:=by simpa using hk
    subst hk';obtain⟨hd',hρ,hlt,hv⟩:=hp hl;rw[hρ]at hrow;obtain⟨g1,g2,g3,g3',arr,el,g4,g5,g6⟩:=hrow;subst hv;have get:∀(j:Nat) p,((enc t (xs.getD row (Ab t))).drop off)[j]?=some p->∃u,arr[hd'.off+row*t.size+off+j]?=some u/\RdP E.w E.Fz u p:=by
     intro j p hp;rw[cK]at hp;have:=Ot t xs row (by omega) (Ab t) _ p hp;obtain⟨u,h2,h3⟩:=g6 _ p this;exact⟨u,by rw[<-h2];congr 1;omega,h3⟩
    refine .eptr hd'.blk _ _ (λj=>(arr[hd'.off+row*t.size+off+j]?).getD undef) (λj hj=>⟨ffid (hsub id (by simp)) hl hρ _, ?_⟩) (λj p hp=>?_)
    ·obtain⟨u,h2,_⟩:=get j _ (aR hj);simp[World.cell?,g4,h2,Env.base]
    ·obtain⟨u,h2,h3⟩:=get j p hp;have:(arr[hd'.off+row*t.size+off+j]?).getD undef=u:=by rw[h2];rfl
     rw[this];exact toB' h3
   ·cases h
  simp only[An]at h;split at h
  ·rename_i t xs hob;have hne:Ac H id≠.dead:=by rw[hob];simp
   have hl:=hL id hA hne;have hok:=hH id hl hne;rw[hob]at hok;exact key t xs hok hl h
  ·rename_i t xs hob;have hne:Ac H id≠.dead:=by rw[hob];simp
   have hl:=hL id hA hne;have hok:=hH id hl hne;rw[hob]at hok;exact key t xs hok hl h
  ·cases h
 |eptr b o cs g hcell hrd=>
  intro x' ids h _;simp only[An,aU,bG]at h;obtain⟨rfl,_⟩:=h;refine .eptr b o cs g (λj hj=>?_) (λj p hp=>toB' (hrd j p hp));obtain⟨h1,h2⟩:=hcell j hj;exact⟨Xk (hF _ _ (.inl h1)).2 (hF _ _ (.inl h1)).1,h2⟩
 |agg vs xs hv h1 _ ih=>
  intro x' ids h hsub;simp only[An]at h;split at h
  ·rename_i l m hl;simp only[aU,bG]at h;obtain⟨rfl,rfl⟩:=h;have:=lowerArgs_get hl;refine .agg vs l (by rw[hv,this.1]) h1 (λi v y hv' hy=>?_);obtain⟨x,ids2,h2,h3,h4⟩:=this.2 i y hy;exact ih i v x hv' h2 y ids2 h3 (λid hid=>hsub id (h4 id hid))
  ·cases h
 |fn f vs ws xs ys hv hw _ _ ih1 ih2=>
  intro x' ids h hsub;simp only[An]at h;split at h
  ·rename_i l m l' m' hl hl';simp only[aU,bG]at h;obtain⟨rfl,rfl⟩:=h;have t1:=lowerArgs_get hl;have t2:=lowerArgs_get hl';refine .fn f vs ws l l' (by rw[hv,t1.1]) (by rw[hw,t2.1]) (λi v y hv' hy=>?_) (λi v y hv' hy=>?_)
   ·obtain⟨x,ids2,h2,h3,h4⟩:=t1.2 i y hy;exact ih1 i v x hv' h2 y ids2 h3 (λid hid=>hsub id (by simp[h4 id hid]))
   ·obtain⟨x,ids2,h2,h3,h4⟩:=t2.2 i y hy;exact ih2 i v x hv' h2 y ids2 h3 (λid hid=>hsub id (by simp[h4 id hid]))
  ·cases h
where
 lowerArgs_get {H:List Ob}:∀{xs:List AV}{l:List AV}{m:List Nat},Dv H xs=some (l,m)->xs.length=l.length/\∀(i:Nat) y,l[i]?=some y->∃x ids,xs[i]?=some x/\An H x=some (y,ids)/\∀id∈ids,id∈m
  |[],l,m,h=>by
   simp only[Dv,aU,bG]at h;obtain⟨rfl,rfl⟩:=h;exact⟨rfl,λi y hy=>by simp at hy⟩
  |x::xs,l,m,h=>by
   simp only[Dv]at h;split at h
   ·rename_i y ia ys ib h1 h2;simp only[aU,bG]at h;obtain⟨rfl,rfl⟩:=h;have ih:=lowerArgs_get h2;refine⟨by simp[ih.1],λi z hz=>?_⟩
    match i,hz with
    |0,hz=>cases hz;exact⟨x,ia,rfl,h1,λid hid=>by simp[hid]⟩
    |i+1,hz=>
     obtain⟨x',ids,g1,g2,g3⟩:=ih.2 i z (by simpa using hz);exact⟨x',ids,by simpa using g1,g2,λid hid=>by simp[g3 id hid]⟩
   ·cases h
theorem N5(n:Nat):∀(l:List AV),(Kv n l).length=l.length/\∀(i:Nat) x,l[i]?=some x->(Kv n l)[i]?=some (shift n x)
 |[]=>⟨rfl,λi x h=>by simp at h⟩
 |y::l=>by
  have ih:=N5 n l;refine⟨by simp[Kv,ih.1],λi x h=>?_⟩
  match i,h with
  |0,h=>cases h;rfl
  |i+1,h=>simpa[Kv]using ih.2 i x (by simpa using h)
theorem K7:∀{l:List AV}{i:Nat}{x:AV},Jz l=true->l[i]?=some x->Ho x=true
 |[],i,x,_,h=>by simp at h
 |y::l,0,x,h,hx=>by cases hx;simp only[Jz,aS]at h;exact h.1
 |y::l,i+1,x,h,hx=>by simp only[Jz,aS]at h;exact K7 h.2 (by simpa using hx)
theorem Jp{news:List Ob}:∀{l:List AV}{i:Nat}{x:AV},Ih news l=true->l[i]?=some x->Ev news x=true
 |[],i,x,_,h=>by simp at h
 |y::l,0,x,h,hx=>by cases hx;simp only[Ih,aS]at h;exact h.1
 |y::l,i+1,x,h,hx=>by simp only[Ih,aS]at h;exact Jp h.2 (by simpa using hx)
theorem Ajk{g:FuncId}{args:List AV}{vs:Array Value}(hcx:Ai P cx)(hr:Ready E n r.news.length)(hA:∃N,∀id,E.A id->id<N)(hL:∀id,E.A id->Ac H id≠.dead->E.L id)(hH:∀id,E.L id->Ac H id≠.dead->OkOb E id (Ac H id))
 (hn:A7 r.need)(hsz:vs.size=args.length)(hargs:∀(i:Nat) v x,vs[i]?=some v->args[i]?=some x->RdA E v x)(h:Q2 cx H n g args=some r):
 (∃fn,P.funcs[g]?=some fn/\fn.body.isSome=true/\(fn.name == "runtime.NumGoroutine")=false)/\
 Calls P g vs E.w (λen w'=>A7 r.given/\∃v E',en=.returned v/\E'.w=w'/\Ext E n r wn E'/\RdA E' v r.val):=by
 unfold Q2 at h;split at h
 ·cases h
 ·rename_i shs C hC;have hgood:=hcx g shs C hC;refine⟨hgood.fn, ?_⟩;split at h
  ·cases h
  ·rename_i args' ids hlow;split at h
   ·cases h
   ·rename_i cr _ hcr;split at h
    ·rename_i hfine0;simp only[aS]at hfine0;obtain⟨hfine,hfob⟩:=hfine0;have main:∀(F:Nat->Nat->Prop)(frz:List Nat),(∀b o,FF E ids b o->F b o/\b<E.w.heap.size)->(∀b o,F b o->b<E.w.heap.size)->r=⟨cr.need,cr.given,shift n cr.res,cr.news,none,none,frz⟩->
      ((∀b o,F b o->FF E frz b o)\/(Ev cr.news cr.res=true/\cr.news.all Ai1=true))->
      Calls P g vs E.w (λen w'=>A7 r.given/\∃v E',en=.returned v/\E'.w=w'/\Ext E n r wn E'/\RdA E' v r.val):=by
      intro F frz hF hFs h0 hmode;subst h0;have hla:=lowerArg_ok.lowerArgs_get hlow;obtain⟨fl1,fl2⟩:=R8 (E:=Env.base E.w F) shs args';have hcalls:=hgood.calls (Nd shs args') cr _ hcr hn E.w F vs hFs (by rw[hsz,hla.1,fl1]) (λi v x hv hx=>fl2 i v x (λx' hx'=>by
       obtain⟨y,ids2,h1,h2,h3⟩:=hla.2 i x' hx';exact lowerArg_ok hL hH hF (hargs i v y hv h1) x' ids2 h2 h3) hx)
      refine hcalls.mono λen w' hpost=>?_
      obtain⟨hgiven,v,hd,kd,he,hbelow,hres,hnews,hblk,htwo⟩:=hpost;refine⟨hgiven,v,E.ext n cr.news.length none frz wn w' hd,he,rfl, ?_, ?_⟩
      all_goals
       have hstep:Step E n ⟨cr.need,cr.given,shift n cr.res,cr.news,none,none,frz⟩ w' hd:=
        ⟨hbelow.mono hr.B,λb hb _=>hbelow.block b hb,λj h hj hh=>⟨(hblk j h hj hh).2,.inl (hblk j h hj hh).1⟩,htwo,λ_ hid=>by{ cases hid },λ_ hp=>by{ cases hp }⟩
       have hfz:(∀b o,F b o->FF E frz b o)->∀b o,(Env.aft E.w w' F cr.news.length hd kd).Fz b o->(E.ext n cr.news.length none frz wn w' hd).Fz b o/\w'.cell? ⟨b,o,none⟩=w'.cell? ⟨b,o,none⟩:=by
        intro hmode b o hb;refine⟨?_,rfl⟩;rcases hb with⟨h1,h2⟩|⟨h1,h2,h3,_⟩
        ·exact(hstep.ff (wn:=wn) hr rfl (λp hp=>by cases hp) (hmode b o h2)).1
        ·refine .inr ⟨cP hr.B h1,h2,λid hW ho=>?_,λhh=>hX _ (cA (hr.hlt b hh) h1)⟩;rcases Env.ext_own ho with⟨hid,h,hρ,hb⟩|⟨hid,ho⟩
         ·exact h3 (id-n) (show id-n<cr.news.length by omega) (.inl ⟨h,hρ,hb⟩)
         ·rcases hW with⟨hW,_⟩|⟨g1,g2,_⟩
          ·have:=(hr.ltO id b (hr.wl id hW) ho).2;have h1':E.w.heap.size<=b:=h1;omega
          ·exact aT ⟨g1,g2⟩ hid
      ·refine hstep.ext (wn:=wn) hr hA (λhevo j ob hj=>?_) (λ_ id ob h=>by cases h);have hlt:j<cr.news.length:=(aW.1 hj).1;have hok:=hnews j ob hj;have hρ:(E.ext n cr.news.length none frz wn w' hd).ρ (n+j)=hd j:=by
        simp only[Env.ext];rw[aP ⟨by omega,by omega⟩,eM]
       have rows:∀(t:Ty)(xs:List t.den),t.flat=true\/(∀b o,F b o->FF E frz b o)->RowsAt (Env.aft E.w w' F cr.news.length hd kd) t xs (hd j)->RowsAt (E.ext n cr.news.length none frz wn w' hd) t xs (hd j):=by
        intro t xs hor hrow;cases hdj:hd j with
        |none=>rw[hdj]at hrow;exact hrow
        |some hh=>
         rw[hdj]at hrow;obtain⟨g1,g2,g3,g3',arr,el,g4,g5,g6⟩:=hrow;refine⟨g1,g2,g3,g3',arr,el,g4,g5,λi p hp=>?_⟩;obtain⟨u,h1,h2⟩:=g6 i p hp;refine⟨u,h1, ?_⟩;rcases hor with hor|hor
         ·exact Ael hor hp h2
         ·exact h2.mono (hfz hor)
       cases ob with
       |dead=>exact hok
       |cells cs=>
        have:=bV.1 hfob _ (cR hj);simp[Ny]at this
       |fmap es=>
        have:=bV.1 hfob _ (cR hj);simp[Ny]at this
       |rows t xs=>
        show RowsAt _ t xs _;rw[hρ];refine rows t xs ?_ hok;rcases hmode with hm|⟨_,hm⟩
        ·exact .inr hm
        ·have:=bV.1 hm _ (cR hj);exact .inl this
       |froz t xs=>
        have:=bV.1 hfob _ (cR hj);simp[Ny]at this
       |grid t m xss=>
        have:=bV.1 hfob _ (cR hj);simp[Ny]at this
       |loop a1 a2 a3 a4 a5 a6=>
        have:=bV.1 hfob _ (cR hj);simp[Ny]at this
      ·have hfine':(∀b o,F b o->FF E frz b o)/\Ho cr.res=true\/Ev cr.news cr.res=true:=by
        rcases hmode with hm|⟨hm,_⟩
        ·exact .inl ⟨hm,hfine⟩
        ·exact .inr hm
       show RdA _ v (shift n cr.res);clear hcr hfine hmode hcalls he;generalize hres':cr.res=x at hres hfine';clear hres'
       induction hres with
       |int k m=>exact .int _ _
       |bool b=>exact .bool _
       |str s=>exact .str _
       |nils b c=>exact .nils _ _
       |cap0 b=>exact .cap0 _
       |val v h1=>exact .val _ h1
       |sl v t xs h1=>
        rcases hfine' with⟨hm,_⟩|hm
        ·exact .sl _ _ _ (h1.mono (hfz hm))
        ·simp[Ev]at hm
       |own v id hA' h1 hp=>
        refine .own _ (n+id) (.inr ⟨by omega,by have:id<cr.news.length:=hA';omega⟩) h1 λ_=>?_
        have hρ:(E.ext n cr.news.length none frz wn w' hd).ρ (n+id)=hd id:=by
         have:id<cr.news.length:=hA';simp only[Env.ext];rw[aP ⟨by omega,by omega⟩,eM]
        rw[hρ];exact hp hA'
       |agg us xs hv h1 _ ih=>
        have hs:=N5 n xs;refine .agg us (Kv n xs) (by rw[hv,hs.1]) h1 (λi u y hu hy=>?_);have hlt:i<xs.length:=by rw[<-hs.1];exact(aW.1 hy).1
        have hxi:xs[i]?=some xs[i]:=aR hlt;have:=hs.2 i _ hxi;rw[this]at hy;cases hy;refine ih i u _ hu hxi ?_;rcases hfine' with⟨hm,hf⟩|hm
        ·exact .inl ⟨hm,K7 (l:=xs) (by simpa[Ho]using hf) hxi⟩
        ·exact .inr (Jp (l:=xs) (by simpa[Ev]using hm) hxi)
       |tup us xs hv _ ih=>
        have hs:=N5 n xs;refine .tup us (Kv n xs) (by rw[hv,hs.1]) (λi u y hu hy=>?_);have hlt:i<xs.length:=by rw[<-hs.1];exact(aW.1 hy).1
        have hxi:xs[i]?=some xs[i]:=aR hlt;have:=hs.2 i _ hxi;rw[this]at hy;cases hy;refine ih i u _ hu hxi ?_;rcases hfine' with⟨hm,hf⟩|hm
        ·exact .inl ⟨hm,K7 (l:=xs) (by simpa[Ho]using hf) hxi⟩
        ·exact .inr (Jp (l:=xs) (by simpa[Ev]using hm) hxi)
       |any v=>exact .any _
       |eptr b o cs g hcell hrd=>
        rcases hfine' with⟨hm,_⟩|hm
        ·exact .eptr b o cs g (λj hj=>⟨(hfz hm b (o+j) (hcell j hj).1).1,(hcell j hj).2⟩) (λj p hp=>(hrd j p hp).mono (hfz hm))
        ·simp[Ev]at hm
       |fn f us ws xs ys hv hw h1 h2 ih1 ih2=>
        rcases hfine' with⟨hm,hf⟩|hm
        ·simp only[Ho,aS]at hf;refine .fn f us ws xs ys hv hw (λi u x hu hx=>?_) (λi u x hu hx=>?_)
         ·have he:=bV.1 hf.1 x (cR hx);cases x with
          |eptr cs=>exact ih1 i u _ hu hx (.inl ⟨hm,by simp[Ho]⟩)
          |_=>simp[Aed]at he
         ·have he:=bV.1 hf.2 x (cR hx);cases x with
          |eptr cs=>exact ih2 i u _ hu hx (.inl ⟨hm,by simp[Ho]⟩)
          |_=>simp[Aed]at he
        ·simp[Ev]at hm
       |dmp b es ms clock hB hb hh hsz hes=>
        have h1:E.w.heap.size<=b:=hB;refine .dmp b es ms clock (cP hr.B h1) ⟨hb.1,λid hW ho=>?_,λhh=>hX _ (cA (hr.hlt b hh) h1)⟩ hh hsz hes;rcases Env.ext_own ho with⟨hid,h,hρ,hbb⟩|⟨hid,ho⟩
        ·exact hb.2.1 (id-n) (show id-n<cr.news.length by omega) (.inl ⟨h,hρ,hbb⟩)
        ·rcases hW with⟨hW,_⟩|⟨g1,g2,_⟩
         ·have:=(hr.ltO id b (hr.wl id hW) ho).2;omega
         ·exact aT ⟨g1,g2⟩ hid
       |_=>rcases hfine' with⟨_,hf⟩|hm<;>simp_all [Ho,Ev]
     have hffs:∀b o,FF E ids b o->b<E.w.heap.size:=by
      intro b o hb;rcases hb with(⟨h1,_⟩|⟨_,h1,_⟩)|⟨id,_,hl,ho⟩
      ·exact cA h1 hr.B
      ·exact h1
      ·exact(hr.ltO id b hl ho).2
     split at h
     ·rename_i hplain;simp only[aS]at hplain;exact main (λb _=>b<E.w.heap.size) [] (λb o hb=>⟨hffs b o hb,hffs b o hb⟩) (λb o hb=>hb) (Option.some.inj h).symm (.inr hplain)
     ·exact main (FF E ids) ids (λb o hb=>⟨hb,hffs b o hb⟩) hffs (Option.some.inj h).symm (.inl λ_ _ hb=>hb)
    ·cases h
end
end Go.Sx
namespace Go.Sx
open Go.RowKit
section
variable {P:Program}{cx:Ctx}{E:Env}{a:Act}{e:Operand->AV}{H:List Ob}{n:Nat}{r:Res}
 {wn:Nat->Prop}{K:Act->World->Prop}{Q:Exit->Act->World->Prop}{ro:Option Nat}
theorem PureRun.wp{o:Oper}(h:PureRun P E a o r)(hr:Ready E n r.news.length)(hK:∀E' v,Ext E n r wn E'->A7 r.given->RdA E' v r.val->K (a.put o.dst v) E'.w):o.wpI ro P a E.w K Q:=by
 obtain⟨v,h1,h2,h3⟩:=h.run;exact Cu h1 (hK E v (Ext.idle hr h.kill h.st h.frz h.news) h3 h2)
theorem F7{g:FuncId}{fn:Func}(hf:P.funcs[g]?=some fn)(hb:fn.body.isSome=true)(hn:(fn.name == "runtime.NumGoroutine")=false)(vs:Array Value)(w:World):
 (callFunc g vs).run P w=.ok (.enter g vs) w:=by
 have hn':¬fn.name = "runtime.NumGoroutine":=by simpa using hn
 simp[callFunc,go_sem,hf,hn'];intro h0;rw[h0]at hb;cases hb
theorem Acl{v:Value}{f:Fn}{xs ys:List AV}(h:RdA E v (.fn f xs ys)):∃vs ws:Array Value,v=.func f vs ws/\vs.size=xs.length/\ws.size=ys.length/\
 (∀(i:Nat) u x,vs[i]?=some u->xs[i]?=some x->RdA E u x)/\∀(i:Nat) u x,ws[i]?=some u->ys[i]?=some x->RdA E u x:=
 match h with|.fn _ vs ws _ _ h1 h2 h3 h4=>⟨vs,ws,rfl,h1,h2,h3,h4⟩
theorem Vq{f:Operand}{g:FuncId}{xs ys:List AV}{args:Array Operand}(hf:RdA E (a.eval f) (.fn (.func g) xs ys))(hx:∀x∈args.toList,RdA E (a.eval x) (e x)):
 ∃vs:Array Value,(∀(dst:Option Tmp)(ts:Array TypeId)(ty:TypeId)(pos:String)(after:Array Go.Edge)(guard:Option (Nat×Bool))(w:World),
  (execOp a.eval ⟨dst,.call ⟨.value f,args,ts⟩,ty,pos,after,guard⟩).run P w=(callFunc g vs).run P w)/\
  vs.size=(xs++args.toList.map e++ys).length/\∀(i:Nat) u x,vs[i]?=some u->(xs++args.toList.map e++ys)[i]?=some x->RdA E u x:=by
 obtain⟨us,ws,h1,h2,h3,h4,h5⟩:=Acl hf;refine⟨us++args.map a.eval++ws,λdst ts ty pos after guard w=>?_,by simp[h2,h3],λi u x hu hx'=>?_⟩
 ·simp[execOp,Go.resolve,h1,Deferred.ofValue,invoke]
 ·have hm:=P3 (a:=a) (E:=E) (e:=e) (l:=args) hx;simp only[gP,gK,Array.size_map]at hu;simp only[eA,bD,bN,cX]at hx';rw[h2]at hu;split at hu
  ·rename_i hlt;rw[aP hlt]at hx';split at hu
   ·rename_i hlt2;rw[aP hlt2]at hx';exact h4 i u x hu hx'
   ·rename_i hlt2;rw[aL hlt2]at hx';exact hm.2 _ u x hu hx'
  ·rename_i hlt;rw[aL hlt]at hx';exact h5 _ u x hu hx'
structure OpPre(P:Program)(cx:Ctx)(E:Env)(a:Act)(o:Oper)(e:Operand->AV)(H:List Ob)(n:Nat)(r:Res):Prop where
 cx:Ai P cx
 ready:Ready E n r.news.length
 fin:∃N,∀id,E.A id->id<N
 live:∀id,E.A id->Ac H id≠.dead->E.L id
 ok:∀id,E.L id->Ac H id≠.dead->OkOb E id (Ac H id)
 kill:∀id,r.kill=some id->E.W id
 st:∀q,r.st=some q->E.W q.1
 rd:∀x∈o.op.operands.toList,RdA E (a.eval x) (e x)
 when:∀x∈o.op.operands.toList,∀c s w v,Operand.tmp s∈o.op.operands.toList->e x=.when c s w v->a.eval (.tmp s)=.bool w->c
 need:A7 r.need
theorem Tb{o:Oper}(hp:OpPre P cx E a o e H n r)(h:evOp cx P e H n o=some r)
 (hK:∀E' v,Ext E n r wn E'->A7 r.given->RdA E' v r.val->K (a.put o.dst v) E'.w):o.wpI ro P a E.w K Q:=by
 obtain⟨hcx,hr,hA,hL,hH,hk,hst,hx,hwh,hn⟩:=hp;obtain⟨dst,op,ty,pos,after,guard⟩:=o;cases op with
 |move x=>exact(Ai6 (hx x (by simp[Op.operands])) h).wp hr hK
 |assign x=>exact(Zd (hx x (by simp[Op.operands])) h).wp hr hK
 |pick c x y=>
  refine(Aqc (hx c (by simp[Op.operands])) (hx x (by simp[Op.operands])) (hx y (by simp[Op.operands])) (λs hs q w v=>?_) (λs hs q w v=>?_) h).wp hr hK
  ·subst hs;exact hwh x (by simp[Op.operands]) q s w v (by simp[Op.operands])
  ·subst hs;exact hwh y (by simp[Op.operands]) q s w v (by simp[Op.operands])
 |extract x i=>exact(Vk (hx x (by simp[Op.operands])) h).wp hr hK
 |makeFunc f xs ys=>exact(S5 (λx hm=>hx x (by simp only[Op.operands,fZ,dG];exact .inl hm)) (λx hm=>hx x (by simp only[Op.operands,fZ,dG];exact .inr hm)) h).wp hr hK
 |alloc t=>exact Am6 hr hA h hK
 |box t x=>exact Asw hr hA (hx x (by simp[Op.operands])) h hK
 |build t parts=>exact(Am5 (λp hm=>hx p.2 (by simp only[Op.operands,cU];exact⟨p,hm,rfl⟩)) h).wp hr hK
 |buildSlice t len parts=>exact Xj hr hA hL hH (λp hm=>hx p.2 (by simp only[Op.operands,cU];exact⟨p,hm,rfl⟩)) h hK
 |load t x=>exact(Aja hL hH (hx x (by simp[Op.operands])) hn h).wp hr hK
 |makeMap t hint=>
  cases hint with
  |none=>exact Agn hr hA h hK
  |some x=>simp[evOp]at h
 |insert t m k x=>exact Ajg hr hA hL hH hst (hx m (by simp[Op.operands])) (hx k (by simp[Op.operands])) (hx x (by simp[Op.operands])) h hK
 |store t p x=>exact Am8 hr hA hL hH hk hst (hx p (by simp[Op.operands])) (hx x (by simp[Op.operands])) hn h hK
 |nilCheck x=>exact(S6 (hx x (by simp[Op.operands])) h).wp hr hK
 |binOp op t x y u=>exact(Aei (hx x (by simp[Op.operands])) (hx y (by simp[Op.operands])) hn h).wp hr hK
 |unOp op t x=>exact(Ai9 (hx x (by simp[Op.operands])) hn h).wp hr hK
 |convert s d x=>exact(Vl (hx x (by simp[Op.operands])) hn h).wp hr hK
 |fieldAddr t x f=>exact(Q5 (hx x (by simp[Op.operands])) h).wp hr hK
 |field t x f=>exact(Aeh (hx x (by simp[Op.operands])) h).wp hr hK
 |lookup t m k ok=>exact(Ajh (hx m (by simp[Op.operands])) (hx k (by simp[Op.operands])) h).wp hr hK
 |index t x ix=>exact(Aej (hx x (by simp[Op.operands])) (hx ix (by simp[Op.operands])) hn h).wp hr hK
 |indexAddr t x ix=>exact(Q6 hL hH (hx x (by simp[Op.operands])) (hx ix (by simp[Op.operands])) hn h).wp hr hK
 |slice t x lo hi mx=>exact(Aek hL hH (hx x (by simp[Op.operands])) (λo ho=>hx o (by simp[Op.operands,ho])) (λo ho=>hx o (by simp[Op.operands,ho])) (λo ho=>hx o (by simp[Op.operands,ho])) hn h).wp hr hK
 |makeSlice t l c=>exact Zj hr hA (hx l (by simp[Op.operands])) (hx c (by simp[Op.operands])) hn h hK
 |call c=>
  obtain⟨callee,args,ts⟩:=c;cases callee with
  |value f=>
   simp only[evOp]at h;split at h
   ·rename_i g xs ys hf;have hfv:=hx f (by simp[Op.operands,Call.operands]);rw[hf]at hfv;obtain⟨vs,h1,h2,h3⟩:=Vq (P:=P) (args:=args) hfv (λx hm=>hx x (by simp only[Op.operands,Call.operands];simp[Array.mem_toList_iff.1 hm]));obtain⟨⟨fn,g1,g2,g3⟩,hc⟩:=Ajk (wn:=wn) hcx hr hA hL hH hn h2 h3 h;refine Aeg (w':=E.w) (f:=g) (args:=vs) (by rw[h1,F7 g1 g2 g3]) (hc.mono λen w' hpost=>?_);obtain⟨hgiv,v,E',rfl,rfl,hext,hv⟩:=hpost;exact⟨v,rfl,hK E' v hext hgiv hv⟩
   ·cases h
  |invoke _ _=>simp[evOp]at h
  |builtin b=>
   cases b with
   |len=>exact(Api rfl hL hH (λx hm=>hx x (by simp only[Op.operands,Call.operands];simpa using hm)) hn h).wp hr hK
   |cap=>exact(Ast rfl (λx hm=>hx x (by simp only[Op.operands,Call.operands];simpa using hm)) h).wp hr hK
   |min=>exact(Asu rfl (λx hm=>hx x (by simp only[Op.operands,Call.operands];simpa using hm)) h).wp hr hK
   |max=>exact(Asv rfl (λx hm=>hx x (by simp only[Op.operands,Call.operands];simpa using hm)) h).wp hr hK
   |append=>
    simp only[evOp]at h;split at h
    ·rename_i dv sv t t' hargs hts;split at h
     ·rename_i hteq;have:=bB hteq;subst this;split at h
      ·rename_i elem hu;obtain⟨x,y,rfl,rfl,rfl⟩:=F5 hargs;have ht2:=Xh hts;subst ht2;obtain⟨v,w',h1,h2⟩:=Agr (dst:=dst) (ty:=ty) hn hr hA hL hH hk hst (hx x (by simp[Op.operands,Call.operands])) (hx y (by simp[Op.operands,Call.operands])) hu h hK;exact Cu (by simp[execOp,Go.resolve,invoke,builtin,h1]) h2
      ·cases h
     ·obtain⟨x,y,rfl,rfl,rfl⟩:=F5 hargs;have ht2:=Xh hts;subst ht2;obtain⟨v,w',h1,h2⟩:=Aci (dst:=dst) (ty:=ty) hn hr hA (hx x (by simp[Op.operands,Call.operands])) (hx y (by simp[Op.operands,Call.operands])) h hK;exact Cu (by simp[execOp,Go.resolve,invoke,builtin,h1]) h2
    ·cases h
   |copy=>
    simp only[evOp]at h;split at h
    ·rename_i id sv t t' hargs hts;split at h
     ·rename_i hteq;have:=bB hteq;subst this;split at h
      ·rename_i elem u xs t2 ys hu hob hcon;split at h
       ·rename_i hk2;split at h
        ·rename_i zs hcast;obtain⟨x,y,rfl,hxe,rfl⟩:=F5 hargs;have ht2:=Xh hts;subst ht2;have hx1:=hx x (by simp[Op.operands,Call.operands]);rw[hxe]at hx1;obtain⟨v,w',h1,h2⟩:=Am9 (dst:=dst) (ty:=ty) hr hA hL hH hst hx1 (hx y (by simp[Op.operands,Call.operands])) hu hk2 hob hcon hcast (Option.some.inj h).symm hK;exact Cu (by simp[execOp,Go.resolve,invoke,builtin,h1]) h2
        ·cases h
       ·cases h
      ·cases h
     ·cases h
    ·cases h
   |clear=>
    simp only[evOp]at h;split at h
    ·rename_i id k lo len t hargs hts;split at h
     ·rename_i elem u xs hu hob;split at h
      ·rename_i z hz;split at h
       ·rename_i hcond;simp only[aS]at hcond;split at h
        ·rename_i ps ids hd;split at h
         ·rename_i y hy;obtain⟨x,rfl,hxe⟩:=Cq hargs;have ht1:=Am4 hts;subst ht1;have hx1:=hx x (by simp[Op.operands,Call.operands]);rw[hxe]at hx1;have hk':k=u.size:=bB hcond.2.1;subst hk';obtain⟨v,w',h1,h2⟩:=Aji (dst:=dst) (ty:=ty) hr hA hL hH hst hx1 hu hcond.1 hob hz hcond.2.2 hd hy (Option.some.inj h).symm hK;exact Cu (by simp[execOp,Go.resolve,invoke,builtin,h1]) h2
         ·cases h
        ·cases h
       ·cases h
      ·cases h
     ·cases h
    ·cases h
   |_=>simp[evOp]at h
 |_=>simp[evOp]at h
end
end Go.Sx
namespace Go.Sx
open Go.RowKit
section
variable {P:Program}{cx:Ctx}{E E':Env}{a:Act}{H:List Ob}{n:Nat}{r:Res}{wn:Nat->Prop}
def Env.idle(E:Env)(w:World):Env:={ E with w:=w }
theorem Aen(hx:Ext E n r wn E')(hr:Ready E n r.news.length)(hk:r.kill=none)(hf:r.frz=[]){b:Nat}(h:E'.Nb b):(E.idle E'.w).Nb b:=by
 refine⟨h.1,λid hW ho=>?_,by rw[show(E.idle E'.w).Hd=E'.Hd from(hx.evo 0).Hd.symm];exact h.2.2⟩;have hl:E.L id:=hr.wl id hW;have ha:E.A id:=hr.sub id hl;have hW':E'.W id:=(hx.W id).2 (.inl ⟨hW,by rw[hk];simp,by rw[hf];simp⟩);have hl':E'.L id:=(hx.L id).2 (.inl ⟨hl,by rw[hk];simp⟩);exact h.2.1 id hW' ((hx.evo (id+1)).own (eN id) ha hl' ho)
theorem Xl(hx:Ext E n r wn E')(hr:Ready E n r.news.length)(hk:r.kill=none)(hf:r.frz=[]){b o:Nat}(h:E'.Fz b o):(E.idle E'.w).Fz b o:=by
 have hB:E'.B=E.B:=(hx.evo 0).B;have hF:E'.F0=E.F0:=(hx.evo 0).F0;rcases h with⟨h1,h2⟩|⟨h1,h2⟩
 ·exact .inl ⟨hB ▸ h1,hF ▸ h2⟩
 ·exact .inr ⟨hB ▸ h1,Aen hx hr hk hf h2⟩
theorem Ajl{q g:Option Prop}{v:AV}(hx:Ext E n r wn E')(hr:Ready E n r.news.length)(hA:∃N,∀id,E.A id->id<N)(hk:r.kill=none)(hst:r.st=none)(hf:r.frz=[]):Ext E n ⟨q,g,v,[],none,none,[]⟩ wn (E.idle E'.w):=by
 obtain⟨N,hN⟩:=hA;have evo:∀n0,Evo n0 E (E.idle E'.w):=by
  intro n0;have h0:=hx.evo 0;refine⟨rfl,rfl,rfl,h0.below,λ_ _ h=>h,λ_ _ _ h=>⟨h,rfl⟩,λ_ _ _ _ _ _ h=>h,λb hb=>?_,rfl,h0.hh⟩;obtain⟨h1,h2⟩:=h0.hp b hb;exact⟨Aen hx hr hk hf h1,h2⟩
 refine⟨evo, ?_, ?_, ?_,hr.injO, ?_,hr.hid, ?_, ?_, ?_, ?_⟩
 ·intro id;simp[Env.idle];omega
 ·intro id;simp[Env.idle];omega
 ·intro id;simp[Env.idle];omega
 ·intro id b hl ho;obtain⟨h1,h2⟩:=hr.ltO id b hl ho;exact⟨h1,cA h2 (hx.evo 0).below.size⟩
 ·intro j ob h;simp at h
 ·intro id ob h;cases h
 ·intro id b hl ho _ _;exact hx.keep id b hl ho (by rw[hk];simp) (by rw[hst];simp)
 ·intro id ob hl _ _ hok;refine OkOb.mono (evo N) hN (hr.sub id hl) hl rfl (λb ho=>hx.keep id b hl ho (by rw[hk];simp) (by rw[hst];simp)) hok
theorem J9{news:List Ob}:∀{l m:List AV},Q3 n news l=some m->l.length=m.length/\∀(i:Nat) x y,l[i]?=some x->m[i]?=some y->Nf n news x=some y
 |[],m,h=>by
  simp only[Q3,aU]at h;subst h;exact⟨rfl,λi x y hx=>by simp at hx⟩
 |x::l,m,h=>by
  simp only[Q3]at h;split at h
  ·rename_i y ys h1 h2;cases h;have ih:=J9 h2;refine⟨by simp[ih.1],λi u v hu hv=>?_⟩
   match i,hu,hv with
   |0,hu,hv=>cases hu;cases hv;exact h1
   |i+1,hu,hv=>exact ih.2 i u v (by simpa using hu) (by simpa using hv)
  ·cases h
theorem Ana(hx:Ext E n r wn E')(hr:Ready E n r.news.length)(hk:r.kill=none)(hf:r.frz=[]){v:Value}{x:AV}(hv:RdA E' v x):
 ∀x',Nf n r.news x=some x'->RdA (E.idle E'.w) v x':=by
 have old:∀id,¬n<=id->E'.A id->E.A id:=λid h ha=>((hx.A id).1 ha).resolve_right λh'=>h h'.1
 have oldL:∀id,E.L id->E'.L id/\E'.ρ id=E.ρ id:=λid hl=>by
  have hl':E'.L id:=(hx.L id).2 (.inl ⟨hl,by rw[hk];simp⟩);exact⟨hl',((hx.evo (id+1)).ids id (eN id) (hr.sub id hl) hl').2⟩
 have toP:∀{v p},RdP E'.w E'.Fz v p->RdP (E.idle E'.w).w (E.idle E'.w).Fz v p:=λh=>h.monoF λb o hb=>Xl hx hr hk hf hb
 induction hv with
 |any v=>intro x' h;cases h;exact .any _
 |int k m=>intro x' h;cases h;exact .int _ _
 |bool b=>intro x' h;cases h;exact .bool _
 |str s=>intro x' h;cases h;exact .str _
 |val v h1=>intro x' h;cases h;exact .val _ h1
 |nils b c=>intro x' h;cases h;exact .nils _ _
 |cap0 b=>intro x' h;cases h;exact .cap0 _
 |sl v t xs h1=>intro x' h;cases h;exact .sl _ _ _ (toP h1)
 |when v c s w x _ _ _=>intro x' h;cases h
 |fn f vs ws xs ys hv hw _ _ ih1 ih2=>
  intro x' h;simp only[Nf]at h;split at h
  ·rename_i a' b' ha hb;cases h;obtain⟨la,ga⟩:=J9 ha;obtain⟨lb,gb⟩:=J9 hb;refine .fn f vs ws a' b' (hv.trans la) (hw.trans lb) (λi v x hv' hx=>?_) λi v x hv' hx=>?_
   ·have hi:i<xs.length:=by rw[la];exact(aW.1 hx).1
    exact ih1 i v _ hv' (aR hi) _ (ga i _ _ (aR hi) hx)
   ·have hi:i<ys.length:=by rw[lb];exact(aW.1 hx).1
    exact ih2 i v _ hv' (aR hi) _ (gb i _ _ (aR hi) hx)
  ·cases h
 |ownp v id k lo m hA h1 hp=>intro x' h;cases h
 |ownc v id k lo m hA h1 hp=>intro x' h;cases h
 |csl v t id m hA h1 hp=>
  intro x' h;simp only[Nf]at h;split at h
  ·cases h
  ·rename_i hle;cases h;have hle':¬n<=id:=by simpa using hle
   refine .csl _ t id m (old id hle' hA) h1 λhl=>?_
   obtain⟨g1,g2⟩:=oldL id hl;have:=hp g1;rw[g2]at this;exact this
 |dmp=>intro x' h;cases h
 |grow=>intro x' h;cases h
 |gptr=>intro x' h;cases h
 |slf t xs ba h1=>intro x' h;cases h;exact .slf t xs ba (toP h1)
 |yld v id hA h1 hp=>
  intro x' h;simp only[Nf]at h;split at h
  ·cases h
  ·rename_i hle;cases h;have hle':¬n<=id:=by simpa using hle
   refine .yld _ id (old id hle' hA) h1 λhl=>?_
   obtain⟨g1,g2⟩:=oldL id hl;have:=hp g1;rw[g2]at this;exact this
 |eptr b o cs g hcell hrd=>
  intro x' h;cases h;exact .eptr b o cs g (λj hj=>⟨Xl hx hr hk hf (hcell j hj).1,(hcell j hj).2⟩) (λj p hp=>toP (hrd j p hp))
 |ptr v id off hA h1 hp=>
  intro x' h;simp only[Nf]at h;split at h
  ·cases h
  ·rename_i hle;cases h;have hle':¬n<=id:=by simpa using hle
   refine .ptr _ id off (old id hle' hA) h1 λhl=>?_
   obtain⟨g1,g2⟩:=oldL id hl;have:=hp g1;rw[g2]at this;exact this
 |mp v id hA h1 hp=>
  intro x' h;simp only[Nf]at h;split at h
  ·cases h
  ·rename_i hle;cases h;have hle':¬n<=id:=by simpa using hle
   refine .mp _ id (old id hle' hA) h1 λhl=>?_
   obtain⟨g1,g2⟩:=oldL id hl;have:=hp g1;rw[g2]at this;exact this
 |rptr v id k row off hA h1 hp=>
  intro x' h;simp only[Nf]at h;split at h
  ·cases h
  ·rename_i hle;cases h;have hle':¬n<=id:=by simpa using hle
   refine .rptr _ id k row off (old id hle' hA) h1 λhl=>?_
   obtain⟨g1,g2⟩:=oldL id hl;have:=hp g1;rw[g2]at this;exact this
 |own v id hA h1 hp=>
  intro x' h;simp only[Nf]at h;split at h
  ·rename_i hle;have hle':n<=id:=by simpa using hle
   split at h
   ·rename_i t xs hob;cases h;have hlt:id-n<r.news.length:=by
     rcases cN (id-n) r.news.length with h|h
     ·exact h
     ·exfalso;have:Ac r.news (id-n)=.dead:=by
       unfold Ac;rw[Bn,dW h];rfl
      rw[this]at hob;cases hob
    have hget:r.news[id-n]?=some (.rows t xs):=by
     rw[<-hob];exact C1 hlt
    have hl':E'.L id:=(hx.L id).2 (.inr ⟨hle',by omega⟩);have hok:=hx.new (id-n) _ hget;rw[show n+(id-n)=id by omega]at hok;have hrow:RowsAt E' t xs (E'.ρ id):=hok;have hd:=P4 (ids:=[id]) hrow hl' (hp hl') (by simp);refine .sl _ _ _ (hd.monoF λb o hb=>?_);rcases hb with hb|⟨id2,hid2,hl2,ho2⟩
    ·exact Xl hx hr hk hf hb
    ·simp only[bT]at hid2;subst hid2;have hlt2:=hx.ltO id2 b hl2 ho2;refine .inr ⟨(hx.evo 0).B ▸ hlt2.1,hlt2.2,λid3 hW3 ho3=>?_,by rw[show(E.idle E'.w).Hd=E'.Hd from(hx.evo 0).Hd.symm];exact hx.hid id2 b hl2 ho2⟩;have hl3:E.L id3:=hr.wl id3 hW3;obtain⟨g1,g2⟩:=oldL id3 hl3;have e:=hx.injO id3 id2 b g1 hl2 ((hx.evo (id3+1)).own (eN id3) (hr.sub id3 hl3) g1 ho3) ho2;subst e;exact hr.fresh id3 hle' (by omega) (hr.sub id3 hl3)
   ·cases h
  ·rename_i hle;cases h;have hle':¬n<=id:=by simpa using hle
   refine .own _ id (old id hle' hA) h1 λhl=>?_
   obtain⟨g1,g2⟩:=oldL id hl;have:=hp g1;rw[g2]at this;exact this
 |agg vs xs hv h1 _ ih=>
  intro x' h;simp only[Nf,bC]at h;obtain⟨ys,h2,rfl⟩:=h;have hg:=J9 h2;refine .agg vs ys (by rw[hv,hg.1]) h1 λi u y hu hy=>?_
  have hlt:i<xs.length:=by rw[hg.1];exact(aW.1 hy).1
  exact ih i u _ hu (aR hlt) y (hg.2 i _ y (aR hlt) hy)
 |tup vs xs hv _ ih=>
  intro x' h;simp only[Nf,bC]at h;obtain⟨ys,h2,rfl⟩:=h;have hg:=J9 h2;refine .tup vs ys (by rw[hv,hg.1]) λi u y hu hy=>?_
  have hlt:i<xs.length:=by rw[hg.1];exact(aW.1 hy).1
  exact ih i u _ hu (aR hlt) y (hg.2 i _ y (aR hlt) hy)
end
end Go.Sx
namespace Go.Sx
open Go.RowKit
def Ob.wr:Ob->Prop
 |.cells _=>True
 |.rows _ _=>True
 |.fmap _=>True
 |.grid _ _ _=>True
 |.loop _ _ _ _ _ _=>True
 |_=>False
def Q7(id:Nat):AV->Prop
 |.own i=>i=id
 |.ptr i _=>i=id
 |.rptr i _ _ _=>i=id
 |.ownp i _ _ _=>i=id
 |.mp i=>i=id
 |.gptr i _ _=>i=id
 |.grow i _=>i=id
 |.ownc i _ _ _=>i=id
 |_=>False
section
variable {P:Program}{cx:Ctx}{e:Operand->AV}{H:List Ob}{n:Nat}{r:Res}
def calm(r:Res):Prop:=r.kill=none/\r.st=none
theorem Acm{op:BinOp}{k:IntKind}{p q:Int}(h:Su op k p q=some r):calm r:=by
 unfold Su at h;split at h<;>first|(cases h;exact⟨rfl,rfl⟩)|cases h
theorem Zm{w:Bool}{op:BinOp}{k:IntKind}{p q:Int}(h:Nw w op k p q=some r):calm r:=by
 unfold Nw at h;split at h
 ·cases h;exact⟨rfl,rfl⟩
 ·exact Acm h
theorem Agt{q:Bool}{x y:AV}(h:Sv q x y=some r):calm r:=by
 unfold Sv at h
 repeat' split at h
 all_goals first|(cases h;exact⟨rfl,rfl⟩)|cases h
theorem Zn{o:Option AV}(h:o.map Res.pure=some r):calm r:=by
 simp only[bC]at h;obtain⟨v,_,rfl⟩:=h;exact⟨rfl,rfl⟩
theorem Acn{g:FuncId}{args:List AV}(h:Q2 cx H n g args=some r):calm r:=by
 unfold Q2 at h
 repeat' split at h
 all_goals first|(cases h;exact⟨rfl,rfl⟩)|cases h
theorem Agu{elem:TypeId}{x y:AV}(h:Kw P H n elem x y=some r):(∀p,r.st=some p->Q7 p.1 x/\(Ac H p.1).wr)/\∀id,r.kill=some id->Q7 id x/\∃t xs,Ac H id=.rows t xs:=by
 unfold Kw at h;split at h
 ·unfold Oh at h
  repeat' split at h
  all_goals first
   |cases h;done
   |(cases h;refine⟨λp hp=>?_,λid hid=>(by cases hid)⟩;cases hp;exact⟨rfl,by simp[*,Ob.wr]⟩)
 split at h
 ·unfold R2 at h
  repeat' split at h
  all_goals first
   |cases h;done
   |(cases h;refine⟨λp hp=>?_,λid hid=>(by cases hid)⟩;cases hp;exact⟨rfl,by simp[*,Ob.wr]⟩)
 ·unfold R3 at h
  repeat' split at h
  all_goals first
   |cases h;done
   |(cases h;exact⟨λp hp=>(by cases hp),λid hid=>(by cases hid)⟩)
 ·unfold Lv at h
  repeat' split at h
  all_goals first
   |cases h;done
   |(cases h;refine⟨λp hp=>(by cases hp),λid hid=>?_⟩;cases hid;done)
   |(cases h;refine⟨λp hp=>(by cases hp),λid hid=>?_⟩;cases hid;exact⟨rfl,_,_,‹_›⟩)
def Apj(o:Oper)(e:Operand->AV)(H:List Ob)(r:Res):Prop:=
 (∀id,r.kill=some id->(∃x∈o.op.operands.toList,Q7 id (e x))/\∃t xs,Ac H id=.rows t xs)/\
   ∀p,r.st=some p->(∃x∈o.op.operands.toList,Q7 p.1 (e x))/\(Ac H p.1).wr
theorem calm.turns{o:Oper}(h:calm r):Apj o e H r:=
 ⟨λid hid=>(by rw[h.1]at hid;cases hid),λp hp=>(by rw[h.2]at hp;cases hp)⟩
theorem U9{x:AV}{id:Nat}{ob:Ob}(h:Oj H x=some (id,ob)):Q7 id x/\∃t xs,Ac H id=.rows t xs:=by
 unfold Oj at h;split at h
 ·split at h
  ·rename_i hob;split at h
   ·cases h;exact⟨rfl,_,_,hob⟩
   ·cases h
  ·cases h
 ·cases h
theorem K8{o:Oper}(h:evOp cx P e H n o=some r):Apj o e H r:=by
 obtain⟨dst,op,ty,pos,after,guard⟩:=o;cases op with
 |store t p x=>
  simp only[evOp]at h;split at h
  ·cases h
  ·split at h
   ·split at h
    ·cases h
    ·split at h
     ·rename_i id off hp;split at h
      ·rename_i cs hob;split at h
       ·split at h
        ·rename_i id2 ob hpr;cases h;obtain⟨hn2,hob2⟩:=U9 hpr;refine⟨λid hid=>?_,λq hq=>?_⟩
         ·cases hid;exact⟨⟨x,by simp[Op.operands],hn2⟩,hob2⟩
         ·cases hq;exact⟨⟨p,by simp[Op.operands],by rw[hp];rfl⟩,by rw[hob];trivial⟩
        ·cases h;refine⟨λid hid=>(by cases hid),λq hq=>?_⟩;cases hq;exact⟨⟨p,by simp[Op.operands],by rw[hp];rfl⟩,by rw[hob];trivial⟩
       ·cases h
      ·cases h
     ·rename_i id k row off hp;split at h
      ·rename_i t' xs hob
       repeat' split at h
       all_goals first
        |cases h;done
        | (cases h
           refine⟨λid hid=>(by cases hid),λq hq=>?_⟩;cases hq;exact⟨⟨p,by simp[Op.operands],by rw[hp];rfl⟩,by rw[hob];trivial⟩)
      ·rename_i gt m xss hob;split at h
       ·split at h
        ·rename_i j hvx;split at h
         ·rename_i t' xs hobj;split at h
          ·cases h;refine⟨λid hid=>?_,λq hq=>?_⟩
           ·cases hid;exact⟨⟨x,by simp[Op.operands],by rw[hvx];rfl⟩,_,_,hobj⟩
           ·cases hq;exact⟨⟨p,by simp[Op.operands],by rw[hp];rfl⟩,by rw[hob];trivial⟩
          ·cases h
         ·cases h
        ·cases h
       ·cases h
      ·cases h
     ·rename_i id gi gj hp;split at h
      ·rename_i gt m xss hob
       repeat' split at h
       all_goals first
        |cases h;done
        | (cases h
           refine⟨λid hid=>(by cases hid),λq hq=>?_⟩;cases hq;exact⟨⟨p,by simp[Op.operands],by rw[hp];rfl⟩,by rw[hob];trivial⟩)
      ·cases h
     ·cases h
   ·cases h
 |makeMap t hint=>
  cases hint with
  |none=>cases h;exact calm.turns ⟨rfl,rfl⟩
  |some x=>simp[evOp]at h
 |insert t m k x=>
  simp only[evOp]at h
  repeat' split at h
  all_goals first
   |cases h;done
   | (cases h
      refine⟨λid hid=>(by cases hid),λq hq=>?_⟩;cases hq;exact⟨⟨m,by simp[Op.operands],by simp[*,Q7]⟩,by simp[*,Ob.wr]⟩)
 |call c=>
  obtain⟨callee,args,ts⟩:=c;cases callee with
  |value f=>
   simp only[evOp]at h;split at h
   ·exact(Acn h).turns
   ·cases h
  |invoke _ _=>simp[evOp]at h
  |builtin b=>
   cases b with
   |append=>
    simp only[evOp]at h;split at h
    ·rename_i dv sv t t' hargs hts;obtain⟨x,y,rfl,hx,rfl⟩:=F5 hargs;split at h
     ·split at h
      ·obtain⟨g1,g2⟩:=Agu h;refine⟨λid hid=>?_,λp hp=>⟨⟨x,by simp[Op.operands,Call.operands],by rw[hx];exact(g1 p hp).1⟩,(g1 p hp).2⟩⟩;obtain⟨g3,g4⟩:=g2 id hid;exact⟨⟨x,by simp[Op.operands,Call.operands],by rw[hx];exact g3⟩,g4⟩
      ·cases h
     ·unfold Oi at h
      repeat' split at h
      all_goals first
       |cases h;done
       |(cases h;exact calm.turns ⟨rfl,rfl⟩)
    ·cases h
   |copy=>
    simp only[evOp]at h;split at h
    ·rename_i id sv t t' hargs hts;obtain⟨x,y,rfl,hx,rfl⟩:=F5 hargs
     repeat' split at h
     all_goals first
      |cases h;done
      | (cases h
         refine⟨λid hid=>(by cases hid),λq hq=>?_⟩;cases hq;exact⟨⟨x,by simp[Op.operands,Call.operands],by rw[hx];rfl⟩,by simp[*,Ob.wr]⟩)
    ·cases h
   |clear=>
    simp only[evOp]at h;split at h
    ·rename_i id k lo len t hargs hts;obtain⟨x,rfl,hx⟩:=Cq hargs
     repeat' split at h
     all_goals first
      |cases h;done
      | (cases h
         refine⟨λid hid=>(by cases hid),λq hq=>?_⟩;cases hq;exact⟨⟨x,by simp[Op.operands,Call.operands],by rw[hx];rfl⟩,by simp[*,Ob.wr]⟩)
    ·cases h
   |_=>
    simp only[evOp]at h
    repeat' split at h
    all_goals first
     |cases h;done
     |(cases h;exact calm.turns ⟨rfl,rfl⟩)
 |binOp op t x y u=>
  simp only[evOp]at h
  repeat' split at h
  all_goals first
   |cases h;done
   |exact(Zm h).turns
   |(cases h;exact calm.turns ⟨rfl,rfl⟩)
   | (unfold Vg at h
      split at h<;>first
       |(cases h;exact calm.turns ⟨rfl,rfl⟩)
       |cases h)
 |pick c x y=>
  simp only[evOp]at h
  repeat' split at h
  all_goals first
   |cases h;done
   |exact(Agt h).turns
 |load t x=>
  simp only[evOp]at h
  repeat' split at h
  all_goals first
   |cases h;done
   |exact(Zn h).turns
   |(cases h;exact calm.turns ⟨rfl,rfl⟩)
 |field t x f=>
  simp only[evOp]at h
  repeat' split at h
  all_goals first
   |cases h;done
   |exact(Zn h).turns
 |_=>
  simp only[evOp]at h
  repeat' split at h
  all_goals first
   |cases h;done
   |(cases h;exact calm.turns ⟨rfl,rfl⟩)
end
end Go.Sx
namespace Go.Sx
open Go.RowKit
def Iy(sl:List AV):Prop:=∀(t:Nat) c s w v,sl[t]?=some (.when c s w v)->F4 sl s w=some c/\∀c' s' w' v',v≠.when c' s' w' v'
structure StPre(P:Program)(cx:Ctx)(E:Env)(a:Act)(dr:Bool)(ops:List Oper)(o:Oper)(sl:List AV)(H:List Ob)(n:Nat)(r:Res):Prop where
 cx:Ai P cx
 ready:∀m,(dr=false\/m<=r.news.length)->Ready E n m
 fin:∃N,∀id,E.A id->id<N
 live:∀id,E.A id->Ac H id≠.dead->E.L id
 ok:∀id,E.L id->Ac H id≠.dead->OkOb E id (Ac H id)
 wr:∀id,(r.kill=some id\/∃ob,r.st=some (id,ob))->E.A id->(Ac H id).wr->E.W id
 rd:∀t∈Dj ops o,RdA E (a.eval (.tmp t)) (Aq .any sl t)
 stat:Iy sl
 need:A7 r.need
section
variable {P:Program}{cx:Ctx}{E:Env}{a:Act}{dr:Bool}{ops:List Oper}{opsA:Array Oper}{o:Oper}{sl:List AV}{H:List Ob}{n:Nat}{r:Res}
 {wn:Nat->Prop}{K:Act->World->Prop}{Q:Exit->Act->World->Prop}{ro:Option Nat}
theorem Apk(hrd:∀t,Operand.tmp t∈o.op.operands.toList->RdA E (a.eval (.tmp t)) (Aq .any sl t)):∀x∈o.op.operands.toList,RdA E (a.eval x) (ev sl x):=by
 intro x hx;cases x with
 |tmp t=>exact hrd t hx
 |const v=>exact Iw v
 |global g=>exact .any _
 |func f=>exact .fn _ _ _ _ _ rfl rfl (λi v x hv _=>by simp at hv) (λi v x hv _=>by simp at hv)
theorem Ka{t:Nat}(h:Operand.tmp t∈o.op.operands.toList):t∈Dj ops o:=by
 unfold Dj;refine eU _ (List.mem_filterMap.2 ⟨_,h,rfl⟩)
theorem Sa{x:Operand}{c:Prop}{s:Nat}{w:Bool}{v:AV}(h:ev sl x=.when c s w v):∃t,x=.tmp t/\sl[t]?=some (.when c s w v):=by
 cases x with
 |tmp t=>
  refine⟨t,rfl, ?_⟩;simp only[ev,Bn]at h;cases hg:sl[t]? with
  |none=>rw[hg]at h;cases h
  |some y=>rw[hg]at h;simp only[dC]at h;rw[h]
 |const v=>
  simp only[ev]at h;cases v with
  |agg cs=>
   simp only[Jf]at h;split at h<;>cases h
  |slice b l c=>
   simp only[Jf,Eo]at h;split at h<;>cases h
  |_=>cases h
 |global g=>cases h
 |func f=>cases h
theorem Mq{s:Nat}{w:Bool}{c:Prop}(h:F4 sl s w=some c)(hs:RdA E (a.eval (.tmp s)) (Aq .any sl s)):a.eval (.tmp s)=.bool w<->c:=by
 unfold F4 at h;generalize a.eval (.tmp s)=v at hs;split at h
 ·rename_i e he;cases h;rw[he]at hs;rw[hs.bool_inv];simp
 ·rename_i cc _ _ e he;cases h;rw[he]at hs;obtain⟨h1,h2⟩:=hs.when_inv;constructor
  ·intro hv;by_cases hc:cc
   ·have:=(h1 hc).bool_inv;rw[hv]at this;simp only[Value.bool.injEq]at this;exact⟨hc,this.symm⟩
   ·have:=h2 hc;rw[hv]at this;cases this
  ·rintro⟨hc,rfl⟩;exact(h1 hc).bool_inv
 ·cases h
theorem F8{v:Value}{x:AV}(h:RdA E v x):RdA E v (noW x):=by
 cases x<;>first|exact h|exact .any _
theorem H5(x:AV):∀c s w v,noW x≠.when c s w v:=by
 intro c s w v h;cases x<;>cases h
theorem Tc{j s:Nat}(h:Ii opsA.toList j=some s):(opsA[j]?).bind (·.dst)=some s:=by
 unfold Ii at h;rw[eF]at h;cases hj:opsA[j]? with
 |none=>rw[hj]at h;cases h
 |some o'=>rw[hj]at h;simpa using h
theorem Td{j s:Nat}{w:Bool}(hg:o.guard=some (j,w))(hs:Ii opsA.toList j=some s):Region.wanted o (yielded opsA a.tmps)=true<->a.eval (.tmp s)=.bool w:=by
 simp only[Region.wanted,hg,yielded,Tc hs,Option.bind_some,Act.eval,bR];cases ht:a.tmps[s]? with
 |none=>simp[undef]
 |some v=>cases v<;>simp
theorem Te{c:Prop}{q:Option Prop}:A7 (q.map (λq=>c->q))<->(c->A7 q):=by
 cases q<;>simp[A7]
theorem Sb{v:Value}{x:AV}{id:Nat}(h:RdA E v x)(hn:Q7 id x):E.A id:=by
 cases x<;>simp only[Q7]at hn
 ·subst hn;exact h.ptr_inv.1
 ·subst hn;exact h.rptr_inv.1
 ·subst hn;exact h.own_inv.1
 ·subst hn;exact h.ownp_inv.1
 ·subst hn;exact h.mp_inv.1
 ·subst hn;exact h.grow_inv.1
 ·subst hn;exact h.gptr_inv.1
 ·subst hn;exact h.ownc_inv.1
theorem Tf(hp:StPre P cx E a dr opsA.toList o sl H n r)(h:Ew cx P dr opsA.toList o sl H n=some r)
 (hK:∀E' v,Ext E n r wn E'->A7 r.given->RdA E' v r.val->K (a.put o.dst v) E'.w):
 (Region.wanted o (yielded opsA a.tmps)=true/\o.wpI ro P a E.w K Q)\/(Region.wanted o (yielded opsA a.tmps)=false/\K (a.put o.dst undef) E.w):=by
 obtain⟨hcx,hready,hA,hL,hH,hwr,hrd,hstat,hneed⟩:=hp;have hrd':∀x∈o.op.operands.toList,RdA E (a.eval x) (ev sl x):=Apk λt ht=>hrd t (Ka ht)
 have hwh:∀x,∀c s w v,Operand.tmp s∈o.op.operands.toList->ev sl x=.when c s w v->a.eval (.tmp s)=.bool w->c:=by
  intro x c s w v hs hx hv;obtain⟨t,rfl,ht⟩:=Sa hx;exact(Mq (hstat t c s w v ht).1 (hrd s (Ka hs))).1 hv
 unfold Ew at h;split at h
 ·rename_i hg;left;refine⟨by simp[Region.wanted,hg], ?_⟩;split at h
  ·rename_i q g v news kill st frz hev;cases h;have hturn:=K8 hev;refine Tb (wn:=wn) (r:=⟨q,g,v,news,kill,st,frz⟩) ⟨hcx,hready _ (.inr (bA _)),hA,hL,hH,λid hid=>?_,λp hp=>?_,hrd',λx _=>hwh x,hneed⟩ hev λE' v' hx hgiv hv'=>?_
   ·obtain⟨⟨x,hx,hn⟩,t,xs,hob⟩:=hturn.1 id hid;exact hwr id (.inl hid) (Sb (hrd' x hx) hn) (by rw[hob];trivial)
   ·obtain⟨⟨x,hx,hn⟩,hob⟩:=hturn.2 p hp;exact hwr p.1 (.inr ⟨p.2,hp⟩) (Sb (hrd' x hx) hn) hob
   ·refine hK E' v' ⟨hx.evo,hx.L,hx.W,hx.A,hx.injO,hx.ltO,hx.hid,hx.new,hx.st,hx.keep,hx.old⟩ hgiv (F8 hv')
  ·cases h
 ·rename_i j w hg;split at h
  ·cases h
  ·rename_i s hs;split at h
   ·cases h
   ·rename_i c hc;have hlook:s∈Dj opsA.toList o:=by
     unfold Dj;refine fQ _ ?_;simp[hg,hs]
    have hcond:=Mq hc (hrd s hlook);have hw:=Td (a:=a) hg hs;split at h
    ·rename_i q g v news hev;split at h
     ·cases h
     ·rename_i hdr;split at h
      ·rename_i v' has;cases h;by_cases hcc:c
       ·left;have hsv:=hcond.2 hcc;refine⟨hw.2 hsv, ?_⟩;have hr:Ready E n news.length:=by
         cases dr with
         |false=>exact hready _ (.inl rfl)
         |true=>
          simp only[fV,eY,bU]at hdr;have:news=[]:=by simpa using hdr
          subst this;exact hready _ (.inr (bA _))
        refine Tb (wn:=wn) (r:=⟨q,g,v,news,none,none,[]⟩) ⟨hcx,hr,hA,hL,hH,λid hid=>(by cases hid),λp hp=>(by cases hp),λx hx=>?_,λx hx c' s' w' v'' hs' hx' hv'=>?_, ?_⟩ hev λE' u hx hgiv hu=>?_
        ·refine Mi (hrd' x hx) (λc' w' v'' hx' hv'=>?_) hsv;obtain⟨t,rfl,ht⟩:=Sa hx';exact(Mq (hstat t c' s w' v'' ht).1 (hrd s hlook)).1 hv'
        ·cases hx2:ev sl x with
         |when c2 s2 w2 v2=>
          rw[hx2]at hx';simp only[Ku]at hx';split at hx'
          ·obtain⟨t,rfl,ht⟩:=Sa hx2;exact aT hx' ((hstat t c2 s2 w2 v2 ht).2 c' s' w' v'')
          ·cases hx';exact hwh x c' s' w' v'' hs' hx2 hv'
         |_=>rw[hx2]at hx';cases hx'
        ·exact Te.1 hneed hcc
        ·exact hK (E.idle E'.w) u (Ajl hx hr hA rfl rfl rfl) (Te.2 λ_=>hgiv) (.when _ _ _ _ _ (λ_=>Ana hx hr rfl rfl (F8 hu) _ has) (λhn=>aT hcc hn))
       ·right;refine⟨by rw[fM];exactλh=>hcc (hcond.1 (hw.1 h)), ?_⟩;exact hK E undef (Ext.idle (hready 0 (.inr (aV _))) rfl rfl rfl rfl) (Te.2 λh=>aT h hcc) (.when _ _ _ _ _ (λh=>aT h hcc) (λ_=>rfl))
      ·cases h
    ·cases h
end
end Go.Sx
