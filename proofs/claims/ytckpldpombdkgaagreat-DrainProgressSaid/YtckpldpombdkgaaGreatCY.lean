/- Pipelines. -/
import Derived.Test.YtckpldpombdkgaaGreatCB1
import Derived.Test.YtckpldpombdkgaaGreatCB2
import Derived.Test.YtckpldpombdkgaaGreatCB3
import Derived.Test.YtckpldpombdkgaaGreatCB4
import Derived.Test.YtckpldpombdkgaaGreatCB5
import Derived.Test.YtckpldpombdkgaaGreatCB6
import Derived.Test.YtckpldpombdkgaaGreatCZ1
import Derived.Test.YtckpldpombdkgaaGreatCZ2
import Derived.Test.YtckpldpombdkgaaGreatCZ3
import Derived.Test.YtckpldpombdkgaaGreatCZ4
import Derived.Test.YtckpldpombdkgaaGreatCZ5
import Derived.Test.YtckpldpombdkgaaGreatCZ6
import Derived.Test.YtckpldpombdkgaaGreatCZ7
import Derived.Test.YtckpldpombdkgaaGreatCZ8
import Derived.Test.YtckpldpombdkgaaGreatCZ9
import Derived.Test.YtckpldpombdkgaaGreatCP
import Derived.Test.YtckpldpombdkgaaGreatCQ1
import Derived.Test.YtckpldpombdkgaaGreatCQ2
import Derived.Test.YtckpldpombdkgaaGreatCQ3
import Derived.Test.YtckpldpombdkgaaGreatCG1
import Derived.Test.YtckpldpombdkgaaGreatCG2
import Derived.Test.YtckpldpombdkgaaGreatCG3
import Derived.Test.YtckpldpombdkgaaGreatCG4
import Derived.Test.YtckpldpombdkgaaGreatCG5
import Derived.Test.YtckpldpombdkgaaGreatCH
set_option linter.unusedSimpArgs false
set_option linter.unusedVariables false
set_option maxRecDepth 100000
namespace Go.Proofs.YtckpldpombdkgaaGreat
open Go.Sx
theorem fSend_ok{c:Cred}{x:Int}(h:(Hz c x).2=0):Bp c=0/\Bp (Hz c x).1=0/\Av x=false/\c.2.2.2.2.2=false/\c.2.2.1<c.2.1/\(Hz c x).1=(c.1,c.2.1,c.2.2.1+1,c.2.2.2.1,c.2.2.2.2.1++[x],c.2.2.2.2.2):=by
 unfold Hz at h ⊢;by_cases h1:Bp c=0
 ·rw[if_neg (by simpa using h1)]at h ⊢;by_cases h2:Av x=true
  ·rw[if_pos h2]at h;simp at h
  ·rw[if_neg h2]at h ⊢;by_cases h3:c.2.2.2.2.2=true
   ·rw[if_pos h3]at h;simp at h
   ·rw[if_neg h3]at h ⊢;by_cases h4:c.2.2.1=c.2.1
    ·rw[if_pos h4]at h;simp at h
    ·rw[if_neg h4];have hb:=(Vr c).1 h1;refine⟨h1,(Vr _).2 ?_,by simpa using h2,by simpa using h3,by omega,rfl⟩;simp only[List.length_append,List.length_cons,List.length_nil,List.any_append,List.any_cons,List.any_nil,Bool.or_false];refine⟨hb.1,hb.2.1,hb.2.2.1,by omega,by omega,by omega,by omega,by omega, ?_⟩;rw[hb.2.2.2.2.2.2.2.2];simpa using h2
 ·rw[if_pos (by simpa using h1)]at h;exact absurd h h1
theorem fClose_ok{c:Cred}(h:(Gl c).2=0):Bp c=0/\Bp (Gl c).1=0/\c.2.2.2.2.2=false/\(Gl c).1=(c.1,c.2.1,c.2.2.1,c.2.2.2.1,c.2.2.2.2.1,true):=by
 unfold Gl at h ⊢;by_cases h1:Bp c=0
 ·rw[if_neg (by simpa using h1)]at h ⊢;by_cases h3:c.2.2.2.2.2=true
  ·rw[if_pos h3]at h;simp at h
  ·rw[if_neg h3];have hb:=(Vr c).1 h1;exact⟨h1,(Vr _).2 hb,by simpa using h3,rfl⟩
 ·rw[if_pos (by simpa using h1)]at h;exact absurd h h1
theorem fSend_yes{c:Cred}{x:Int}(h1:Bp c=0)(h2:Av x=false)(h3:c.2.2.2.2.2=false)(h4:c.2.2.1<c.2.1):
 Hz c x=((c.1,c.2.1,c.2.2.1+1,c.2.2.2.1,c.2.2.2.2.1++[x],c.2.2.2.2.2),0):=by
 unfold Hz;rw[if_neg (by simpa using h1),if_neg (by simp[h2]),if_neg (by simp[h3]),if_neg (by omega)]
theorem fClose_yes{c:Cred}(h1:Bp c=0)(h3:c.2.2.2.2.2=false):Gl c=((c.1,c.2.1,c.2.2.1,c.2.2.2.1,c.2.2.2.2.1,true),0):=by
 unfold Gl;rw[if_neg (by simpa using h1),if_neg (by simp[h3])]
theorem sendC_ok:∀(l:List Int) {c:Cred},Bp c=0->c.2.2.2.2.2=false->(l.length:Int)<=c.2.1-c.2.2.1->(∀a∈l,Av a=false) ->
 N2 c l=(c.1,c.2.1,c.2.2.1+l.length,c.2.2.2.1,c.2.2.2.2.1++l,false)/\Bp (N2 c l)=0
 |[],(a,b,d,e,f,g),h,hc,_,_=>by
  have hc:g=false:=hc;subst hc;refine⟨?_,h⟩;show(a,b,d,e,f,false)=(a,b,d+((0:Nat):Int),e,f++[],false);rw[List.append_nil];simp
 |v::l,c,h,hc,hl,hb=>by
  rw[List.length_cons]at hl;have h1:=fSend_yes (x:=v) h (hb v List.mem_cons_self) hc (by omega);have h2:=fSend_ok (c:=c) (x:=v) (by rw[h1]);have h3:=sendC_ok l (c:=(Hz c v).1) h2.2.1 (by rw[h1];exact hc) (by rw[h1];show(l.length:Int)<=c.2.1-(c.2.2.1+1);omega) (λa ha=>hb a (List.mem_cons_of_mem v ha));have e:N2 c (v::l)=N2 (Hz c v).1 l:=rfl;rw[e];refine⟨?_,h3.2⟩;rw[h3.1,h1];show(c.1,c.2.1,c.2.2.1+1+(l.length:Int),c.2.2.2.1,(c.2.2.2.2.1++[v])++l,false)=(c.1,c.2.1,c.2.2.1+((l.length+1:Nat):Int),c.2.2.2.1,c.2.2.2.2.1++v::l,false);rw[List.append_assoc,show c.2.2.1+1+(l.length:Int)=c.2.2.1+((l.length+1:Nat):Int) by omega];rfl
theorem endC_ok{b:Bool}{c:Cred}(h:Bp c=0)(hc:c.2.2.2.2.2=false):Ag7 b c=(c.1,c.2.1,c.2.2.1,c.2.2.2.1,c.2.2.2.2.1,b)/\Bp (Ag7 b c)=0:=by
 unfold Ag7;cases b
 ·rw[if_neg (by simp)];refine⟨?_,h⟩;obtain⟨a,b,d,e,f,g⟩:=c;have hc:g=false:=hc;rw[hc]
 ·rw[if_pos rfl];have h1:=fClose_yes h hc;exact⟨by rw[h1],(fClose_ok (by rw[h1])).2.1⟩
theorem fits_iff{x:PlT}{s:FsT}{i:Int}{o:List (List Int)}:Fj x s i o=true<->∀n<o.length,((o.getD n []).length:Int)<=N0 (Dt s (Cq x i n)):=by
 unfold Fj;simp only[Bool.not_eq_true',List.any_eq_false,List.mem_range,decide_eq_true_eq,Int.not_lt]
theorem step_ok{x:PlT}{s:FsT}{i:Int}(h:(Du x s i).2=0):StepR x s i (Cy x s i).1 (Du x s i).1:=by
 unfold Du at h ⊢;split at h
 ·rename_i h1;exact absurd h h1
 rename_i h1;obtain⟨w,v⟩:=Cg.1 (Classical.not_not.1 h1);split at h
 ·omega
 rename_i h2;simp only[Classical.not_not]at h2;split at h
 ·simp at h
 rename_i h3;split at h
 ·rename_i h4;exact absurd h h4
 rename_i h4;split at h
 ·simp at h
 rename_i h5;split at h
 ·rename_i h6;exact absurd h h6
 rename_i h6;rw[if_neg h1,if_neg (by omega),if_neg h3,if_neg h4,if_neg h5,if_neg h6];clear h1 h;have e1:(Bk x s i).1=(Cy x s i).1:=rfl;rw[e1]at h4 h5 h6 ⊢;have h4:(Cy x s i).1.2.2.2.2.2.2=0:=Classical.not_not.1 h4;have h3':((Cy x s i).2&&(!decide ((Cy x s i).1.2.2.2.2.2.2=0)||Fj x s i (Cy x s i).1.2.1))=true:=(Bool.not_eq_false _).mp h3;rw[h4]at h3';simp only[decide_true,Bool.not_true,Bool.false_or,Bool.and_eq_true]at h3';obtain⟨g1,g2⟩:=h3';have mv:=Abv v h2.1 h2.2 g1 h4;have is:Cy x s i=((Cy x s i).1,true):=by rw[<-g1]
 generalize hm:(Cy x s i).1=m at *;clear h3 e1;have h6:(Di x s.2.1 i m).2=0:=Classical.not_not.1 h6;have T:(Di x s.2.1 i m).1.length=x.2.length/\∀k<x.2.length,(Di x s.2.1 i m).1.getD k A9=if m.2.2.2.1=true/\(pIn x i m.2.2.2.2.1).toNat=k then(Ig (s.2.1.getD k A9)).1 else s.2.1.getD k A9:=by
  unfold Di;by_cases ht:m.2.2.2.1=true
  ·rw[if_neg (by rw[ht];simp)];refine⟨by rw[List.length_set];exact v.lc,λk hk=>?_⟩;rw[Ii];by_cases hkk:(pIn x i m.2.2.2.2.1).toNat=k
   ·subst hkk;rw[if_pos ⟨rfl,by rw[v.lc];exact hk⟩,if_pos ⟨ht,rfl⟩]
   ·rw[if_neg (λh=>hkk h.1),if_neg (λh=>hkk h.2)]
  ·rw[if_pos (by simpa using ht)];exact⟨v.lc,λk hk=>by rw[if_neg (λh=>ht h.1)]⟩
 obtain⟨T1,T2⟩:=T;have hN:0<=stOut (sg x i):=Abq _;obtain⟨S1,S2⟩:=Ua w h2.1 h2.2 m.2.1 m.2.2.1 (Di x s.2.1 i m).1 T1 (stOut (sg x i)).toNat (by omega);have htk:m.2.2.2.1=true->(Ig (Dt s (pIn x i m.2.2.2.2.1))).2=0:=λht=>by
  have h:=h6;unfold Di at h;rw[if_neg (by rw[ht];simp)]at h;exact h
 have C:∀k<x.2.length,(Px x i m.2.1 m.2.2.1 (Di x s.2.1 i m).1).getD k A9=crS x i m k (s.2.1.getD k A9)/\Bp ((Px x i m.2.1 m.2.2.1 (Di x s.2.1 i m).1).getD k A9)=0:=λk hk=>by
  unfold Px;rw[S2 k hk,T2 k hk];have p:=w.pipe hk;obtain⟨c1,c2,c3,c4⟩:=Fm.1 (v.cr k hk);unfold crS;by_cases hi:(x.2.getD k Aw).1=i
  ·have on:=p.on;rw[hi]at on;rw[if_pos ⟨hi,by omega⟩,if_pos hi];rw[if_neg]
   ·have hcl:(s.2.1.getD k A9).2.2.2.2.2=false:=by rw[c3,hi];exact mv.en
    have hlen:((m.2.1.getD (x.2.getD k Aw).2.1.toNat []).length:Int)<=N0 (s.2.1.getD k A9):=by
     have:=fits_iff.1 g2 (x.2.getD k Aw).2.1.toNat (by have:=mv.len;have:=p.o0;omega);have he:Dt s (Cq x i (((x.2.getD k Aw).2.1.toNat:Nat):Int))=s.2.1.getD k A9:=by
      have:=p.o0;have o1:=p.out;rw[hi]at o1;rw[show((((x.2.getD k Aw).2.1.toNat:Nat):Int))=(x.2.getD k Aw).2.1 by omega,o1];rfl
     rwa [he]at this
    unfold N0 at hlen;rw[if_neg (by rw[c1,hcl];simp)]at hlen;have hg:∀a∈m.2.1.getD (x.2.getD k Aw).2.1.toNat [],Av a=false:=by
     have hh:(x.2.getD k Aw).2.1.toNat<m.2.1.length:=by have:=mv.len;have:=p.o0;omega
     rw[Bt hh];exact mv.good _ (List.getElem_mem hh)
    obtain⟨q1,q2⟩:=sendC_ok _ c1 hcl hlen hg;obtain⟨r1,r2⟩:=endC_ok (b:=m.2.2.1) q2 (by rw[q1]);refine⟨?_,r2⟩;rw[r1,q1]
   ·rintro⟨ht,he⟩;obtain⟨t1,t2,l,t3⟩:=mv.tk ht;obtain⟨j,j1,j2,j3,j4⟩:=w.ins h2.1 h2.2 t1 t2;have hjk:j=k:=by rw[j2]at he;omega
    subst hjk;exact w.ne hk (hi.trans j3.symm)
  ·rw[if_neg (λh=>hi h.1),if_neg hi];refine⟨rfl, ?_⟩;split
   ·rename_i h;obtain⟨t1,t2,l,t3⟩:=mv.tk h.1;have t4:=htk h.1;unfold Dt at t3 t4;rw[h.2]at t3 t4;exact(Ahi c1 t3 t4).1
   ·exact c1
 refine⟨w,v,h2.1,h2.2,is,h4,mv,λhs h=>h5 ⟨hs,h⟩,htk,g2,rfl, ?_,λk hk=>(C k hk).1,λk hk=>(C k hk).2,rfl,rfl⟩;show(Px x i m.2.1 m.2.2.1 (Di x s.2.1 i m).1).length=_;unfold Px;rw[S1,T1]
theorem runG_vs{x:PlT}{l:List Int}:∀(m k:Nat) (s:FsT) (o:List Int),Cv x s=0->(Kd x l m k s o).2.2=0->Cv x (Kd x l m k s o).1=0
 |0,_,_,_,h,_=>h
 |m+1,k,s,o,h,h2=>by
  by_cases hs:Ub x s
  ·rw[Ado hs];exact h
  ·by_cases he:(Du x s (J8 x l k s)).2=0
   ·rw[Ajw hs he]at h2 ⊢;have r:=step_ok he;exact runG_vs m (k+1) _ _ (Cg.2 ⟨r.w,r.vs⟩) h2
   ·rw[Ahj hs he]at h2;exact absurd h2 he
theorem st_noted{y:StT}{t:SST}(h:(Ar y t).2=0)(hk:y.1≠1)(he:t.2.2=true){n:Int}(h0:0<=n)(hn:n<stIn y):n∈Br y t:=by
 obtain⟨c0,hv⟩:=Cp.1 h;obtain⟨⟨a1,a2,a3⟩,a4,a5⟩:=Ay.1 hv;rw[Abo c0]at hn;have hkk:=Ie (Cu c0);unfold Br;by_cases h8:y.1=8
 ·rw[if_pos h8];unfold vk at a5;rw[if_neg (by omega),if_pos h8]at a5;split at a5
  ·cases a5
  ·rename_i hb;have hb:(List.range t.1.length).any (Cw t.1)=false:=by simpa using hb
   rw[he]at a5;have hl:(t.1.length:Int)=2:=by
    cases hd:decide ((t.1.length:Int)=2)
    ·rw[hd]at a5;cases a5
    ·exact of_decide_eq_true hd
   have hn2:n<2:=by rw[h8]at hn;exact hn
   rcases Agk (by omega) hb with h|h|h|h <;> rw[h]at hl ⊢
   ·simp at hl
   ·simp at hl
   ·simp at hl
   ·have:n=0\/n=1:=by omega
    rcases this with rfl|rfl <;> simp
 ·rw[if_neg h8];by_cases h9:y.1=9
  ·rw[if_pos h9];unfold vk at a5;rw[if_neg (by omega),if_neg h8,if_pos h9]at a5;have hc:t.2.1=3:=by
    cases hd:decide (t.2.1=3)
    ·rw[hd,he]at a5;cases a5
    ·exact of_decide_eq_true hd
   have hn2:n<2:=by rw[h9]at hn;exact hn
   rw[hc];have:n=0\/n=1:=by omega
   rcases this with rfl|rfl <;> decide
  ·rw[if_neg h9,if_pos ⟨hk,he⟩];have:(Ao y.1).1<=1:=by
    rcases hkk with h|h|h|h|h|h|h|h|h|h <;> first|contradiction|(rw[h];decide)
   have:n=0:=by omega
   rw[this];exact List.mem_singleton.2 rfl
theorem batS_len{z:Int}{d:List Int}{a:Int}:(De z (d,[],0) a).2.1.length<=1:=by
 unfold De;split
 ·unfold G2 Kw;dsimp only;split
  ·exact Nat.le_refl 1
  ·exact Nat.zero_le 1
 ·exact Nat.zero_le 1
theorem batR_len{d:List Int}:(Ds (d,[],0)).2.1.length<=1:=by
 unfold Ds;split
 ·unfold G2 Kw;dsimp only;split
  ·exact Nat.le_refl 1
  ·exact Nat.zero_le 1
 ·exact Nat.zero_le 1
theorem runT_len{y:StT}{t:SST}{k v:Int}(h0:An y=0)(h5:y.1≠5):∀l∈(Ef y t k v).2.1,l.length<=1:=by
 have o1:∀{o:List Int},o.length<=1->∀l∈[o],l.length<=1:=λh l hl=>by rw[List.mem_singleton.1 hl];exact h
 have i1:∀{b:Bool}{a c:List Int},a.length<=1->c.length<=1->(if b=true then a else c).length<=1:=λ{b}{a c} h1 h2=>by cases b;exact h2;exact h1
 have q1:∀{a:Int},[a].length<=1:=Nat.le_refl 1;have q0:([]:List Int).length<=1:=Nat.zero_le 1;have hk:=Ie (Cu h0);obtain⟨q,z,e,l⟩:=y;obtain⟨hd,c,en⟩:=t;replace hk:q=1\/q=2\/q=3\/q=4\/q=5\/q=6\/q=7\/q=8\/q=9\/q=10:=hk;rcases hk with rfl|rfl|rfl|rfl|rfl|rfl|rfl|rfl|rfl|rfl
 ·exact o1 q1
 ·exact o1 q1
 ·exact o1 (i1 q1 q0)
 ·exact o1 batS_len
 ·exact absurd rfl h5
 ·show ∀l'∈(if decide (c<z)=true then((hd,c+1,en),[[v]],(0:Int))else((hd,c,en),[[]],0):SST×List (List Int)×Int).2.1,_;cases decide (c<z)
  ·exact o1 q0
  ·exact o1 q1
 ·intro o ho;rcases List.mem_cons.1 ho with rfl|ho
  ·exact i1 q1 q0
  ·rw[List.mem_singleton.1 ho];exact i1 q0 q1
 ·exact o1 q1
 ·have h9:Ef (9,z,e,l) (hd,c,en) k v=(if decide (k=0)=true then(if decide (Ej .i64 c 2=0)=true then(([v],c,en),[[]],0)else((hd,c,en),[[]],0))
   else if decide ((hd.length:Int)=1)=true then(([],c,en),[[(evX e Ey (hd.getD 0 0) v).1]],(evX e Ey (hd.getD 0 0) v).2)else((hd,c,en),[[]],0)):=rfl
  rw[h9];cases decide (k=0)
  ·cases decide ((hd.length:Int)=1)
   ·exact o1 q0
   ·exact o1 q1
  ·cases decide (Ej .i64 c 2=0)
   ·exact o1 q0
   ·exact o1 q0
 ·exactλo ho=>by simp[Ef]at ho
theorem runE_len{y:StT}{t:SST}{k:Int}:∀l∈(Fg y t k).2.1,l.length<=1:=by
 have o1:∀{o:List Int},o.length<=1->∀l∈[o],l.length<=1:=λh l hl=>by rw[List.mem_singleton.1 hl];exact h
 unfold Fg;split
 ·exact o1 batR_len
 ·split
  ·intro l hl;rcases List.mem_cons.1 hl with rfl|hl
   ·simp
   ·rw[List.mem_singleton.1 hl];simp
  ·split
   ·exact o1 (by simp)
   ·split
    ·exact o1 (by simp)
    ·split
     ·intro l hl;simp at hl
     ·exact o1 (by simp)
theorem sent_len{y:StT}{t:SST}{c:Int}(hc:1<=c)(h5:y.1=5->y.2.1<=c):(∀k v,(C8 y t k v).2.2=0->∀l∈(C8 y t k v).2.1,(l.length:Int)<=c)/\(∀k,(Dz y t k).2.2.2=0->∀l∈(Dz y t k).2.1,(l.length:Int)<=c):=by
 constructor
 ·intro k v h l hl;obtain⟨h0,hv,h1,h2,h3,he⟩:=Abj h;rw[he]at hl;by_cases hk:y.1=5
  ·have hl:l∈(Ef y t k v).2.1:=hl;unfold Ef at hl;rw[if_neg (by omega),if_neg (by omega),if_neg (by omega),if_neg (by omega),if_pos hk]at hl;rw[List.mem_singleton.1 hl,List.length_replicate];have:=h5 hk;have:=(A1 h0).1;omega
  ·have:=runT_len (t:=t) (k:=k) (v:=v) h0 hk l hl;omega
 ·intro k h l hl;obtain⟨h0,hv,h1,h2,h3,he⟩:=Agj h;rw[he]at hl;have:=runE_len (y:=y) (t:=t) (k:=k) l hl;omega
theorem next_len{x:PlT}{s:FsT}{i c:Int}(hc:1<=c)(h5:(sg x i).1=5->(sg x i).2.1<=c)(h:(Cy x s i).2=true)(he:(Cy x s i).1.2.2.2.2.2.2=0):∀l∈(Cy x s i).1.2.1,(l.length:Int)<=c:=by
 obtain⟨h1,⟨h2,h3,h4⟩|⟨h2,h3,h4⟩|⟨h2,k,hk,⟨a,l,h6,h4⟩|⟨h6,h4⟩⟩⟩:=Zz h <;> rw[h4]at he ⊢
 ·exact(sent_len hc h5).2 _ he
 ·exact(sent_len hc h5).1 _ _ he
 ·exact(sent_len hc h5).1 _ _ he
 ·exact(sent_len hc h5).2 _ he
theorem filter_countP{α:Type}(p:α->Bool)(d:α):∀(l:List α) (j:Nat),((List.range' j l.length).filter (λk=>p (l.getD (k-j) d))).length=l.countP p
 |[],_=>rfl
 |a::l,j=>by
  rw[List.length_cons,List.range'_succ,List.filter_cons,List.countP_cons];have e:(List.range' (j+1) l.length).filter (λk=>p ((a::l).getD (k-j) d))=(List.range' (j+1) l.length).filter (λk=>p (l.getD (k-(j+1)) d)):=by
   refine List.filter_congr λk hk=>?_
   have:=(List.mem_range'_1.1 hk).1;rw[show k-j=(k-(j+1))+1 by omega];rfl
  have ih:=filter_countP p d l (j+1);rw[Nat.sub_self];show(if p a=true then _ else _:List Nat).length=_;split
  ·rename_i h;rw[List.length_cons,e,ih]
  ·rename_i h;rw[e,ih];rfl
theorem blames{x:PlT}{s:FsT}(w:WF x)(v:VS x s){i:Int}(h0:0<=i)(hn:i<x.1.length)(he:(Ci s i).2.2=false)(hno:(Bk x s i).2=false):
 ∃k,k<x.2.length/\(((x.2.getD k Aw).2.2.1=i/\(Ci s (x.2.getD k Aw).1).2.2=false/\(s.2.1.getD k A9).2.2.2.2.1=[]) \/
  ((x.2.getD k Aw).1=i/\(Ci s (x.2.getD k Aw).2.2.1).2.2=false/\(s.2.1.getD k A9).2.2.2.2.1≠[])):=by
 have hnd:(Ar (sg x i) (Ci s i)).2=0:=by have:=v.nd i.toNat (by omega);rwa [show((i.toNat:Nat):Int)=i by omega]at this
 cases hx:(Cy x s i).2 with
 |false =>
  unfold Cy at hx;rw[if_neg (by rw[he];simp)]at hx;split at hx
  ·split at hx <;> cases hx
  ·rename_i h1;obtain⟨q,q1,q2,q3⟩:=Abu hnd h1 he;rw[q1]at hx;have hx:(if 0<(Dt s (pIn x i q)).2.2.2.2.1.length then(J2 (sg x i) (Ci s i) true q ((Dt s (pIn x i q)).2.2.2.2.1.getD 0 0),true)
    else if Cf (Dt s (pIn x i q))=true then(Sc (sg x i) (Ci s i) q,true)else(zMv,false)).2=false:=hx
   split at hx
   ·cases hx
   ·rename_i h2;split at hx
    ·cases hx
    ·rename_i h3;obtain⟨k,k1,k2,k3,k4⟩:=w.ins h0 hn q2 q3;have e:Dt s (pIn x i q)=s.2.1.getD k A9:=by unfold Dt;rw[k2];rfl
     rw[e]at h2 h3;obtain⟨c1,c2,c3,c4⟩:=Fm.1 (v.cr k k1);have hnil:(s.2.1.getD k A9).2.2.2.2.1=[]:=List.eq_nil_of_length_eq_zero (by omega);refine⟨k,k1,.inl ⟨k3, ?_,hnil⟩⟩;rw[<-c3];cases hc:(s.2.1.getD k A9).2.2.2.2.2
     ·rfl
     ·exact absurd (Adn.2 ⟨c1,hc,hnil⟩) h3
 |true =>
  have hno:((Cy x s i).2&&(!decide ((Cy x s i).1.2.2.2.2.2.2=0)||Fj x s i (Cy x s i).1.2.1))=false:=hno;rw[hx,Bool.true_and,Bool.or_eq_false_iff]at hno;obtain⟨n1,n2⟩:=hno;have e0:(Cy x s i).1.2.2.2.2.2.2=0:=by simpa using n1
  have mv:=Abv v h0 hn hx e0;have:¬ ∀n<(Cy x s i).1.2.1.length,(((Cy x s i).1.2.1.getD n []).length:Int)<=N0 (Dt s (Cq x i n)):=λh=>by
   rw[fits_iff.2 h]at n2;cases n2
  simp only[Classical.not_forall]at this;obtain⟨n,n3,n4⟩:=this;obtain⟨k,k1,k2,k3,k4⟩:=w.outs h0 hn (show(0:Int)<=(n:Int) by omega) (by have:=mv.len;omega);have e:Dt s (Cq x i n)=s.2.1.getD k A9:=by unfold Dt;rw[k2];rfl
  rw[e]at n4;obtain⟨c1,c2,c3,c4⟩:=Fm.1 (v.cr k k1);have p:=w.pipe k1;have hcl:(s.2.1.getD k A9).2.2.2.2.2=false:=by rw[c3,k3];exact he
  refine⟨k,k1,.inr ⟨k3, ?_,λhnil=>n4 ?_⟩⟩
  ·cases hj:(Ci s (x.2.getD k Aw).2.2.1).2.2
   ·rfl
   ·exfalso;have hjn:=v.nd (x.2.getD k Aw).2.2.1.toNat (by have:=p.t0;have:=p.tn;omega);have hjo:=v.no (x.2.getD k Aw).2.2.1.toNat (by have:=p.t0;have:=p.tn;omega);rw[show((((x.2.getD k Aw).2.2.1.toNat:Nat)):Int)=(x.2.getD k Aw).2.2.1 by have:=p.t0;omega]at hjn hjo;by_cases h1:(sg x (x.2.getD k Aw).2.2.1).1=1
    ·have hin:=p.iN;rw[Abo (Cp.1 hjn).1,h1]at hin;have hin:(x.2.getD k Aw).2.2.2.1<0:=hin;have:=p.i0;omega
    ·have:=hjo _ (st_noted hjn h1 hj p.i0 p.iN);have e2:Dt s (pIn x (x.2.getD k Aw).2.2.1 (x.2.getD k Aw).2.2.2.1)=s.2.1.getD k A9:=by unfold Dt;rw[p.inp];rfl
     rw[e2]at this;rw[(Adn.1 this).2.1]at hcl;cases hcl
  ·have hb:=Dh c1;have h4:=c4 hcl;rw[hnil]at hb;simp only[List.length_nil]at hb;unfold N0;rw[if_neg (by rw[c1,hcl];simp)];have hs:((Cy x s i).1.2.1.getD n [])∈(Cy x s i).1.2.1:=by rw[Bt n3];exact List.getElem_mem n3
   have:=next_len (c:=(x.2.getD k Aw).2.2.2.2) p.c1 (by have:=p.rep;rwa [k3]at this) hx e0 _ hs;omega
theorem progress{x:PlT}{s:FsT}(w:WF x)(v:VS x s){i0:Int}(h0:0<=i0)(hn:i0<x.1.length)(he:(Ci s i0).2.2=false):∃i:Int,0<=i/\i<x.1.length/\(Bk x s i).2=true:=by
 apply Classical.byContradiction;intro hno;have hno:∀i:Int,0<=i->i<x.1.length->(Bk x s i).2=false:=λi a b=>by
  cases h:(Bk x s i).2
  ·rfl
  ·exact absurd ⟨i,a,b,h⟩ hno
 let B:=(ints x.1.length).filter (λi=>!(Ci s i).2.2);have mB:∀{i},i∈B<->(0<=i/\i<x.1.length/\(Ci s i).2.2=false):=λ{i}=>by
  show i∈(ints x.1.length).filter (λi=>!(Ci s i).2.2)<->_;rw[List.mem_filter,Jf];simp[and_assoc]
 have hB:B≠[]:=λh=>by
  have:=mB.2 ⟨h0,hn,he⟩;rw[h]at this;simp at this
 have hf:=Ahe (B:=B) (l:=x.2) (n:=x.1.length) hB (λi hi=>by have:=mB.1 hi;omega) w.tree;have hb:∀i:Int,∃k:Nat,i∈B->(k<x.2.length/\(((x.2.getD k Aw).2.2.1=i/\(Ci s (x.2.getD k Aw).1).2.2=false/\(s.2.1.getD k A9).2.2.2.2.1=[]) \/
  ((x.2.getD k Aw).1=i/\(Ci s (x.2.getD k Aw).2.2.1).2.2=false/\(s.2.1.getD k A9).2.2.2.2.1≠[]))):=λi=>by
  by_cases h:i∈B
  ·obtain⟨a,b,c⟩:=mB.1 h;obtain⟨k,k1⟩:=blames w v a b c (hno i a b);exact⟨k,λ_=>k1⟩
  ·exact⟨0,λh'=>absurd h' h⟩
 let f:Int->Nat:=λi=>Classical.choose (hb i)
 have hf2:∀i∈B,(f i<x.2.length/\(((x.2.getD (f i) Aw).2.2.1=i/\(Ci s (x.2.getD (f i) Aw).1).2.2=false/\(s.2.1.getD (f i) A9).2.2.2.2.1=[]) \/
  ((x.2.getD (f i) Aw).1=i/\(Ci s (x.2.getD (f i) Aw).2.2.1).2.2=false/\(s.2.1.getD (f i) A9).2.2.2.2.1≠[]))):=λi hi=>Classical.choose_spec (hb i) hi
 have nB:B.Nodup:=List.Nodup.sublist List.filter_sublist (by
  unfold ints;exact List.Pairwise.map _ (λa b h=>by omega) List.nodup_range)
 have nM:(B.map f).Nodup:=by
  rw[List.nodup_iff_pairwise_ne]at nB ⊢;refine List.pairwise_map.2 (nB.imp_of_mem λ{a b} ha hb' hab he=>?_);obtain⟨a1,a2⟩:=hf2 a ha;obtain⟨b1,b2⟩:=hf2 b hb';rw[he]at a2;rcases a2 with⟨a3,a4,a5⟩|⟨a3,a4,a5⟩ <;> rcases b2 with⟨b3,b4,b5⟩|⟨b3,b4,b5⟩
  ·exact hab (a3.symm.trans b3)
  ·exact b5 a5
  ·exact a5 b5
  ·exact hab (a3.symm.trans b3)
 have hs:∀k∈B.map f,k∈(List.range' 0 x.2.length).filter (λk=>Ky B (x.2.getD (k-0) Aw)):=λk hk=>by
  obtain⟨i,hi,rfl⟩:=List.mem_map.1 hk;obtain⟨f1,f2⟩:=hf2 i hi;have p:=w.pipe f1;refine List.mem_filter.2 ⟨List.mem_range'_1.2 ⟨by omega,by omega⟩, ?_⟩;have hi':=mB.1 hi;show(decide ((x.2.getD (f i) Aw).1∈B)&&decide ((x.2.getD (f i) Aw).2.2.1∈B))=true;rcases f2 with⟨a3,a4,a5⟩|⟨a3,a4,a5⟩
  ·rw[decide_eq_true (mB.2 ⟨p.f0,p.fn,a4⟩),decide_eq_true (show(x.2.getD (f i) Aw).2.2.1∈B by rw[a3];exact hi)];rfl
  ·rw[decide_eq_true (mB.2 ⟨p.t0,p.tn,a4⟩),decide_eq_true (show(x.2.getD (f i) Aw).1∈B by rw[a3];exact hi)];rfl
 have h1:=Gx _ _ nM hs;rw[filter_countP (Ky B) Aw x.2 0,List.length_map]at h1;omega
end Go.Proofs.YtckpldpombdkgaaGreat
