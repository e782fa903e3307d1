/- Pipelines. -/
import Derived.Test.YtpabcdbaffjcdaaGreatJQ2
import Derived.Test.YtpabcdbaffjcdaaGreatJQ1
import Derived.Test.YtpabcdbaffjcdaaGreatJP
set_option linter.unusedSimpArgs false
set_option linter.unusedVariables false
set_option maxRecDepth 100000
namespace Go.Proofs.YtpabcdbaffjcdaaGreat
open Go.Sx
def Apx:FuncId->List AV->List Ob->AV->List Ob->Prop:=λg args T x1 T1=>∃(x:PlT)(i:Int)(m:MvT)(ss:List SST)(cs:List Cred)(os:List (List Int))(dr:Bool),
 okM x i cs m.2.1/\args=[Adx x,.ptr 0 0,.int .i64 i,Ady m]/\T=stB ss cs os dr/\
 ((g=128/\x1=.tup []/\T1=stB ss (Kk x i m.2.1 m.2.2.1 cs) os dr)\/
  (g=127/\(m.2.2.2.1=true->0<=m.2.2.2.2.1/\m.2.2.2.2.1<stIn (sg x i))/\x1=.int .i64 (Cp x cs i m).2/\T1=stB ss (Cp x cs i m).1 os dr))
theorem Atk:∀g args T x1 T1,Apx g args T x1 T1->Ba cxqL Tryz.prog (Ba cxqL Tryz.prog noS) g args T T.length (λx T' n'=>∃σ,J1 T.length σ [noW x] T' n' ⟨[x1],T1,T1.length⟩):=by
 rintro g args T x1 T1 ⟨⟨st,ps⟩,i,⟨t,o,b1,b2,m1,m2,m3⟩,ss,cs,os,dr,hk,rfl,rfl,⟨rfl,rfl,rfl⟩|⟨rfl,hb,rfl,rfl⟩⟩
 ·exact Al9 st ps i t o b1 b2 m1 m2 m3 ss cs os dr hk
 ·exact Ama st ps i t o b1 b2 m1 m2 m3 ss cs os dr hk hb
theorem Uy:Bb Tryz.prog (Gs Apx):=Gt (Af Wv (Af Wv Bl)) Atk
def Atl:List (TypeId×Ty):=(55,tFs)::(26,tIs)::Ah8
theorem Qu:Ai Tryz.prog ⟨Atl,[]⟩:=λ_ _ _ h=>by simp[G3]at h
def cClS:Ctr:=fnO [.dat false (.sl tSS)] tSS (λy=>y.1.length<=1000) (λy=>y.1)
theorem Au1:GoodC Tryz.prog 124 cClS:=by
 refine goodO Qu 3 _ _ _ _ ⟨_,Tryz.func124,rfl,rfl⟩ λ⟨xs,_⟩ hlen=>?_
 simp only at hlen;refine(aF (λh0=>(λh1=>(aI (λh2=>(Kb (by simp_all))) (λh2=>(aO (M0 rfl (by simp_all))))))))
def cClC:Ctr:=fnO [.dat false (.sl Dn)] Dn (λy=>y.1.length<=1000) (λy=>y.1)
theorem Au2:GoodC Tryz.prog 125 cClC:=by
 refine goodO Qu 3 _ _ _ _ ⟨_,Tryz.func125,rfl,rfl⟩ λ⟨xs,_⟩ hlen=>?_
 simp only at hlen;refine(aF (λh0=>(λh1=>(aI (λh2=>(Kb (by simp_all))) (λh2=>(aO (M0 rfl (by simp_all))))))))
def cClO:Ctr:=fnO [.dat false Va] tIs (λy=>y.1.length<=1000) (λy=>y.1)
theorem Au3:GoodC Tryz.prog 126 cClO:=by
 refine goodO Qu 3 _ _ _ _ ⟨_,Tryz.func126,rfl,rfl⟩ λ⟨xs,_⟩ hlen=>?_
 simp only at hlen;refine(aF (λh0=>(λh1=>(aI (λh2=>(Kb (by simp_all))) (λh2=>(aO (M0 rfl (by simp_all))))))))
def cxqJ:Ctx:=⟨Atl,[(78,([],cVal)),(123,([],cEnab)),(25,([],cWi)),(48,([],cSinks)),
 (124,([],cClS)),(125,([],cClC)),(126,([],cClO)),(56,([],cCl))]⟩
theorem Wx:Ai Tryz.prog cxqJ:=Dl (Ae Ars (Ae Apw (Ae gWi (Ae Adr (Ae Au1 (Ae Au2 (Ae Au3 (Ae gCl Ah))))))))
section
variable {x:PlT}{s:FsT}{i:Int}
theorem Au4(h:Df x s≠0):Cs x s i=(zFs,Df x s):=aP h
theorem Au5(h:Df x s=0)(h1:¬(0<=i/\i<x.1.length)):Cs x s i=(zFs,2):=(aL (λh'=>h' h)).trans (aP h1)
variable (h:Df x s=0)(h1:0<=i/\i<x.1.length)
include h h1
theorem Au6(h2:(Be x s i).2=false):Cs x s i=(zFs,25):=(aL (λh'=>h' h)).trans ((aL (λh'=>h' h1)).trans (aP h2))
variable (h2:(Be x s i).2=true)
include h2
theorem Au7(h3:(Be x s i).1.2.2.2.2.2.2≠0):Cs x s i=(zFs,(Be x s i).1.2.2.2.2.2.2):=(aL (λh'=>h' h)).trans ((aL (λh'=>h' h1)).trans ((aL (λh'=>aY (h'.symm.trans h2))).trans (aP h3)))
variable (h3:(Be x s i).1.2.2.2.2.2.2=0)
include h3
theorem Atm:Cs x s i=if Ur x i (Be x s i).1=true/\(s.2.2.1.getD (Fy x i) []).length=200 then(zFs,4)
 else if(Cp x s.2.1 i (Be x s i).1).2≠0 then(zFs,(Cp x s.2.1 i (Be x s i).1).2)
 else((s.1.set i.toNat (Be x s i).1.1,Kk x i (Be x s i).1.2.1 (Be x s i).1.2.2.1 (Cp x s.2.1 i (Be x s i).1).1,Rm x i (Be x s i).1 s.2.2.1,s.2.2.2),0):=
 (aL (λh'=>h' h)).trans ((aL (λh'=>h' h1)).trans ((aL (λh'=>aY (h'.symm.trans h2))).trans (aL (λh'=>h' h3))))
theorem Apy:Mv x s i (Be x s i).1:=by
 have h2:((A3 x s i).2&&(!decide ((A3 x s i).1.2.2.2.2.2.2=0)||Ea x s i (A3 x s i).1.2.1))=true:=h2;rw[aS]at h2;exact Pn (Bz.1 h).2 h1.1 h1.2 h2.1 h3
theorem Apz:okM x i s.2.1 (Be x s i).1.2.1:=by
 have m:=Apy h h1 h2 h3;have v:=(Bz.1 h).2;have:=m.len;have:=(Pr (sg x i)).2.2.2;exact⟨(Bz.1 h).1,h1,v.lc,by omega⟩
theorem Ap0(ht:(Be x s i).1.2.2.2.1=true):0<=(Be x s i).1.2.2.2.2.1/\(Be x s i).1.2.2.2.2.1<stIn (sg x i):=by
 have m:=(Apy h h1 h2 h3).tk ht;exact⟨m.1,m.2.1⟩
end
theorem Atn{x:PlT}{s:FsT}{i:Int}(h:Df x s=0)(h1:0<=i/\i<x.1.length)(_:(Be x s i).2=true)(_:(Be x s i).1.2.2.2.2.2.2=0)(hs:(sg x i).1=10):0<=Bm (x.1.take i.toNat)/\Bm (x.1.take i.toNat)<s.2.2.1.length/\s.2.2.1.length<=16:=by
 obtain⟨w,v⟩:=Bz.1 h;have hlo:=v.lo;have:(x.1.take i.toNat).countP isSink<x.1.countP isSink:=Ip isSink x.1 i.toNat zStg (by omega) (aX hs);have h16:x.1.countP isSink<=x.1.length:=eT;have:=w.n16;unfold Bm at hlo ⊢;omega
theorem Au8{b:Bool}(h:(!b)=true):b=false:=by cases b<;>first|rfl|cases h
def Ad0(st:List StT)(os:List (List Int))(i v:Int):List (List Int):=os.set (Bm (st.take i.toNat)).toNat (os.getD (Bm (st.take i.toNat)).toNat []++[v])
@[reducible] def Au9:List (Bool×Ty):=[(true,tFs),(false,tI)]
def cStep:Ctr:=fnC [dPl,dFs,dI] Au9 (λ_=>True) (λy=>((Cs y.1 y.2.1 y.2.2.1).1,(Cs y.1 y.2.1 y.2.2.1).2,()))
set_option maxHeartbeats 16000000 in
theorem Ato:GoodC Tryz.prog 82 cStep:=by
 refine Xw (Af Wx (Da (g0:=127) Uy (Da (g0:=128) Uy (Af Wx Bl)))) _ _ _ _ ⟨_,Tryz.func82,rfl,rfl⟩ λ(⟨⟨st,ps⟩,⟨ss,cs,os,dr⟩,i,_⟩:PlT×FsT×Int×Unit) _=>?_
 have T:∀{m:FsT×Int},Cs (st,ps) (ss,cs,os,dr) i=m->((Cs (st,ps) (ss,cs,os,dr) i).1,(Cs (st,ps) (ss,cs,os,dr) i).2,())=(m.1,m.2,()):=λh=>by rw[h]
 have hZ:(!decide (Df (st,ps) (ss,cs,os,dr)=0))=false->Df (st,ps) (ss,cs,os,dr)=0:=λh=>aM (B5 h)
 have hI:(!inR i 0 ((st.length:Int)-1))=false->0<=i/\i<st.length:=λh=>Afx (B5 h)
 have hL:(!decide (Df (st,ps) (ss,cs,os,dr)=0))=false->ss.length<=1000/\cs.length<=1000/\os.length<=1000:=λh=>by
  obtain⟨w,v⟩:=Bz.1 (hZ h);have a1:ss.length=st.length:=v.ls;have a2:cs.length=ps.length:=v.lc;have a3:(os.length:Int)=Bm st:=v.lo;have a4:st.length<=16:=w.n16;have a5:ps.length<=32:=w.p32;have a6:st.countP isSink<=st.length:=eT;unfold Bm at a3;omega
 refine(aF (aI tT (aI (λh0=>(Aa rfl ?_)) (λh0=>(λh1=>(aO (aI tT (aI (λh2=>(Aa rfl ?_)) (λh2=>(aI ?_ (λ(h3:((List Int×Int×Bool)×List (List Int)×Bool×Bool×Int×Int×Int)×Bool×PUnit)=>(λh4=>(aI (λh5=>(Aa rfl ?_)) (λh5=>(aI (λh6=>(aK (aC (aB (Aa rfl ?_))))) (λh6=>(aF (aO (aO (aO (aI ?_ (aI (λh7=>(aI ?_ (aI tT (aI ?_ (λh8=>(aI (λh9=>(Aa rfl ?_)) (λh9=>(aF (aI ?_ (aI ?_ (aI ?_ (aI ?_ (aI tT ?_))))))))))))) (λh7=>(aI tT ?_))))))))))))))))))))))))
 ·exact T (Au4 (λh=>by have h0:(!decide (Df (st,ps) (ss,cs,os,dr)=0))=true:=h0;rw[h]at h0;cases h0))
 ·refine T (Au5 (hZ h0) (λh=>?_));have h2:(!inR i 0 ((st.length:Int)-1))=true:=h2;have h:0<=i/\i<st.length:=h;rw[Lk.2 (show 0<=i/\i<=(st.length:Int)-1 by omega)]at h2;cases h2
 ·exact⟨(Bz.1 (hZ h0)).1,(Bz.1 (hZ h0)).2,hI h2⟩
 ·rw[h4]at h5;exact T (Au6 (hZ h0) (hI h2) (Au8 h5))
 ·rw[h4]at h5 h6 ⊢;exact T (Au7 (hZ h0) (hI h2) (B5 h5) (λh=>by have h6:(!decide ((Be (st,ps) (ss,cs,os,dr) i).1.2.2.2.2.2.2=0))=true:=h6;rw[h]at h6;cases h6))
 ·exact hI h2
 rotate_right
 ·have e3:h3.1=(Be (st,ps) (ss,cs,os,dr) i).1:=by rw[h4]
  have hE:(Be (st,ps) (ss,cs,os,dr) i).2=true:=by rw[h4]at h5;exact B5 h5
  have h60:(Be (st,ps) (ss,cs,os,dr) i).1.2.2.2.2.2.2=0:=by rw[h4]at h6;exact aM (B5 h6)
  have hok:=Apz (hZ h0) (hI h2) hE h60;have htk:=Ap0 (hZ h0) (hI h2) hE h60;have hb:=Atm (hZ h0) (hI h2) hE h60;have hls:ss.length=st.length:=(Bz.1 (hZ h0)).2.ls;have hiN:=hI h2;have hns:Ur (st,ps) i (Be (st,ps) (ss,cs,os,dr) i).1=false:=by
   rw[<-e3];have h7:(bif decide ((st.getD i.toNat (Ab tSt)).1=10)then h3.1.2.2.2.1 else false)=false:=h7;show(decide ((st.getD i.toNat (Ab tSt)).1=10)&&h3.1.2.2.2.1)=false;cases hd:decide ((st.getD i.toNat (Ab tSt)).1=10)
   ·rfl
   ·rw[hd]at h7;exact h7
  rw[<-e3]at hok htk hb hns;rw[aL (λh=>aY (hns.symm.trans h.1)),show Rm (st,ps) i h3.1 os=os from aL (λh=>aY (hns.symm.trans h))]at hb;clear h0 h1 h2 h4 h5 h6 h7 e3 hE h60 hns;refine eI [Adx (st,ps),.ptr 0 0,.int .i64 i,Ady h3.1] (eI (stB ss cs os dr) (eI (.int .i64 (Cp (st,ps) cs i h3.1).2) (eI (stB ss (Cp (st,ps) cs i h3.1).1 os dr) (eI [some 1,some 4,some 5,some 6]
   ⟨⟨(st,ps),i,h3.1,ss,cs,os,dr,hok,rfl,rfl,.inr ⟨rfl,htk,rfl,rfl⟩⟩,⟨by rfl,by rfl,⟨⟨by rfl,by rfl⟩,by rfl,by rfl,by rfl,trivial⟩,by rfl⟩,by rfl, ?_⟩))))
  dsimp only[stB,Fq,Cx,E6,Db,Fv,B3,Aq,Ic,List.length_cons,List.length_nil,List.cons_append,List.nil_append,Nat.reduceAdd,Nat.reduceSub];have hcl:(Cp (st,ps) cs i h3.1).1.length=ps.length:=by
   have:cs.length=ps.length:=hok.2.2.1;unfold Cp;split
   ·exact this
   ·rw[cE];exact this
  refine(aI (λw0=>(Aa rfl ?_)) (λw0=>(aI (by omega) (aI tT ?_))))
  ·exact T (hb.trans (aP (λh=>by have w0:(!decide ((Cp (st,ps) cs i h3.1).2=0))=true:=w0;rw[h]at w0;cases w0)))
  rw[aL (λh=>h (aM (B5 w0)))]at hb;clear w0;refine eI [Adx (st,ps),.ptr 0 0,.int .i64 i,Ady h3.1] (eI (stB (ss.set i.toNat h3.1.1) (Cp (st,ps) cs i h3.1).1 os dr) (eI (.tup []) (eI (stB (ss.set i.toNat h3.1.1) (Kk (st,ps) i h3.1.2.1 h3.1.2.2.1 (Cp (st,ps) cs i h3.1).1) os dr) (eI [some 1,some 4,some 5,some 6]
   ⟨⟨(st,ps),i,h3.1,ss.set i.toNat h3.1.1,(Cp (st,ps) cs i h3.1).1,os,dr,⟨hok.1,hok.2.1,hcl,hok.2.2.2⟩,rfl,rfl,.inl ⟨rfl,rfl,rfl⟩⟩,⟨by rfl,by rfl,⟨⟨by rfl,by rfl⟩,by rfl,by rfl,by rfl,trivial⟩,by rfl⟩,by rfl, ?_⟩))))
  dsimp only[stB,Fq,Cx,E6,Db,Fv,B3,Aq,Ic,List.length_cons,List.length_nil,List.cons_append,List.nil_append,Nat.reduceAdd,Nat.reduceSub];refine(Aa rfl ?_)
  ·exact T hb
 all_goals
  have e3:h3.1=(Be (st,ps) (ss,cs,os,dr) i).1:=by rw[h4]
  have hE:(Be (st,ps) (ss,cs,os,dr) i).2=true:=by rw[h4]at h5;exact B5 h5
  have h60:(Be (st,ps) (ss,cs,os,dr) i).1.2.2.2.2.2.2=0:=by rw[h4]at h6;exact aM (B5 h6)
  have hok:=Apz (hZ h0) (hI h2) hE h60;have htk:=Ap0 (hZ h0) (hI h2) hE h60;have hb:=Atm (hZ h0) (hI h2) hE h60;have hls:ss.length=st.length:=(Bz.1 (hZ h0)).2.ls;have hos:=(Bz.1 (hZ h0)).2.os;have hiN:=hI h2;have h7:(bif decide ((st.getD i.toNat (Ab tSt)).1=10)then h3.1.2.2.2.1 else false)=true:=h7;have h10:=Yk h7;have hsn:=Atn (hZ h0) (hI h2) hE h60 (aM h10.1);replace hsn:0<=Bm (st.take i.toNat)/\Bm (st.take i.toNat)<os.length/\os.length<=16:=hsn;have hs:Ur (st,ps) i h3.1=true:=by
   show(decide ((st.getD i.toNat (Ab tSt)).1=10)&&h3.1.2.2.2.1)=true;rw[h10.1,h10.2];rfl
  have hl2:(os.getD (Bm (st.take i.toNat)).toNat []).length<=200:=by
   have hlt:(Bm (st.take i.toNat)).toNat<os.length:=by omega
   have:=hos (os.getD (Bm (st.take i.toNat)).toNat []) (by rw[A1 hlt];exact cJ hlt);unfold I7 at this;have:=aQ (bJ.1 this).1;omega
  rw[<-e3]at hok htk hb;clear e3 hE h60 hos h10
  first
  |exact⟨hiN.1,Int.le_of_lt hiN.2⟩
  |exact⟨hsn.1,hsn.2.1⟩
  |exact cP hl2 (by decide)
  |exact T (hb.trans (aP ⟨hs,by have:=aM h9;show(os.getD (Bm (st.take i.toNat)).toNat []).length=200;exact Int.ofNat_inj.1 this⟩))
  |(show((os.getD (Bm (st.take i.toNat)).toNat []).length+1)*8<=lim;unfold lim;omega)
  |skip
 have h9:¬(os.getD (Bm (st.take i.toNat)).toNat []).length=200:=λh=>aQ h9 (Int.ofNat_inj.2 h)
 rw[aL (λh=>h9 h.2),show Rm (st,ps) i h3.1 os=Ad0 st os i h3.1.2.2.2.2.2.1 from aP hs]at hb;clear h0 h1 h2 h4 h5 h6 h7 hs h9 hl2 hsn;refine eI [Adx (st,ps),.ptr 0 0,.int .i64 i,Ady h3.1] (eI (stB ss cs (Ad0 st os i h3.1.2.2.2.2.2.1) dr) (eI (.int .i64 (Cp (st,ps) cs i h3.1).2) (eI (stB ss (Cp (st,ps) cs i h3.1).1 (Ad0 st os i h3.1.2.2.2.2.2.1) dr) (eI [some 1,some 4,some 5,some 6]
  ⟨⟨(st,ps),i,h3.1,ss,cs,Ad0 st os i h3.1.2.2.2.2.2.1,dr,hok,rfl,rfl,.inr ⟨rfl,htk,rfl,rfl⟩⟩,⟨by rfl,by rfl,⟨⟨by rfl,by rfl⟩,by rfl,by rfl,by rfl,trivial⟩,by rfl⟩,by rfl, ?_⟩))))
 dsimp only[stB,Fq,Cx,E6,Db,Fv,B3,Aq,Ic,List.length_cons,List.length_nil,List.cons_append,List.nil_append,Nat.reduceAdd,Nat.reduceSub];have hcl:(Cp (st,ps) cs i h3.1).1.length=ps.length:=by
  have:cs.length=ps.length:=hok.2.2.1;unfold Cp;split
  ·exact this
  ·rw[cE];exact this
 refine(aI (λw0=>(Aa rfl ?_)) (λw0=>(aI (by omega) (aI tT ?_))))
 ·exact T (hb.trans (aP (λh=>by have w0:(!decide ((Cp (st,ps) cs i h3.1).2=0))=true:=w0;rw[h]at w0;cases w0)))
 rw[aL (λh=>h (aM (B5 w0)))]at hb;clear w0;refine eI [Adx (st,ps),.ptr 0 0,.int .i64 i,Ady h3.1] (eI (stB (ss.set i.toNat h3.1.1) (Cp (st,ps) cs i h3.1).1 (Ad0 st os i h3.1.2.2.2.2.2.1) dr) (eI (.tup []) (eI (stB (ss.set i.toNat h3.1.1) (Kk (st,ps) i h3.1.2.1 h3.1.2.2.1 (Cp (st,ps) cs i h3.1).1) (Ad0 st os i h3.1.2.2.2.2.2.1) dr) (eI [some 1,some 4,some 5,some 6]
  ⟨⟨(st,ps),i,h3.1,ss.set i.toNat h3.1.1,(Cp (st,ps) cs i h3.1).1,Ad0 st os i h3.1.2.2.2.2.2.1,dr,⟨hok.1,hok.2.1,hcl,hok.2.2.2⟩,rfl,rfl,.inl ⟨rfl,rfl,rfl⟩⟩,⟨by rfl,by rfl,⟨⟨by rfl,by rfl⟩,by rfl,by rfl,by rfl,trivial⟩,by rfl⟩,by rfl, ?_⟩))))
 dsimp only[stB,Fq,Cx,E6,Db,Fv,B3,Aq,Ic,List.length_cons,List.length_nil,List.cons_append,List.nil_append,Nat.reduceAdd,Nat.reduceSub];refine(Aa rfl ?_)
 ·exact T hb
@[reducible] def Atp:List (Bool×Ty):=[(true,tFs),(false,tI)]
def cxqK:Ctx:=⟨Qt,[(51,([],cDVal))]⟩
theorem Wy:Ai Tryz.prog cxqK:=Dl (Ae Apv Ah)
theorem Atq{n:Int}(h:(!decide (n=0))=true):n≠0:=λh'=>by rw[h']at h;cases h
theorem Ap1{n:Int}(h:(!decide (n=0))=false):n=0:=aM (B5 h)
def cBegin:Ctr:=fnC [dPl,dFs] Atp (λ_=>True) (λy=>((Jw y.1 y.2.1).1,(Jw y.1 y.2.1).2,()))
theorem Aru:GoodC Tryz.prog 20 cBegin:=by
 refine Au Wy 3 _ _ _ _ ⟨_,Tryz.func20,rfl,rfl⟩ λ(⟨⟨st,ps⟩,⟨ss,cs,os,dr⟩,_⟩:PlT×FsT×Unit) _=>?_
 refine(aF (aI tT (aI (λh0=>(Aa rfl ?_)) (λh0=>(aI (λh1=>(Aa rfl ?_)) (λh1=>(Aa rfl ?_)))))))
 all_goals unfold Jw
 ·rw[aP (Atq h0)]
 ·rw[aL (λh=>h (Ap1 h0)),aP h1]
 ·rw[aL (λh=>h (Ap1 h0)),aL (λh=>aY (h1.symm.trans h))]
def cFin:Ctr:=fnC [dPl,dFs] rB (λ_=>True) (λy=>(Rx y.1 y.2.1,()))
theorem Ava:GoodC Tryz.prog 22 cFin:=by
 refine Au Wy 5 _ _ _ _ ⟨_,Tryz.func22,rfl,rfl⟩ λ(⟨⟨st,ps⟩,⟨ss,cs,os,dr⟩,_⟩:PlT×FsT×Unit) _=>?_
 refine(aF (aI tT (aI (λh0=>(aF (aF (λh1=>?_)))) (λh0=>(Aa rfl ?_)))))
 ·have hz:Df (st,ps) (ss,cs,os,dr)=0:=aM h0;have p1:Rx (st,ps) (ss,cs,os,dr)=ss.all (λt=>t.2.2):=by
   show(decide (Df (st,ps) (ss,cs,os,dr)=0)&&ss.all (λt=>t.2.2))=_;rw[aX hz];rfl
  refine ex4 _ (λj:Nat=>⟨[.sl tSS ss,.fn (Fn.func 58) [] [],.any,.any,.any,.any,.sl tSS ss,.int .i64 (↑ss.length:Int),.int .i64 (j:Int),.any,.any,.any,.any,.any,.any,.any,.any,.any,.any],[.cells [.sl tSt st,.sl A6 ps],.cells [.sl tSS ss,.sl Dn cs,.sl (.sl (.int .i64)) os,.bool dr]],2⟩) (λj=>j<=ss.length/\(ss.take j).all (λt=>t.2.2)=true) (λj=>ss.length-j) (aI (eI (0) (eI ([some 0,some 1]) (aI ?_ (aB (aI (aH tT) (by rfl)))))) ?_)
  ·exact⟨aV _,rfl⟩
  rintro j ⟨hj,hc⟩;have hlt:decide ((j:Int)<(ss.length:Int))=true->j<ss.length:=λh=>by have:=aM h;omega
  refine(aI (λk0=>(aO (aF (aI (λk1=>(Aa rfl ?_)) (λk1=>(aO ?_)))))) (λk0=>(Aa rfl ?_)))
  ·show(Rx (st,ps) (ss,cs,os,dr),())=(bif decide (Df (st,ps) (ss,cs,os,dr)=0)then !decide (0<=(j:Int))else false,());rw[aX hz,aX (eB j),p1];have hj1:=hlt k0;have:ss.all (λt=>t.2.2)=false:=by
    cases hb:ss.all (λt=>t.2.2)
    ·rfl
    ·have h2:=bV.1 hb (ss.getD j ([],0,false)) (by rw[A1 hj1];exact cJ hj1);have k1:(!(ss.getD j ([],0,false)).2.2)=true:=k1;rw[h2]at k1;cases k1
   rw[this];rfl
  ·have hj1:=hlt k0;have k1:(!(ss.getD j ([],0,false)).2.2)=false:=k1;clear k0;refine eI (j+1) (eI ([some 0,some 1]) (aI ?_ (aI ?_ (aB (aI (aH tT) (by rfl))))))
   ·refine⟨hj1, ?_⟩;rw[bS hj1,List.all_append,hc,fV,List.all_cons,List.all_nil,Bool.and_true,<-A1 (d:=([],0,false)) hj1];exact B5 k1
   ·show ss.length-(j+1)<ss.length-j;omega
  ·show(Rx (st,ps) (ss,cs,os,dr),())=(bif decide (Df (st,ps) (ss,cs,os,dr)=0)then !decide ((0:Int)<=-1)else false,());have hj1:¬(j:Int)<(ss.length:Int):=aQ k0;rw[bL (by omega)]at hc;rw[aX hz,p1,hc];rfl
 ·have hz:¬Df (st,ps) (ss,cs,os,dr)=0:=aQ h0;show(decide (Df (st,ps) (ss,cs,os,dr)=0)&&ss.all (λt=>t.2.2),())=(bif decide (Df (st,ps) (ss,cs,os,dr)=0)then !false else false,());rw[bE hz];rfl
def Avb:List (TypeId×Ty):=(55,tFs)::(26,tIs)::Qt
def cxqN:Ctx:=⟨Avb,[(11,([],cPChk)),(48,([],cSinks)),(49,([],cFNew)),(50,([],cFReq))]⟩
theorem Aib:Ai Tryz.prog cxqN:=Dl (Ae Afz (Ae Adr (Ae Atd (Ae Aps Ah))))
@[reducible] def Avc:List (Bool×Ty):=[(true,tFs),(false,tI)]
def cPNew:Ctr:=fnC [dPl] Avc (λ_=>True) (λy=>((Ca y.1).1,(Ca y.1).2,()))
set_option maxHeartbeats 8000000 in
theorem Atr:GoodC Tryz.prog 18 cPNew:=by
 refine Au Aib 3 _ _ _ _ ⟨_,Tryz.func18,rfl,rfl⟩ λ(⟨⟨st,ps⟩,_⟩:PlT×Unit) _=>?_
 have hN:(!decide (Fa (st,ps)=0))=false->st.length<=16/\ps.length<=32/\0<=Bm st/\Bm st<=16:=λh=>by
  have w:=Cz.1 (aM (B5 h));have a1:st.length<=16:=w.n16;have a2:ps.length<=32:=w.p32;have a3:st.countP isSink<=st.length:=eT;unfold Bm;omega
 refine(aF (aI tT (aI (λh0=>(Aa rfl ?_)) (λh0=>(aF (aI (λh1=>(by intros;(try subst_vars);(try simp only[nB]at *);(try simp only[inK,big,lim,nL]at *);omega)) (aI tT (aO (λh2=>(λh3=>?_))))))))))
 ·unfold Ca;rw[aP (λh=>by have h0:(!decide (Fa (st,ps)=0))=true:=h0;rw[h]at h0;cases h0)]
 have p1:Ca (st,ps)=((List.replicate st.length ([],0,false),ps.map newC,List.replicate (Bm st).toNat [],false),0):=aL (λh=>h (aM (B5 h0)));have hp32:=(hN h0).2.1;clear hN h0;refine ex4 _ (λp:Nat×List Cred=>⟨[.any,.ptr 0 0,.ptr 1 0,.any,.any,.ptr 4 0,.any,.any,.any,.any,.any,.any,.any,.any,.any,.any,.any,.any,.any,.any,.any,.any,.any,.any,.any,.ptr 0 1,.sl A6 ps,.int .i64 (↑ps.length:Int),.int .i64 (p.1:Int)]++nA 24,[.cells [.sl tSt st,.sl A6 ps],.cells [.cap0,.cap0,.cap0,.bool false],.rows tSS (List.replicate (↑st.length:Int).toNat ([],0,false)),.rows tIs (List.replicate (Bm st).toNat []),.cells [.own 2,.own 5,.own 3,.bool false],.rows Dn p.2],6⟩) (λp=>p.1<=ps.length/\p.2=(ps.take p.1).map newC) (λp=>ps.length-p.1) (aI (eI ((0,[])) (eI ([some 0,some 1,some 2,some 3,some 4,none]) (aI ?_ (aB (aI (aH (aB (aG (aA tT)))) (by rfl)))))) ?_)
 ·exact⟨aV _,rfl⟩
 rintro⟨k,l⟩ ⟨hk,hl⟩;replace hk:k<=ps.length:=hk;replace hl:l=(ps.take k).map newC:=hl;have hle:l.length<=32:=by rw[hl,bN,bP];omega
 have hlt:decide ((k:Int)<(ps.length:Int))=true->k<ps.length:=λh=>by have:=aM h;omega
 have hs:k<ps.length->(ps.take (k+1)).map newC=l++[newC (ps.getD (k:Int).toNat (Ab A6))]:=λh=>by
  rw[bS h,eL,hl];show _++[newC ps[k]]=_++[newC (ps.getD k Ag)];rw[A1 h]
 refine(aI (λm0=>(aO (aI tT (λ(m1:(Int×Int×Int×Int×List Int×Bool)×Int×PUnit)=>(λm2=>(aI tT (λ(m3:(Int×Int×Int×Int×List Int×Bool)×Int×PUnit)=>(λm4=>(aO (aO ?_)))))))))) (λm0=>(Aa rfl ?_)))
 ·have hk1:=hlt m0;have h1:=hs hk1;rw[m2]at m4;have h5:m3.1=newC (ps.getD (k:Int).toNat (Ab A6)):=by rw[m4];rfl
  rw[<-h5]at h1;clear m0 m2 m4 hs h5;refine eI ((k+1,l++[m3.1])) (eI ([some 0,some 1,some 2,some 3,some 4,some 9]) (aI ?_ (aI ?_ (aB (aI (aH (aB (aG (aA tT)))) (by rfl))))))
  ·exact⟨hk1,h1.symm⟩
  ·show ps.length-(k+1)<ps.length-k;omega
 ·have hk2:k=ps.length:=by
   have:¬(k:Int)<(ps.length:Int):=aQ m0;omega
  rw[hk2,dD]at hl;rw[p1,hl];rfl
def Avd:List (TypeId×Ty):=(55,tFs)::Qt
def cxqO:Ctx:=⟨Avd,[(51,([],cDVal)),(81,([],cEnabled)),(82,([],cStep))]⟩
theorem Aic:Ai Tryz.prog cxqO:=Dl (Ae Apv (Ae Al7 (Ae Ato Ah)))
@[reducible] def Ave:List (Bool×Ty):=[(true,tFs),(false,tIs),(false,tI)]
theorem Amb(v:Int){n:Nat}(h:n≠0):-(n:Int)<v.tmod n/\v.tmod n<n/\0<=(v.tmod n+n).tmod n/\(v.tmod n+n).tmod n<n:=by
 have hn:(0:Int)<n:=by omega
 have h1:=Int.lt_tmod_of_pos v hn;have h2:=hP v hn;exact⟨h1,h2,Int.tmod_nonneg _ (by omega),hP _ hn⟩
theorem Arv{l:List Int}{k:Nat}{n:Int}(h:l.length=0):Pk l k n=0:=aP h
theorem Arw{l:List Int}{k:Nat}{n:Int}(h:l.length≠0):Pk l k n=((l.getD ((k:Int).tmod (l.length:Int)).toNat 0).tmod n+n).tmod n:=aL h
def cRun:Ctr:=fnC [dPl,dFs,dIs,dI] Ave (λ_=>True) (λy=>((B2 y.1 y.2.1 y.2.2.1 y.2.2.2.1).1,(B2 y.1 y.2.1 y.2.2.1 y.2.2.2.1).2.1,(B2 y.1 y.2.1 y.2.2.1 y.2.2.2.1).2.2,()))
set_option maxHeartbeats 8000000 in
theorem Avf:GoodC Tryz.prog 19 cRun:=by
 refine Au Aic 8 _ _ _ _ ⟨_,Tryz.func19,rfl,rfl⟩ λ(⟨⟨st,ps⟩,⟨ss,cs,os,dr⟩,l,m,_⟩:PlT×FsT×List Int×Int×Unit) _=>?_
 refine(aF (aI tT (aI (λh0=>(Aa rfl ?_)) (λh0=>(aI (λh1=>(Aa rfl ?_)) (λh1=>(aF (aF (aF (aF (aF (aF ?_))))))))))))
 ·have h:Df (st,ps) (ss,cs,os,dr)≠0:=λh=>by
   have h0:(!decide (Df (st,ps) (ss,cs,os,dr)=0))=true:=h0;rw[h]at h0;cases h0
  unfold B2;rw[aP h]
 ·unfold B2;rw[aL (λh=>h (aM (B5 h0))),aP (Al1 h1)]
 have hz:Df (st,ps) (ss,cs,os,dr)=0:=aM (B5 h0);have hm:=Yl h1;replace hm:¬(m<0\/10000<m):=hm;have p1:B2 (st,ps) (ss,cs,os,dr) l m=Dg (st,ps) l m.toNat 0 (ss,cs,os,dr) []:=(aL (λh=>h hz)).trans (aL hm);clear h0 h1;refine ex4 _ (λp:Nat×FsT×List Int=>⟨[.yld 9,.ptr 6 0,.ptr 5 0,.ptr 7 0,.any,.any,.any,.any,.any,.any,.int .i64 m,.int .i64 (p.1:Int)]++nA 57,[.cells [.sl tSt st,.sl A6 ps],.cells [.sl tSS ss,.sl Dn cs,.sl (.sl (.int .i64)) os,.bool dr],.cells [.cap0,.cap0,.cap0,.bool false],.cells [.sl tSt st,.sl A6 ps,.sl tSS p.2.1.1,.sl Dn p.2.1.2.1,.sl (.sl (.int .i64)) p.2.1.2.2.1,.bool p.2.1.2.2.2,.int .i64 0],.cells [.sl (.int .i64) l],.cells [.ptr 3 0],.cells [.int .i64 m],.cells [.fn (Fn.func 83) [] [.ptr 4 0]],.cells [.own 10],.loop .ready .no ([7]) _ _ [.cap0,.fn (Fn.func 80) [] [.ptr 6 0,.ptr 5 0,.ptr 7 0],.ptr 8 0,.any,.cap0,.any,.fn (Fn.func 80) [] [.ptr 6 0,.ptr 5 0,.ptr 7 0],.any,.any,.any,.any,.any,.any],.rows tI p.2.2],11⟩) (λp=>(p.1:Int)<=m/\p.2.2.length<=p.1/\Dg (st,ps) l m.toNat 0 (ss,cs,os,dr) []=Dg (st,ps) l (m.toNat-p.1) p.1 p.2.1 p.2.2) (λp=>m.toNat-p.1) (aI (eI ((0,(ss,cs,os,dr),[])) (eI ([some 0,some 1,some 2,some 3,some 4,some 5,some 6,some 7,some 8,some 9,none]) (aI ?_ (aB (aI (aJ (aJ (aG (aI (aI (aI rfl (aI rfl (aI rfl (aI rfl rfl)))) (aA (by rfl))) (aA tT))))) (by rfl)))))) ?_)
 ·exact⟨by show(0:Int)<=m;omega,bA 0,rfl⟩
 rintro⟨k,⟨ss',cs',os',dr'⟩,out⟩ ⟨hk,ho,hr⟩;replace hk:(k:Int)<=m:=hk;replace ho:out.length<=k:=ho;replace hr:Dg (st,ps) l m.toNat 0 (ss,cs,os,dr) []=Dg (st,ps) l (m.toNat-k) k (ss',cs',os',dr') out:=hr;have hT:∀{r:FsT×List Int×Int},Dg (st,ps) l (m.toNat-k) k (ss',cs',os',dr') out=r->((B2 (st,ps) (ss,cs,os,dr) l m).1,(B2 (st,ps) (ss,cs,os,dr) l m).2.1,(B2 (st,ps) (ss,cs,os,dr) l m).2.2,())=(r.1,r.2.1,r.2.2,()):=λh=>by rw[p1,hr,h]
 have hS:(bif !decide ((Ak (st,ps) (ss',cs',os',dr')).2=0)then true else decide (((Ak (st,ps) (ss',cs',os',dr')).1.length:Int)=0))=true->G8 (st,ps) (ss',cs',os',dr'):=λh=>by
  by_cases h1:(Ak (st,ps) (ss',cs',os',dr')).2=0
  ·rw[aX h1]at h;exact .inr (cV (by have:=aM h;omega))
  ·exact .inl h1
 have hG:(bif !decide ((Ak (st,ps) (ss',cs',os',dr')).2=0)then true else decide (((Ak (st,ps) (ss',cs',os',dr')).1.length:Int)=0))=false->¬G8 (st,ps) (ss',cs',os',dr')/\(Ak (st,ps) (ss',cs',os',dr')).1.length≠0:=λh=>by
  obtain⟨a,b⟩:=Jx h;have b:¬((Ak (st,ps) (ss',cs',os',dr')).1.length:Int)=0:=aQ b;refine⟨?_,by omega⟩;rintro(h1|h1)
  ·exact h1 (aM (B5 a))
  ·rw[h1]at b;exact b rfl
 have hM:decide ((k:Int)<m)=true->m.toNat-k=(m.toNat-(k+1))+1/\((k+1:Nat):Int)<=m:=λh=>by have:=aM h;omega
 have hk4:(k:Int)<=10000:=by omega
 have hR:∀{j:Int},j=Ek (st,ps) l k (ss',cs',os',dr')->¬G8 (st,ps) (ss',cs',os',dr')->decide ((k:Int)<m)=true->((!decide ((Cs (st,ps) (ss',cs',os',dr') j).2=0))=true->Dg (st,ps) l (m.toNat-k) k (ss',cs',os',dr') out=(zFs,[],(Cs (st,ps) (ss',cs',os',dr') j).2))/\
  ((!decide ((Cs (st,ps) (ss',cs',os',dr') j).2=0))=false->Dg (st,ps) l (m.toNat-k) k (ss',cs',os',dr') out=Dg (st,ps) l (m.toNat-(k+1)) (k+1) (Cs (st,ps) (ss',cs',os',dr') j).1 (out++[j])):=λ{j} hj hn hk=>by
  subst hj;rw[(hM hk).1];exact⟨λh=>Uv hn (λh'=>by rw[h']at h;cases h),λh=>Pp hn (aM (B5 h))⟩
 have hQ0:decide ((l.length:Int)=0)=true->(Ak (st,ps) (ss',cs',os',dr')).1.getD (Int.toNat 0) (Ab (.int .i64))=Ek (st,ps) l k (ss',cs',os',dr'):=λh=>by
  unfold Ek;rw[Arv (by have:=aM h;omega)]
 have hQ1:decide ((l.length:Int)=0)=false->(Ak (st,ps) (ss',cs',os',dr')).1.getD (((l.getD ((k:Int).tmod (l.length:Int)).toNat (Ab (.int .i64))).tmod ((Ak (st,ps) (ss',cs',os',dr')).1.length:Int)+((Ak (st,ps) (ss',cs',os',dr')).1.length:Int)).tmod ((Ak (st,ps) (ss',cs',os',dr')).1.length:Int)).toNat (Ab (.int .i64))=Ek (st,ps) l k (ss',cs',os',dr'):=λh=>by
  unfold Ek;rw[Arw (by have:=aQ h;omega)]
 have hE16:(Ak (st,ps) (ss',cs',os',dr')).1.length<=16:=by
  unfold Ak;split
  ·exact aV _
  ·have w:=(Bz.1 (Classical.byContradiction ‹¬Df (st,ps) (ss',cs',os',dr')≠0›)).1;have h1:=w.n16;have h2:=fA (λi=>(Be (st,ps) (ss',cs',os',dr') i).2) (ints st.length);rw[Ej]at h2;exact cP h2 h1
 refine(aI (λw0=>(aF (aI tT (λw1=>(aI (λw2=>(aI (λw3=>nG w3) (λw3=>(Aa rfl ?_)))) (λw2=>(λw4=>(aF (λw5=>(aI (λw6=>(aO (aF (aI tT (aI (λw7=>(aI (λw8=>(aK (aD (aD (Aa rfl ?_))))) (λw8=>aT (Eq.trans (Eq.symm w7) w8) (by decide)))) (λw7=>(aO (aI (λw9=>nG w9) (λw9=>(aO ?_)))))))))) (λw6=>(aF (aI (λw10=>(by intros;(try subst_vars);(try simp only[nB]at *);(try simp only[inK,big,lim,nL]at *);omega)) (aI (λw11=>?_) (aI (λw12=>(by intros;(try subst_vars);(try simp only[nB]at *);(try simp only[inK,big,lim,nL]at *);omega)) (aI (λw13=>?_) (aI (λw14=>(by intros;(try subst_vars);(try simp only[nB]at *);(try simp only[inK,big,lim,nL]at *);omega)) (λw15=>(aI ?_ (aF (aI tT (aI (λw16=>(aI (λw17=>(aK (aD (aD (Aa rfl ?_))))) (λw17=>aT (Eq.trans (Eq.symm w16) w17) (by decide)))) (λw16=>(aO (aI (λw18=>nG w18) (λw18=>(aO ?_))))))))))))))))))))))))))) (λw0=>(aI (λw19=>nG w19) (λw19=>(Aa rfl ?_)))))
 ·exact hT (Km (hS w2))
 ·exact hT ((hR (hQ0 w6) (hG w2).1 w0).1 w7)
 ·have hr2:=(hR (hQ0 w6) (hG w2).1 w0).2 w7;have hm2:=hM w0;clear w1 w2 w4 w5 w6 w7 w9;refine eI ((k+1,(Cs (st,ps) (ss',cs',os',dr') ((Ak (st,ps) (ss',cs',os',dr')).1.getD (Int.toNat 0) (Ab (.int .i64)))).1,out++[(Ak (st,ps) (ss',cs',os',dr')).1.getD (Int.toNat 0) (Ab (.int .i64))])) (eI ([some 0,some 1,some 2,some 3,some 4,some 5,some 6,some 7,some 8,some 9,some 13]) (aI ?_ (aI ?_ (aB (aI (aJ (aJ (aG (aI (aI (aI rfl (aI rfl (aI rfl (aI rfl rfl)))) (aA (by rfl))) (aA tT))))) (by rfl))))))
  ·exact⟨hm2.2,by show(out++[_]).length<=k+1;rw[bD,eG];omega,hr.trans hr2⟩
  ·show m.toNat-(k+1)<m.toNat-k;omega
 ·have:¬(l.length:Int)=0:=aQ w6;have:=Amb (k:Int) (n:=l.length) (by omega);exact⟨Int.tmod_nonneg _ (eB k),this.2.1⟩
 ·have h1:=Amb (l.getD ((k:Int).tmod (l.length:Int)).toNat (Ab (.int .i64))) (hG w2).2;have h2:(Ak (st,ps) (ss',cs',os',dr')).1.length<=big:=w4;unfold big at h2;show -9223372036854775808<=(l.getD ((k:Int).tmod (l.length:Int)).toNat (Ab (.int .i64))).tmod ((Ak (st,ps) (ss',cs',os',dr')).1.length:Int)+((Ak (st,ps) (ss',cs',os',dr')).1.length:Int)/\(l.getD ((k:Int).tmod (l.length:Int)).toNat (Ab (.int .i64))).tmod ((Ak (st,ps) (ss',cs',os',dr')).1.length:Int)+((Ak (st,ps) (ss',cs',os',dr')).1.length:Int)<=9223372036854775807;have h3:(Ak (st,ps) (ss',cs',os',dr')).1.length<=16:=hE16;omega
 ·have h1:=Amb (l.getD ((k:Int).tmod (l.length:Int)).toNat (Ab (.int .i64))) (hG w2).2;exact⟨h1.2.2.1,h1.2.2.2⟩
 ·exact hT ((hR (hQ1 w6) (hG w2).1 w0).1 w16)
 ·have hr2:=(hR (hQ1 w6) (hG w2).1 w0).2 w16;have hm2:=hM w0;clear w1 w2 w4 w5 w6 w15 w16 w18;refine eI ((k+1,(Cs (st,ps) (ss',cs',os',dr') ((Ak (st,ps) (ss',cs',os',dr')).1.getD (((l.getD ((k:Int).tmod (l.length:Int)).toNat (Ab (.int .i64))).tmod ((Ak (st,ps) (ss',cs',os',dr')).1.length:Int)+((Ak (st,ps) (ss',cs',os',dr')).1.length:Int)).tmod ((Ak (st,ps) (ss',cs',os',dr')).1.length:Int)).toNat (Ab (.int .i64)))).1,out++[(Ak (st,ps) (ss',cs',os',dr')).1.getD (((l.getD ((k:Int).tmod (l.length:Int)).toNat (Ab (.int .i64))).tmod ((Ak (st,ps) (ss',cs',os',dr')).1.length:Int)+((Ak (st,ps) (ss',cs',os',dr')).1.length:Int)).tmod ((Ak (st,ps) (ss',cs',os',dr')).1.length:Int)).toNat (Ab (.int .i64))])) (eI ([some 0,some 1,some 2,some 3,some 4,some 5,some 6,some 7,some 8,some 9,some 13]) (aI ?_ (aI ?_ (aB (aI (aJ (aJ (aG (aI (aI (aI rfl (aI rfl (aI rfl (aI rfl rfl)))) (aA (by rfl))) (aA tT))))) (by rfl))))))
  ·exact⟨hm2.2,by show(out++[_]).length<=k+1;rw[bD,eG];omega,hr.trans hr2⟩
  ·show m.toNat-(k+1)<m.toNat-k;omega
 ·exact hT (r:=((ss',cs',os',dr'),out,0)) (by rw[show m.toNat-k=0 by have:=aQ w0;omega];rfl)
end Go.Proofs.YtpabcdbaffjcdaaGreat
