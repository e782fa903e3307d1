/- Pipelines. -/
import Derived.Test.YtckpldpombdkgaaGreatEQ2
import Derived.Test.YtckpldpombdkgaaGreatEQ1
import Derived.Test.YtckpldpombdkgaaGreatEP
set_option linter.unusedSimpArgs false
set_option linter.unusedVariables false
set_option maxRecDepth 100000
namespace Go.Proofs.YtckpldpombdkgaaGreat
open Go.Sx
def Aps:FuncId->List AV->List Ob->AV->List Ob->Prop:=λg args T x1 T1=>∃(x:PlT)(i:Int)(m:MvT)(ss:List SST)(cs:List Cred)(os:List (List Int))(dr:Bool),
 okM x i cs m.2.1/\args=[Adx x,.ptr 0 0,.int .i64 i,Ady m]/\T=stB ss cs os dr/\
 ((g=121/\x1=.tup []/\T1=stB ss (Kq x i m.2.1 m.2.2.1 cs) os dr)\/
  (g=120/\(m.2.2.2.1=true->0<=m.2.2.2.2.1/\m.2.2.2.2.1<stIn (sg x i))/\x1=.int .i64 (Cr x cs i m).2/\T1=stB ss (Cr x cs i m).1 os dr))
theorem Atg:∀g args T x1 T1,Aps g args T x1 T1->Bb cxqL Tryz.prog (Bb cxqL Tryz.prog noS) g args T T.length (λx T' n'=>∃σ,J5 T.length σ [noW x] T' n' ⟨[x1],T1,T1.length⟩):=by
 rintro g args T x1 T1 ⟨⟨st,ps⟩,i,⟨t,o,b1,b2,m1,m2,m3⟩,ss,cs,os,dr,hk,rfl,rfl,⟨rfl,rfl,rfl⟩|⟨rfl,hb,rfl,rfl⟩⟩
 ·exact Amf st ps i t o b1 b2 m1 m2 m3 ss cs os dr hk
 ·exact Amg st ps i t o b1 b2 m1 m2 m3 ss cs os dr hk hb
theorem U7:Bc Tryz.prog (Gq Aps):=Gr (Ag W6 (Ag W6 Bl)) Atg
def Ath:List (TypeId×Ty):=(30,tFs)::(31,tIs)::Aib
theorem Q3:Aj Tryz.prog ⟨Ath,[]⟩:=λ_ _ _ h=>by simp[Gg]at h
def cClS:Ctr:=fnO [.dat false (.sl tSS)] tSS (λy=>y.1.length<=1000) (λy=>y.1)
theorem Au5:GoodC Tryz.prog 116 cClS:=by
 refine goodO Q3 3 _ _ _ _ ⟨_,Tryz.func116,rfl,rfl⟩ λ⟨xs,_⟩ hlen=>?_
 simp only at hlen;refine(aF (λh0=>(λh1=>(aI (λh2=>(Kf (by simp_all))) (λh2=>(aO (Nc rfl (by simp_all))))))))
def cClC:Ctr:=fnO [.dat false (.sl C4)] C4 (λy=>y.1.length<=1000) (λy=>y.1)
theorem Au6:GoodC Tryz.prog 117 cClC:=by
 refine goodO Q3 3 _ _ _ _ ⟨_,Tryz.func117,rfl,rfl⟩ λ⟨xs,_⟩ hlen=>?_
 simp only at hlen;refine(aF (λh0=>(λh1=>(aI (λh2=>(Kf (by simp_all))) (λh2=>(aO (Nc rfl (by simp_all))))))))
def cClO:Ctr:=fnO [.dat false X7] tIs (λy=>y.1.length<=1000) (λy=>y.1)
theorem Au7:GoodC Tryz.prog 118 cClO:=by
 refine goodO Q3 3 _ _ _ _ ⟨_,Tryz.func118,rfl,rfl⟩ λ⟨xs,_⟩ hlen=>?_
 simp only at hlen;refine(aF (λh0=>(λh1=>(aI (λh2=>(Kf (by simp_all))) (λh2=>(aO (Nc rfl (by simp_all))))))))
def cxqJ:Ctx:=⟨Ath,[(30,([],cVal)),(59,([],cEnab)),(84,([],cWi)),(64,([],cSinks)),
 (116,([],cClS)),(117,([],cClC)),(118,([],cClO)),(119,([],cCl))]⟩
theorem W8:Aj Tryz.prog cxqJ:=C0 (Ad Aro (Ad Apr (Ad gWi (Ad Adr (Ad Au5 (Ad Au6 (Ad Au7 (Ad gCl Ah))))))))
section
variable {x:PlT}{s:FsT}{i:Int}
theorem Au8(h:Cl x s≠0):Ci x s i=(zFs,Cl x s):=aN h
theorem Au9(h:Cl x s=0)(h1:¬(0<=i/\i<x.1.length)):Ci x s i=(zFs,2):=(aL (λh'=>h' h)).trans (aN h1)
variable (h:Cl x s=0)(h1:0<=i/\i<x.1.length)
include h h1
theorem Ava(h2:(Be x s i).2=false):Ci x s i=(zFs,25):=(aL (λh'=>h' h)).trans ((aL (λh'=>h' h1)).trans (aN h2))
variable (h2:(Be x s i).2=true)
include h2
theorem Avb(h3:(Be x s i).1.2.2.2.2.2.2≠0):Ci x s i=(zFs,(Be x s i).1.2.2.2.2.2.2):=(aL (λh'=>h' h)).trans ((aL (λh'=>h' h1)).trans ((aL (λh'=>aX (h'.symm.trans h2))).trans (aN h3)))
variable (h3:(Be x s i).1.2.2.2.2.2.2=0)
include h3
theorem Ati:Ci x s i=if R4 x i (Be x s i).1=true/\(s.2.2.1.getD (Fu x i) []).length=200 then(zFs,4)
 else if(Cr x s.2.1 i (Be x s i).1).2≠0 then(zFs,(Cr x s.2.1 i (Be x s i).1).2)
 else((s.1.set i.toNat (Be x s i).1.1,Kq x i (Be x s i).1.2.1 (Be x s i).1.2.2.1 (Cr x s.2.1 i (Be x s i).1).1,Pr x i (Be x s i).1 s.2.2.1,s.2.2.2),0):=
 (aL (λh'=>h' h)).trans ((aL (λh'=>h' h1)).trans ((aL (λh'=>aX (h'.symm.trans h2))).trans (aL (λh'=>h' h3))))
theorem Apt:Mv x s i (Be x s i).1:=by
 have h2:((A4 x s i).2&&(!decide ((A4 x s i).1.2.2.2.2.2.2=0)||D9 x s i (A4 x s i).1.2.1))=true:=h2;rw[aR]at h2;exact Px (Bh.1 h).2 h1.1 h1.2 h2.1 h3
theorem Apu:okM x i s.2.1 (Be x s i).1.2.1:=by
 have m:=Apt h h1 h2 h3;have v:=(Bh.1 h).2;have:=m.len;have:=(Pz (sg x i)).2.2.2;exact⟨(Bh.1 h).1,h1,v.lc,by omega⟩
theorem Apv(ht:(Be x s i).1.2.2.2.1=true):0<=(Be x s i).1.2.2.2.2.1/\(Be x s i).1.2.2.2.2.1<stIn (sg x i):=by
 have m:=(Apt h h1 h2 h3).tk ht;exact⟨m.1,m.2.1⟩
end
theorem Atj{x:PlT}{s:FsT}{i:Int}(h:Cl x s=0)(h1:0<=i/\i<x.1.length)(_:(Be x s i).2=true)(_:(Be x s i).1.2.2.2.2.2.2=0)(hs:(sg x i).1=10):0<=Bp (x.1.take i.toNat)/\Bp (x.1.take i.toNat)<s.2.2.1.length/\s.2.2.1.length<=16:=by
 obtain⟨w,v⟩:=Bh.1 h;have hlo:=v.lo;have:(x.1.take i.toNat).countP isSink<x.1.countP isSink:=Ir isSink x.1 i.toNat zStg (by omega) (aW hs);have h16:x.1.countP isSink<=x.1.length:=eT;have:=w.n16;unfold Bp at hlo ⊢;omega
theorem Avc{b:Bool}(h:(!b)=true):b=false:=by cases b<;>first|rfl|cases h
def Ad0(st:List StT)(os:List (List Int))(i v:Int):List (List Int):=os.set (Bp (st.take i.toNat)).toNat (os.getD (Bp (st.take i.toNat)).toNat []++[v])
@[reducible] def Avd:List (Bool×Ty):=[(true,tFs),(false,tI)]
def cStep:Ctr:=fnC [dPl,dFs,dI] Avd (λ_=>True) (λy=>((Ci y.1 y.2.1 y.2.2.1).1,(Ci y.1 y.2.1 y.2.2.1).2,()))
set_option maxHeartbeats 16000000 in
theorem Atk:GoodC Tryz.prog 75 cStep:=by
 refine X6 (Ag W8 (Db (g0:=120) U7 (Db (g0:=121) U7 (Ag W8 Bl)))) _ _ _ _ ⟨_,Tryz.func75,rfl,rfl⟩ λ(⟨⟨st,ps⟩,⟨ss,cs,os,dr⟩,i,_⟩:PlT×FsT×Int×Unit) _=>?_
 have T:∀{m:FsT×Int},Ci (st,ps) (ss,cs,os,dr) i=m->((Ci (st,ps) (ss,cs,os,dr) i).1,(Ci (st,ps) (ss,cs,os,dr) i).2,())=(m.1,m.2,()):=λh=>by rw[h]
 have hZ:(!decide (Cl (st,ps) (ss,cs,os,dr)=0))=false->Cl (st,ps) (ss,cs,os,dr)=0:=λh=>aM (Bw h)
 have hI:(!inR i 0 ((st.length:Int)-1))=false->0<=i/\i<st.length:=λh=>Af3 (Bw h)
 have hL:(!decide (Cl (st,ps) (ss,cs,os,dr)=0))=false->ss.length<=1000/\cs.length<=1000/\os.length<=1000:=λh=>by
  obtain⟨w,v⟩:=Bh.1 (hZ h);have a1:ss.length=st.length:=v.ls;have a2:cs.length=ps.length:=v.lc;have a3:(os.length:Int)=Bp st:=v.lo;have a4:st.length<=16:=w.n16;have a5:ps.length<=32:=w.p32;have a6:st.countP isSink<=st.length:=eT;unfold Bp at a3;omega
 refine(aF (aI tT (aI (λh0=>(Aa rfl ?_)) (λh0=>(λh1=>(aO (aI tT (aI (λh2=>(Aa rfl ?_)) (λh2=>(aI ?_ (λ(h3:((List Int×Int×Bool)×List (List Int)×Bool×Bool×Int×Int×Int)×Bool×PUnit)=>(λh4=>(aI (λh5=>(Aa rfl ?_)) (λh5=>(aI (λh6=>(aK (aC (aB (Aa rfl ?_))))) (λh6=>(aF (aO (aO (aO (aI ?_ (aI (λh7=>(aI ?_ (aI tT (aI ?_ (λh8=>(aI (λh9=>(Aa rfl ?_)) (λh9=>(aF (aI ?_ (aI ?_ (aI ?_ (aI ?_ (aI tT ?_))))))))))))) (λh7=>(aI tT ?_))))))))))))))))))))))))
 ·exact T (Au8 (λh=>by have h0:(!decide (Cl (st,ps) (ss,cs,os,dr)=0))=true:=h0;rw[h]at h0;cases h0))
 ·refine T (Au9 (hZ h0) (λh=>?_));have h2:(!inR i 0 ((st.length:Int)-1))=true:=h2;have h:0<=i/\i<st.length:=h;rw[Lo.2 (show 0<=i/\i<=(st.length:Int)-1 by omega)]at h2;cases h2
 ·exact⟨(Bh.1 (hZ h0)).1,(Bh.1 (hZ h0)).2,hI h2⟩
 ·rw[h4]at h5;exact T (Ava (hZ h0) (hI h2) (Avc h5))
 ·rw[h4]at h5 h6 ⊢;exact T (Avb (hZ h0) (hI h2) (Bw h5) (λh=>by have h6:(!decide ((Be (st,ps) (ss,cs,os,dr) i).1.2.2.2.2.2.2=0))=true:=h6;rw[h]at h6;cases h6))
 ·exact hI h2
 rotate_right
 ·have e3:h3.1=(Be (st,ps) (ss,cs,os,dr) i).1:=by rw[h4]
  have hE:(Be (st,ps) (ss,cs,os,dr) i).2=true:=by rw[h4]at h5;exact Bw h5
  have h60:(Be (st,ps) (ss,cs,os,dr) i).1.2.2.2.2.2.2=0:=by rw[h4]at h6;exact aM (Bw h6)
  have hok:=Apu (hZ h0) (hI h2) hE h60;have htk:=Apv (hZ h0) (hI h2) hE h60;have hb:=Ati (hZ h0) (hI h2) hE h60;have hls:ss.length=st.length:=(Bh.1 (hZ h0)).2.ls;have hiN:=hI h2;have hns:R4 (st,ps) i (Be (st,ps) (ss,cs,os,dr) i).1=false:=by
   rw[<-e3];have h7:(bif decide ((st.getD i.toNat (Ab tSt)).1=10)then h3.1.2.2.2.1 else false)=false:=h7;show(decide ((st.getD i.toNat (Ab tSt)).1=10)&&h3.1.2.2.2.1)=false;cases hd:decide ((st.getD i.toNat (Ab tSt)).1=10)
   ·rfl
   ·rw[hd]at h7;exact h7
  rw[<-e3]at hok htk hb hns;rw[aL (λh=>aX (hns.symm.trans h.1)),show Pr (st,ps) i h3.1 os=os from aL (λh=>aX (hns.symm.trans h))]at hb;clear h0 h1 h2 h4 h5 h6 h7 e3 hE h60 hns;refine eI [Adx (st,ps),.ptr 0 0,.int .i64 i,Ady h3.1] (eI (stB ss cs os dr) (eI (.int .i64 (Cr (st,ps) cs i h3.1).2) (eI (stB ss (Cr (st,ps) cs i h3.1).1 os dr) (eI [some 1,some 4,some 5,some 6]
   ⟨⟨(st,ps),i,h3.1,ss,cs,os,dr,hok,rfl,rfl,.inr ⟨rfl,htk,rfl,rfl⟩⟩,⟨by rfl,by rfl,⟨⟨by rfl,by rfl⟩,by rfl,by rfl,by rfl,trivial⟩,by rfl⟩,by rfl, ?_⟩))))
  dsimp only[stB,Fk,Cz,Ev,Dd,Fq,B6,Ar,Ib,List.length_cons,List.length_nil,List.cons_append,List.nil_append,Nat.reduceAdd,Nat.reduceSub];have hcl:(Cr (st,ps) cs i h3.1).1.length=ps.length:=by
   have:cs.length=ps.length:=hok.2.2.1;unfold Cr;split
   ·exact this
   ·rw[cG];exact this
  refine(aI (λw0=>(Aa rfl ?_)) (λw0=>(aI (by omega) (aI tT ?_))))
  ·exact T (hb.trans (aN (λh=>by have w0:(!decide ((Cr (st,ps) cs i h3.1).2=0))=true:=w0;rw[h]at w0;cases w0)))
  rw[aL (λh=>h (aM (Bw w0)))]at hb;clear w0;refine eI [Adx (st,ps),.ptr 0 0,.int .i64 i,Ady h3.1] (eI (stB (ss.set i.toNat h3.1.1) (Cr (st,ps) cs i h3.1).1 os dr) (eI (.tup []) (eI (stB (ss.set i.toNat h3.1.1) (Kq (st,ps) i h3.1.2.1 h3.1.2.2.1 (Cr (st,ps) cs i h3.1).1) os dr) (eI [some 1,some 4,some 5,some 6]
   ⟨⟨(st,ps),i,h3.1,ss.set i.toNat h3.1.1,(Cr (st,ps) cs i h3.1).1,os,dr,⟨hok.1,hok.2.1,hcl,hok.2.2.2⟩,rfl,rfl,.inl ⟨rfl,rfl,rfl⟩⟩,⟨by rfl,by rfl,⟨⟨by rfl,by rfl⟩,by rfl,by rfl,by rfl,trivial⟩,by rfl⟩,by rfl, ?_⟩))))
  dsimp only[stB,Fk,Cz,Ev,Dd,Fq,B6,Ar,Ib,List.length_cons,List.length_nil,List.cons_append,List.nil_append,Nat.reduceAdd,Nat.reduceSub];refine(Aa rfl ?_)
  ·exact T hb
 all_goals
  have e3:h3.1=(Be (st,ps) (ss,cs,os,dr) i).1:=by rw[h4]
  have hE:(Be (st,ps) (ss,cs,os,dr) i).2=true:=by rw[h4]at h5;exact Bw h5
  have h60:(Be (st,ps) (ss,cs,os,dr) i).1.2.2.2.2.2.2=0:=by rw[h4]at h6;exact aM (Bw h6)
  have hok:=Apu (hZ h0) (hI h2) hE h60;have htk:=Apv (hZ h0) (hI h2) hE h60;have hb:=Ati (hZ h0) (hI h2) hE h60;have hls:ss.length=st.length:=(Bh.1 (hZ h0)).2.ls;have hos:=(Bh.1 (hZ h0)).2.os;have hiN:=hI h2;have h7:(bif decide ((st.getD i.toNat (Ab tSt)).1=10)then h3.1.2.2.2.1 else false)=true:=h7;have h10:=P0 h7;have hsn:=Atj (hZ h0) (hI h2) hE h60 (aM h10.1);replace hsn:0<=Bp (st.take i.toNat)/\Bp (st.take i.toNat)<os.length/\os.length<=16:=hsn;have hs:R4 (st,ps) i h3.1=true:=by
   show(decide ((st.getD i.toNat (Ab tSt)).1=10)&&h3.1.2.2.2.1)=true;rw[h10.1,h10.2];rfl
  have hl2:(os.getD (Bp (st.take i.toNat)).toNat []).length<=200:=by
   have hlt:(Bp (st.take i.toNat)).toNat<os.length:=by omega
   have:=hos (os.getD (Bp (st.take i.toNat)).toNat []) (by rw[A1 hlt];exact cI hlt);unfold I9 at this;have:=aP (bJ.1 this).1;omega
  rw[<-e3]at hok htk hb;clear e3 hE h60 hos h10
  first
  |exact⟨hiN.1,Int.le_of_lt hiN.2⟩
  |exact⟨hsn.1,hsn.2.1⟩
  |exact cO hl2 (by decide)
  |exact T (hb.trans (aN ⟨hs,by have:=aM h9;show(os.getD (Bp (st.take i.toNat)).toNat []).length=200;exact Int.ofNat_inj.1 this⟩))
  |(show((os.getD (Bp (st.take i.toNat)).toNat []).length+1)*8<=lim;unfold lim;omega)
  |skip
 have h9:¬(os.getD (Bp (st.take i.toNat)).toNat []).length=200:=λh=>aP h9 (Int.ofNat_inj.2 h)
 rw[aL (λh=>h9 h.2),show Pr (st,ps) i h3.1 os=Ad0 st os i h3.1.2.2.2.2.2.1 from aN hs]at hb;clear h0 h1 h2 h4 h5 h6 h7 hs h9 hl2 hsn;refine eI [Adx (st,ps),.ptr 0 0,.int .i64 i,Ady h3.1] (eI (stB ss cs (Ad0 st os i h3.1.2.2.2.2.2.1) dr) (eI (.int .i64 (Cr (st,ps) cs i h3.1).2) (eI (stB ss (Cr (st,ps) cs i h3.1).1 (Ad0 st os i h3.1.2.2.2.2.2.1) dr) (eI [some 1,some 4,some 5,some 6]
  ⟨⟨(st,ps),i,h3.1,ss,cs,Ad0 st os i h3.1.2.2.2.2.2.1,dr,hok,rfl,rfl,.inr ⟨rfl,htk,rfl,rfl⟩⟩,⟨by rfl,by rfl,⟨⟨by rfl,by rfl⟩,by rfl,by rfl,by rfl,trivial⟩,by rfl⟩,by rfl, ?_⟩))))
 dsimp only[stB,Fk,Cz,Ev,Dd,Fq,B6,Ar,Ib,List.length_cons,List.length_nil,List.cons_append,List.nil_append,Nat.reduceAdd,Nat.reduceSub];have hcl:(Cr (st,ps) cs i h3.1).1.length=ps.length:=by
  have:cs.length=ps.length:=hok.2.2.1;unfold Cr;split
  ·exact this
  ·rw[cG];exact this
 refine(aI (λw0=>(Aa rfl ?_)) (λw0=>(aI (by omega) (aI tT ?_))))
 ·exact T (hb.trans (aN (λh=>by have w0:(!decide ((Cr (st,ps) cs i h3.1).2=0))=true:=w0;rw[h]at w0;cases w0)))
 rw[aL (λh=>h (aM (Bw w0)))]at hb;clear w0;refine eI [Adx (st,ps),.ptr 0 0,.int .i64 i,Ady h3.1] (eI (stB (ss.set i.toNat h3.1.1) (Cr (st,ps) cs i h3.1).1 (Ad0 st os i h3.1.2.2.2.2.2.1) dr) (eI (.tup []) (eI (stB (ss.set i.toNat h3.1.1) (Kq (st,ps) i h3.1.2.1 h3.1.2.2.1 (Cr (st,ps) cs i h3.1).1) (Ad0 st os i h3.1.2.2.2.2.2.1) dr) (eI [some 1,some 4,some 5,some 6]
  ⟨⟨(st,ps),i,h3.1,ss.set i.toNat h3.1.1,(Cr (st,ps) cs i h3.1).1,Ad0 st os i h3.1.2.2.2.2.2.1,dr,⟨hok.1,hok.2.1,hcl,hok.2.2.2⟩,rfl,rfl,.inl ⟨rfl,rfl,rfl⟩⟩,⟨by rfl,by rfl,⟨⟨by rfl,by rfl⟩,by rfl,by rfl,by rfl,trivial⟩,by rfl⟩,by rfl, ?_⟩))))
 dsimp only[stB,Fk,Cz,Ev,Dd,Fq,B6,Ar,Ib,List.length_cons,List.length_nil,List.cons_append,List.nil_append,Nat.reduceAdd,Nat.reduceSub];refine(Aa rfl ?_)
 ·exact T hb
@[reducible] def Amh:List (Bool×Ty):=[(true,tFs),(false,tI)]
def cxqK:Ctx:=⟨Mm,[(41,([],cDVal))]⟩
theorem W9:Aj Tryz.prog cxqK:=C0 (Ad Af8 Ah)
theorem Atl{n:Int}(h:(!decide (n=0))=true):n≠0:=λh'=>by rw[h']at h;cases h
theorem Apw{n:Int}(h:(!decide (n=0))=false):n=0:=aM (Bw h)
def cBegin:Ctr:=fnC [dPl,dFs] Amh (λ_=>True) (λy=>((Hl y.1 y.2.1).1,(Hl y.1 y.2.1).2,()))
theorem Ad1:GoodC Tryz.prog 15 cBegin:=by
 refine As W9 3 _ _ _ _ ⟨_,Tryz.func15,rfl,rfl⟩ λ(⟨⟨st,ps⟩,⟨ss,cs,os,dr⟩,_⟩:PlT×FsT×Unit) _=>?_
 refine(aF (aI tT (aI (λh0=>(Aa rfl ?_)) (λh0=>(aI (λh1=>(Aa rfl ?_)) (λh1=>(Aa rfl ?_)))))))
 all_goals unfold Hl
 ·rw[aN (Atl h0)]
 ·rw[aL (λh=>h (Apw h0)),aN h1]
 ·rw[aL (λh=>h (Apw h0)),aL (λh=>aX (h1.symm.trans h))]
def cFin:Ctr:=fnC [dPl,dFs] rB (λ_=>True) (λy=>(Abh y.1 y.2.1,()))
theorem Atm:GoodC Tryz.prog 22 cFin:=by
 refine As W9 5 _ _ _ _ ⟨_,Tryz.func22,rfl,rfl⟩ λ(⟨⟨st,ps⟩,⟨ss,cs,os,dr⟩,_⟩:PlT×FsT×Unit) _=>?_
 refine(aF (aI tT (aI (λh0=>(aF (aF (λh1=>?_)))) (λh0=>(Aa rfl ?_)))))
 ·have hz:Cl (st,ps) (ss,cs,os,dr)=0:=aM h0;have p1:Abh (st,ps) (ss,cs,os,dr)=ss.all (λt=>t.2.2):=by
   show(decide (Cl (st,ps) (ss,cs,os,dr)=0)&&ss.all (λt=>t.2.2))=_;rw[aW hz];rfl
  refine ex4 _ (λj:Nat=>⟨[.sl tSS ss,.fn (Fn.func 54) [] [],.any,.any,.any,.any,.sl tSS ss,.int .i64 (↑ss.length:Int),.int .i64 (j:Int),.any,.any,.any,.any,.any,.any,.any,.any,.any,.any],[.cells [.sl tSt st,.sl A7 ps],.cells [.sl tSS ss,.sl C4 cs,.sl (.sl (.int .i64)) os,.bool dr]],2⟩) (λj=>j<=ss.length/\(ss.take j).all (λt=>t.2.2)=true) (λj=>ss.length-j) (aI (eI (0) (eI ([some 0,some 1]) (aI ?_ (aB (aI (aH tT) (by rfl)))))) ?_)
  ·exact⟨aV _,rfl⟩
  rintro j ⟨hj,hc⟩;have hlt:decide ((j:Int)<(ss.length:Int))=true->j<ss.length:=λh=>by have:=aM h;omega
  refine(aI (λk0=>(aO (aF (aI (λk1=>(Aa rfl ?_)) (λk1=>(aO ?_)))))) (λk0=>(Aa rfl ?_)))
  ·show(Abh (st,ps) (ss,cs,os,dr),())=(bif decide (Cl (st,ps) (ss,cs,os,dr)=0)then !decide (0<=(j:Int))else false,());rw[aW hz,aW (dQ j),p1];have hj1:=hlt k0;have:ss.all (λt=>t.2.2)=false:=by
    cases hb:ss.all (λt=>t.2.2)
    ·rfl
    ·have h2:=bT.1 hb (ss.getD j ([],0,false)) (by rw[A1 hj1];exact cI hj1);have k1:(!(ss.getD j ([],0,false)).2.2)=true:=k1;rw[h2]at k1;cases k1
   rw[this];rfl
  ·have hj1:=hlt k0;have k1:(!(ss.getD j ([],0,false)).2.2)=false:=k1;clear k0;refine eI (j+1) (eI ([some 0,some 1]) (aI ?_ (aI ?_ (aB (aI (aH tT) (by rfl))))))
   ·refine⟨hj1, ?_⟩;rw[bS hj1,List.all_append,hc,eX,List.all_cons,List.all_nil,Bool.and_true,<-A1 (d:=([],0,false)) hj1];exact Bw k1
   ·show ss.length-(j+1)<ss.length-j;omega
  ·show(Abh (st,ps) (ss,cs,os,dr),())=(bif decide (Cl (st,ps) (ss,cs,os,dr)=0)then !decide ((0:Int)<=-1)else false,());have hj1:¬(j:Int)<(ss.length:Int):=aP k0;rw[bL (by omega)]at hc;rw[aW hz,p1,hc];rfl
 ·have hz:¬Cl (st,ps) (ss,cs,os,dr)=0:=aP h0;show(decide (Cl (st,ps) (ss,cs,os,dr)=0)&&ss.all (λt=>t.2.2),())=(bif decide (Cl (st,ps) (ss,cs,os,dr)=0)then !false else false,());rw[aZ hz];rfl
def Ave:List (TypeId×Ty):=(30,tFs)::(31,tIs)::Mm
def cxqN:Ctx:=⟨Ave,[(51,([],cPChk)),(64,([],cSinks)),(65,([],cFNew)),(66,([],cFReq))]⟩
theorem Aie:Aj Tryz.prog cxqN:=C0 (Ad Af5 (Ad Adr (Ad As9 (Ad Apo Ah))))
@[reducible] def Atn:List (Bool×Ty):=[(true,tFs),(false,tI)]
def cPNew:Ctr:=fnC [dPl] Atn (λ_=>True) (λy=>((F8 y.1).1,(F8 y.1).2,()))
set_option maxHeartbeats 8000000 in
theorem Apx:GoodC Tryz.prog 40 cPNew:=by
 refine As Aie 3 _ _ _ _ ⟨_,Tryz.func40,rfl,rfl⟩ λ(⟨⟨st,ps⟩,_⟩:PlT×Unit) _=>?_
 have hN:(!decide (Gf (st,ps)=0))=false->st.length<=16/\ps.length<=32/\0<=Bp st/\Bp st<=16:=λh=>by
  have w:=Ez.1 (aM (Bw h));have a1:st.length<=16:=w.n16;have a2:ps.length<=32:=w.p32;have a3:st.countP isSink<=st.length:=eT;unfold Bp;omega
 refine(aF (aI tT (aI (λh0=>(Aa rfl ?_)) (λh0=>(aF (aI (λh1=>(by intros;(try subst_vars);(try simp only[nB]at *);(try simp only[inK,big,lim,nL]at *);omega)) (aI tT (aO (λh2=>(λh3=>?_))))))))))
 ·unfold F8;rw[aN (λh=>by have h0:(!decide (Gf (st,ps)=0))=true:=h0;rw[h]at h0;cases h0)]
 have p1:F8 (st,ps)=((List.replicate st.length ([],0,false),ps.map newC,List.replicate (Bp st).toNat [],false),0):=aL (λh=>h (aM (Bw h0)));have hp32:=(hN h0).2.1;clear hN h0;refine ex4 _ (λp:Nat×List Cred=>⟨[.any,.ptr 0 0,.ptr 1 0,.any,.any,.ptr 4 0,.any,.any,.any,.any,.any,.any,.any,.any,.any,.any,.any,.any,.any,.any,.any,.any,.any,.any,.any,.ptr 0 1,.sl A7 ps,.int .i64 (↑ps.length:Int),.int .i64 (p.1:Int)]++nA 24,[.cells [.sl tSt st,.sl A7 ps],.cells [.cap0,.cap0,.cap0,.bool false],.rows tSS (List.replicate (↑st.length:Int).toNat ([],0,false)),.rows tIs (List.replicate (Bp st).toNat []),.cells [.own 2,.own 5,.own 3,.bool false],.rows C4 p.2],6⟩) (λp=>p.1<=ps.length/\p.2=(ps.take p.1).map newC) (λp=>ps.length-p.1) (aI (eI ((0,[])) (eI ([some 0,some 1,some 2,some 3,some 4,none]) (aI ?_ (aB (aI (aH (aB (aG (aA tT)))) (by rfl)))))) ?_)
 ·exact⟨aV _,rfl⟩
 rintro⟨k,l⟩ ⟨hk,hl⟩;replace hk:k<=ps.length:=hk;replace hl:l=(ps.take k).map newC:=hl;have hle:l.length<=32:=by rw[hl,bM,bO];omega
 have hlt:decide ((k:Int)<(ps.length:Int))=true->k<ps.length:=λh=>by have:=aM h;omega
 have hs:k<ps.length->(ps.take (k+1)).map newC=l++[newC (ps.getD (k:Int).toNat (Ab A7))]:=λh=>by
  rw[bS h,eG,hl];show _++[newC ps[k]]=_++[newC (ps.getD k Ai)];rw[A1 h]
 refine(aI (λm0=>(aO (aI tT (λ(m1:(Int×Int×Int×Int×List Int×Bool)×Int×PUnit)=>(λm2=>(aI tT (λ(m3:(Int×Int×Int×Int×List Int×Bool)×Int×PUnit)=>(λm4=>(aO (aO ?_)))))))))) (λm0=>(Aa rfl ?_)))
 ·have hk1:=hlt m0;have h1:=hs hk1;rw[m2]at m4;have h5:m3.1=newC (ps.getD (k:Int).toNat (Ab A7)):=by rw[m4];rfl
  rw[<-h5]at h1;clear m0 m2 m4 hs h5;refine eI ((k+1,l++[m3.1])) (eI ([some 0,some 1,some 2,some 3,some 4,some 9]) (aI ?_ (aI ?_ (aB (aI (aH (aB (aG (aA tT)))) (by rfl))))))
  ·exact⟨hk1,h1.symm⟩
  ·show ps.length-(k+1)<ps.length-k;omega
 ·have hk2:k=ps.length:=by
   have:¬(k:Int)<(ps.length:Int):=aP m0;omega
  rw[hk2,dM]at hl;rw[p1,hl];rfl
def Avf:List (TypeId×Ty):=(30,tFs)::Mm
def cxqO:Ctx:=⟨Avf,[(41,([],cDVal)),(28,([],cEnabled)),(75,([],cStep))]⟩
theorem Aif:Aj Tryz.prog cxqO:=C0 (Ad Af8 (Ad Amd (Ad Atk Ah)))
@[reducible] def Ato:List (Bool×Ty):=[(true,tFs),(false,tIs),(false,tI)]
theorem Ami(v:Int){n:Nat}(h:n≠0):-(n:Int)<v.tmod n/\v.tmod n<n/\0<=(v.tmod n+n).tmod n/\(v.tmod n+n).tmod n<n:=by
 have hn:(0:Int)<n:=by omega
 have h1:=Int.lt_tmod_of_pos v hn;have h2:=hP v hn;exact⟨h1,h2,Int.tmod_nonneg _ (by omega),hP _ hn⟩
theorem Arq{l:List Int}{k:Nat}{n:Int}(h:l.length=0):Ps l k n=0:=aN h
theorem Arr{l:List Int}{k:Nat}{n:Int}(h:l.length≠0):Ps l k n=((l.getD ((k:Int).tmod (l.length:Int)).toNat 0).tmod n+n).tmod n:=aL h
def cRun:Ctr:=fnC [dPl,dFs,dIs,dI] Ato (λ_=>True) (λy=>((Bm y.1 y.2.1 y.2.2.1 y.2.2.2.1).1,(Bm y.1 y.2.1 y.2.2.1 y.2.2.2.1).2.1,(Bm y.1 y.2.1 y.2.2.1 y.2.2.2.1).2.2,()))
set_option maxHeartbeats 8000000 in
theorem Amj:GoodC Tryz.prog 17 cRun:=by
 refine As Aif 8 _ _ _ _ ⟨_,Tryz.func17,rfl,rfl⟩ λ(⟨⟨st,ps⟩,⟨ss,cs,os,dr⟩,l,m,_⟩:PlT×FsT×List Int×Int×Unit) _=>?_
 refine(aF (aI tT (aI (λh0=>(Aa rfl ?_)) (λh0=>(aI (λh1=>(Aa rfl ?_)) (λh1=>(aF (aF (aF (aF (aF (aF ?_))))))))))))
 ·have h:Cl (st,ps) (ss,cs,os,dr)≠0:=λh=>by
   have h0:(!decide (Cl (st,ps) (ss,cs,os,dr)=0))=true:=h0;rw[h]at h0;cases h0
  unfold Bm;rw[aN h]
 ·unfold Bm;rw[aL (λh=>h (aM (Bw h0))),aN (Al7 h1)]
 have hz:Cl (st,ps) (ss,cs,os,dr)=0:=aM (Bw h0);have hm:=Yw h1;replace hm:¬(m<0\/10000<m):=hm;have p1:Bm (st,ps) (ss,cs,os,dr) l m=Ds (st,ps) l m.toNat 0 (ss,cs,os,dr) []:=(aL (λh=>h hz)).trans (aL hm);clear h0 h1;refine ex4 _ (λp:Nat×FsT×List Int=>⟨[.yld 9,.ptr 6 0,.ptr 5 0,.ptr 7 0,.any,.any,.any,.any,.any,.any,.int .i64 m,.int .i64 (p.1:Int)]++nA 57,[.cells [.sl tSt st,.sl A7 ps],.cells [.sl tSS ss,.sl C4 cs,.sl (.sl (.int .i64)) os,.bool dr],.cells [.cap0,.cap0,.cap0,.bool false],.cells [.sl tSt st,.sl A7 ps,.sl tSS p.2.1.1,.sl C4 p.2.1.2.1,.sl (.sl (.int .i64)) p.2.1.2.2.1,.bool p.2.1.2.2.2,.int .i64 0],.cells [.sl (.int .i64) l],.cells [.ptr 3 0],.cells [.int .i64 m],.cells [.fn (Fn.func 76) [] [.ptr 4 0]],.cells [.own 10],.loop .ready .no ([7]) _ _ [.cap0,.fn (Fn.func 74) [] [.ptr 6 0,.ptr 5 0,.ptr 7 0],.ptr 8 0,.any,.cap0,.any,.fn (Fn.func 74) [] [.ptr 6 0,.ptr 5 0,.ptr 7 0],.any,.any,.any,.any,.any,.any],.rows tI p.2.2],11⟩) (λp=>(p.1:Int)<=m/\p.2.2.length<=p.1/\Ds (st,ps) l m.toNat 0 (ss,cs,os,dr) []=Ds (st,ps) l (m.toNat-p.1) p.1 p.2.1 p.2.2) (λp=>m.toNat-p.1) (aI (eI ((0,(ss,cs,os,dr),[])) (eI ([some 0,some 1,some 2,some 3,some 4,some 5,some 6,some 7,some 8,some 9,none]) (aI ?_ (aB (aI (aJ (aJ (aG (aI (aI (aI rfl (aI rfl (aI rfl (aI rfl rfl)))) (aA (by rfl))) (aA tT))))) (by rfl)))))) ?_)
 ·exact⟨by show(0:Int)<=m;omega,bB 0,rfl⟩
 rintro⟨k,⟨ss',cs',os',dr'⟩,out⟩ ⟨hk,ho,hr⟩;replace hk:(k:Int)<=m:=hk;replace ho:out.length<=k:=ho;replace hr:Ds (st,ps) l m.toNat 0 (ss,cs,os,dr) []=Ds (st,ps) l (m.toNat-k) k (ss',cs',os',dr') out:=hr;have hT:∀{r:FsT×List Int×Int},Ds (st,ps) l (m.toNat-k) k (ss',cs',os',dr') out=r->((Bm (st,ps) (ss,cs,os,dr) l m).1,(Bm (st,ps) (ss,cs,os,dr) l m).2.1,(Bm (st,ps) (ss,cs,os,dr) l m).2.2,())=(r.1,r.2.1,r.2.2,()):=λh=>by rw[p1,hr,h]
 have hS:(bif !decide ((Al (st,ps) (ss',cs',os',dr')).2=0)then true else decide (((Al (st,ps) (ss',cs',os',dr')).1.length:Int)=0))=true->G8 (st,ps) (ss',cs',os',dr'):=λh=>by
  by_cases h1:(Al (st,ps) (ss',cs',os',dr')).2=0
  ·rw[aW h1]at h;exact .inr (dB (by have:=aM h;omega))
  ·exact .inl h1
 have hG:(bif !decide ((Al (st,ps) (ss',cs',os',dr')).2=0)then true else decide (((Al (st,ps) (ss',cs',os',dr')).1.length:Int)=0))=false->¬G8 (st,ps) (ss',cs',os',dr')/\(Al (st,ps) (ss',cs',os',dr')).1.length≠0:=λh=>by
  obtain⟨a,b⟩:=J1 h;have b:¬((Al (st,ps) (ss',cs',os',dr')).1.length:Int)=0:=aP b;refine⟨?_,by omega⟩;rintro(h1|h1)
  ·exact h1 (aM (Bw a))
  ·rw[h1]at b;exact b rfl
 have hM:decide ((k:Int)<m)=true->m.toNat-k=(m.toNat-(k+1))+1/\((k+1:Nat):Int)<=m:=λh=>by have:=aM h;omega
 have hk4:(k:Int)<=10000:=by omega
 have hR:∀{j:Int},j=D2 (st,ps) l k (ss',cs',os',dr')->¬G8 (st,ps) (ss',cs',os',dr')->decide ((k:Int)<m)=true->((!decide ((Ci (st,ps) (ss',cs',os',dr') j).2=0))=true->Ds (st,ps) l (m.toNat-k) k (ss',cs',os',dr') out=(zFs,[],(Ci (st,ps) (ss',cs',os',dr') j).2))/\
  ((!decide ((Ci (st,ps) (ss',cs',os',dr') j).2=0))=false->Ds (st,ps) l (m.toNat-k) k (ss',cs',os',dr') out=Ds (st,ps) l (m.toNat-(k+1)) (k+1) (Ci (st,ps) (ss',cs',os',dr') j).1 (out++[j])):=λ{j} hj hn hk=>by
  subst hj;rw[(hM hk).1];exact⟨λh=>Ks hn (λh'=>by rw[h']at h;cases h),λh=>Lr hn (aM (Bw h))⟩
 have hQ0:decide ((l.length:Int)=0)=true->(Al (st,ps) (ss',cs',os',dr')).1.getD (Int.toNat 0) (Ab (.int .i64))=D2 (st,ps) l k (ss',cs',os',dr'):=λh=>by
  unfold D2;rw[Arq (by have:=aM h;omega)]
 have hQ1:decide ((l.length:Int)=0)=false->(Al (st,ps) (ss',cs',os',dr')).1.getD (((l.getD ((k:Int).tmod (l.length:Int)).toNat (Ab (.int .i64))).tmod ((Al (st,ps) (ss',cs',os',dr')).1.length:Int)+((Al (st,ps) (ss',cs',os',dr')).1.length:Int)).tmod ((Al (st,ps) (ss',cs',os',dr')).1.length:Int)).toNat (Ab (.int .i64))=D2 (st,ps) l k (ss',cs',os',dr'):=λh=>by
  unfold D2;rw[Arr (by have:=aP h;omega)]
 have hE16:(Al (st,ps) (ss',cs',os',dr')).1.length<=16:=by
  unfold Al;split
  ·exact aV _
  ·have w:=(Bh.1 (Classical.byContradiction ‹¬Cl (st,ps) (ss',cs',os',dr')≠0›)).1;have h1:=w.n16;have h2:=eU (λi=>(Be (st,ps) (ss',cs',os',dr') i).2) (ints st.length);rw[Dk]at h2;exact cO h2 h1
 refine(aI (λw0=>(aF (aI tT (λw1=>(aI (λw2=>(aI (λw3=>nG w3) (λw3=>(Aa rfl ?_)))) (λw2=>(λw4=>(aF (λw5=>(aI (λw6=>(aO (aF (aI tT (aI (λw7=>(aI (λw8=>(aK (aD (aD (Aa rfl ?_))))) (λw8=>aS (Eq.trans (Eq.symm w7) w8) (by decide)))) (λw7=>(aO (aI (λw9=>nG w9) (λw9=>(aO ?_)))))))))) (λw6=>(aF (aI (λw10=>(by intros;(try subst_vars);(try simp only[nB]at *);(try simp only[inK,big,lim,nL]at *);omega)) (aI (λw11=>?_) (aI (λw12=>(by intros;(try subst_vars);(try simp only[nB]at *);(try simp only[inK,big,lim,nL]at *);omega)) (aI (λw13=>?_) (aI (λw14=>(by intros;(try subst_vars);(try simp only[nB]at *);(try simp only[inK,big,lim,nL]at *);omega)) (λw15=>(aI ?_ (aF (aI tT (aI (λw16=>(aI (λw17=>(aK (aD (aD (Aa rfl ?_))))) (λw17=>aS (Eq.trans (Eq.symm w16) w17) (by decide)))) (λw16=>(aO (aI (λw18=>nG w18) (λw18=>(aO ?_))))))))))))))))))))))))))) (λw0=>(aI (λw19=>nG w19) (λw19=>(Aa rfl ?_)))))
 ·exact hT (Hm (hS w2))
 ·exact hT ((hR (hQ0 w6) (hG w2).1 w0).1 w7)
 ·have hr2:=(hR (hQ0 w6) (hG w2).1 w0).2 w7;have hm2:=hM w0;clear w1 w2 w4 w5 w6 w7 w9;refine eI ((k+1,(Ci (st,ps) (ss',cs',os',dr') ((Al (st,ps) (ss',cs',os',dr')).1.getD (Int.toNat 0) (Ab (.int .i64)))).1,out++[(Al (st,ps) (ss',cs',os',dr')).1.getD (Int.toNat 0) (Ab (.int .i64))])) (eI ([some 0,some 1,some 2,some 3,some 4,some 5,some 6,some 7,some 8,some 9,some 13]) (aI ?_ (aI ?_ (aB (aI (aJ (aJ (aG (aI (aI (aI rfl (aI rfl (aI rfl (aI rfl rfl)))) (aA (by rfl))) (aA tT))))) (by rfl))))))
  ·exact⟨hm2.2,by show(out++[_]).length<=k+1;rw[bD,eD];omega,hr.trans hr2⟩
  ·show m.toNat-(k+1)<m.toNat-k;omega
 ·have:¬(l.length:Int)=0:=aP w6;have:=Ami (k:Int) (n:=l.length) (by omega);exact⟨Int.tmod_nonneg _ (dQ k),this.2.1⟩
 ·have h1:=Ami (l.getD ((k:Int).tmod (l.length:Int)).toNat (Ab (.int .i64))) (hG w2).2;have h2:(Al (st,ps) (ss',cs',os',dr')).1.length<=big:=w4;unfold big at h2;show -9223372036854775808<=(l.getD ((k:Int).tmod (l.length:Int)).toNat (Ab (.int .i64))).tmod ((Al (st,ps) (ss',cs',os',dr')).1.length:Int)+((Al (st,ps) (ss',cs',os',dr')).1.length:Int)/\(l.getD ((k:Int).tmod (l.length:Int)).toNat (Ab (.int .i64))).tmod ((Al (st,ps) (ss',cs',os',dr')).1.length:Int)+((Al (st,ps) (ss',cs',os',dr')).1.length:Int)<=9223372036854775807;have h3:(Al (st,ps) (ss',cs',os',dr')).1.length<=16:=hE16;omega
 ·have h1:=Ami (l.getD ((k:Int).tmod (l.length:Int)).toNat (Ab (.int .i64))) (hG w2).2;exact⟨h1.2.2.1,h1.2.2.2⟩
 ·exact hT ((hR (hQ1 w6) (hG w2).1 w0).1 w16)
 ·have hr2:=(hR (hQ1 w6) (hG w2).1 w0).2 w16;have hm2:=hM w0;clear w1 w2 w4 w5 w6 w15 w16 w18;refine eI ((k+1,(Ci (st,ps) (ss',cs',os',dr') ((Al (st,ps) (ss',cs',os',dr')).1.getD (((l.getD ((k:Int).tmod (l.length:Int)).toNat (Ab (.int .i64))).tmod ((Al (st,ps) (ss',cs',os',dr')).1.length:Int)+((Al (st,ps) (ss',cs',os',dr')).1.length:Int)).tmod ((Al (st,ps) (ss',cs',os',dr')).1.length:Int)).toNat (Ab (.int .i64)))).1,out++[(Al (st,ps) (ss',cs',os',dr')).1.getD (((l.getD ((k:Int).tmod (l.length:Int)).toNat (Ab (.int .i64))).tmod ((Al (st,ps) (ss',cs',os',dr')).1.length:Int)+((Al (st,ps) (ss',cs',os',dr')).1.length:Int)).tmod ((Al (st,ps) (ss',cs',os',dr')).1.length:Int)).toNat (Ab (.int .i64))])) (eI ([some 0,some 1,some 2,some 3,some 4,some 5,some 6,some 7,some 8,some 9,some 13]) (aI ?_ (aI ?_ (aB (aI (aJ (aJ (aG (aI (aI (aI rfl (aI rfl (aI rfl (aI rfl rfl)))) (aA (by rfl))) (aA tT))))) (by rfl))))))
  ·exact⟨hm2.2,by show(out++[_]).length<=k+1;rw[bD,eD];omega,hr.trans hr2⟩
  ·show m.toNat-(k+1)<m.toNat-k;omega
 ·exact hT (r:=((ss',cs',os',dr'),out,0)) (by rw[show m.toNat-k=0 by have:=aP w0;omega];rfl)
end Go.Proofs.YtckpldpombdkgaaGreat
