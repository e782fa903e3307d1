/- Pipelines. -/
import Derived.Test.YtckpldpombdkgaaGreatCZ1
import Derived.Test.YtckpldpombdkgaaGreatCZ4
import Derived.Test.YtckpldpombdkgaaGreatCZ8
set_option linter.unusedSimpArgs false
set_option linter.unusedVariables false
set_option maxRecDepth 100000
namespace Go.Proofs.YtckpldpombdkgaaGreat
open Go.Sx
abbrev Cred:=Int × Int × Int × Int × List Int × Bool
def inR (n lo hi:Int):Bool:=decide (lo≤n) && decide (n≤hi)
def Av (n:Int):Bool:=!inR n (-1099511627776) 1099511627776
def Bp (c:Cred):Int :=
 if !inR c.1 1 100 then 2
 else if c.2.2.2.1 < 0∨c.2.2.1 < c.2.2.2.1∨c.2.1 < c.2.2.1∨1099511627776 < c.2.1∨c.1 < c.2.1 - c.2.2.2.1∨(c.2.2.2.2.1.length:Int)≠c.2.2.1 - c.2.2.2.1 then 1
 else if c.2.2.2.2.1.any Av then 1 else 0
abbrev A9:Cred:=(0,0,0,0,[],false)
def Ag5 (n:Int):Cred × Int:=if !inR n 1 100 then (A9,2) else ((n,0,0,0,[],false),0)
def Je (c:Cred) (n:Int):Cred × Int :=
 if Bp c≠0 then (A9,Bp c) else if n < 1 then (A9,2) else if c.2.2.2.2.2=true then (A9,19) else if c.2.2.2.1+c.1 - c.2.1 < n then (A9,18)
 else if 1099511627776 < c.2.1+n then (A9,4) else ((c.1,c.2.1+n,c.2.2),0)
def Hz (c:Cred) (x:Int):Cred × Int :=
 if Bp c≠0 then (A9,Bp c) else if Av x=true then (A9,2) else if c.2.2.2.2.2=true then (A9,19) else if c.2.2.1=c.2.1 then (A9,18)
 else ((c.1,c.2.1,c.2.2.1+1,c.2.2.2.1,c.2.2.2.2.1++[x],c.2.2.2.2.2),0)
def Dy (c:Cred):Cred × Int × Int :=
 if Bp c≠0 then (A9,0,Bp c) else match c.2.2.2.2.1 with
 | []=>if c.2.2.2.2.2=true then (A9,0,19) else (A9,0,23)
 | x :: l=>((c.1,c.2.1,c.2.2.1,c.2.2.2.1+1,l,c.2.2.2.2.2),x,0)
def Gl (c:Cred):Cred × Int:=if Bp c≠0 then (A9,Bp c) else if c.2.2.2.2.2=true then (A9,19) else ((c.1,c.2.1,c.2.2.1,c.2.2.2.1,c.2.2.2.2.1,true),0)
def Cf (c:Cred):Bool:=decide (Bp c=0) && c.2.2.2.2.2 && decide ((c.2.2.2.2.1.length:Int)=0)
def N0 (c:Cred):Int:=if Bp c≠0∨c.2.2.2.2.2=true then 0 else c.2.1 - c.2.2.1
theorem Dh {c:Cred} (h:Bp c=0):1≤c.1∧c.1≤100∧0≤c.2.2.2.1∧c.2.2.2.1≤c.2.2.1∧c.2.2.1≤c.2.1∧c.2.1≤1099511627776∧c.2.1 - c.2.2.2.1≤c.1∧(c.2.2.2.2.1.length:Int)=c.2.2.1 - c.2.2.2.1∧c.2.2.2.2.1.any Av=false:=by
 unfold Bp inR at h
 split at h
 ·omega
 ·rename_i h1
  simp only [Bool.not_eq_true',Bool.and_eq_false_iff,decide_eq_false_iff_not] at h1
  split at h
  ·omega
  ·rename_i h2
   split at h
   ·omega
   ·rename_i h3
    simp only [Bool.not_eq_true] at h3
    refine ⟨by omega,by omega,by omega,by omega,by omega,by omega,by omega,by omega,h3⟩
theorem Adl (c:Cred):Bp c=if c.1 < 1∨100 < c.1 then 2 else if (((((c.2.2.2.1 < 0∨c.2.2.1 < c.2.2.2.1)∨c.2.1 < c.2.2.1)∨1099511627776 < c.2.1)∨c.2.2.2.1+c.1 < c.2.1)∨¬ (c.2.2.2.2.1.length:Int)=c.2.2.1 - c.2.2.2.1) then 1
 else if c.2.2.2.2.1.any Av=true then 1 else 0:=by
 unfold Bp inR
 by_cases h:c.1 < 1∨100 < c.1
 ·rw [if_pos h,if_pos (by simp;omega)]
 ·rw [if_neg h,if_neg (by simp;omega)]
  by_cases h2:(((((c.2.2.2.1 < 0∨c.2.2.1 < c.2.2.2.1)∨c.2.1 < c.2.2.1)∨1099511627776 < c.2.1)∨c.2.2.2.1+c.1 < c.2.1)∨¬ (c.2.2.2.2.1.length:Int)=c.2.2.1 - c.2.2.2.1)
  ·rw [if_pos h2,if_pos (by omega)]
  ·rw [if_neg h2,if_neg (by omega)]
theorem Vr (c:Cred):Bp c=0↔(1≤c.1∧c.1≤100∧0≤c.2.2.2.1∧c.2.2.2.1≤c.2.2.1∧c.2.2.1≤c.2.1∧c.2.1≤1099511627776∧c.2.1 - c.2.2.2.1≤c.1∧(c.2.2.2.2.1.length:Int)=c.2.2.1 - c.2.2.2.1∧c.2.2.2.2.1.any Av=false):=by
 refine ⟨Dh,fun h=>?_⟩
 rw [Adl,if_neg (by omega),if_neg (by omega),if_neg (by simp [h.2.2.2.2.2.2.2.2])]
theorem Ajq {c:Cred} {n:Int} (h:(Je c n).2=0):Bp c=0∧Bp (Je c n).1=0∧1≤n∧c.2.2.2.2.2=false∧n≤c.2.2.2.1+c.1 - c.2.1∧c.2.1+n≤1099511627776∧(Je c n).1=(c.1,c.2.1+n,c.2.2):=by
 unfold Je at h ⊢
 by_cases h1:Bp c=0
 ·rw [if_neg (by simpa using h1)] at h ⊢
  by_cases h2:n < 1
  ·rw [if_pos h2] at h;simp at h
  ·rw [if_neg h2] at h ⊢
   by_cases h3:c.2.2.2.2.2=true
   ·rw [if_pos h3] at h;simp at h
   ·rw [if_neg h3] at h ⊢
    by_cases h4:c.2.2.2.1+c.1 - c.2.1 < n
    ·rw [if_pos h4] at h;simp at h
    ·rw [if_neg h4] at h ⊢
     by_cases h5:1099511627776 < c.2.1+n
     ·rw [if_pos h5] at h;simp at h
     ·rw [if_neg h5]
      have hb:=(Vr c).1 h1
      refine ⟨h1,(Vr _).2 ?_,by omega,by simpa using h3,by omega,by omega,rfl⟩
      simp only
      refine ⟨hb.1,hb.2.1,hb.2.2.1,hb.2.2.2.1,by omega,by omega,by omega,hb.2.2.2.2.2.2.2.1,hb.2.2.2.2.2.2.2.2⟩
 ·rw [if_pos (by simpa using h1)] at h
  exact absurd h h1
theorem Ag6 {c:Cred} (h:(Dy c).2.2=0):Bp c=0∧Bp (Dy c).1=0∧∃ x l,c.2.2.2.2.1=x :: l∧Dy c=((c.1,c.2.1,c.2.2.1,c.2.2.2.1+1,l,c.2.2.2.2.2),x,0):=by
 unfold Dy at h ⊢
 by_cases h1:Bp c=0
 ·rw [if_neg (by simpa using h1)] at h ⊢
  cases hl:c.2.2.2.2.1 with
  | nil =>
   rw [hl] at h
   simp only at h
   split at h <;> simp at h
  | cons x l =>
   have hb:=(Vr c).1 h1
   rw [hl] at hb
   simp only [List.length_cons,List.any_cons,Bool.or_eq_false_iff] at hb
   refine ⟨h1,(Vr _).2 ?_,x,l,rfl,rfl⟩
   simp only
   refine ⟨hb.1,hb.2.1,by omega,by omega,by omega,by omega,by omega,by omega,hb.2.2.2.2.2.2.2.2.2⟩
 ·rw [if_pos (by simpa using h1)] at h
  exact absurd h h1
theorem Adm {c:Cred} {x:Int} {l:List Int} (h1:Bp c=0) (h2:c.2.2.2.2.1=x :: l):Dy c=((c.1,c.2.1,c.2.2.1,c.2.2.2.1+1,l,c.2.2.2.2.2),x,0):=by
 unfold Dy
 rw [if_neg (by simpa using h1),h2]
abbrev PipeT:=Int × Int × Int × Int × Int
abbrev PlT:=List StT × List PipeT
abbrev FsT:=List SST × List Cred × List (List Int) × Bool
@[reducible] def Aw:PipeT:=(0,0,0,0,0)
@[reducible] def zStg:StT:=(0,0,.mk 0 0 ⟨#[]⟩ 0 [],[])
def sg (x:PlT) (i:Int):StT:=x.1.getD i.toNat zStg
def Sb (i n:Int) (y:PipeT):Bool:=decide (y.1=i) && decide (y.2.1=n)
def inB (i n:Int) (y:PipeT):Bool:=decide (y.2.2.1=i) && decide (y.2.2.2.1=n)
def Cq (x:PlT) (i n:Int):Int:=Ak (Sb i n) x.2 0
def pIn (x:PlT) (i n:Int):Int:=Ak (inB i n) x.2 0
def J0 (x:PlT) (y:PipeT):Bool:=!inR y.1 0 (x.1.length - 1) || (!inR y.2.2.1 0 (x.1.length - 1) || (!inR y.2.1 0 (stOut (sg x y.1) - 1) || (!inR y.2.2.2.1 0 (stIn (sg x y.2.2.1) - 1) || !inR y.2.2.2.2 1 100)))
def Ha (x:PlT) (k:Int) (y:PipeT):Int :=
 if J0 x y=true then 2 else if Cq x y.1 y.2.1 < k∨pIn x y.2.2.1 y.2.2.2.1 < k then 6 else if (sg x y.1).1=5∧y.2.2.2.2 < (sg x y.1).2.1 then 2 else 0
def Bz:List Int→Int
 | []=>0
 | e :: l=>if e≠0 then e else Bz l
def H7 (y:PipeT) (g:List Int):List Int:=g.map (fun v=>if v=g.getD y.2.2.1.toNat 0 then g.getD y.1.toNat 0 else v)
def F5:List PipeT→List Int→Bool
 | [],_=>false
 | y :: l,g=>if g.getD y.1.toNat 0=g.getD y.2.2.1.toNat 0 then true else F5 l (H7 y g)
def ints (n:Nat):List Int:=(List.range n).map (fun i:Nat=>(i:Int))
def E6 (l:List StT):Int:=l.foldl (fun a s=>a+(stIn s+stOut s)) 0
def It (x:PlT):Int :=
 if ¬ (1≤x.1.length∧x.1.length≤16) then 4 else if Bz (x.1.map An)≠0 then Bz (x.1.map An) else if 32 < x.2.length then 4
 else if Bz ((List.range x.2.length).map (fun k:Nat=>Ha x k (x.2.getD k Aw)))≠0 then Bz ((List.range x.2.length).map (fun k:Nat=>Ha x k (x.2.getD k Aw)))
 else if E6 x.1≠2 * x.2.length then 10 else if F5 x.2 (ints x.1.length)=true then 21 else 0
def isSink (s:StT):Bool:=decide (s.1=10)
def Bq (l:List StT):Int:=(l.countP isSink:Nat)
def Br (y:StT) (t:SST):List Int:=if y.1=8 then t.1 else if y.1=9 then ([[],[0],[1],[0,1]]:List (List Int)).getD t.2.1.toNat [] else if y.1≠1∧t.2.2=true then [0] else []
def T8 (s:FsT) (y:PipeT) (c:Cred):Bool:=!decide (Bp c=0) || (!decide (c.1=y.2.2.2.2) || (!decide (c.2.2.2.2.2=(s.1.getD y.1.toNat ([],0,false)).2.2) || (!c.2.2.2.2.2 && !decide (c.2.1=c.2.2.2.1+c.1))))
def Dt (s:FsT) (k:Int):Cred:=s.2.1.getD k.toNat A9
def N1 (x:PlT) (s:FsT):Bool :=
 if (List.range s.2.1.length).any (fun k=>T8 s (x.2.getD k Aw) (s.2.1.getD k A9))=true then false
 else !(List.range s.1.length).any (fun i=>(Br (sg x i) (s.1.getD i ([],0,false))).any (fun n=>!Cf (Dt s (pIn x i n))))
def H0 (l:List Int):Bool:=decide (200 < (l.length:Int)) || l.any Av
def J1 (x:PlT) (s:FsT):Bool :=
 if s.1.length≠x.1.length∨s.2.1.length≠x.2.length∨(s.2.2.1.length:Int)≠Bq x.1 then false
 else if (List.range s.1.length).any (fun i=>!decide ((Ar (sg x i) (s.1.getD i ([],0,false))).2=0))=true then false
 else if s.2.2.1.any H0=true then false else N1 x s
def Cv (x:PlT) (s:FsT):Int:=if It x≠0∨J1 x s=false then 1 else 0
@[reducible] def MvT:Type:=SST × List (List Int) × Bool × Bool × Int × Int × Int
@[reducible] def zMv:MvT:=(([],0,false),[],false,false,0,0,0)
@[reducible] def zFs:FsT:=([],[],[],false)
def Ci (s:FsT) (i:Int):SST:=s.1.getD i.toNat ([],0,false)
def Sc (y:StT) (t:SST) (k:Int):MvT:=((Dz y t k).1,(Dz y t k).2.1,(Dz y t k).2.2.1,false,k,0,(Dz y t k).2.2.2)
def J2 (y:StT) (t:SST) (b:Bool) (k v:Int):MvT:=((C8 y t k v).1,(C8 y t k v).2.1,false,b,k,v,(C8 y t k v).2.2)
def Cy (x:PlT) (s:FsT) (i:Int):MvT × Bool :=
 if (Ci s i).2.2=true then (zMv,false)
 else if (sg x i).1=1 then (if s.2.2.2=true∨(Ci s i).2.1=(sg x i).2.2.2.length then (Sc (sg x i) (Ci s i) (-1),true) else (J2 (sg x i) (Ci s i) false (-1) 0,true))
 else if 0 < (Dt s (pIn x i ((Ar (sg x i) (Ci s i)).1.getD 0 0))).2.2.2.2.1.length then
  (J2 (sg x i) (Ci s i) true ((Ar (sg x i) (Ci s i)).1.getD 0 0) ((Dt s (pIn x i ((Ar (sg x i) (Ci s i)).1.getD 0 0))).2.2.2.2.1.getD 0 0),true)
 else if Cf (Dt s (pIn x i ((Ar (sg x i) (Ci s i)).1.getD 0 0)))=true then (Sc (sg x i) (Ci s i) ((Ar (sg x i) (Ci s i)).1.getD 0 0),true)
 else (zMv,false)
def Fj (x:PlT) (s:FsT) (i:Int) (o:List (List Int)):Bool:=!(List.range o.length).any (fun n=>decide (N0 (Dt s (Cq x i n)) < ((o.getD n []).length:Int)))
def Bk (x:PlT) (s:FsT) (i:Int):MvT × Bool:=((Cy x s i).1,(Cy x s i).2 && (!decide ((Cy x s i).1.2.2.2.2.2.2=0) || Fj x s i (Cy x s i).1.2.1))
def Al (x:PlT) (s:FsT):List Int × Int:=if Cv x s≠0 then ([],Cv x s) else ((ints x.1.length).filter (fun i=>(Bk x s i).2),0)
def Ig (c:Cred):Cred × Int:=if (Dy c).2.2=0∧(Dy c).1.2.2.2.2.2=false then Je (Dy c).1 1 else ((Dy c).1,(Dy c).2.2)
def Di (x:PlT) (cr:List Cred) (i:Int) (m:MvT):List Cred × Int :=
 if m.2.2.2.1=false then (cr,0) else (cr.set (pIn x i m.2.2.2.2.1).toNat (Ig (cr.getD (pIn x i m.2.2.2.2.1).toNat A9)).1,(Ig (cr.getD (pIn x i m.2.2.2.2.1).toNat A9)).2)
def N2 (c:Cred) (l:List Int):Cred:=l.foldl (fun c v=>(Hz c v).1) c
def Ag7 (b:Bool) (c:Cred):Cred:=if b=true then (Gl c).1 else c
def Fl (x:PlT) (i:Int) (o:List (List Int)) (b:Bool) (cr:List Cred) (n:Int):List Cred :=
 cr.set (Cq x i n).toNat (Ag7 b (N2 (cr.getD (Cq x i n).toNat A9) (o.getD n.toNat [])))
def Px (x:PlT) (i:Int) (o:List (List Int)) (b:Bool) (cr:List Cred):List Cred:=(ints (stOut (sg x i)).toNat).foldl (Fl x i o b) cr
def Zv (x:PlT) (i:Int) (m:MvT):Bool:=decide ((sg x i).1=10) && m.2.2.2.1
def Sd (x:PlT) (i:Int):Nat:=(Bq (x.1.take i.toNat)).toNat
def Se (x:PlT) (i:Int) (m:MvT) (o:List (List Int)):List (List Int):=if Zv x i m=true then o.set (Sd x i) (o.getD (Sd x i) []++[m.2.2.2.2.2.1]) else o
def Du (x:PlT) (s:FsT) (i:Int):FsT × Int :=
 if Cv x s≠0 then (zFs,Cv x s) else if ¬ (0≤i∧i < x.1.length) then (zFs,2) else if (Bk x s i).2=false then (zFs,25)
 else if (Bk x s i).1.2.2.2.2.2.2≠0 then (zFs,(Bk x s i).1.2.2.2.2.2.2)
 else if Zv x i (Bk x s i).1=true∧(s.2.2.1.getD (Sd x i) []).length=200 then (zFs,4)
 else if (Di x s.2.1 i (Bk x s i).1).2≠0 then (zFs,(Di x s.2.1 i (Bk x s i).1).2)
 else ((s.1.set i.toNat (Bk x s i).1.1,Px x i (Bk x s i).1.2.1 (Bk x s i).1.2.2.1 (Di x s.2.1 i (Bk x s i).1).1,Se x i (Bk x s i).1 s.2.2.1,s.2.2.2),0)
def newC (y:PipeT):Cred:=(Je (Ag5 y.2.2.2.2).1 y.2.2.2.2).1
def Ag8 (x:PlT):FsT × Int:=if It x≠0 then (zFs,It x) else ((List.replicate x.1.length ([],0,false),x.2.map newC,List.replicate (Bq x.1).toNat [],false),0)
def Sf (l:List Int) (k:Nat) (n:Int):Int:=if l.length=0 then 0 else ((l.getD (k % l.length) 0).tmod n+n).tmod n
def Kd (x:PlT) (l:List Int):Nat→Nat→FsT→List Int→FsT × List Int × Int
 | 0,_,s,o=>(s,o,0)
 | m+1,k,s,o =>
  if (Al x s).2≠0∨(Al x s).1=[] then (s,o,0)
  else if (Du x s ((Al x s).1.getD (Sf l k (Al x s).1.length).toNat 0)).2≠0 then (zFs,[],(Du x s ((Al x s).1.getD (Sf l k (Al x s).1.length).toNat 0)).2)
  else Kd x l m (k+1) (Du x s ((Al x s).1.getD (Sf l k (Al x s).1.length).toNat 0)).1 (o++[(Al x s).1.getD (Sf l k (Al x s).1.length).toNat 0])
def Sg (x:PlT) (s:FsT) (l:List Int) (m:Int):FsT × List Int × Int :=
 if Cv x s≠0 then (zFs,[],1) else if m < 0∨10000 < m then (zFs,[],2) else Kd x l m.toNat 0 s []
def Vs (x:PlT) (s:FsT):FsT × Int:=if Cv x s≠0 then (zFs,1) else if s.2.2.2=true then (zFs,17) else ((s.1,s.2.1,s.2.2.1,true),0)
def Ag9 (x:PlT) (s:FsT):Bool:=decide (Cv x s=0) && s.1.all (fun t=>t.2.2)
def Mu (x:PlT) (s:FsT):Int × Int:=if Cv x s≠0 then (0,1) else (s.2.1.foldl (fun n c=>n+(c.2.2.2.2.1.length:Int)) 0,0)
def nd:List Int→Nat
 | []=>0
 | a :: l=>if a∈l then nd l else nd l+1
theorem Sw (a:Int) (l:List Int):nd (a :: l)=if a∈l then nd l else nd l+1:=rfl
theorem Akm:∀ l:List Int,nd l≤l.length
 | []=>Nat.le_refl 0
 | a :: l=>by
  have h:=Akm l
  rw [Sw]
  split <;> simp only [List.length_cons] <;> omega
theorem Aha:∀ l:List Int,l≠[]→1≤nd l
 | [],h=>absurd rfl h
 | a :: l,_=>by
  rw [Sw]
  split
  ·exact Aha l (by rintro rfl;simp_all)
  ·omega
theorem Ahb {a:Int}:∀ l:List Int,a ∉ l→l.filter (fun v=>!decide (v=a))=l
 | [],_=>rfl
 | b :: l,h=>by
  simp only [List.mem_cons,not_or] at h
  rw [List.filter_cons,if_pos (by simp;exact fun e=>h.1 e.symm),Ahb l h.2]
theorem Abn {a:Int}:∀ l:List Int,a∈l→nd l=nd (l.filter (fun v=>!decide (v=a)))+1
 | [],h=>by simp at h
 | b :: l,h=>by
  by_cases hb:b=a
  ·subst hb
   rw [List.filter_cons,if_neg (by simp),Sw]
   by_cases hm:b∈l
   ·rw [if_pos hm]
    exact Abn l hm
   ·rw [if_neg hm,Ahb l hm]
  ·have hm:a∈l:=by
    rcases List.mem_cons.1 h with h | h
    ·exact absurd h.symm hb
    ·exact h
   rw [List.filter_cons,if_pos (by simpa using hb)]
   have ih:=Abn l hm
   by_cases hbl:b∈l
   ·rw [Sw,if_pos hbl,Sw,if_pos (List.mem_filter.2 ⟨hbl,by simpa using hb⟩),ih]
   ·rw [Sw,if_neg hbl,Sw,if_neg (fun h=>hbl (List.mem_filter.1 h).1),ih]
theorem Zw:∀ (l m:List Int),(∀ a∈l,a∈m)→nd l≤nd m
 | [],_,_=>Nat.zero_le _
 | a :: l,m,h=>by
  rw [Sw]
  split
  ·exact Zw l m (fun b hb=>h b (List.mem_cons_of_mem a hb))
  ·rename_i ha
   rw [Abn m (h a (List.mem_cons_self))]
   have:=Zw l (m.filter (fun v=>!decide (v=a))) (fun b hb=>List.mem_filter.2 ⟨h b (List.mem_cons_of_mem a hb),by
    simp only [Bool.not_eq_true',decide_eq_false_iff_not];rintro rfl;exact ha hb⟩)
   omega
theorem Ahc (f:Int→Int):∀ l:List Int,nd (l.map f)≤nd l
 | []=>Nat.le_refl 0
 | a :: l=>by
  have ih:=Ahc f l
  rw [List.map_cons,Sw,Sw]
  by_cases ha:a∈l
  ·rw [if_pos ha,if_pos (List.mem_map.2 ⟨a,ha,rfl⟩)];exact ih
  ·rw [if_neg ha]
   split <;> omega
theorem Ajr {a b:Int} {l:List Int} (ha:a∈l) (hb:b∈l) (hab:a≠b):nd (l.map (fun v=>if v=b then a else v))+1≤nd l:=by
 rw [Abn l hb]
 have:=Zw (l.map (fun v=>if v=b then a else v)) (l.filter (fun v=>!decide (v=b))) (fun c hc=>by
  obtain ⟨v,hv,rfl⟩:=List.mem_map.1 hc
  by_cases h:v=b
  ·rw [if_pos h];exact List.mem_filter.2 ⟨ha,by simpa using hab⟩
  ·rw [if_neg h];exact List.mem_filter.2 ⟨hv,by simpa using h⟩)
 omega
def Ky (B:List Int) (y:PipeT):Bool:=decide (y.1∈B) && decide (y.2.2.1∈B)
theorem X3 {B:List Int} (hB:B≠[]):∀ (l:List PipeT) (g:List Int),(∀ i∈B,i.toNat < g.length)→F5 l g=false→l.countP (Ky B)+1≤nd (B.map (fun i=>g.getD i.toNat 0))
 | [],g,_,_=>Aha _ (by simpa using hB)
 | y :: l,g,hg,h=>by
  rw [F5] at h
  split at h
  ·cases h
  ·rename_i hne
   have ih:=X3 hB l (H7 y g) (fun i hi=>by rw [H7,List.length_map];exact hg i hi) h
   have e:B.map (fun i=>(H7 y g).getD i.toNat 0)=(B.map (fun i=>g.getD i.toNat 0)).map (fun v=>if v=g.getD y.2.2.1.toNat 0 then g.getD y.1.toNat 0 else v):=by
    rw [List.map_map]
    refine List.map_congr_left fun i hi=>?_
    simp [H7,List.getD_eq_getElem?_getD,List.getElem?_eq_getElem (hg i hi)]
   rw [e] at ih
   rw [List.countP_cons]
   by_cases hb:Ky B y=true
   ·rw [if_pos hb]
    simp only [Ky,Bool.and_eq_true,decide_eq_true_eq] at hb
    have:=Ajr (l:=B.map (fun i=>g.getD i.toNat 0)) (List.mem_map.2 ⟨_,hb.1,rfl⟩) (List.mem_map.2 ⟨_,hb.2,rfl⟩) hne
    omega
   ·rw [if_neg hb]
    exact Nat.le_trans ih (Ahc _ _)
theorem H5 (n:Nat):(ints n).length=n:=by simp [ints]
theorem Ahd {n i:Nat} (h:i < n):(ints n).getD i 0=(i:Int):=by simp [ints,List.getD_eq_getElem?_getD,h]
theorem Jf {n:Nat} {i:Int}:i∈ints n↔0≤i∧i < n:=by
 simp only [ints,List.mem_map,List.mem_range]
 constructor
 ·rintro ⟨k,hk,rfl⟩;omega
 ·intro h;exact ⟨i.toNat,by omega,by omega⟩
theorem Ahe {B:List Int} {l:List PipeT} {n:Nat} (hB:B≠[]) (hn:∀ i∈B,0≤i∧i < n) (h:F5 l (ints n)=false):l.countP (Ky B) < B.length:=by
 have h1:=X3 hB l (ints n) (fun i hi=>by rw [H5];have:=hn i hi;omega) h
 have e:B.map (fun i=>(ints n).getD i.toNat 0)=B:=by
  refine (List.map_congr_left fun i hi=>?_).trans (List.map_id _)
  have:=hn i hi
  rw [Ahd (by omega)];simp;omega
 rw [e] at h1
 have:=Akm B
 omega
theorem Ahf {α:Type} {p:α→Bool} (d:α):∀ (l:List α) (i:Int) (j:Nat),0≤i→j < l.length→p (l.getD j d)=true→0≤Ak p l i∧Ak p l i≤i+j
 | [],_,_,_,h,_=>by simp at h
 | x :: l,i,j,hi,h,hp=>by
  unfold Ak
  split
  ·omega
  ·rename_i hx
   cases j with
   | zero=>exact absurd hp hx
   | succ j =>
    have:=Ahf d l (i+1) j (by omega) (by simpa using h) (by simpa using hp)
    omega
theorem Vt:∀ (l:List Int),Bz l=0→∀ a∈l,a=0
 | [],_,_,h=>by simp at h
 | e :: l,h,a,ha=>by
  unfold Bz at h
  split at h
  ·contradiction
  ·rename_i he
   rcases List.mem_cons.1 ha with rfl | ha
   ·omega
   ·exact Vt l h a ha
structure WF (x:PlT):Prop where
 n1:1≤x.1.length
 n16:x.1.length≤16
 st:∀ i < x.1.length,An (x.1.getD i zStg)=0
 p32:x.2.length≤32
 pp:∀ k < x.2.length,Ha x k (x.2.getD k Aw)=0
 ends:E6 x.1=2 * x.2.length
 tree:F5 x.2 (ints x.1.length)=false
theorem Kz {x:PlT}:It x=0↔WF x:=by
 unfold It
 constructor
 ·intro h
  split at h;· omega
  rename_i h1
  split at h;· omega
  rename_i h2
  split at h;· omega
  rename_i h3
  split at h;· omega
  rename_i h4
  split at h;· omega
  rename_i h5
  split at h;· omega
  rename_i h6
  refine ⟨by omega,by omega,fun i hi=>?_,by omega,fun k hk=>?_,by omega,by simpa using h6⟩
  ·refine Vt (x.1.map An) (by omega) _ (List.mem_map.2 ⟨x.1.getD i zStg, ?_,rfl⟩)
   rw [List.getD_eq_getElem?_getD,List.getElem?_eq_getElem hi];exact List.getElem_mem hi
  ·exact Vt ((List.range x.2.length).map (fun k:Nat=>Ha x k (x.2.getD k Aw))) (by omega) _ (List.mem_map.2 ⟨k,List.mem_range.2 hk,rfl⟩)
 ·rintro ⟨h1,h2,h3,h4,h5,h6,h7⟩
  have e1:∀ l:List Int,(∀ a∈l,a=0)→Bz l=0:=by
   intro l
   induction l with
   | nil=>intro _;rfl
   | cons a l ih =>
    intro h
    unfold Bz
    rw [if_neg (by simpa using h a List.mem_cons_self)]
    exact ih fun b hb=>h b (List.mem_cons_of_mem a hb)
  have e2:Bz (x.1.map An)=0:=e1 _ fun a ha=>by
   obtain ⟨s,hs,rfl⟩:=List.mem_map.1 ha
   obtain ⟨i,hi,rfl⟩:=List.mem_iff_getElem.1 hs
   have:=h3 i hi
   rwa [List.getD_eq_getElem?_getD,List.getElem?_eq_getElem hi] at this
  have e3:Bz ((List.range x.2.length).map (fun k:Nat=>Ha x k (x.2.getD k Aw)))=0:=e1 _ fun a ha=>by
   obtain ⟨k,hk,rfl⟩:=List.mem_map.1 ha
   exact h5 k (List.mem_range.1 hk)
  rw [if_neg (by omega),e2,if_neg (by simp),if_neg (by omega),e3,if_neg (by simp),if_neg (by omega),if_neg (by simpa using h7)]
structure PP (x:PlT) (k:Nat) (y:PipeT):Prop where
 f0:0≤y.1
 fn:y.1 < x.1.length
 o0:0≤y.2.1
 on:y.2.1 < stOut (sg x y.1)
 t0:0≤y.2.2.1
 tn:y.2.2.1 < x.1.length
 i0:0≤y.2.2.2.1
 iN:y.2.2.2.1 < stIn (sg x y.2.2.1)
 c1:1≤y.2.2.2.2
 c100:y.2.2.2.2≤100
 out:Cq x y.1 y.2.1=k
 inp:pIn x y.2.2.1 y.2.2.2.1=k
 rep:(sg x y.1).1=5→(sg x y.1).2.1≤y.2.2.2.2
theorem Lx {n a b:Int}:inR n a b=true↔(a≤n∧n≤b):=by simp [inR]
theorem WF.pipe {x:PlT} (w:WF x) {k:Nat} (hk:k < x.2.length):PP x k (x.2.getD k Aw):=by
 have h:=w.pp k hk
 unfold Ha at h
 split at h;· omega
 rename_i h1
 split at h;· omega
 rename_i h2
 split at h;· omega
 rename_i h3
 simp only [J0,Bool.or_eq_true,Bool.not_eq_true',not_or,Bool.not_eq_false,Lx] at h1
 have g1:Cq x (x.2.getD k Aw).1 (x.2.getD k Aw).2.1≤k:=by
  have:=(Ahf (p:=Sb (x.2.getD k Aw).1 (x.2.getD k Aw).2.1) Aw x.2 0 k (Int.le_refl 0) hk (by simp [Sb])).2
  simpa [Cq] using this
 have g2:pIn x (x.2.getD k Aw).2.2.1 (x.2.getD k Aw).2.2.2.1≤k:=by
  have:=(Ahf (p:=inB (x.2.getD k Aw).2.2.1 (x.2.getD k Aw).2.2.2.1) Aw x.2 0 k (Int.le_refl 0) hk (by simp [inB])).2
  simpa [pIn] using this
 exact ⟨by omega,by omega,by omega,by omega,by omega,by omega,by omega,by omega,by omega,by omega,by omega,by omega,fun h5=>by omega⟩
theorem Bt {α:Type} {l:List α} {k:Nat} {d:α} (h:k < l.length):l.getD k d=l[k]:=by
 rw [List.getD_eq_getElem?_getD,List.getElem?_eq_getElem h];rfl
theorem Amh {v:Int} (h:inM v):Av v=false:=by
 unfold Av inR
 rw [decide_eq_true h.1,decide_eq_true h.2];rfl
theorem Akn {e:ExprT} {ns:List ByteArray} {a b:Int} (h:(evX e ns a b).2=0):inM (evX e ns a b).1:=by
 unfold evX Hy at h ⊢
 split
 ·exact ⟨show (-1099511627776:Int)≤0 by decide,show (0:Int)≤1099511627776 by decide⟩
 ·rw [Nu]
  split
  ·exact Abd _
  ·exact ⟨show (-1099511627776:Int)≤0 by decide,show (0:Int)≤1099511627776 by decide⟩
theorem Zx {y:StT} (h:An y=0):stOut y=(Ao y.1).2.1:=by unfold stOut;rw [if_pos h]
theorem Abo {y:StT} (h:An y=0):stIn y=(Ao y.1).1:=by unfold stIn;rw [if_pos h]
theorem Abp (k:Int):0≤(Ao k).1∧0≤(Ao k).2.1:=by
 unfold Ao
 repeat' split
 all_goals exact ⟨by decide,by decide⟩
theorem Ahg (x:StT):0≤stIn x:=by
 unfold stIn;split
 ·exact (Abp _).1
 ·exact Int.le_refl 0
theorem Abq (x:StT):0≤stOut x:=by
 unfold stOut;split
 ·exact (Abp _).2
 ·exact Int.le_refl 0
theorem Abr:∀ (d:List Int) (n f:Int),(d.foldl Ez (n,f)).2=0→f=0∧(inM n→inM (d.foldl Ez (n,f)).1)
 | [],n,f,h=>⟨h,fun h=>h⟩
 | a :: d,n,f,h=>by
  rw [List.foldl_cons] at h ⊢
  obtain ⟨h0,h1⟩:=Abr d _ _ h
  by_cases hf:f=0
  ·refine ⟨hf,fun _=>h1 ?_⟩
   cases hb:Jx (n+a) with
   | true=>exact Abk hb
   | false =>
    rw [hb,hf] at h0
    exact absurd (show (14:Int)=0 from h0) (by decide)
  ·rw [decide_eq_false hf] at h0
   exfalso
   cases hb:Jx (n+a) <;> rw [hb] at h0 <;> exact hf h0
theorem Abs {d:List Int} (h:(G2 (d,[],0)).2.2=0):∀ x∈(G2 (d,[],0)).2.1,inM x:=by
 have h1:(d.foldl Ez (0,0)).2=0:=h
 have h2:=(Abr d 0 0 h1).2 ⟨by decide,by decide⟩
 intro x hx
 have hx:x∈Kw (d.foldl Ez (0,0)).2 [] (d.foldl Ez (0,0)).1:=hx
 rw [h1] at hx
 have hx:x∈[(d.foldl Ez (0,0)).1]:=hx
 rw [List.mem_singleton.1 hx];exact h2
theorem F6 {o:List Int} (h:∀ a∈o,inM a):∀ l∈[o],∀ a∈l,Av a=false:=fun l hl a ha=>by
 rw [List.mem_singleton.1 hl] at ha
 exact Amh (h a ha)
theorem Ako {b:Bool} {n:Int} (hn:inM n):∀ a∈(if b=true then [n] else []),inM a:=fun a ha=>by
 cases b
 ·simp at ha
 ·rw [if_pos rfl] at ha;rw [List.mem_singleton.1 ha];exact hn
theorem Ajs {y:StT} {t:SST} {k v:Int} (h0:An y=0) (hv:inM v) (h:(Ef y t k v).2.2=0):∀ l∈(Ef y t k v).2.1,∀ a∈l,Av a=false:=by
 have hk:=Ie (Cu h0)
 obtain ⟨q,z,e,l⟩:=y
 obtain ⟨hd,c,en⟩:=t
 replace hk:q=1∨q=2∨q=3∨q=4∨q=5∨q=6∨q=7∨q=8∨q=9∨q=10:=hk
 have s1:∀ {w:Int},inM w→∀ a∈[w],inM a:=fun hw a ha=>by rw [List.mem_singleton.1 ha];exact hw
 rcases hk with rfl | rfl | rfl | rfl | rfl | rfl | rfl | rfl | rfl | rfl
 ·have hi:l.any Ai=false:=(O1 h0).2
  refine F6 (s1 ?_)
  show inM (l.getD c.toNat 0)
  by_cases hc:c.toNat < l.length
  ·rw [Bt hc]
   exact Agl hi _ (List.getElem_mem hc)
  ·rw [List.getD_eq_getElem?_getD,List.getElem?_eq_none (by omega)];exact ⟨by decide,by decide⟩
 ·exact F6 (s1 (Akn h))
 ·exact F6 (Ako hv)
 ·refine F6 ?_
  show ∀ a∈(De z (hd,[],0) v).2.1,inM a
  have h:(De z (hd,[],0) v).2.2=0:=h
  unfold De at h ⊢
  split
  ·rename_i hc
   rw [if_pos hc] at h
   exact Abs h
  ·intro a ha;simp at ha
 ·exact F6 (fun a ha=>by rw [List.eq_of_mem_replicate ha];exact hv)
 ·show ∀ l'∈(if decide (c < z)=true then ((hd,c+1,en),[[v]],(0:Int)) else ((hd,c,en),[[]],0):SST × List (List Int) × Int).2.1,_
  split
  ·exact F6 (s1 hv)
  ·exact F6 (fun a ha=>by simp at ha)
 ·intro o ho
  rcases List.mem_cons.1 ho with rfl | ho
  ·exact F6 (Ako hv) _ (List.mem_singleton.2 rfl)
  ·rw [List.mem_singleton.1 ho]
   cases decide ((evX e nmX v 0).1=1)
   ·exact F6 (s1 hv) _ (List.mem_singleton.2 rfl)
   ·exact fun a ha=>by simp at ha
 ·exact F6 (s1 hv)
 ·have h9:Ef (9,z,e,l) (hd,c,en) k v=(if decide (k=0)=true then (if decide (Ej .i64 c 2=0)=true then (([v],c,en),[[]],0) else ((hd,c,en),[[]],0))
   else if decide ((hd.length:Int)=1)=true then (([],c,en),[[(evX e Ey (hd.getD 0 0) v).1]],(evX e Ey (hd.getD 0 0) v).2) else ((hd,c,en),[[]],0)):=rfl
  have e0:∀ l∈([[]]:List (List Int)),∀ a∈l,Av a=false:=F6 (fun a ha=>by simp at ha)
  rw [h9] at h ⊢
  by_cases c1:decide (k=0)=true
  ·rw [if_pos c1]
   by_cases c2:decide (Ej .i64 c 2=0)=true
   ·rw [if_pos c2];exact e0
   ·rw [if_neg c2];exact e0
  ·rw [if_neg c1] at h ⊢
   by_cases c2:decide ((hd.length:Int)=1)=true
   ·rw [if_pos c2] at h ⊢
    exact F6 (s1 (Akn h))
   ·rw [if_neg c2];exact e0
 ·exact fun o ho=>by simp [Ef] at ho
theorem Ajt {y:StT} {t:SST} {k:Int} (h:(Fg y t k).2.2=0):∀ l∈(Fg y t k).2.1,∀ a∈l,Av a=false:=by
 have e0:∀ l∈([[]]:List (List Int)),∀ a∈l,Av a=false:=F6 (fun a ha=>by simp at ha)
 unfold Fg at h ⊢
 split
 ·rename_i h4
  rw [if_pos h4] at h
  refine F6 ?_
  have h:(Ds (t.1,[],0)).2.2=0:=h
  show ∀ a∈(Ds (t.1,[],0)).2.1,inM a
  unfold Ds at h ⊢
  split
  ·rename_i hc
   rw [if_pos hc] at h
   exact Abs h
  ·intro a ha;simp at ha
 ·split
  ·intro o ho a ha
   rcases List.mem_cons.1 ho with rfl | ho
   ·simp at ha
   ·rw [List.mem_singleton.1 ho] at ha;simp at ha
  ·split
   ·exact e0
   ·split
    ·exact e0
    ·split
     ·intro o ho;simp at ho
     ·exact e0
theorem Aju {y:StT} {t:SST} (h8:y.1≠8) (h9:y.1≠9) (h:t.2.2=false):Br y t=[]:=by
 unfold Br
 rw [if_neg h8,if_neg h9,if_neg (by rw [h];simp)]
theorem Abt {y:StT} {t:SST} {k v:Int} (h:(C8 y t k v).2.2=0):(Ar y (C8 y t k v).1).2=0∧((C8 y t k v).2.1.length:Int)=stOut y∧(∀ l∈(C8 y t k v).2.1,∀ a∈l,Av a=false) ∧
 (C8 y t k v).1.2.2=t.2.2∧t.2.2=false∧(∀ n∈Br y (C8 y t k v).1,n∈Br y t):=by
 obtain ⟨v1,v2,v3⟩:=Zt h
 obtain ⟨h0,hv,h1,h2,h3,he⟩:=Abj h
 have hen:=Sa h1
 refine ⟨Cp.2 ⟨h0,v1⟩,by rw [v2,Zx h0], ?_,v3,hen,fun n hn=>?_⟩
 ·rw [he]
  exact Ajs h0 (Abk (Vp h2)) h3
 ·by_cases h8:y.1=8
  ·unfold Br at hn ⊢
   rw [if_pos h8] at hn ⊢
   rw [he] at hn
   unfold Ef at hn
   rw [if_neg (by omega),if_neg (by omega),if_neg (by omega),if_neg (by omega),if_neg (by omega),if_neg (by omega),if_neg (by omega),if_pos h8] at hn
   exact hn
  ·by_cases h9:y.1=9
   ·unfold Br at hn ⊢
    rw [if_neg h8,if_pos h9] at hn ⊢
    rw [he] at hn
    unfold Ef at hn
    rw [if_neg (by omega),if_neg (by omega),if_neg (by omega),if_neg (by omega),if_neg (by omega),if_neg (by omega),if_neg (by omega),if_neg h8,if_pos h9] at hn
    have e:(if decide (k=0)=true then (if decide (Ej .i64 t.2.1 2=0)=true then (([v],t.2),[[]],0) else (t,[[]],0))
     else if decide ((t.1.length:Int)=1)=true then (([],t.2),[[(evX y.2.2.1 Ey (t.1.getD 0 0) v).1]],(evX y.2.2.1 Ey (t.1.getD 0 0) v).2) else (t,[[]],0):SST × List (List Int) × Int).1.2=t.2:=by
     split
     ·split <;> rfl
     ·split <;> rfl
    rw [e] at hn
    exact hn
   ·rw [Aju h8 h9 (by rw [v3,hen])] at hn
    simp at hn
theorem Ahh {y:StT} {t:SST} {k:Int} (h:(Dz y t k).2.2.2=0):(Ar y (Dz y t k).1).2=0∧((Dz y t k).2.1.length:Int)=stOut y∧(∀ l∈(Dz y t k).2.1,∀ a∈l,Av a=false) ∧
 (Dz y t k).2.2.1=(Dz y t k).1.2.2∧t.2.2=false∧(∀ n∈Br y (Dz y t k).1,n∈Br y t∨n=k):=by
 obtain ⟨⟨v1,v2,v3,v4⟩,v5⟩:=Adi h
 obtain ⟨h0,hv,h1,h2,h3,he⟩:=Agj h
 have hen:=Zs h2
 refine ⟨Cp.2 ⟨h0,v1⟩,by rw [v2,Zx h0], ?_,v5,hen,fun n hn=>?_⟩
 ·rw [he]
  exact Ajt h3
 ·by_cases hk1:y.1=1
  ·unfold Br at hn
   rw [if_neg (by omega),if_neg (by omega),if_neg (fun h=>h.1 hk1)] at hn
   simp at hn
  ·obtain ⟨i0,iN⟩:=Vq hk1 h1
   rw [he] at hn
   by_cases h8:y.1=8
   ·unfold Br at hn ⊢
    rw [if_pos h8] at hn ⊢
    unfold Fg at hn
    rw [if_neg (by omega),if_neg (by omega),if_pos h8] at hn
    have hn:n∈F9 (t.1++[k]):=hn
    have hp:(F9 (t.1++[k])).Perm (t.1++[k]):=List.mergeSort_perm _ _
    rcases List.mem_append.1 (hp.mem_iff.1 hn) with h | h
    ·exact .inl h
    ·exact .inr (List.mem_singleton.1 h)
   ·by_cases h9:y.1=9
    ·unfold Br at hn ⊢
     rw [if_neg h8,if_pos h9] at hn ⊢
     unfold Fg at hn
     rw [if_neg (by omega),if_neg (by omega),if_neg h8,if_pos h9] at hn
     have hn:n∈(([[],[0],[1],[0,1]]:List (List Int)).getD (El .i64 t.2.1 (Em .i64 1 k)).toNat []):=hn
     have hb:=(Ay.1 hv).1
     have hb2:Fp y=(3,1):=by
      unfold Fp
      rw [if_neg (by omega),if_neg (by omega),if_neg (by omega),if_pos h9]
     rw [hb2] at hb
     have hk9:(Ao y.1).1=2:=by rw [h9];rfl
     rw [hk9] at iN
     obtain ⟨c0,c3,_⟩:=hb
     have c3:t.2.1≤3:=c3
     have hc:t.2.1=0∨t.2.1=1∨t.2.1=2∨t.2.1=3:=by omega
     have hk:k=0∨k=1:=by omega
     rcases hc with hc | hc | hc | hc <;> rcases hk with hk | hk <;> rw [hc,hk] at hn <;> rw [hc,hk]
     all_goals
      revert hn
      first
      | (rw [show (El .i64 0 (Em .i64 1 0)).toNat=1 by decide];simp <;> omega)
      | (rw [show (El .i64 0 (Em .i64 1 1)).toNat=2 by decide];simp <;> omega)
      | (rw [show (El .i64 1 (Em .i64 1 0)).toNat=1 by decide];simp <;> omega)
      | (rw [show (El .i64 1 (Em .i64 1 1)).toNat=3 by decide];simp <;> omega)
      | (rw [show (El .i64 2 (Em .i64 1 0)).toNat=3 by decide];simp <;> omega)
      | (rw [show (El .i64 2 (Em .i64 1 1)).toNat=2 by decide];simp <;> omega)
      | (rw [show (El .i64 3 (Em .i64 1 0)).toNat=3 by decide];simp <;> omega)
      | (rw [show (El .i64 3 (Em .i64 1 1)).toNat=3 by decide];simp <;> omega)
    ·unfold Br at hn
     rw [if_neg h8,if_neg h9] at hn
     split at hn
     ·right
      rw [List.mem_singleton.1 hn]
      have hkk:(Ao y.1).1≤1:=by
       have:=Ie (Cu h0)
       rcases this with h | h | h | h | h | h | h | h | h | h <;> first | contradiction | (rw [h];decide)
      omega
     ·simp at hn
theorem Abu {y:StT} {t:SST} (h:(Ar y t).2=0) (hk:y.1≠1) (he:t.2.2=false):∃ k,(Ar y t).1=[k]∧0≤k∧k < stIn y:=by
 obtain ⟨h0,hv⟩:=Cp.1 h
 have hb:=(Ay.1 hv).1
 rw [Abo h0]
 have g0:(!decide (An y=0))=false:=by simp [h0]
 have g1:(!A0 y t)=false:=by simp [hv]
 have g2:(bif t.2.2 then true else decide (y.1=1))=false:=by rw [he,decide_eq_false hk];rfl
 have hkk:=Ie (Cu h0)
 cases g3:(bif decide (y.1=8) then F4 y t t.2.1 else false)
 ·cases g4:decide (y.1=8)
  ·cases g5:(bif decide (y.1=9) then (bif F4 y t 0 then true else decide (0 < (t.1.length:Int))) else false)
   ·refine ⟨0,by rw [ND6 g0 g1 g2 g3 g4 g5],Int.le_refl 0, ?_⟩
    rcases hkk with h | h | h | h | h | h | h | h | h | h <;> first | contradiction | (rw [h];decide)
   ·have h9:y.1=9:=by
     by_cases h9:y.1=9
     ·exact h9
     ·rw [decide_eq_false h9] at g5;cases g5
    exact ⟨1,by rw [ND5 g0 g1 g2 g3 g4 g5],by decide,by rw [h9];decide⟩
  ·have h8:y.1=8:=of_decide_eq_true g4
   have hb2:Fp y=(1,2):=by unfold Fp;rw [if_neg (by omega),if_neg (by omega),if_pos h8]
   rw [hb2] at hb
   have:t.2.1≤1:=hb.2.1
   have hk8:(Ao y.1).1=2:=by rw [h8];rfl
   exact ⟨t.2.1,by rw [ND4 g0 g1 g2 g3 g4],hb.1,by rw [hk8];omega⟩
 ·have h8:y.1=8:=by
   by_cases h8:y.1=8
   ·exact h8
   ·rw [decide_eq_false h8] at g3;cases g3
  have hb2:Fp y=(1,2):=by unfold Fp;rw [if_neg (by omega),if_neg (by omega),if_pos h8]
  rw [hb2] at hb
  have:t.2.1≤1:=hb.2.1
  have:=hb.1
  have hk8:(Ao y.1).1=2:=by rw [h8];rfl
  exact ⟨1 - t.2.1,by rw [ND3 g0 g1 g2 g3],by omega,by rw [hk8];omega⟩
theorem T9 {α:Type} [DecidableEq α] {a:α} {l:List α} (h:a∈l):(l.erase a).length+1=l.length:=by
 have:=List.length_erase_of_mem h
 have h2:=List.length_pos_of_mem h
 omega
theorem Gx {α:Type} [DecidableEq α]:∀ (l m:List α),l.Nodup→(∀ a∈l,a∈m)→l.length≤m.length
 | [],_,_,_=>Nat.zero_le _
 | a :: l,m,h,hs=>by
  obtain ⟨h1,h2⟩:=List.nodup_cons.1 h
  have:=Gx l (m.erase a) h2 (fun b hb=>(List.mem_erase_of_ne (by rintro rfl;exact h1 hb)).2 (hs b (List.mem_cons_of_mem a hb)))
  have:=T9 (hs a List.mem_cons_self)
  rw [List.length_cons]
  omega
theorem O2 {α:Type} [DecidableEq α] {l m:List α} (h:l.Nodup) (hs:∀ a∈l,a∈m) (hl:m.length≤l.length):∀ a∈m,a∈l:=by
 intro a ha
 by_cases h1:a∈l
 ·exact h1
 ·have:=Gx l (m.erase a) h (fun b hb=>(List.mem_erase_of_ne (by rintro rfl;exact h1 hb)).2 (hs b hb))
  have:=T9 ha
  omega
def Py (x:PlT) (w:StT→Int):List (Int × Int):=(ints x.1.length).flatMap (fun i=>(ints (w (sg x i)).toNat).map (fun o=>(i,o)))
theorem Jg {x:PlT} {w:StT→Int} {i o:Int}:(i,o)∈Py x w↔(0≤i∧i < x.1.length∧0≤o∧o < w (sg x i)):=by
 unfold Py
 simp only [List.mem_flatMap,List.mem_map,Jf,Prod.mk.injEq]
 constructor
 ·rintro ⟨i',⟨h1,h2⟩,o',⟨h3,h4⟩,rfl,rfl⟩
  omega
 ·rintro ⟨h1,h2,h3,h4⟩
  exact ⟨i,⟨h1,h2⟩,o,⟨h3,by omega⟩,rfl,rfl⟩
theorem Hj {α:Type} (f:α→Int):∀ (l:List α) (a:Int),l.foldl (fun n c=>n+f c) a=a+l.foldl (fun n c=>n+f c) 0
 | [],a=>by simp
 | c :: l,a=>by
  rw [List.foldl_cons,List.foldl_cons,Hj f l (a+f c),Hj f l (0+f c)]
  omega
theorem N3 {x:PlT} {w:StT→Int} (hw:∀ s,0≤w s):((Py x w).length:Int)=x.1.foldl (fun a s=>a+w s) 0:=by
 have h1:∀ (l:List StT) (k:Nat) (f:Int→StT),(∀ i < l.length,f ((k+i:Nat):Int)=l.getD i zStg) →
  ((((List.range' k l.length).map (fun i:Nat=>(i:Int))).flatMap (fun i=>(ints (w (f i)).toNat).map (fun o=>(i,o)))).length:Int)=l.foldl (fun a s=>a+w s) 0:=by
  intro l
  induction l with
  | nil=>intro k f _;rfl
  | cons s l ih =>
   intro k f hf
   have e0:=hf 0 (by simp)
   have:=ih (k+1) f (fun i hi=>by have:=hf (i+1) (by simpa using hi);rw [show k+1+i=k+(i+1) by omega,this];simp)
   rw [List.length_cons,List.range'_succ,List.map_cons,List.flatMap_cons,List.length_append,List.length_map,H5,List.foldl_cons,Hj w l (0+w s)]
   rw [show f (k:Int)=s by simpa using e0]
   have:=hw s
   omega
 have:=h1 x.1 0 (sg x) (fun i hi=>by unfold sg;simp)
 rw [← this]
 unfold Py ints
 rw [List.range_eq_range']
theorem Ih {x:PlT} (w:WF x) (f:PipeT→Int × Int) (g:Int→Int→Int) (hg:∀ k < x.2.length,g (f (x.2.getD k Aw)).1 (f (x.2.getD k Aw)).2=k):(x.2.map f).Nodup:=by
 rw [List.nodup_iff_pairwise_ne,List.pairwise_iff_getElem]
 intro i j hi hj hij he
 rw [List.length_map] at hi hj
 rw [List.getElem_map,List.getElem_map] at he
 have h1:=hg i hi
 have h2:=hg j hj
 rw [Bt hi] at h1
 rw [Bt hj] at h2
 rw [he,h2] at h1
 omega
theorem X4 (l:List StT):E6 l=l.foldl (fun a s=>a+stOut s) 0+l.foldl (fun a s=>a+stIn s) 0:=by
 unfold E6
 induction l with
 | nil=>rfl
 | cons s l ih =>
  rw [List.foldl_cons,List.foldl_cons,List.foldl_cons,Hj (fun s=>stIn s+stOut s),Hj stOut,Hj stIn,ih]
  omega
theorem WF.outs {x:PlT} (w:WF x) {i o:Int} (h1:0≤i) (h2:i < x.1.length) (h3:0≤o) (h4:o < stOut (sg x i)):∃ k,k < x.2.length∧Cq x i o=(k:Int)∧(x.2.getD k Aw).1=i∧(x.2.getD k Aw).2.1=o:=by
 have a1:=Ih w (fun y=>(y.1,y.2.1)) (Cq x) (fun k hk=>(w.pipe hk).out)
 have a2:=Ih w (fun y=>(y.2.2.1,y.2.2.2.1)) (pIn x) (fun k hk=>(w.pipe hk).inp)
 have b1:∀ p∈x.2.map (fun y=>(y.1,y.2.1)),p∈Py x stOut:=fun p hp=>by
  obtain ⟨y,hy,rfl⟩:=List.mem_map.1 hp
  obtain ⟨k,hk,rfl⟩:=List.mem_iff_getElem.1 hy
  have:=w.pipe hk
  rw [Bt hk] at this
  exact Jg.2 ⟨this.f0,this.fn,this.o0,this.on⟩
 have b2:∀ p∈x.2.map (fun y=>(y.2.2.1,y.2.2.2.1)),p∈Py x stIn:=fun p hp=>by
  obtain ⟨y,hy,rfl⟩:=List.mem_map.1 hp
  obtain ⟨k,hk,rfl⟩:=List.mem_iff_getElem.1 hy
  have:=w.pipe hk
  rw [Bt hk] at this
  exact Jg.2 ⟨this.t0,this.tn,this.i0,this.iN⟩
 have c1:=Gx _ _ a1 b1
 have c2:=Gx _ _ a2 b2
 rw [List.length_map] at c1 c2
 have e1:=N3 (x:=x) Abq
 have e2:=N3 (x:=x) Ahg
 have e3:=X4 x.1
 have e4:=w.ends
 have:=O2 a1 b1 (by rw [List.length_map];omega) (i,o) (Jg.2 ⟨h1,h2,h3,h4⟩)
 obtain ⟨y,hy,he⟩:=List.mem_map.1 this
 obtain ⟨k,hk,rfl⟩:=List.mem_iff_getElem.1 hy
 have hp:=w.pipe hk
 rw [Bt hk] at hp
 rw [Prod.mk.injEq] at he
 refine ⟨k,hk,by rw [← he.1,← he.2];exact hp.out,by rw [Bt hk];exact he.1,by rw [Bt hk];exact he.2⟩
theorem WF.ins {x:PlT} (w:WF x) {i o:Int} (h1:0≤i) (h2:i < x.1.length) (h3:0≤o) (h4:o < stIn (sg x i)):∃ k,k < x.2.length∧pIn x i o=(k:Int)∧(x.2.getD k Aw).2.2.1=i∧(x.2.getD k Aw).2.2.2.1=o:=by
 have a1:=Ih w (fun y=>(y.1,y.2.1)) (Cq x) (fun k hk=>(w.pipe hk).out)
 have a2:=Ih w (fun y=>(y.2.2.1,y.2.2.2.1)) (pIn x) (fun k hk=>(w.pipe hk).inp)
 have b1:∀ p∈x.2.map (fun y=>(y.1,y.2.1)),p∈Py x stOut:=fun p hp=>by
  obtain ⟨y,hy,rfl⟩:=List.mem_map.1 hp
  obtain ⟨k,hk,rfl⟩:=List.mem_iff_getElem.1 hy
  have:=w.pipe hk
  rw [Bt hk] at this
  exact Jg.2 ⟨this.f0,this.fn,this.o0,this.on⟩
 have b2:∀ p∈x.2.map (fun y=>(y.2.2.1,y.2.2.2.1)),p∈Py x stIn:=fun p hp=>by
  obtain ⟨y,hy,rfl⟩:=List.mem_map.1 hp
  obtain ⟨k,hk,rfl⟩:=List.mem_iff_getElem.1 hy
  have:=w.pipe hk
  rw [Bt hk] at this
  exact Jg.2 ⟨this.t0,this.tn,this.i0,this.iN⟩
 have c1:=Gx _ _ a1 b1
 have c2:=Gx _ _ a2 b2
 rw [List.length_map] at c1 c2
 have e1:=N3 (x:=x) Abq
 have e2:=N3 (x:=x) Ahg
 have e3:=X4 x.1
 have e4:=w.ends
 have:=O2 a2 b2 (by rw [List.length_map];omega) (i,o) (Jg.2 ⟨h1,h2,h3,h4⟩)
 obtain ⟨y,hy,he⟩:=List.mem_map.1 this
 obtain ⟨k,hk,rfl⟩:=List.mem_iff_getElem.1 hy
 have hp:=w.pipe hk
 rw [Bt hk] at hp
 rw [Prod.mk.injEq] at he
 refine ⟨k,hk,by rw [← he.1,← he.2];exact hp.inp,by rw [Bt hk];exact he.1,by rw [Bt hk];exact he.2⟩
theorem WF.ne {x:PlT} (w:WF x) {k:Nat} (hk:k < x.2.length):(x.2.getD k Aw).1≠(x.2.getD k Aw).2.2.1:=by
 intro h
 have p:=w.pipe hk
 have:=Ahe (B:=[(x.2.getD k Aw).1]) (l:=x.2) (n:=x.1.length) (by simp) (fun i hi=>by rw [List.mem_singleton.1 hi];exact ⟨p.f0,p.fn⟩) w.tree
 have h2:0 < x.2.countP (Ky [(x.2.getD k Aw).1]):=List.countP_pos_iff.2 ⟨x.2.getD k Aw,by rw [Bt hk];exact List.getElem_mem hk,by unfold Ky;rw [← h];simp⟩
 simp only [List.length_singleton] at this
 omega
structure VS (x:PlT) (s:FsT):Prop where
 ls:s.1.length=x.1.length
 lc:s.2.1.length=x.2.length
 lo:(s.2.2.1.length:Int)=Bq x.1
 nd:∀ i < x.1.length,(Ar (sg x (i:Int)) (Ci s (i:Int))).2=0
 os:∀ l∈s.2.2.1,H0 l=false
 cr:∀ k < x.2.length,T8 s (x.2.getD k Aw) (s.2.1.getD k A9)=false
 no:∀ i < x.1.length,∀ n∈Br (sg x (i:Int)) (Ci s (i:Int)),Cf (Dt s (pIn x i n))=true
theorem Zy {x:PlT} {s:FsT}:J1 x s=true↔VS x s:=by
 unfold J1 N1
 constructor
 ·intro h
  split at h;· cases h
  rename_i h1
  split at h;· cases h
  rename_i h2
  split at h;· cases h
  rename_i h3
  split at h;· cases h
  rename_i h4
  simp only [not_or,Classical.not_not] at h1
  obtain ⟨a,b,c⟩:=h1
  simp only [Bool.not_eq_true,List.any_eq_false,List.mem_range,Bool.not_eq_true',decide_eq_false_iff_not,Classical.not_not,decide_eq_true_eq,Bool.not_eq_false,Bool.not_eq_eq_eq_not,Bool.not_true,Bool.not_false] at h2 h3 h4 h
  exact ⟨a,b,c,fun i hi=>h2 i (by omega),h3,fun k hk=>h4 k (by omega),fun i hi=>h i (by omega)⟩
 ·rintro ⟨a,b,c,d,e,f,g⟩
  rw [if_neg (by omega),if_neg,if_neg,if_neg]
  ·simp only [Bool.not_eq_true',List.any_eq_false,List.mem_range,Bool.not_eq_true,Bool.not_eq_false]
   exact fun i hi n hn=>by rw [g i (by omega) n hn]
  ·simp only [Bool.not_eq_true,List.any_eq_false,List.mem_range]
   exact fun k hk=>f k (by omega)
  ·simp only [Bool.not_eq_true,List.any_eq_false]
   exact fun l hl=>e l hl
  ·simp only [Bool.not_eq_true,List.any_eq_false,List.mem_range]
   exact fun i hi=>by rw [decide_eq_true (show (Ar (sg x (i:Int)) (s.1.getD i ([],0,false))).2=0 from d i (by omega))];rfl
theorem Cg {x:PlT} {s:FsT}:Cv x s=0↔WF x∧VS x s:=by
 unfold Cv
 rw [← Kz,← Zy]
 split
 ·rename_i h
  constructor
  ·intro h';omega
  ·rintro ⟨a,b⟩
   rcases h with h | h
   ·exact absurd a h
   ·rw [b] at h;cases h
 ·rename_i h
  simp only [not_or,Classical.not_not,Bool.not_eq_false] at h
  exact ⟨fun _=>h,fun _=>rfl⟩
theorem Fm {s:FsT} {y:PipeT} {c:Cred}:T8 s y c=false↔(Bp c=0∧c.1=y.2.2.2.2∧c.2.2.2.2.2=(Ci s y.1).2.2∧(c.2.2.2.2.2=false→c.2.1=c.2.2.2.1+c.1)):=by
 unfold T8 Ci
 simp only [Bool.or_eq_false_iff,Bool.not_eq_false',decide_eq_true_eq,Bool.and_eq_false_iff,Bool.not_eq_true',Bool.not_eq_eq_eq_not,Bool.not_false,Bool.not_true]
 constructor
 ·rintro ⟨a,b,c,d⟩
  refine ⟨a,b,c,fun h=>?_⟩
  rcases d with d | d
  ·rw [h] at d;cases d
  ·exact d
 ·rintro ⟨a,b,c,d⟩
  refine ⟨a,b,c, ?_⟩
  rename_i c'
  cases h:c'.2.2.2.2.2
  ·exact .inr (d h)
  ·exact .inl rfl
theorem Ii {α:Type} {l:List α} {i j:Nat} {a d:α}:(l.set i a).getD j d=if i=j∧j < l.length then a else l.getD j d:=by
 rw [List.getD_eq_getElem?_getD,List.getD_eq_getElem?_getD,List.getElem?_set]
 by_cases h:i=j
 ·subst h
  by_cases h2:i < l.length
  ·rw [if_pos rfl,if_pos h2,if_pos ⟨rfl,h2⟩];rfl
  ·rw [if_pos rfl,if_neg h2,if_neg (by omega),List.getElem?_eq_none (by omega)]
 ·rw [if_neg h,if_neg (by omega)]
structure Mv (x:PlT) (s:FsT) (i:Int) (m:MvT):Prop where
 en:(Ci s i).2.2=false
 nd:(Ar (sg x i) m.1).2=0
 len:(m.2.1.length:Int)=stOut (sg x i)
 good:∀ l∈m.2.1,∀ a∈l,Av a=false
 fl:m.2.2.1=m.1.2.2
 tk:m.2.2.2.1=true→0≤m.2.2.2.2.1∧m.2.2.2.2.1 < stIn (sg x i)∧∃ l,(Dt s (pIn x i m.2.2.2.2.1)).2.2.2.2.1=m.2.2.2.2.2.1 :: l
 no:∀ n∈Br (sg x i) m.1,n∈Br (sg x i) (Ci s i)∨Cf (Dt s (pIn x i n))=true
theorem Zz {x:PlT} {s:FsT} {i:Int} (h:(Cy x s i).2=true):(Ci s i).2.2=false ∧
 (((sg x i).1=1∧(s.2.2.2=true∨(Ci s i).2.1=(sg x i).2.2.2.length)∧Cy x s i=(Sc (sg x i) (Ci s i) (-1),true)) ∨
  ((sg x i).1=1∧¬ (s.2.2.2=true∨(Ci s i).2.1=(sg x i).2.2.2.length)∧Cy x s i=(J2 (sg x i) (Ci s i) false (-1) 0,true)) ∨
  ((sg x i).1≠1∧∃ k,k=(Ar (sg x i) (Ci s i)).1.getD 0 0∧((∃ v l,(Dt s (pIn x i k)).2.2.2.2.1=v :: l∧Cy x s i=(J2 (sg x i) (Ci s i) true k v,true)) ∨
     (Cf (Dt s (pIn x i k))=true∧Cy x s i=(Sc (sg x i) (Ci s i) k,true))))):=by
 unfold Cy at h ⊢
 split at h
 ·cases h
 ·rename_i h1
  refine ⟨by simpa using h1, ?_⟩
  rw [if_neg h1]
  split at h
  ·rename_i h2
   rw [if_pos h2]
   split at h
   ·rename_i h3;rw [if_pos h3];exact .inl ⟨h2,h3,rfl⟩
   ·rename_i h3;rw [if_neg h3];exact .inr (.inl ⟨h2,h3,rfl⟩)
  ·rename_i h2
   rw [if_neg h2]
   refine .inr (.inr ⟨h2,_,rfl, ?_⟩)
   split at h
   ·rename_i h3
    rw [if_pos h3]
    left
    cases hl:(Dt s (pIn x i ((Ar (sg x i) (Ci s i)).1.getD 0 0))).2.2.2.2.1 with
    | nil=>rw [hl] at h3;simp at h3
    | cons v l=>exact ⟨v,l,rfl,rfl⟩
   ·rename_i h3
    rw [if_neg h3]
    split at h
    ·rename_i h4;rw [if_pos h4];exact .inr ⟨h4,rfl⟩
    ·cases h
theorem Abv {x:PlT} {s:FsT} {i:Int} (v:VS x s) (h0:0≤i) (hn:i < x.1.length) (h:(Cy x s i).2=true) (he:(Cy x s i).1.2.2.2.2.2.2=0):Mv x s i (Cy x s i).1:=by
 have hnd:(Ar (sg x i) (Ci s i)).2=0:=by have:=v.nd i.toNat (by omega);rwa [show ((i.toNat:Nat):Int)=i by omega] at this
 obtain ⟨h1,⟨h2,h3,h4⟩ | ⟨h2,h3,h4⟩ | ⟨h2,k,hk,⟨a,l,h5,h4⟩ | ⟨h5,h4⟩⟩⟩:=Zz h <;> rw [h4] at he ⊢
 ·obtain ⟨a1,a2,a3,a4,a5,a6⟩:=Ahh he
  refine ⟨h1,a1,a2,a3,a4,fun h=>(by cases h),fun n hn=>?_⟩
  rcases a6 n hn with h | h
  ·exact .inl h
  ·exfalso
   have hn:n∈Br (sg x i) (Dz (sg x i) (Ci s i) (-1)).1:=hn
   unfold Br at hn
   rw [if_neg (by omega),if_neg (by omega),if_neg (by omega)] at hn
   simp at hn
 ·obtain ⟨a1,a2,a3,a4,a5,a6⟩:=Abt he
  exact ⟨h1,a1,a2,a3,by show false=_;rw [show (J2 (sg x i) (Ci s i) false (-1) 0).1.2.2=_ from a4,h1],fun h=>(by cases h),fun n hn=>.inl (a6 n hn)⟩
 ·obtain ⟨a1,a2,a3,a4,a5,a6⟩:=Abt he
  obtain ⟨k',k1,k2,k3⟩:=Abu hnd h2 h1
  rw [k1] at hk
  have hk:k=k':=hk
  refine ⟨h1,a1,a2,a3,by show false=_;rw [show (J2 (sg x i) (Ci s i) true k a).1.2.2=_ from a4,h1],fun h=>⟨?_, ?_,l,h5⟩,fun n hn=>.inl (a6 n hn)⟩
  ·show 0≤k;omega
  ·show k < _;omega
 ·obtain ⟨a1,a2,a3,a4,a5,a6⟩:=Ahh he
  refine ⟨h1,a1,a2,a3,a4,fun h=>(by cases h),fun n hn=>?_⟩
  rcases a6 n hn with h | h
  ·exact .inl h
  ·rw [h];exact .inr h5
theorem Ahi {c:Cred} {v:Int} {l:List Int} (h:Bp c=0) (hl:c.2.2.2.2.1=v :: l) (he:(Ig c).2=0):Bp (Ig c).1=0 ∧
 (Ig c).1=(c.1,(if c.2.2.2.2.2=true then c.2.1 else c.2.1+1),c.2.2.1,c.2.2.2.1+1,l,c.2.2.2.2.2):=by
 have h1:=Adm h hl
 have h2:=Ag6 (c:=c) (by rw [h1])
 unfold Ig at he ⊢
 rw [h1] at he h2 ⊢
 by_cases hc:c.2.2.2.2.2=true
 ·rw [if_neg (by simp [hc]),if_pos hc]
  exact ⟨h2.2.1,rfl⟩
 ·rw [if_pos (by simp [hc])] at he ⊢
  have h3:=Ajq he
  rw [if_neg hc]
  exact ⟨h3.2.1,h3.2.2.2.2.2.2⟩
theorem Ua {x:PlT} (w:WF x) {i:Int} (h0:0≤i) (hn:i < x.1.length) (o:List (List Int)) (b:Bool) (cr:List Cred) (hl:cr.length=x.2.length):∀ (N:Nat),(N:Int)≤stOut (sg x i) →
 ((ints N).foldl (Fl x i o b) cr).length=cr.length∧∀ k < x.2.length,((ints N).foldl (Fl x i o b) cr).getD k A9 =
   if (x.2.getD k Aw).1=i∧(x.2.getD k Aw).2.1 < N then Ag7 b (N2 (cr.getD k A9) (o.getD (x.2.getD k Aw).2.1.toNat [])) else cr.getD k A9
 | 0,_=>by
  refine ⟨rfl,fun k hk=>?_⟩
  have p:=w.pipe hk
  have:=p.o0
  rw [if_neg (by omega)];rfl
 | N+1,hN=>by
  obtain ⟨i1,i2⟩:=Ua w h0 hn o b cr hl N (by omega)
  have e:ints (N+1)=ints N++[(N:Int)]:=by simp [ints,List.range_succ]
  rw [e,List.foldl_append]
  generalize (ints N).foldl (Fl x i o b) cr=F at *
  show (Fl x i o b F N).length=_∧∀ k < x.2.length,(Fl x i o b F N).getD k A9=_
  unfold Fl
  rw [List.length_set]
  refine ⟨i1,fun k hk=>?_⟩
  rw [Ii]
  obtain ⟨j,j1,j2,j3,j4⟩:=w.outs h0 hn (show (0:Int)≤(N:Int) by omega) (by omega)
  have hj:(Cq x i (N:Int)).toNat=j:=by rw [j2];omega
  rw [hj]
  by_cases hjk:j=k
  ·subst hjk
   rw [if_pos ⟨rfl,by omega⟩,if_pos ⟨j3,by omega⟩,i2 j hk,if_neg (by omega),j4]
  ·rw [if_neg (fun h=>hjk h.1),i2 k hk]
   have:¬ ((x.2.getD k Aw).1=i∧(x.2.getD k Aw).2.1=N):=fun h=>hjk (by
    have:=(w.pipe hk).out
    rw [h.1,h.2,j2] at this
    omega)
   by_cases h1:(x.2.getD k Aw).1=i∧(x.2.getD k Aw).2.1 < N
   ·rw [if_pos h1,if_pos (by omega)]
   ·rw [if_neg h1,if_neg (by omega)]
theorem Adn {c:Cred}:Cf c=true↔(Bp c=0∧c.2.2.2.2.2=true∧c.2.2.2.2.1=[]):=by
 unfold Cf
 simp [and_assoc]
def crS (x:PlT) (i:Int) (m:MvT) (k:Nat) (c:Cred):Cred :=
 if (x.2.getD k Aw).1=i then (c.1,c.2.1,c.2.2.1+((m.2.1.getD (x.2.getD k Aw).2.1.toNat []).length:Int),c.2.2.2.1,c.2.2.2.2.1++m.2.1.getD (x.2.getD k Aw).2.1.toNat [],m.2.2.1)
 else if m.2.2.2.1=true∧(pIn x i m.2.2.2.2.1).toNat=k then (Ig c).1 else c
structure StepR (x:PlT) (s:FsT) (i:Int) (m:MvT) (t:FsT):Prop where
 w:WF x
 v:VS x s
 i0:0≤i
 iN:i < x.1.length
 is:Cy x s i=(m,true)
 e0:m.2.2.2.2.2.2=0
 mv:Mv x s i m
 sl:Zv x i m=true→(s.2.2.1.getD (Sd x i) []).length≠200
 tk:m.2.2.2.1=true→(Ig (Dt s (pIn x i m.2.2.2.2.1))).2=0
 ft:Fj x s i m.2.1=true
 st:t.1=s.1.set i.toNat m.1
 lc:t.2.1.length=x.2.length
 cr:∀ k < x.2.length,t.2.1.getD k A9=crS x i m k (s.2.1.getD k A9)
 ck:∀ k < x.2.length,Bp (t.2.1.getD k A9)=0
 ou:t.2.2.1=Se x i m s.2.2.1
 dr:t.2.2.2=s.2.2.2
theorem O3 {α:Type} (p:α→Bool):∀ (l:List α) (i:Nat) (d:α),i < l.length→p (l.getD i d)=true→(l.take i).countP p < l.countP p
 | [],_,_,h,_=>by simp at h
 | a :: l,0,d,_,hp=>by
  have hp:p a=true:=hp
  rw [List.countP_cons,if_pos hp]
  simp
 | a :: l,i+1,d,h,hp=>by
  have:=O3 p l i d (by simpa using h) (by simpa using hp)
  rw [List.take_succ_cons,List.countP_cons,List.countP_cons]
  omega
theorem StepR.vs {x:PlT} {s t:FsT} {i:Int} {m:MvT} (r:StepR x s i m t):VS x t:=by
 have hl:i.toNat < s.1.length:=by have:=r.v.ls;have:=r.i0;have:=r.iN;omega
 have hii:((i.toNat:Nat):Int)=i:=by have:=r.i0;omega
 have hss:∀ j:Int,0≤j→Ci t j=if j=i then m.1 else Ci s j:=fun j hj=>by
  unfold Ci
  rw [r.st,Ii]
  by_cases h:j=i
  ·subst h;rw [if_pos ⟨rfl,hl⟩,if_pos rfl]
  ·rw [if_neg (by have:=r.i0;omega),if_neg h]
 have hend:∀ k < x.2.length,Cf (s.2.1.getD k A9)=true→Cf (t.2.1.getD k A9)=true:=fun k hk he=>by
  obtain ⟨e1,e2,e3⟩:=Adn.1 he
  have c:=(Fm.1 (r.v.cr k hk)).2.2.1
  rw [r.cr k hk]
  unfold crS
  rw [if_neg,if_neg]
  ·exact he
  ·rintro ⟨ht,hk'⟩
   obtain ⟨t1,t2,l,t3⟩:=r.mv.tk ht
   unfold Dt at t3
   rw [hk',e3] at t3
   cases t3
  ·intro hi
   rw [hi,r.mv.en,e2] at c
   cases c
 refine ⟨by rw [r.st,List.length_set];exact r.v.ls,r.lc, ?_,fun j hj=>?_,fun l hl2=>?_,fun k hk=>Fm.2 ?_,fun j hj n hn=>?_⟩
 ·rw [r.ou]
  unfold Se
  split
  ·rw [List.length_set];exact r.v.lo
  ·exact r.v.lo
 ·rw [hss j (by omega)]
  by_cases h:(j:Int)=i
  ·rw [if_pos h,h];exact r.mv.nd
  ·rw [if_neg h];exact r.v.nd j hj
 ·rw [r.ou] at hl2
  unfold Se at hl2
  split at hl2
  ·rename_i hs
   rcases List.mem_or_eq_of_mem_set hl2 with h | h
   ·exact r.v.os l h
   ·subst h
    have hsl:=r.sl hs
    have hk10:(sg x i).1=10∧m.2.2.2.1=true:=by simpa [Zv] using hs
    have hs0:Sd x i < s.2.2.1.length:=by
     have hlo:=r.v.lo
     have:(x.1.take i.toNat).countP isSink < x.1.countP isSink:=O3 isSink x.1 i.toNat zStg (by have:=r.i0;have:=r.iN;omega) (decide_eq_true hk10.1)
     unfold Bq at hlo
     unfold Sd Bq
     omega
    have h1:=r.v.os _ (List.getElem_mem hs0)
    rw [Bt hs0] at hsl ⊢
    unfold H0 at h1 ⊢
    simp only [Bool.or_eq_false_iff,decide_eq_false_iff_not] at h1 ⊢
    refine ⟨by rw [List.length_append,List.length_singleton];omega, ?_⟩
    rw [List.any_append,h1.2,Bool.false_or]
    obtain ⟨t1,t2,l',t3⟩:=r.mv.tk hk10.2
    obtain ⟨k,k1,k2,k3,k4⟩:=r.w.ins r.i0 r.iN t1 t2
    have hc:=(Fm.1 (r.v.cr k k1)).1
    have hb:=(Dh hc).2.2.2.2.2.2.2.2
    unfold Dt at t3
    rw [k2] at t3
    simp only [Int.toNat_natCast] at t3
    rw [t3] at hb
    simp only [List.any_cons,Bool.or_eq_false_iff] at hb
    simp [hb.1]
  ·exact r.v.os l hl2
 ·obtain ⟨c1,c2,c3,c4⟩:=Fm.1 (r.v.cr k hk)
  have p:=r.w.pipe hk
  refine ⟨r.ck k hk, ?_⟩
  rw [r.cr k hk,hss _ p.f0]
  unfold crS
  by_cases hi:(x.2.getD k Aw).1=i
  ·rw [if_pos hi,if_pos hi]
   refine ⟨c2,r.mv.fl,fun _=>c4 ?_⟩
   rw [c3,hi];exact r.mv.en
  ·rw [if_neg hi,if_neg hi]
   split
   ·rename_i h
    obtain ⟨t1,t2,l,t3⟩:=r.mv.tk h.1
    have t4:=r.tk h.1
    unfold Dt at t3 t4
    rw [h.2] at t3 t4
    rw [(Ahi c1 t3 t4).2]
    refine ⟨c2,c3,fun hc=>?_⟩
    have:=c4 hc
    rw [if_neg (by rw [hc];simp)]
    show (s.2.1.getD k A9).2.1+1=(s.2.1.getD k A9).2.2.2.1+1+(s.2.1.getD k A9).1
    omega
   ·exact ⟨c2,c3,c4⟩
 ·rw [hss j (by omega)] at hn
  have hin:∀ n,Cf (Dt s (pIn x j n))=true→Cf (Dt t (pIn x j n))=true:=fun n he=>by
   unfold Dt at he ⊢
   refine hend _ ?_ he
   by_cases h:(pIn x j n).toNat < x.2.length
   ·exact h
   ·exfalso
    rw [List.getD_eq_getElem?_getD,List.getElem?_eq_none (by have:=r.v.lc;omega)] at he
    simp [Cf,A9,Bp,inR] at he
  by_cases h:(j:Int)=i
  ·rw [if_pos h] at hn
   rw [h] at hn
   rcases r.mv.no n hn with h1 | h1
   ·refine hin n ?_
    have:=r.v.no i.toNat (by have:=r.v.ls;omega) n (by rw [hii];exact h1)
    rw [hii] at this
    rwa [h]
   ·exact hin n (by rwa [h])
  ·rw [if_neg h] at hn
   exact hin n (r.v.no j hj n hn)
theorem Pz {α β:Type} {f g:β→α→β}:∀ (l:List α) (b:β),(∀ b,∀ a∈l,f b a=g b a)→l.foldl f b=l.foldl g b
 | [],_,_=>rfl
 | a :: l,b,h=>by
  rw [List.foldl_cons,List.foldl_cons,h b a List.mem_cons_self]
  exact Pz l _ (fun b c hc=>h b c (List.mem_cons_of_mem a hc))
theorem Ajv {x:PlT} {s:FsT} (h:Cv x s=0):s.2.1.foldl (fun n c=>n+(c.2.2.2.2.1.length:Int)) 0=s.2.1.foldl (fun n c=>n+(c.2.2.1 - c.2.2.2.1)) 0:=by
 obtain ⟨w,v⟩:=Cg.1 h
 refine Pz _ _ fun n c hc=>?_
 obtain ⟨k,hk,rfl⟩:=List.mem_iff_getElem.1 hc
 have:=(Fm.1 (v.cr k (by rw [← v.lc];exact hk))).1
 rw [Bt hk] at this
 have:=(Dh this).2.2.2.2.2.2.2.1
 omega
def Ub (x:PlT) (s:FsT):Prop:=(Al x s).2≠0∨(Al x s).1=[]
def J8 (x:PlT) (l:List Int) (k:Nat) (s:FsT):Int:=(Al x s).1.getD (Sf l k (Al x s).1.length).toNat 0
theorem Ado {x:PlT} {l:List Int} {m k:Nat} {s:FsT} {o:List Int} (h:Ub x s):Kd x l m k s o=(s,o,0):=by
 cases m with
 | zero=>rfl
 | succ m=>unfold Kd;rw [if_pos (show (Al x s).2≠0∨(Al x s).1=[] from h)]
theorem Ahj {x:PlT} {l:List Int} {m k:Nat} {s:FsT} {o:List Int} (h:¬ Ub x s) (he:(Du x s (J8 x l k s)).2≠0):Kd x l (m+1) k s o=(zFs,[],(Du x s (J8 x l k s)).2):=by
 unfold Kd;rw [if_neg (show ¬ ((Al x s).2≠0∨(Al x s).1=[]) from h)]
 show (if (Du x s (J8 x l k s)).2≠0 then _ else _)=_
 rw [if_pos he];rfl
theorem Ajw {x:PlT} {l:List Int} {m k:Nat} {s:FsT} {o:List Int} (h:¬ Ub x s) (he:(Du x s (J8 x l k s)).2=0):Kd x l (m+1) k s o=Kd x l m (k+1) (Du x s (J8 x l k s)).1 (o++[J8 x l k s]):=by
 rw [Kd,if_neg (show ¬ ((Al x s).2≠0∨(Al x s).1=[]) from h)]
 show (if (Du x s (J8 x l k s)).2≠0 then _ else _)=_
 rw [if_neg (by simpa using he)];rfl
end Go.Proofs.YtckpldpombdkgaaGreat
