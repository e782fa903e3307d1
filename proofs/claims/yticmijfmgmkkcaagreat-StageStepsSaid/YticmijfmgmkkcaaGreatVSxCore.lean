import Derived.Test.YticmijfmgmkkcaaGreatVSxTy
import GoSem.Dispatch
import GoSem.Core.Region
set_option linter.unusedSimpArgs false
set_option linter.unusedVariables false
set_option maxRecDepth 100000
namespace Go.Sx
inductive AV where
 | any
 | int (k:IntKind) (n:Int)
 | bool (b:Bool)
 | str (s:ByteArray)
 | val (v:Value)
 | nils
 | cap0
 | sl (t:Ty) (xs:List t.den)
 | ptr (id off:Nat)
 | rptr (id k row off:Nat)
 | eptr (cells:List PV)
 | own (id:Nat)
 | ownp (id k lo len:Nat)
 | mp (id:Nat)
 | fn (f:Fn) (first captured:List AV)
 | agg (cs:List AV)
 | tup (vs:List AV)
 | when (c:Prop) (s:Nat) (want:Bool) (v:AV)
 | yld (id:Nat)
 | rnd (id:Nat)
 | grow (id row:Nat)
 | gptr (id row col:Nat)
 | ownc (id k lo len:Nat)
 | slf (t:Ty) (xs:List t.den)
 | csl (t:Ty) (id n:Nat)
 | dmp (es:List (Int × List (Option PV)))
inductive Jump where
 | no
 | ret
 | exit (n:Nat)
inductive Ob where
 | dead
 | cells (cs:List AV)
 | rows (t:Ty) (xs:List t.den)
 | froz (t:Ty) (xs:List t.den)
 | fmap (es:List (Int × AV))
 | grid (t:Ty) (more:Nat) (xss:List (List t.den))
 | loop (st:LoopState) (pend:Jump) (ps:List Nat) (assign body:Code) (sl:List AV)
def getN {α:Type} (d:α):List α→Nat→α
 | [],_=>d
 | a :: _,0=>a
 | _ :: l,n+1=>getN d l n
def getOb (H:List Ob) (id:Nat):Ob:=getN .dead H id
def setN {α:Type} (v:α):List α→Nat→List α
 | [],_=>[]
 | _ :: l,0=>v :: l
 | a :: l,n+1=>a :: setN v l n
def ofCell:Value→AV
 | .int k n=>.int k n
 | .bool b=>.bool b
 | .string s=>.str s
 | .slice none 0 0=>.cap0
 | .agg _=>.any
 | .tuple _=>.any
 | v=>.val v
def oneCellB:Value→Bool
 | .agg _=>false
 | .tuple _=>false
 | _=>true
def ofConst:Value→AV
 | .agg cs=>if cs.toList.all oneCellB then .agg (cs.toList.map ofCell) else .any
 | .tuple _=>.any
 | v=>ofCell v
def upFs:List FnT→List AV
 | []=>[]
 | c :: l=>.eptr [.fn c] :: upFs l
def up:PV→AV
 | .fn .nil=>.val .nilFunc
 | .fn (.mk f caps)=>.fn (.func f) [] (upFs caps)
 | .int k n=>.int k n
 | .bool b=>.bool b
 | .str s=>.str s
 | .sl t xs=>.sl t xs
 | .nils=>.nils
 | .val v=>.val v
def downFs (H:List Ob) (rec:AV→Option (FnT × List Nat)):List AV→Option (List FnT × List Nat)
 | []=>some ([],[])
 | .eptr [.fn c] :: l=>(match downFs H rec l with
  | some (cs,ids)=>some (c :: cs,ids)
  | none=>none)
 | .ptr id off :: l=>(match getOb H id with
  | .cells xs=>if Nat.blt off xs.length then (match rec (getN .any xs off),downFs H rec l with
   | some (c,i1),some (cs,i2)=>some (c :: cs,id :: (i1++i2))
   | _,_=>none) else none
  | _=>none)
 | _=>none
def downFw (H:List Ob) (rec:AV→Option (FnT × List Nat)):AV→Option (FnT × List Nat)
 | .val .nilFunc=>some (.nil,[])
 | .fn (.func f) [] ys=>(match downFs H rec ys with
  | some (cs,ids)=>some (.mk f cs,ids)
  | none=>none)
 | _=>none
def downF (H:List Ob):AV→Option (FnT × List Nat):=downFw H (downFw H (downFw H fun _=>none))
def down (H:List Ob):AV→Option (PV × List Nat)
 | .fn f a b=>(match downF H (.fn f a b) with
  | some (T,l)=>some (.fn T,l)
  | none=>none)
 | .val .nilFunc=>some (.fn .nil,[])
 | .int k n=>some (.int k n,[])
 | .bool b=>some (.bool b,[])
 | .str s=>some (.str s,[])
 | .sl t xs=>some (.sl t xs,[])
 | .nils=>some (.nils,[])
 | .cap0=>some (.nils,[])
 | .val v=>some (.val v,[])
 | .own id=>match getOb H id with
  | .rows t xs=>some (.sl t xs,[id])
  | .froz t xs=>some (.sl t xs,[id])
  | .grid t m xss=>some (.sl (.sl t) (xss++List.replicate m []),[id])
  | _=>none
 | .ownp id k lo len=>match getOb H id with
  | .rows t xs=>if k == t.size then some (.sl t ((xs.drop lo).take len),[id]) else none
  | .froz t xs=>if k == t.size then some (.sl t ((xs.drop lo).take len),[id]) else none
  | _=>none
 | .ownc id k lo len=>match getOb H id with
  | .rows t xs=>if k == t.size then some (.sl t ((xs.drop lo).take len),[id]) else none
  | .froz t xs=>if k == t.size then some (.sl t ((xs.drop lo).take len),[id]) else none
  | _=>none
 | .slf t xs=>some (.sl t xs,[])
 | _=>none
def downL (H:List Ob):List AV→Option (List PV × List Nat)
 | []=>some ([],[])
 | x :: l=>match down H x,downL H l with
  | some (p,a),some (ps,b)=>some (p :: ps,a++b)
  | _,_=>none
def cellsOf:AV→Option (List AV)
 | .agg cs=>some cs
 | .any=>none
 | .tup _=>none
 | .when _ _ _ _=>none
 | .yld _=>none
 | .rnd _=>none
 | .grow _ _=>none
 | .gptr _ _ _=>none
 | .dmp _=>none
 | v=>some [v]
structure CR where
 need:Option Prop
 given:Option Prop
 news:List Ob
 res:AV
structure CG where
 cr:CR
 gen:(AV→Prop)→Prop
abbrev Ctr:=List AV→Option CG
inductive Sh where
 | any
 | ints (t:Ty)
 | agg (l:List Sh)
mutual
def fit:Sh→AV→AV
 | .ints t,.cap0=>.sl t []
 | .ints t,.nils=>.sl t []
 | .agg l,.agg cs=>.agg (fitL l cs)
 | .agg l,.tup cs=>.tup (fitL l cs)
 | _,x=>x
def fitL:List Sh→List AV→List AV
 | s :: ss,x :: l=>fit s x :: fitL ss l
 | _,l=>l
end
mutual
def shOf:AV→Sh
 | .sl t _=>.ints t
 | .agg cs=>.agg (shOfL cs)
 | .tup cs=>.agg (shOfL cs)
 | _=>.any
def shOfL:List AV→List Sh
 | []=>[]
 | x :: l=>shOf x :: shOfL l
end
structure Ctx where
 ty:List (TypeId × Ty)
 tab:List (FuncId × (List Sh × Ctr))
def lookL {α:Type}:List (Nat × α)→Nat→Option α
 | [],_=>none
 | (k,a) :: l,n=>if Nat.beq k n then some a else lookL l n
structure Res where
 need:Option Prop
 given:Option Prop
 val:AV
 news:List Ob
 kill:Option Nat
 st:Option (Nat × Ob)
 frz:List Nat
@[reducible] def Res.pure (v:AV):Res:=⟨none,none,v,[],none,none,[]⟩
def sizeT (P:Program) (t:TypeId):Nat:=match P.info? t with | some i=>i.size | none=>0
def bytesT (P:Program) (t:TypeId):Nat:=match P.info? t with | some i=>i.bytes | none=>0
def sizes:List Nat:=[8,16,24,32,40,48,56,64,72,80,88,96,104,112,120,1,2,4,128,136,144,152,160,168,176,184,192,200,208,216,224,232,240,248,256,264,272,280,288,296,304,312,320,328,336,344,352,360,368,376,384,392,400]
def nlit (n:Nat):List Nat→Option Nat
 | []=>none
 | a :: l=>if Nat.beq a n then some a else nlit n l
theorem nlit_eq {n m:Nat}:∀ {l:List Nat},nlit n l=some m→m=n
 | [],h=>by cases h
 | a :: l,h=>by
  unfold nlit at h
  split at h
  ·rename_i he
   cases h
   exact Nat.eq_of_beq_eq_true he
  ·exact nlit_eq h
def zeroT (P:Program) (t:TypeId):Option Value:=match P.info? t with | some i=>i.zero | none=>none
def fieldT (P:Program) (t:TypeId) (f:Nat):Option (TypeId × Nat):=match P.underlying t with | some (.struct fs)=>(fs[f]?).map (fun x=>(x.type,x.offset)) | _=>none
def readAt (P:Program) (t:TypeId) (cs:List AV) (off:Nat):Option AV :=
 match P.underlying t,P.info? t with
 | some (.struct _),some i=>if Nat.ble (off+i.size) cs.length then some (.agg ((cs.drop off).take i.size)) else none
 | some (.array _ _),some i=>if Nat.ble (off+i.size) cs.length then some (.agg ((cs.drop off).take i.size)) else none
 | some _,some _=>if Nat.blt off cs.length then some (getN .any cs off) else none
 | _,_=>none
def splice {α:Type}:List α→Nat→List α→List α
 | l,0,m=>m++l.drop m.length
 | [],_+1,_=>[]
 | a :: l,n+1,m=>a :: splice l n m
def inK:IntKind→Int→Prop
 | .i8,m=>-128≤m∧m≤127
 | .i16,m=>-32768≤m∧m≤32767
 | .i32,m=>-2147483648≤m∧m≤2147483647
 | .i64,m=>-9223372036854775808≤m∧m≤9223372036854775807
 | .u8,m=>0≤m∧m≤255
 | .u16,m=>0≤m∧m≤65535
 | .u32,m=>0≤m∧m≤4294967295
 | .u64,m=>0≤m∧m≤18446744073709551615
def bandI (k:IntKind) (a b:Int):Int:=k.wrap ((BitVec.ofInt k.bits a &&& BitVec.ofInt k.bits b).toNat:Nat)
def borI (k:IntKind) (a b:Int):Int:=k.wrap ((BitVec.ofInt k.bits a ||| BitVec.ofInt k.bits b).toNat:Nat)
def bxorI (k:IntKind) (a b:Int):Int:=k.wrap ((BitVec.ofInt k.bits a ^^^ BitVec.ofInt k.bits b).toNat:Nat)
def shlI (k:IntKind) (a b:Int):Int:=k.wrap (a * 2 ^ (min b.toNat k.bits))
def shrI (k:IntKind) (a b:Int):Int:=a.fdiv (2 ^ (min b.toNat k.bits))
def arith (op:BinOp) (k:IntKind) (a b:Int):Option Res :=
 match op with
 | .and=>some (.pure (.int k (bandI k a b)))
 | .or=>some (.pure (.int k (borI k a b)))
 | .xor=>some (.pure (.int k (bxorI k a b)))
 | .shl=>some ⟨some (0≤b),none,.int k (shlI k a b),[],none,none,[]⟩
 | .shr=>some ⟨some (0≤b),none,.int k (shrI k a b),[],none,none,[]⟩
 | .add=>some ⟨some (inK k (a+b)),none,.int k (a+b),[],none,none,[]⟩
 | .sub=>some ⟨some (inK k (a - b)),none,.int k (a - b),[],none,none,[]⟩
 | .mul=>some ⟨some (inK k (a * b)),none,.int k (a * b),[],none,none,[]⟩
 | .quo=>some ⟨some (b≠0∧inK k (a.tdiv b)),none,.int k (a.tdiv b),[],none,none,[]⟩
 | .rem=>some ⟨some (b≠0),none,.int k (a.tmod b),[],none,none,[]⟩
 | .lss=>some (.pure (.bool (decide (a < b))))
 | .leq=>some (.pure (.bool (decide (a≤b))))
 | .gtr=>some (.pure (.bool (decide (b < a))))
 | .geq=>some (.pure (.bool (decide (b≤a))))
 | .eql=>some (.pure (.bool (decide (a=b))))
 | .neq=>some (.pure (.bool (!decide (a=b))))
 | _=>none
def ltS (a b:ByteArray):Bool:=Op.bytesLess a.data.toList b.data.toList
def strOp (op:BinOp) (a b:ByteArray):Option Res :=
 match op with
 | .eql=>some (.pure (.bool (decide (a=b))))
 | .neq=>some (.pure (.bool (!decide (a=b))))
 | .lss=>some (.pure (.bool (ltS a b)))
 | .leq=>some (.pure (.bool (ltS a b || decide (a=b))))
 | .gtr=>some (.pure (.bool (!(ltS a b || decide (a=b)))))
 | .geq=>some (.pure (.bool (!ltS a b)))
 | _=>none
def eqF (P:Program) (xs ys:List AV):List Field→Option Bool
 | []=>some true
 | f :: fs=>(match P.underlying f.type,readAt P f.type xs f.offset,readAt P f.type ys f.offset with
  | some (.int _),some (.int k a),some (.int k' b)=>if IntKind.beq' k k' then (eqF P xs ys fs).map (fun r=>bif decide (a=b) then r else false) else none
  | some .bool,some (.bool a),some (.bool b)=>(eqF P xs ys fs).map (fun r=>bif a == b then r else false)
  | _,_,_=>none)
def eqOdd (P:Program) (t:TypeId) (fs:List Field):Bool:=P.stoodInHeld t || (P.eqGuardType P.depth t || fs.any (fun f=>f.name == "_"))
def unwrap (s:Nat) (want:Bool):AV→AV
 | .when c s' w v=>if Nat.beq s s' && (w == want) then v else .when c s' w v
 | v=>v
def pickV (q:Bool):AV→AV→Option Res
 | .bool x,.bool y=>some (.pure (.bool (bif q then x else y)))
 | .int k x,.int k' y=>if IntKind.beq' k k' then some (.pure (.int k (bif q then x else y))) else none
 | _,_=>none
structure PartS (α:Type) where
 need:Prop
 lo:Nat
 len:Nat
 xs:List α
def partS {α:Type} (xs:List α) (len:Nat):Option AV→Option AV→Option (PartS α)
 | none,none=>some ⟨True,0,len,xs⟩
 | some (.int _ l),none=>some ⟨0≤l∧l≤(len:Int),l.toNat,len - l.toNat,xs.drop l.toNat⟩
 | none,some (.int _ h)=>some ⟨0≤h∧h≤(len:Int),0,h.toNat,xs.take h.toNat⟩
 | some (.int _ l),some (.int _ h)=>some ⟨0≤l∧l≤h∧h≤(len:Int),l.toNat,h.toNat - l.toNat,(xs.drop l.toNat).take (h.toNat - l.toNat)⟩
 | _,_=>none
def roomP (hi:Option Operand) (room len:Nat):Nat:=match hi with
 | none=>len
 | some _=>room
def content (H:List Ob):AV→Option (Sigma fun t:Ty=>List t.den)
 | .sl t xs=>some ⟨t,xs⟩
 | .own id=>match getOb H id with
  | .rows t xs=>some ⟨t,xs⟩
  | .froz t xs=>some ⟨t,xs⟩
  | _=>none
 | .ownp id k lo len=>match getOb H id with
  | .rows t xs=>if k == t.size then some ⟨t,(xs.drop lo).take len⟩ else none
  | .froz t xs=>if k == t.size then some ⟨t,(xs.drop lo).take len⟩ else none
  | _=>none
 | .ownc id k lo len=>match getOb H id with
  | .rows t xs=>if k == t.size then some ⟨t,(xs.drop lo).take len⟩ else none
  | .froz t xs=>if k == t.size then some ⟨t,(xs.drop lo).take len⟩ else none
  | _=>none
 | .slf t xs=>some ⟨t,xs⟩
 | _=>none
def rowsP (t:Ty):List PV→Option (List (List t.den))
 | []=>some []
 | .nils :: l=>(rowsP t l).map fun ys=>[] :: ys
 | .sl t' xs :: l=>(match castL t' t xs with
  | some zs=>(rowsP t l).map fun ys=>zs :: ys
  | none=>none)
 | _ :: _=>none
mutual
def lowerArg (H:List Ob):AV→Option (AV × List Nat)
 | .own id=>(down H (.own id)).map fun p=>(up p.1,p.2)
 | .ownp id k lo len=>(down H (.ownp id k lo len)).map fun p=>(up p.1,p.2)
 | .ownc id k lo len=>(down H (.ownc id k lo len)).map fun p=>(up p.1,p.2)
 | .slf t xs=>some (.sl t xs,[])
 | .csl t id n=>match getOb H id with
  | .cells cs=>if Nat.beq cs.length n && Nat.ble n 1000000 then (match downL H cs with
   | some (ps,l)=>(match rowsP t ps with
    | some xss=>some (.sl (.sl t) xss,id :: l)
    | none=>none)
   | none=>none) else none
  | _=>none
 | .ptr id off=>match getOb H id with
  | .cells cs=>match downL H (cs.drop off) with
   | some (ps,l)=>some (.eptr ps,id :: l)
   | none=>none
  | _=>none
 | .rptr id k row off=>match getOb H id with
  | .rows t xs=>if k == t.size then some (.eptr ((enc t (xs.getD row (dflt t))).drop off),[id]) else none
  | .froz t xs=>if k == t.size then some (.eptr ((enc t (xs.getD row (dflt t))).drop off),[id]) else none
  | _=>none
 | .agg cs=>match lowerArgs H cs with | some (l,m)=>some (.agg l,m) | none=>none
 | .fn f a b=>match lowerArgs H a,lowerArgs H b with | some (a',m),some (b',m')=>some (.fn f a' b',m++m') | _,_=>none
 | .tup _=>none
 | .when _ _ _ _=>none
 | .any=>none
 | .mp _=>none
 | .yld _=>none
 | .rnd _=>none
 | .grow _ _=>none
 | .gptr _ _ _=>none
 | .dmp _=>none
 | v=>some (v,[])
def lowerArgs (H:List Ob):List AV→Option (List AV × List Nat)
 | []=>some ([],[])
 | x :: l=>match lowerArg H x,lowerArgs H l with
  | some (y,a),some (ys,b)=>some (y :: ys,a++b)
  | _,_=>none
end
mutual
def shift (n:Nat):AV→AV
 | .own id=>.own (n+id)
 | .agg cs=>.agg (shiftL n cs)
 | .tup vs=>.tup (shiftL n vs)
 | v=>v
def shiftL (n:Nat):List AV→List AV
 | []=>[]
 | x :: l=>shift n x :: shiftL n l
end
mutual
def plainRes (news:List Ob):AV→Bool
 | .int _ _=>true
 | .bool _=>true
 | .str _=>true
 | .nils=>true
 | .cap0=>true
 | .own id=>match getOb news id with | .rows t _=>t.flat | _=>false
 | .agg cs=>plainResL news cs
 | .tup vs=>plainResL news vs
 | _=>false
def plainResL (news:List Ob):List AV→Bool
 | []=>true
 | x :: l=>plainRes news x && plainResL news l
end
def eptrB:AV→Bool
 | .eptr _=>true
 | _=>false
mutual
def fineRes:AV→Bool
 | .eptr _=>true
 | .fn _ a b=>a.all eptrB && b.all eptrB
 | .int _ _=>true
 | .bool _=>true
 | .str _=>true
 | .nils=>true
 | .cap0=>true
 | .val _=>true
 | .sl _ _=>true
 | .own _=>true
 | .dmp _=>true
 | .agg cs=>fineResL cs
 | .tup vs=>fineResL vs
 | _=>false
def fineResL:List AV→Bool
 | []=>true
 | x :: l=>fineRes x && fineResL l
end
def flatOb:Ob→Bool
 | .rows t _=>t.flat
 | _=>false
def fineOb:Ob→Bool
 | .rows _ _=>true
 | _=>false
def callC (cx:Ctx) (H:List Ob) (n:Nat) (g:FuncId) (args:List AV):Option Res :=
 match lookL cx.tab g with
 | none=>none
 | some (shs,C)=>match lowerArgs H args with
  | none=>none
  | some (args',ids)=>match C (fitL shs args') with
   | none=>none
   | some ⟨r,_⟩ =>
    if fineRes r.res && r.news.all fineOb then
     (if plainRes r.news r.res && r.news.all flatOb then some ⟨r.need,r.given,shift n r.res,r.news,none,none,[]⟩
      else some ⟨r.need,r.given,shift n r.res,r.news,none,none,ids⟩)
    else none
def lim:Nat:=140737488355328
def big:Nat:=9223372036854775807
def zeroFits (P:Program) (elem:TypeId) (t:Ty):Bool:=match zeroT P elem with | some z=>Nat.beq z.cells.size t.size | none=>false
def appendC (P:Program) (H:List Ob) (elem:TypeId) (id k lo len:Nat) (src:AV):Option Res :=
 match content H src with
 | none=>none
 | some ⟨t,ys⟩=>match getOb H id with
  | .rows t' xs=>if Nat.beq (sizeT P elem) t'.size && Nat.beq k t'.size then
   (match castL t t' ys with
   | some zs=>some ⟨some (lo+len+zs.length≤xs.length),none,.ownc id k lo (len+zs.length),[],none,some (id,.rows t' (xs.take (lo+len)++(zs++xs.drop (lo+len+zs.length)))),[]⟩
   | none=>none) else none
  | _=>none
def appendF (P:Program) (H:List Ob) (n:Nat) (elem:TypeId) (u:Ty) (xs:List u.den) (src:AV):Option Res :=
 match content H src with
 | none=>none
 | some ⟨t,ys⟩ =>
  if Nat.beq (sizeT P elem) u.size && zeroFits P elem u && Nat.ble 1 (bytesT P elem) then
   match nlit (bytesT P elem) sizes,castL t u ys with
   | some bs,some zs=>some ⟨some (zs≠[]∧(xs.length+zs.length) * bs≤lim),none,.own n,[.rows u (xs++zs)],none,none,[]⟩
   | _,_=>none
  else none
def appendV0 (P:Program) (H:List Ob) (n:Nat) (elem:TypeId) (dst src:AV):Option Res :=
 match content H src with
 | none=>(match P.info? elem with | none=>none | some _=>match src,dst with
  | .cap0,.cap0=>some (.pure .cap0)
  | .nils,.cap0=>some (.pure .cap0)
  | .cap0,.own id=>(match getOb H id with | .rows _ _=>some (.pure (.own id)) | _=>none)
  | .nils,.own id=>(match getOb H id with | .rows _ _=>some (.pure (.own id)) | _=>none)
  | _,_=>none)
 | some ⟨t,ys⟩ =>
  if Nat.beq (sizeT P elem) t.size && zeroFits P elem t && Nat.ble 1 (bytesT P elem) then
   match nlit (bytesT P elem) sizes with
   | none=>none
   | some bs=>match dst with
   | .cap0=>some ⟨some (ys.length * bs≤lim),none,.own n,[.rows t ys],none,none,[]⟩
   | .own id=>match getOb H id with
    | .rows t' xs=>match castL t t' ys with
     | some zs=>some ⟨some ((xs.length+zs.length) * bs≤lim),none,.own n,[.rows t' (xs++zs)],some id,none,[]⟩
     | none=>none
    | _=>none
   | .ownp id k lo len=>match getOb H id with
    | .rows t' xs=>if Nat.beq k t'.size then (match castL t t' ys with
     | some zs=>some ⟨some ((((xs.drop lo).take len).length+zs.length) * bs≤lim),none,.own n,[.rows t' ((xs.drop lo).take len++zs)],some id,none,[]⟩
     | none=>none) else none
    | _=>none
   | _=>none
  else none
def sameB:AV→AV→Bool
 | .ownp id _ _ _,.ownp id' _ _ _=>Nat.beq id id'
 | _,_=>false
def appendP (P:Program) (H:List Ob) (elem:TypeId) (dst src:AV):Option Res :=
 match dst,content H src with
 | .ownp id k lo len,some ⟨t,ys⟩=>(match getOb H id with
  | .rows t' xs=>if Nat.beq (sizeT P elem) t'.size && Nat.beq k t'.size then
   (match castL t t' ys with
   | some zs=>some ⟨some (lo+len+zs.length≤xs.length),none,.ownp id k lo (len+zs.length),[],none,some (id,.rows t' (xs.take (lo+len)++(zs++xs.drop (lo+len+zs.length)))),[]⟩
   | none=>none) else none
  | _=>none)
 | _,_=>none
def appendV (P:Program) (H:List Ob) (n:Nat) (elem:TypeId) (dst src:AV):Option Res :=
 if sameB dst src then appendP P H elem dst src else
 match dst with
 | .ownc id k lo len=>appendC P H elem id k lo len src
 | .slf u xs=>appendF P H n elem u xs src
 | dst=>appendV0 P H n elem dst src
def isSliceT (P:Program) (t:TypeId):Bool:=match P.underlying t with | some (.slice _)=>(P.info? t).isSome | _=>false
def appendZ (cx:Ctx) (P:Program) (n:Nat) (t t':TypeId) (dst src:AV):Option Res :=
 match P.underlying t,P.underlying t',dst,src with
 | some (.slice elem),some (.int _),.cap0,.int _ c=>(match lookL cx.ty elem,zeroT P elem with
  | some ty,some z=>if Nat.beq (sizeT P elem) ty.size && z.cells.toList.all oneCellB then
   (match downL [] (z.cells.toList.map ofCell) with
   | some (ps,_)=>(match dec ty ps,nlit (bytesT P elem) sizes with
    | some y,some bs=>some ⟨some (0 < c∧c * (bs:Int)≤(lim:Int)∧c≤(lim:Int)),none,.own n,[.rows ty (List.replicate c.toNat y)],none,none,[]⟩
    | _,_=>none)
   | none=>none) else none
  | _,_=>none)
 | _,_,_,_=>none
def partRow (H:List Ob):AV→Option (Nat × Ob)
 | .ownp id k lo len=>match getOb H id with
  | .rows t xs=>if Nat.beq k t.size then some (id,.rows t ((xs.drop lo).take len)) else none
  | _=>none
 | _=>none
def lookD {α:Type} (q:Int) (z:α):List (Int × α)→α
 | []=>z
 | (p,a) :: l=>if q=p then a else lookD q z l
def memD {α:Type} (q:Int):List (Int × α)→Bool
 | []=>false
 | (p,_) :: l=>if q=p then true else memD q l
def colI (k:IntKind):List (Int × AV)→Option (List (Int × Int))
 | []=>some []
 | (p,.int k' n) :: l=>if IntKind.beq' k' k then (match colI k l with | some r=>some ((p,n) :: r) | none=>none) else none
 | _=>none
def colS:List (Int × AV)→Option (List (Int × ByteArray))
 | []=>some []
 | (p,.str s) :: l=>(match colS l with | some r=>some ((p,s) :: r) | none=>none)
 | _=>none
def merge1 (q:Int) (z:AV) (es:List (Int × AV)):AV:=match z with
 | .int k n=>(match colI k es with | some l=>.int k (lookD q n l) | none=>.any)
 | .str s=>(match colS es with | some l=>.str (lookD q s l) | none=>.any)
 | _=>.any
def aggs (m:Nat):List (Int × AV)→Option (List (Int × List AV))
 | []=>some []
 | (p,.agg cs) :: l=>if Nat.beq cs.length m then (match aggs m l with | some r=>some ((p,cs) :: r) | none=>none) else none
 | _=>none
def mergeL (q:Int):List AV→List (Int × List AV)→List AV
 | [],_=>[]
 | z :: zs,l=>merge1 q z (l.map fun p=>(p.1,p.2.headD .any)) :: mergeL q zs (l.map fun p=>(p.1,p.2.tail))
def mergeV (q:Int) (z:AV) (es:List (Int × AV)):Option AV:=match z with
 | .agg zs=>(match aggs zs.length es with | some l=>some (.agg (mergeL q zs l)) | none=>none)
 | _=>none
def lookR (ok:Bool) (v:AV) (b:Bool):AV:=match ok with
 | true=>.tup [v,.bool b]
 | false=>v
def cellAV:Option PV→AV
 | some p=>up p
 | none=>.any
def dmpE (es:List (Int × List (Option PV))):List (Int × AV):=es.map fun p=>(p.1,.agg (p.2.map cellAV))
def evOp (cx:Ctx) (P:Program) (e:Operand→AV) (H:List Ob) (n:Nat) (o:Oper):Option Res :=
 match o.op with
 | .move x=>some (.pure (e x))
 | .assign x=>some (.pure (e x))
 | .pick c a b=>match e c with
  | .bool q=>(match c with
   | .tmp s=>pickV q (unwrap s true (e a)) (unwrap s false (e b))
   | _=>none)
  | _=>none
 | .extract x i=>match e x with
  | .tup vs=>if Nat.blt i vs.length then some (.pure (getN .any vs i)) else none
  | _=>none
 | .makeFunc f first captured=>some (.pure (.fn f (first.toList.map e) (captured.toList.map e)))
 | .alloc t=>match zeroT P t with
  | some z=>if z.cells.toList.all oneCellB then some ⟨none,none,.ptr n 0,[.cells (z.cells.toList.map ofCell)],none,none,[]⟩ else none
  | none=>none
 | .makeMap _ none=>some ⟨none,none,.mp n,[.fmap []],none,none,[]⟩
 | .insert t m k x=>match P.underlying t with
  | some (.map kt _)=>(match P.underlying kt,e m,e k,e x with
   | some (.int _),.mp id,.int .i64 q,y=>(match getOb H id with
    | .fmap es=>if es.all (fun p=>!decide (q=p.1)) then some ⟨none,none,.any,[],none,some (id,.fmap (es++[(q,y)])),[]⟩ else none
    | _=>none)
   | _,_,_,_=>none)
  | _=>none
 | .box _ x=>match cellsOf (e x) with
  | some cs=>some ⟨none,none,.ptr n 0,[.cells cs],none,none,[]⟩
  | none=>none
 | .build t parts=>match zeroT P t,P.underlying t with
  | some (.agg z),some (.struct fs)=>if z.toList.all oneCellB && fs.toList.all (fun f=>(P.info? f.type).isSome) then
   (match buildGo P t e parts.toList (z.toList.map ofCell) with
   | some cs=>some (.pure (.agg cs))
   | none=>none) else none
  | some (.agg z),some (.array _ elem)=>if z.toList.all oneCellB && (P.info? elem).isSome then
   (match arrGo (sizeT P elem) e parts.toList (z.toList.map ofCell) with
   | some cs=>some (.pure (.agg cs))
   | none=>none) else none
  | _,_=>none
 | .buildSlice t len parts=>match P.underlying t with
  | some (.slice elem) =>
   match lookL cx.ty elem,zeroT P elem with
   | some ty,some _=>if Nat.beq len 0 then (if parts.toList.isEmpty && Nat.beq (sizeT P elem) ty.size then some (.pure .cap0) else none) else
    if Nat.beq (sizeT P elem) ty.size && Nat.ble (len * sizeT P elem) 1000 then
     (match rowsGo H ty e 0 parts.toList with
     | some (xs,ids)=>if Nat.beq xs.length len then some ⟨none,none,.own n,[.rows ty xs],none,none,ids⟩ else none
     | none=>none) else none
   | _,_=>none
  | _=>none
 | .load t x=>match e x with
  | .ptr id off=>(match getOb H id with
   | .cells cs=>(readAt P t cs off).map .pure
   | _=>none)
  | .rptr id k row off=>(match getOb H id with
   | .rows ty xs=>if Nat.beq k ty.size then (readAt P t ((enc ty (xs.getD row (dflt ty))).map up) off).map .pure else none
   | .froz ty xs=>if Nat.beq k ty.size then (readAt P t ((enc ty (xs.getD row (dflt ty))).map up) off).map .pure else none
   | .grid _ _ xss=>if Nat.beq k 1 && (Nat.beq off 0 && isSliceT P t) then some ⟨some (row < xss.length),none,.grow id row,[],none,none,[]⟩ else none
   | _=>none)
  | .gptr id i j=>(match getOb H id with
   | .grid gt _ xss=>if Nat.beq gt.size 1 then (readAt P t ((enc gt ((xss.getD i []).getD j (dflt gt))).map up) 0).map .pure else none
   | _=>none)
  | .eptr cs=>(readAt P t (cs.map up) 0).map .pure
  | _=>none
 | .store t a x=>match cellsOf (e x) with
  | none=>none
  | some vs=>if Nat.beq vs.length (sizeT P t) then
   (match P.info? t with | none=>none | some _=>match e a with
   | .ptr id off=>(match getOb H id with
    | .cells cs=>if Nat.ble (off+vs.length) cs.length then (match partRow H (e x) with
     | some (id2,ob)=>some ⟨none,none,.any,[ob],some id2,some (id,.cells (splice cs off [.own n])),[]⟩
     | none=>some ⟨none,none,.any,[],none,some (id,.cells (splice cs off vs)),[]⟩) else none
    | _=>none)
   | .rptr id k row off=>(match getOb H id with
    | .rows ty xs=>if Nat.beq k ty.size && Nat.ble (off+vs.length) k then
     (match downL H vs with
     | some (ps,ids)=>(match dec ty (splice (enc ty (xs.getD row (dflt ty))) off ps) with
      | some y=>if ids.contains id then none else some ⟨none,none,.any,[],none,some (id,.rows ty (xs.set row y)),ids⟩
      | none=>none)
     | none=>none) else none
    | .grid gt m xss=>if Nat.beq k 1 && Nat.beq off 0 then
     (match e x with
     | .own j=>(match getOb H j with
      | .rows t' xs=>(match castL t' gt xs with
       | some zs=>some ⟨some (row=xss.length∧1≤m),none,.any,[],some j,some (id,.grid gt (m - 1) (xss++[zs])),[]⟩
       | none=>none)
      | _=>none)
     | _=>none) else none
    | _=>none)
   | .gptr id i j=>(match getOb H id with
    | .grid gt m xss=>if Nat.beq gt.size 1 && gt.flat then
     (match downL H vs with
     | some (ps,_)=>(match dec gt ps with
      | some y=>some ⟨none,none,.any,[],none,some (id,.grid gt m (xss.set i ((xss.getD i []).set j y))),[]⟩
      | none=>none)
     | none=>none) else none
    | _=>none)
   | _=>none) else none
 | .nilCheck x=>match e x with
  | .ptr id off=>some (.pure (.ptr id off))
  | .rptr id k row off=>some (.pure (.rptr id k row off))
  | .eptr cs=>some (.pure (.eptr cs))
  | .fn (.func f) a b=>some (.pure (.fn (.func f) a b))
  | _=>none
 | .binOp op t x y _=>match e x,e y with
  | .int k a,.int k' b=>if IntKind.beq' k k' then arith op k a b else none
  | .bool a,.bool b=>(match op,P.underlying t with
   | .eql,some .bool=>some (.pure (.bool (a == b)))
   | .neq,some .bool=>some (.pure (.bool (!(a == b))))
   | _,_=>none)
  | .str a,.str b=>strOp op a b
  | .agg xs,.agg ys=>(match P.underlying t with
   | some (.struct fs)=>(match eqF P xs ys fs.toList with
    | some b=>(match op with
     | .eql=>some ⟨some (eqOdd P t fs.toList=false),none,.bool b,[],none,none,[]⟩
     | .neq=>some ⟨some (eqOdd P t fs.toList=false),none,.bool (!b),[],none,none,[]⟩
     | _=>none)
    | none=>none)
   | _=>none)
  | _,_=>none
 | .unOp op _ x=>match op,e x with
  | .not,.bool b=>some (.pure (.bool (!b)))
  | .neg,.int k a=>some ⟨some (inK k (0 - a)),none,.int k (0 - a),[],none,none,[]⟩
  | _,_=>none
 | .convert src dst x=>match P.underlying src,P.underlying dst,e x with
  | some (.int _),some (.int k),.int _ a=>some ⟨some (inK k a),none,.int k a,[],none,none,[]⟩
  | _,_,_=>none
 | .fieldAddr t x f=>match fieldT P t f with
  | some (ft,d)=>if Nat.beq (sizeT P ft) 0 then none else
   (match e x with
   | .ptr id off=>some (.pure (.ptr id (off+d)))
   | .rptr id k row off=>some (.pure (.rptr id k row (off+d)))
   | .eptr cs=>some (.pure (.eptr (cs.drop d)))
   | _=>none)
  | none=>none
 | .field t x f=>match fieldT P t f,e x with
  | some (ft,d),.agg cs=>(readAt P ft cs d).map .pure
  | _,_=>none
 | .lookup t m k ok=>match P.underlying t with
  | some (.map kt et)=>(match P.underlying kt,zeroT P et,e m,e k with
   | some (.int _),some z,.dmp es,.int .i64 q=>(match mergeV q (ofConst z) (dmpE es) with
    | some v=>some (.pure (lookR ok v (memD q (dmpE es))))
    | none=>none)
   | _,_,_,_=>none)
  | _=>none
 | .index t x ix=>match P.underlying t,e x,e ix with
  | some .string,.str s,.int _ i=>some ⟨some (0≤i∧i < (s.size:Int)),none,.int .u8 ((s.data.toList.getD i.toNat 0).toNat:Int),[],none,none,[]⟩
  | _,_,_=>none
 | .indexAddr t x ix=>match P.underlying t,e ix with
  | some (.slice elem),.int _ i=>(match e x with
   | .sl ty xs=>if Nat.beq (sizeT P elem) ty.size then some ⟨some (0≤i∧i < (xs.length:Int)),none,.eptr (enc ty (xs.getD i.toNat (dflt ty))),[],none,none,[]⟩ else none
   | .own id=>(match getOb H id with
    | .rows ty xs=>if Nat.beq (sizeT P elem) ty.size then some ⟨some (0≤i∧i < (xs.length:Int)),none,.rptr id ty.size i.toNat 0,[],none,none,[]⟩ else none
    | .froz ty xs=>if Nat.beq (sizeT P elem) ty.size then some ⟨some (0≤i∧i < (xs.length:Int)),none,.rptr id ty.size i.toNat 0,[],none,none,[]⟩ else none
    | .grid _ m xss=>if Nat.beq (sizeT P elem) 1 then some ⟨some (0≤i∧i < ((xss.length+m:Nat):Int)),none,.rptr id 1 i.toNat 0,[],none,none,[]⟩ else none
    | _=>none)
   | .grow id gi=>(match getOb H id with
    | .grid gt _ xss=>if Nat.beq (sizeT P elem) 1 && Nat.beq gt.size 1 then some ⟨some (gi < xss.length∧0≤i∧i < ((xss.getD gi []).length:Int)),none,.gptr id gi i.toNat,[],none,none,[]⟩ else none
    | _=>none)
   | .csl _ id m=>(match getOb H id with
    | .cells _=>if Nat.beq (sizeT P elem) 1 then some ⟨some (0≤i∧i < (m:Int)),none,.ptr id i.toNat,[],none,none,[]⟩ else none
    | _=>none)
   | .ownc id k lo len=>(match getOb H id with
    | .dead=>none
    | _=>if Nat.beq (sizeT P elem) k && Nat.ble 1 k then some ⟨some (0≤i∧i < (len:Int)),none,.rptr id k (lo+i.toNat) 0,[],none,none,[]⟩ else none)
   | .ownp id k lo len=>(match getOb H id with
    | .dead=>none
    | _=>if Nat.beq (sizeT P elem) k && Nat.ble 1 k then some ⟨some (0≤i∧i < (len:Int)),none,.rptr id k (lo+i.toNat) 0,[],none,none,[]⟩ else none)
   | _=>none)
  | some (.array len elem),.int _ i=>(match P.info? elem with
   | none=>none
   | some _=>(match e x with
    | .ptr id off=>some ⟨some (0≤i∧i < (len:Int)),none,.ptr id (off+i.toNat * sizeT P elem),[],none,none,[]⟩
    | _=>none))
  | _,_=>none
 | .slice t x lo hi mx=>match P.underlying t with
  | some (.slice elem)=>(match mx with
   | some (.const (.int _ 0))=>(match lo,hi with
    | none,some (.const (.int _ 0))=>(match P.info? elem with | none=>none | some _=>match e x with
     | .sl _ _=>some (.pure .cap0)
     | .own id=>(match getOb H id with
      | .rows _ _=>some (.pure .cap0)
      | .froz _ _=>some (.pure .cap0)
      | _=>none)
     | .ownp id _ _ _=>(match getOb H id with
      | .dead=>none
      | _=>some (.pure .cap0))
     | .cap0=>some (.pure .cap0)
     | .nils=>some (.pure .cap0)
     | _=>none)
    | _,_=>none)
   | some m=>(match lo,hi,e x with
    | none,some h,.sl ty xs=>(match e h,e m with
     | .int _ a,.int _ b=>if Nat.beq (sizeT P elem) ty.size then some ⟨some (0≤a∧a=b∧a≤(xs.length:Int)),none,.slf ty (xs.take a.toNat),[],none,none,[]⟩ else none
     | _,_=>none)
    | some l,some h,.own id=>(match getOb H id with
     | .rows ty xs=>(match e l,e h,e m with
      | .int _ a,.int _ b,.int _ c=>if Nat.beq (sizeT P elem) ty.size then some ⟨some (0≤a∧a≤b∧b≤c∧c≤(xs.length:Int)),none,.any,[],none,none,[]⟩ else none
      | _,_,_=>none)
     | _=>none)
    | _,_,_=>none)
   | none=>(match e x with
    | .ownp id k l0 n0=>(match getOb H id with
     | .rows ty xs=>if Nat.beq (sizeT P elem) ty.size && Nat.beq k ty.size then
      (match partS (List.replicate (roomP hi (xs.length - l0) n0) ()) (roomP hi (xs.length - l0) n0) (lo.map e) (hi.map e) with
      | some ⟨q,l,m,_⟩=>some ⟨some (q∧l0+n0≤xs.length),none,.ownp id k (l0+l) m,[],none,none,[]⟩
      | none=>none) else none
     | _=>none)
    | .sl ty xs=>if Nat.beq (sizeT P elem) ty.size then
     (match partS xs xs.length (lo.map e) (hi.map e) with
     | some ⟨q,_,_,ys⟩=>some ⟨some q,none,.sl ty ys,[],none,none,[]⟩
     | none=>none) else none
    | .own id=>(match getOb H id with
     | .rows ty xs=>if Nat.beq (sizeT P elem) ty.size then
      (match partS xs xs.length (lo.map e) (hi.map e) with
      | some ⟨q,l,m,_⟩=>some ⟨some q,none,.ownp id ty.size l m,[],none,none,[]⟩
      | none=>none) else none
     | .froz ty xs=>if Nat.beq (sizeT P elem) ty.size then
      (match partS xs xs.length (lo.map e) (hi.map e) with
      | some ⟨q,l,m,_⟩=>some ⟨some q,none,.ownp id ty.size l m,[],none,none,[]⟩
      | none=>none) else none
     | _=>none)
    | .cap0=>(match P.info? elem with | none=>none | some _=>match partS ([]:List Nat) 0 (lo.map e) (hi.map e) with
     | some ⟨q,_,_,_⟩=>some ⟨some q,none,.cap0,[],none,none,[]⟩
     | none=>none)
    | .nils=>(match P.info? elem with | none=>none | some _=>match partS ([]:List Nat) 0 (lo.map e) (hi.map e) with
     | some ⟨q,_,_,_⟩=>some ⟨some q,none,.nils,[],none,none,[]⟩
     | none=>none)
    | _=>none))
  | _=>none
 | .makeSlice t l c=>match P.underlying t,e l,e c with
  | some (.slice elem),.int _ len,.int _ cp=>(match lookL cx.ty (3000000+elem) with
   | some ct=>(match zeroT P elem,nlit (bytesT P elem) sizes with
    | some (.slice none 0 0),some bs=>if Nat.beq (sizeT P elem) 1 then some ⟨some (0≤len∧len=cp∧cp * (bs:Int)≤(lim:Int)∧cp≤(lim:Int)),none,.csl ct n len.toNat,[.cells (List.replicate len.toNat .cap0)],none,none,[]⟩ else none
    | _,_=>none)
   | none=>match lookL cx.ty (1000000+elem) with
   | some gt=>(match zeroT P elem,nlit (bytesT P elem) sizes with
    | some (.slice none 0 0),some bs=>if Nat.beq (sizeT P elem) 1 then some ⟨some (0≤len∧len≤cp∧cp * (bs:Int)≤(lim:Int)∧cp≤(lim:Int)),none,.own n,[.grid gt len.toNat []],none,none,[]⟩ else none
    | _,_=>none)
   | none=>(match lookL cx.ty (2000000+elem),zeroT P elem with
   | some ty,some z=>if Nat.beq (sizeT P elem) ty.size && z.cells.toList.all oneCellB then
    (match downL [] (z.cells.toList.map ofCell) with
    | some (ps,_)=>(match dec ty ps,nlit (bytesT P elem) sizes with
     | some y,some bs=>some ⟨some (0≤len∧len≤cp∧cp * (bs:Int)≤(lim:Int)∧cp≤(lim:Int)),none,.ownc n ty.size 0 len.toNat,[.rows ty (List.replicate cp.toNat y)],none,none,[]⟩
     | _,_=>none)
    | none=>none) else none
   | _,_=>(match lookL cx.ty elem,zeroT P elem with
   | some ty,some z=>if Nat.beq (sizeT P elem) ty.size && z.cells.toList.all oneCellB then
    (match downL [] (z.cells.toList.map ofCell) with
    | some (ps,_)=>(match dec ty ps,nlit (bytesT P elem) sizes with
     | some y,some bs=>some ⟨some (0≤len∧len≤cp∧cp * (bs:Int)≤(lim:Int)∧cp≤(lim:Int)),none,.own n,[.rows ty (List.replicate len.toNat y)],none,none,[]⟩
     | _,_=>none)
    | none=>none) else none
   | _,_=>none)))
  | _,_,_=>none
 | .call c=>match c.callee with
  | .builtin .len=>(match c.argTypes[0]? with
   | none=>none
   | some t=>match P.underlying t with
   | some (.slice _)=>(match c.args.toList.map e with
   | [.sl _ xs]=>some ⟨none,some (xs.length≤big),.int .i64 (xs.length:Int),[],none,none,[]⟩
   | [.own id]=>(match getOb H id with
    | .rows _ xs=>some ⟨none,some (xs.length≤lim),.int .i64 (xs.length:Int),[],none,none,[]⟩
    | .froz _ xs=>some ⟨none,some (xs.length≤lim),.int .i64 (xs.length:Int),[],none,none,[]⟩
    | .grid _ m xss=>some ⟨none,some (xss.length+m≤lim),.int .i64 ((xss.length+m:Nat):Int),[],none,none,[]⟩
    | _=>none)
   | [.grow id gi]=>(match getOb H id with
    | .grid _ _ xss=>some ⟨some (gi < xss.length),some ((xss.getD gi []).length≤lim),.int .i64 ((xss.getD gi []).length:Int),[],none,none,[]⟩
    | _=>none)
   | [.ownc id _ _ len]=>(match getOb H id with
    | .dead=>none
    | _=>some ⟨none,none,.int .i64 (len:Int),[],none,none,[]⟩)
   | [.csl _ id m]=>(match getOb H id with
    | .dead=>none
    | _=>some (.pure (.int .i64 (m:Int))))
   | [.slf _ xs]=>some ⟨none,some (xs.length≤big),.int .i64 (xs.length:Int),[],none,none,[]⟩
   | [.ownp id _ _ len]=>(match getOb H id with
    | .dead=>none
    | _=>some ⟨none,none,.int .i64 (len:Int),[],none,none,[]⟩)
   | [.cap0]=>some (.pure (.int .i64 0))
   | [.nils]=>some (.pure (.int .i64 0))
   | _=>none)
   | some .string=>(match c.args.toList.map e with
   | [.str s]=>some (.pure (.int .i64 (s.size:Int)))
   | _=>none)
   | _=>none)
  | .builtin .cap=>(match c.argTypes[0]? with
   | none=>none
   | some t=>match P.underlying t with
   | some (.slice _)=>(match c.args.toList.map e with
    | [.cap0]=>some (.pure (.int .i64 0))
    | _=>none)
   | _=>none)
  | .builtin .append=>(match c.args.toList.map e,c.argTypes.toList with
   | [dst,src],[t,t']=>if Nat.beq t t' then
    (match P.underlying t with
    | some (.slice elem)=>appendV P H n elem dst src
    | _=>none) else appendZ cx P n t t' dst src
   | _,_=>none)
  | .builtin .copy=>(match c.args.toList.map e,c.argTypes.toList with
   | [.own id,src],[t,t']=>if Nat.beq t t' then
    (match P.underlying t,getOb H id,content H src with
    | some (.slice elem),.rows ty xs,some ⟨ty',ys⟩=>if Nat.beq (sizeT P elem) ty.size then
     (match castL ty' ty ys with
     | some zs=>some ⟨none,none,.int .i64 ((Nat.min zs.length xs.length:Nat):Int),[],none,some (id,.rows ty (zs.take xs.length++xs.drop zs.length)),[]⟩
     | none=>none) else none
    | _,_,_=>none) else none
   | _,_=>none)
  | .builtin .clear=>(match c.args.toList.map e,c.argTypes.toList with
   | [.ownp id k lo len],[t]=>(match P.underlying t,getOb H id with
    | some (.slice elem),.rows ty xs=>(match zeroT P elem with
     | some z=>if Nat.beq (sizeT P elem) ty.size && (Nat.beq k ty.size && z.cells.toList.all oneCellB) then
      (match downL [] (z.cells.toList.map ofCell) with
      | some (ps,_)=>(match dec ty ps with
       | some y=>some ⟨none,none,.any,[],none,some (id,.rows ty (xs.take lo++(List.replicate len y++xs.drop (lo+len)))),[]⟩
       | none=>none)
      | none=>none) else none
     | none=>none)
    | _,_=>none)
   | _,_=>none)
  | .builtin .min=>(match c.args.toList.map e with
   | [.int k a,.int k' b]=>if IntKind.beq' k k' then some (.pure (.int k (if b < a then b else a))) else none
   | _=>none)
  | .builtin .max=>(match c.args.toList.map e with
   | [.int k a,.int k' b]=>if IntKind.beq' k k' then some (.pure (.int k (if b > a then b else a))) else none
   | _=>none)
  | .value f=>(match e f with
   | .fn (.func g) first captured=>callC cx H n g (first++c.args.toList.map e++captured)
   | _=>none)
  | _=>none
 | _=>none
where
 arrGo (sz:Nat) (e:Operand→AV):List (Nat × Operand)→List AV→Option (List AV)
  | [],cs=>some cs
  | (i,x) :: rest,cs=>match cellsOf (e x) with
   | some vs=>if Nat.beq vs.length sz && Nat.ble (i * sz+vs.length) cs.length then arrGo sz e rest (splice cs (i * sz) vs) else none
   | none=>none
 buildGo (P:Program) (t:TypeId) (e:Operand→AV):List (Nat × Operand)→List AV→Option (List AV)
  | [],cs=>some cs
  | (f,x) :: rest,cs=>match fieldT P t f,cellsOf (e x) with
   | some (ft,d),some vs=>if Nat.beq vs.length (sizeT P ft) && Nat.ble (d+vs.length) cs.length then buildGo P t e rest (splice cs d vs) else none
   | _,_=>none
 rowsGo (H:List Ob) (ty:Ty) (e:Operand→AV):Nat→List (Nat × Operand)→Option (List ty.den × List Nat)
  | _,[]=>some ([],[])
  | i,(j,x) :: rest=>if Nat.beq i j then
   (match cellsOf (e x) with
   | some vs=>(match downL H vs with
    | some (ps,ids)=>(match dec ty ps,rowsGo H ty e (i+1) rest with
     | some y,some (ys,ids')=>some (y :: ys,ids++ids')
     | _,_=>none)
    | none=>none)
   | none=>none)
   else none
end Go.Sx
