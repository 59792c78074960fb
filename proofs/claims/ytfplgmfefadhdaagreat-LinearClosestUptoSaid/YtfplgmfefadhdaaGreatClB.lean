/- Lemmas towards the statement: the engine of the walks, the functions' models, laws and walks, part 2. Conditions: as each states. -/
import Derived.Lib.Mul64
import Derived.Test.YtfplgmfefadhdaaGreatClA
set_option linter.all false
set_option maxRecDepth 100000
namespace Go.Eng
open Go.RowKit
structure Con where
 args:List T
 res:List T
 F:ZD args→Option (ZD res)
structure ConO where
 args:List T
 ty:TypeId
 t:T
 F:ZD args→Option (List t.den)
structure ConM where
 args:List T
 ty:TypeId
 ty2:TypeId
 t:T
 F:ZD args→Option (List (List t.den))
structure ConI where
 ty:TypeId
 t:T
 F:List t.den→Int→t.den→Option (List t.den)
inductive CT where
 | dat (t:T)
 | own (ty:TypeId) (t:T)
 | mat (ty ty2:TypeId) (t:T)
 | nl
 | one (a:CT)
 | cons (a b:CT)
 | agg (c:CT)
 | box (ty:TypeId) (c:CT)
def CT.den:CT→Type
 | .dat t=>t.den
 | .own _ t=>List t.den
 | .mat _ _ t=>List (List t.den)
 | .nl=>Unit
 | .one a=>a.den
 | .cons a b=>a.den×b.den
 | .agg c=>c.den
 | .box _ c=>c.den
structure ConB where
 ty:TypeId
 c:CT
 args:List T
 res:List T
 F:c.den→ZD args→Option (c.den×ZD res)
structure ConD where
 ty:TypeId
 t:T
 F:List t.den→Int→Int→Option (List t.den)
structure Ex where
 omats:List (FuncId×ConM):=[]
 boxs:List (FuncId×ConB):=[]
 dels:List (FuncId×ConD):=[]
structure Cf where
 P:Program
 leafs:List (TypeId×Nat)
 cons:List (FuncId×Con)
 mats:List Nat
 owns:List (FuncId×ConO)
 ins:List (FuncId×ConI)
 meths:List ((TypeId×String)×FuncId)
 ex:Ex:={}
abbrev Cf.omats (C:Cf):=C.ex.omats
abbrev Cf.boxs (C:Cf):=C.ex.boxs
abbrev Cf.dels (C:Cf):=C.ex.dels
def lkM:List ((TypeId×String)×FuncId)→TypeId→String→Option FuncId
 | [],_,_=>none
 | p :: r,t,m=>match Nat.beq p.1.1 t,p.1.2==m with
  | true,true=>some p.2
  | _,_=>lkM r t m
def codeF (f:TypeId→Option T):TypeId→List Field→Option T
 | t,[]=>f t
 | t,h :: r=>match f t,codeF f h.type r with
  | some a,some b=>some (.pair a b)
  | _,_=>none
def Zzf (a:T):Nat→T
 | 0=>.one a
 | 1=>.one a
 | 2=>.pair a a
 | k+3=>.pair a (Zzf a (k+2))
def Zme (a:T):(n:Nat)→(Zzf a n).den→List a.den
 | 0,_=>[]
 | 1,x=>[x]
 | 2,x=>[x.1,x.2]
 | k+3,x=>x.1 :: Zme a (k+2) x.2
def ZOe (C:Cf):Nat→TypeId→Option T
 | 0,_=>none
 | g+1,t=>match Z3 C.leafs t with
  | some i=>some (.leaf i)
  | none=>match C.P.underlying t with
   | some (.int k)=>some (.int k)
   | some .bool=>some .bool
   | some (.float k)=>some (.flt k)
   | some .string=>some .str
   | some (.slice e)=>match ZOe C g e with
    | some a=>some (.slice a)
    | none=>none
   | some (.array n e)=>match ZOe C g e,Nat.blt 0 n with
    | some a,true=>some (Zzf a n)
    | _,_=>none
   | some (.struct fs)=>match fs.toList with
    | []=>none
    | [f]=>match ZOe C g f.type with
     | some a=>some (.one a)
     | none=>none
    | f :: h :: r=>codeF (ZOe C g) f.type (h :: r)
   | _=>none
def zeroLf:(i:Nat)→Option (Zyn i)
 | 0=>some (0:Nat)
 | 1=>some (0:Nat)
 | 2=>some (0:Int)
 | 3=>some (0:Rat)
 | _=>none
def Zrg:(t:T)→Option t.den
 | .int _=>some (0:Int)
 | .bool=>some false
 | .flt _=>some (0:Nat)
 | .str=>some ([]:List UInt8)
 | .one a=>Zrg a
 | .pair a b=>match Zrg a,Zrg b with
  | some x,some y=>some (x,y)
  | _,_=>none
 | .slice _=>some []
 | .leaf i=>zeroLf i
 | .ptr _=>none
def zSl:List Value→Option (List Value)
 | .slice none 0 0 :: r=>some r
 | _=>none
def zOK:T→List Value→Option (List Value)
 | .int k,.int k' n :: r=>match kEq k k',n with
  | true,.ofNat 0=>some r
  | _,_=>none
 | .bool,.bool false :: r=>some r
 | .flt k,.float k' 0 :: r=>match fEqK k k' with
  | true=>some r
  | false=>none
 | .str,.string s :: r=>match s.data.toList with
  | []=>some r
  | _=>none
 | .one a,cs=>zOK a cs
 | .pair a b,cs=>match zOK a cs with
  | some r=>zOK b r
  | none=>none
 | .slice _,cs=>zSl cs
 | .leaf 0,cs=>zSl cs
 | .leaf 1,cs=>zSl cs
 | .leaf 2,.bool false :: cs=>zSl cs
 | .leaf 3,.bool false :: cs=>match zSl cs with
  | some r=>zSl r
  | none=>none
 | _,_=>none
def ZQf (t:T) (cs:List Value):Option (V×List Value):=match Zrg t,zOK t cs with
 | some x,some r=>some (.data t x,r)
 | _,_=>none
def ZEk (f:TypeId→List Value→Option (V×List Value)):List Field→List Value→Option (V×List Value)
 | [],cs=>some (.nl,cs)
 | h :: r,cs=>match f h.type cs with
  | some (v,cs)=>match ZEk f r cs with
   | some (c,cs)=>some (.cons v c,cs)
   | none=>none
  | none=>none
def zRep (f:List Value→Option (V×List Value)):Nat→List Value→Option (V×List Value)
 | 0,cs=>some (.nl,cs)
 | k+1,cs=>match f cs with
  | some (v,cs)=>match zRep f k cs with
   | some (c,cs)=>some (.cons v c,cs)
   | none=>none
  | none=>none
def Z0i (C:Cf):Nat→TypeId→List Value→Option (V×List Value)
 | 0,_,_=>none
 | g+1,t,cs=>match Z3 C.leafs t with
  | some 4=>match cs with
   | .bool false :: .slice none 0 0 :: .slice none 0 0 :: r=>some (.agg (.cons (.data .bool false) (.cons (.data (.leaf 1) (0:Nat)) (.cons (.data (.leaf 1) (0:Nat)) .nl))),r)
   | _=>none
  | some i=>ZQf (.leaf i) cs
  | none=>match C.P.underlying t with
   | some (.int k)=>ZQf (.int k) cs
   | some .bool=>ZQf .bool cs
   | some (.float k)=>ZQf (.flt k) cs
   | some .string=>ZQf .str cs
   | some (.slice _)=>match zSl cs with
    | some r=>some (.nilS,r)
    | none=>none
   | some (.struct fs)=>match ZEk (Z0i C g) fs.toList cs with
    | some (c,r)=>some (.agg c,r)
    | none=>none
   | some (.array n e)=>match zRep (Z0i C g e) n cs with
    | some (c,r)=>some (.agg c,r)
    | none=>none
   | _=>none
def Zql (C:Cf) (t:TypeId):Option V:=match C.P.info? t with
 | some i=>match i.zero with
  | some z=>match Z0i C FU t z.cells.toList with
   | some (v,[])=>some v
   | _=>none
  | none=>none
 | none=>none
def aggD:TypeDesc→Bool
 | .struct _=>true
 | .array _ _=>true
 | _=>false
def szA (P:Program) (t:TypeId):Option (Nat×Bool):=match P.info? t,P.underlying t with
 | some i,some d=>some (i.size,aggD d)
 | _,_=>none
def fldA (P:Program) (s:TypeId) (f:Nat):Option Nat:=match P.underlying s with
 | some (.struct fs)=>match fs.toList[f]? with
  | some h=>match P.info? h.type with
   | some i=>match Nat.blt 0 i.size with
    | true=>some h.offset
    | false=>none
   | none=>none
  | none=>none
 | _=>none
def fldT (P:Program) (s:TypeId) (f:Nat):Option Field:=match P.underlying s with
 | some (.struct fs)=>fs.toList[f]?
 | _=>none
def Zwj (P:Program) (t:TypeId):Option (TypeId×Nat):=match P.underlying t with
 | some (.slice e)=>match P.info? e with
  | some i=>some (e,i.size)
  | none=>none
 | _=>none
structure EI where
 e:TypeId
 sz:Nat
 by_:Nat
 z:Value
def ZEg (P:Program) (t:TypeId):Option EI:=match P.underlying t with
 | some (.slice e)=>match P.info? e with
  | some i=>match i.zero with
   | some z=>match Nat.beq z.cells.toList.length i.size,Nat.blt 0 i.size,Nat.blt 0 i.bytes with
    | true,true,true=>some ⟨e,i.size,i.bytes,z⟩
    | _,_,_=>none
   | none=>none
  | none=>none
 | _=>none
def Z6j:Value→Option V
 | .bool b=>some (.data .bool b)
 | .int k n=>if inR k n then some (.data (.int k) n) else none
 | .float k n=>if n<18446744073709551616 then some (.data (.flt k) n) else none
 | .string s=>if s.data.toList.length≤maxLen then some (.data .str s.data.toList) else none
 | .slice none 0 0=>some .nilS
 | _=>none
def opd {ρ:Type} (x:Operand) (k:V→Ev ρ):Ev ρ:=match x with
 | .tmp t=>.rdS t k
 | .const c=>match Z6j c with
  | some v=>k v
  | none=>.fail
 | .func f=>k (.fn f .nl)
 | .global _=>.fail
def ret (o:Oper) (v:V):Ev Unit:=match o.dst with
 | some d=>.wrS d v (.done ())
 | none=>.fail
def Z4a {ρ:Type} (v:V) (k:IntKind→Int→Ev ρ):Ev ρ:=match v with
 | .data (.int κ) x=>k κ x
 | _=>.fail
def Zim {ρ:Type} (v:V) (k:Bool→Ev ρ):Ev ρ:=match v with
 | .data .bool x=>k x
 | _=>.fail
def nthV:V→Nat→Option V
 | .cons a _,0=>some a
 | .cons _ b,n+1=>nthV b n
 | _,_=>none
def appV:V→V→V
 | .cons a b,c=>.cons a (appV b c)
 | _,c=>c
def binI {ρ:Type} (op:BinOp) (κ:IntKind) (x y:Int) (k:V→Ev ρ):Ev ρ:=match op with
 | .add=>match κ.signed with
  | true=>.bind (chk κ (x+y)) fun z=>k (.data (.int κ) z)
  | false=>k (.data (.int κ) (κ.wrap (x+y)))
 | .sub=>match κ.signed with
  | true=>.bind (chk κ (x-y)) fun z=>k (.data (.int κ) z)
  | false=>k (.data (.int κ) (κ.wrap (x-y)))
 | .mul=>match κ.signed with
  | true=>.bind (chk κ (x*y)) fun z=>k (.data (.int κ) z)
  | false=>k (.data (.int κ) (κ.wrap (x*y)))
 | .quo=>.bind (quo κ x y) fun z=>k (.data (.int κ) z)
 | .rem=>.bind (rem κ x y) fun z=>k (.data (.int κ) z)
 | .and=>k (.data (.int κ) (Z8a κ x y))
 | .or=>k (.data (.int κ) (orI κ x y))
 | .xor=>k (.data (.int κ) (xorI κ x y))
 | .lss=>k (.data .bool (decide (x<y)))
 | .leq=>k (.data .bool (decide (x≤y)))
 | .gtr=>k (.data .bool (decide (y<x)))
 | .geq=>k (.data .bool (decide (y≤x)))
 | .eql=>k (.data .bool (x==y))
 | .neq=>k (.data .bool (x != y))
 | _=>.fail
def binE {ρ:Type} (P:Program) (op:BinOp) (t:TypeId) (v v':V) (k:V→Ev ρ):Ev ρ:=match v,v' with
 | .data (.int κ) x,.data (.int κ') y=>match op with
  | .shl=>.bind (ZQa κ x y) fun z=>k (.data (.int κ) z)
  | .shr=>.bind (ZK κ x y) fun z=>k (.data (.int κ) z)
  | op=>match kEq κ κ' with
   | true=>binI op κ x y k
   | false=>.fail
 | .data .bool (x:Bool),.data .bool (y:Bool)=>match P.underlying t with
  | some .bool=>match op with
   | .eql=>k (.data .bool (x==y))
   | .neq=>k (.data .bool (x != y))
   | _=>.fail
  | _=>.fail
 | .data .str (x:List UInt8),.data .str (y:List UInt8)=>match op with
  | .add=>.bind (Znb (x++y)) fun _=>k (.data .str (x++y))
  | .eql=>k (.data .bool (x==y))
  | .neq=>k (.data .bool (x != y))
  | _=>.fail
 | _,_=>.fail
def ldE {ρ:Type} (P:Program) (t:TypeId) (p:V) (k:V→Ev ρ):Ev ρ:=match szA P t with
 | none=>.fail
 | some s=>match p with
  | .ptr u off=>.rdL u fun _ L=>match L with
   | .box _ c=>match Zma FU c off s.1 s.2 with
    | some z=>k z
    | none=>.fail
   | _=>.fail
  | .el u _ cv e x off=>.rdL u fun cv' L=>match L with
   | .own _ _ _ _=>match Nat.beq cv' cv with
    | true=>match Zma FU (.data e x) off s.1 s.2 with
     | some z=>k z
     | none=>.fail
    | false=>.fail
   | _=>.fail
  | .vp e x off=>match Zma FU (.data e x) off s.1 s.2 with
   | some z=>k z
   | none=>.fail
  | .rp u i hv cv e r=>.rdL u fun cv' L=>match L with
   | .mat _ _ _ _ hv'=>match Nat.beq hv' hv,Nat.beq cv' cv,s.2 with
    | true,true,false=>k (.row u i hv cv e r)
    | _,_,_=>.fail
   | _=>.fail
  | .rel u _ _ hv cv e _ x off=>.rdL u fun cv' L=>match L with
   | .mat _ _ _ _ hv'=>match Nat.beq hv' hv,Nat.beq cv' cv with
    | true,true=>match Zma FU (.data e x) off s.1 s.2 with
     | some z=>k z
     | none=>.fail
    | _,_=>.fail
   | _=>.fail
  | _=>.fail
def V.plain:V→Bool
 | .undef | .tup _=>false
 | .cons a b=>match a.plain with
  | true=>b.plain
  | false=>false
 | .agg c=>c.plain
 | _=>true
def V.fit (v:V):Bool:=match v.plain,v.isAgg with
 | true,true=>true
 | true,false=>Nat.beq v.size 1
 | false,_=>false
def Zcc (s t:T) (l:List s.den):Option (List t.den):=T.cast (.slice s) (.slice t) l
def ZLb (s t:T) (m:List (List s.den)):Option (List (List t.den)):=T.cast (.slice (.slice s)) (.slice (.slice t)) m
def eqN (i j:Nat):Option Unit:=if i=j then some () else none
def Zod {α:Type} (m:List (List α)) (i j:Nat):List (List α):=(m.set i (m.getD j [])).set j (m.getD i [])
def stE (P:Program) (nid:Nat) (t:TypeId) (p v:V):Ev Unit:=match szA P t with
 | none=>.fail
 | some q=>match Nat.beq v.size q.1,eqB v.isAgg q.2,v.fit with
  | true,true,true=>match p with
   | .ptr u off=>.rdL u fun _ L=>match L with
    | .box ty c=>match Z9a FU c off v with
     | some c'=>.wrL u (.box ty c') (.done ())
     | none=>.fail
    | _=>.fail
   | .el u i cv s x off=>match Z9a FU (.data s x) off v with
    | some z=>conv FU s z fun y=>.rdL u fun cv' L=>match L with
     | .own ty s' l false=>match Nat.beq off 0,Nat.beq v.size s.n,Nat.beq cv' cv with
      | true,true,_=>match T.cast s s' y with
       | some y'=>.wrL u (.own ty s' (l.set i y') false) (.done ())
       | none=>.fail
      | _,_,true=>match T.cast s s' y with
       | some y'=>.wrL u (.own ty s' (l.set i y') false) (.done ())
       | none=>.fail
      | _,_,_=>.fail
     | _=>.fail
    | none=>.fail
   | .rp u i _ _ _ _=>match v with
    | .own u2=>.rdL u fun _ L=>match L with
     | .mat ty ty2 s m _=>.rdL u2 fun _ L2=>match L2 with
      | .own ty3 s' l false=>match Nat.beq ty3 ty2,Zcc s' s l with
       | true,some l'=>.del u2 (.wrL u (.mat ty ty2 s (m.set i l') nid) (.done ()))
       | _,_=>.fail
      | _=>.fail
     | .mid ty ty2 s m _ (.hol j)=>.bind (eqN i j) fun _=>.rdL u2 fun _ L2=>match L2 with
      | .own ty3 s' l false=>match Nat.beq ty3 ty2,Zcc s' s l with
       | true,some l'=>.del u2 (.wrL u (.mat ty ty2 s (m.set i l') nid) (.done ()))
       | _,_=>.fail
      | _=>.fail
     | _=>.fail
    | .row u2 j hv2 _ _ _=>.rdL u fun _ L=>match L with
     | .mat ty ty2 s m hv=>match Nat.beq u2 u,Nat.beq hv hv2 with
      | true,true=>.wrL u (.mid ty ty2 s m hv (.swp i j)) (.done ())
      | _,_=>.fail
     | .mid ty ty2 s m hv (.swp i0 j0)=>match Nat.beq u2 u,Nat.beq hv hv2 with
      | true,true=>.bind (eqN i j0) fun _=>.bind (eqN j i0) fun _=>.wrL u (.mat ty ty2 s (Zod m i0 j0) nid) (.done ())
      | _,_=>.fail
     | _=>.fail
    | _=>.fail
   | .rel u i j hv cv s r x off=>match Z9a FU (.data s x) off v with
    | some z=>.rdL u fun _ L0=>match L0 with
     | .mat _ _ _ _ _=>conv FU s z fun y=>.rdL u fun cv' L=>match L with
      | .mat ty ty2 s' m hv'=>match Nat.beq hv' hv,Nat.beq cv' cv with
       | true,true=>match Zcc s s' (r.set j y) with
        | some r'=>.wrL u (.mat ty ty2 s' (m.set i r') hv') (.done ())
        | none=>.fail
       | _,_=>.fail
      | _=>.fail
     | _=>.fail
    | none=>.fail
   | _=>.fail
  | _,_,_=>.fail
def onM (C:Cf) (o:Oper):Bool:=match o.dst with
 | some d=>Zed C.mats d
 | none=>false
def onT (C:Cf) (o:Oper):Bool:=match o.dst with
 | some d=>Zed C.mats (d+100000)
 | none=>false
def takeE (P:Program) (o:Oper) (nid:Nat) (t:TypeId) (p:V):Ev Unit:=match szA P t with
 | none=>.fail
 | some s=>match p,s.2 with
  | .rp u i hv cv e r,false=>.rdL u fun cv' L=>match L with
   | .mat ty ty2 s' m hv'=>match Nat.beq hv' hv,Nat.beq cv' cv,Zcc e s' r with
    | true,true,some z=>.wrL u (.mid ty ty2 s' m hv' (.hol i)) (.new nid (.own ty2 s' z false) (ret o (.own nid)))
    | _,_,_=>.fail
   | _=>.fail
  | _,_=>.fail
def shift:V→Nat→Option V
 | .ptr u off,k=>some (.ptr u (off+k))
 | .vp t x off,k=>some (.vp t x (off+k))
 | .el u i cv t x off,k=>some (.el u i cv t x (off+k))
 | .rel u i j hv cv t r x off,k=>some (.rel u i j hv cv t r x (off+k))
 | _,_=>none
def live {ρ:Type} (v:V) (k:Ev ρ):Ev ρ:=match v with
 | .ptr u _=>.rdL u fun _ L=>match L with
  | .box _ _=>k
  | _=>.fail
 | .vp _ _ _=>k
 | .el u _ _ _ _ _=>.rdL u fun _ L=>match L with
  | .own _ _ _ _=>k
  | _=>.fail
 | .rel u _ _ hv _ _ _ _ _=>.rdL u fun _ L=>match L with
  | .mat _ _ _ _ hv'=>match Nat.beq hv' hv with
   | true=>k
   | false=>.fail
  | _=>.fail
 | _=>.fail
def ixA (P:Program) (o:Oper) (t:TypeId) (v:V) (j:Int):Ev Unit:=match P.underlying t with
 | some (.array n e)=>match P.info? e,decide (0≤j),decide (j<n) with
  | some i,true,true=>match shift v (j.toNat*i.size) with
   | some z=>live v (ret o z)
   | none=>.fail
  | _,_,_=>.fail
 | _=>.fail
def alts (P:Program) (o:Oper) (t:TypeId) (v:V) (j:Int):Nat→Nat→Ev Unit
 | 0,_=>.fail
 | m+1,k=>.alt (decide (j=(k:Int))) (ixA P o t v (k:Int)) (alts P o t v j m (k+1))
def altE (P:Program) (o:Oper) (t:TypeId) (v:V) (j:Int):Ev Unit:=match P.underlying t with
 | some (.array n _)=>alts P o t v j n 0
 | _=>.fail
def onA (C:Cf) (o:Oper):Bool:=match o.dst with
 | some d=>Zed C.mats (d+200000)
 | none=>false
def ixE (P:Program) (o:Oper) (t:TypeId) (v:V) (j:Int):Ev Unit:=match Zwj P t with
 | none=>ixA P o t v j
 | some q=>match v with
  | .own u=>.rdL u fun cv L=>match L with
   | .own _ s l _=>match Nat.beq q.2 s.n with
    | true=>.bind (idx l j) fun y=>ret o (.el u j.toNat cv s y 0)
    | false=>.fail
   | .mat _ _ s m hv=>match Nat.beq q.2 1 with
    | true=>.bind (idx m j) fun r=>ret o (.rp u j.toNat hv cv s r)
    | false=>.fail
   | .mid _ _ s m hv _=>match Nat.beq q.2 1 with
    | true=>.bind (idx m j) fun r=>ret o (.rp u j.toNat hv cv s r)
    | false=>.fail
   | _=>.fail
  | .data (.slice s) l=>match Nat.beq q.2 s.n with
   | true=>.bind (idx l j) fun y=>ret o (.vp s y 0)
   | false=>.fail
  | .data (.leaf 0) (n:Nat)=>match Nat.beq q.2 1 with
   | true=>.bind (idx (Zc 18446744073709551616 n) j) fun y=>ret o (.vp (.int .u64) y 0)
   | false=>.fail
  | .data (.leaf 1) (n:Nat)=>match Nat.beq q.2 1 with
   | true=>.bind (idx (Zc 4294967296 n) j) fun y=>ret o (.vp (.int .u32) y 0)
   | false=>.fail
  | .row u i hv cv s r=>.rdL u fun cv' L=>match L with
   | .mat _ _ s' m hv'=>match Nat.beq hv' hv,Nat.beq cv' cv,Nat.beq q.2 s.n with
    | true,true,true=>.bind (idx r j) fun y=>ret o (.rel u i j.toNat hv cv s r y 0)
    | true,false,true=>match ZLb s' s m with
     | some m'=>.bind (idx m' (i:Int)) fun r'=>.bind (idx r' j) fun y=>ret o (.rel u i j.toNat hv cv' s r' y 0)
     | none=>.fail
    | _,_,_=>.fail
   | _=>.fail
  | _=>.fail
def lenE {ρ:Type} (P:Program) (t:TypeId) (v:V) (k:Nat→Ev ρ):Ev ρ:=match v with
 | .data .str (s:List UInt8)=>match P.underlying t with
  | some .string=>k s.length
  | _=>.fail
 | v=>match Zwj P t with
  | none=>.fail
  | some _=>match v with
   | .own u=>.rdL u fun _ L=>match L with
    | .own _ _ l _=>k l.length
    | .mat _ _ _ m _=>k m.length
    | _=>.fail
   | .data (.slice _) l=>k l.length
   | .data (.leaf 0) (n:Nat)=>k (Zc 18446744073709551616 n).length
   | .data (.leaf 1) (n:Nat)=>k (Zc 4294967296 n).length
   | .row u _ hv _ _ r=>.rdL u fun _ L=>match L with
    | .mat _ _ _ _ hv'=>match Nat.beq hv' hv with
     | true=>k r.length
     | _=>.fail
    | _=>.fail
   | _=>.fail
def fldE {ρ:Type} (P:Program) (s:TypeId) (f:Nat) (v:V) (k:V→Ev ρ):Ev ρ:=match fldA P s f with
 | some h=>match shift v h with
  | some z=>live v (k z)
  | none=>.fail
 | none=>.fail
def ZZe {ρ:Type}:List Operand→(V→Ev ρ)→Ev ρ
 | [],k=>k .nl
 | x :: r,k=>opd x fun v=>match v with
  | .tup _=>.fail
  | v=>ZZe r fun c=>k (.cons v c)
def Zhe {ρ:Type}:(ts:List T)→V→(ZD ts→Ev ρ)→Ev ρ
 | [],.nl,k=>k ()
 | [t],.cons v .nl,k=>conv FU t v k
 | t :: u :: r,.cons v c,k=>conv FU t v fun x=>Zhe (u :: r) c fun y=>k (x,y)
 | _,_,_=>.fail
def convS {ρ:Type} (t:T):V→(List t.den→Ev ρ)→Ev ρ
 | .nl,k=>k []
 | .cons v c,k=>conv FU t v fun x=>convS t c fun l=>k (x :: l)
 | _,_=>.fail
def Znf:(ts:List T)→ZD ts→V
 | [],_=>.nl
 | [t],x=>.cons (.data t x) .nl
 | t :: u :: r,x=>.cons (.data t x.1) (Znf (u :: r) x.2)
def ZHd:V→V
 | .cons v .nl=>v
 | c=>.tup c
def appM (o:Oper) (nid:Nat) (q:EI) (p:Option Nat) (v':V):Ev Unit:=match v' with
 | .own u2=>.rdL u2 fun _ L2=>match L2 with
  | .mat ty' ty2' s' m' _=>match p with
   | none=>match Nat.beq q.e ty',Nat.beq q.sz 1 with
    | true,true=>.bind (ZC q.by_ ([]++m')) fun _=>.del u2 (.new nid (.mat ty' ty2' s' ([]++m') nid) (ret o (.own nid)))
    | _,_=>.fail
   | some u=>match Nat.beq u u2 with
    | true=>.fail
    | false=>.rdL u fun _ L=>match L with
     | .mat ty ty2 s m _=>match ZLb s' s m',Nat.beq ty ty',Nat.beq ty2 ty2',Nat.beq q.e ty,Nat.beq q.sz 1 with
      | some m2,true,true,true,true=>.bind (ZC q.by_ (m++m2)) fun _=>.del u2 (.del u (.new nid (.mat ty ty2 s (m++m2) nid) (ret o (.own nid))))
      | _,_,_,_,_=>.fail
     | _=>.fail
  | _=>.fail
 | _=>.fail
def appE (C:Cf) (o:Oper) (nid:Nat) (t:TypeId) (v v':V):Ev Unit:=match ZEg C.P t with
  | none=>.fail
  | some q=>match v with
    | .own u=>.rdL u fun _ L=>match L with
      | .own _ s _ _=>conv FU (.slice s) v' fun y=>.rdL u fun _ L=>match L with
        | .own ty s' l false=>match Zcc s s' y,Nat.beq q.e ty,Nat.beq q.sz s'.n with
          | some y',true,true=>.bind (ZC q.by_ (l++y')) fun _=>.del u (.new nid (.own ty s' (l++y') false) (ret o (.own nid)))
          | _,_,_=>.fail
        | _=>.fail
      | .mat _ _ _ _ _=>appM o nid q (some u) v'
      | _=>.fail
    | .row u i hv cv s r=>conv FU (.slice s) v' fun (y:List s.den)=>.rdL u fun cv' L=>match L with
      | .mat ty ty2 s' m hv'=>match Nat.beq hv' hv,Nat.beq cv' cv,Zcc s s' (r++y),Nat.beq q.e ty2,Nat.beq q.sz s'.n with
        | true,true,some z,true,true=>.bind (ZC q.by_ z) fun _=>.wrL u (.mid ty ty2 s' m hv' (.hol i)) (.new nid (.own ty2 s' z false) (ret o (.own nid)))
        | _,_,_,_,_=>.fail
      | _=>.fail
    | .nilS=>match onM C o with
     | true=>appM o nid q none v'
     | false=>match ZOe C FU q.e with
      | some s=>match Nat.beq q.sz s.n with
        | true=>conv FU (.slice s) v' fun (y:List s.den)=>.bind (ZC q.by_ ([]++y)) fun _=>.new nid (.own q.e s ([]++y) false) (ret o (.own nid))
        | false=>.fail
      | none=>.fail
    | _=>.fail
def putF (P:Program) (s:TypeId):V→List (Nat×V)→Option V
 | z,[]=>some z
 | z,p :: r=>match fldT P s p.1 with
  | some h=>match szA P h.type with
   | some q=>match Nat.beq p.2.size q.1,p.2.fit,Z9a FU z h.offset p.2 with
    | true,true,some z'=>putF P s z' r
    | _,_,_=>none
   | none=>none
  | none=>none
def putA (n sz:Nat):V→List (Nat×V)→Option V
 | z,[]=>some z
 | z,p :: r=>match Nat.blt p.1 n,Nat.beq p.2.size sz,p.2.fit,Z9a FU z (p.1*sz) p.2 with
  | true,true,true,some z'=>putA n sz z' r
  | _,_,_,_=>none
def ZFl (P:Program):List Field→Bool
 | []=>true
 | h :: r=>match P.info? h.type with
  | some _=>ZFl P r
  | none=>false
def zipV:List (Nat×Operand)→V→List (Nat×V)
 | p :: r,.cons v c=>(p.1,v) :: zipV r c
 | _,_=>[]
def Z6f:V→V
 | .data t x=>match ZUe t x with
  | some c=>.agg c
  | none=>.data t x
 | v=>v
def ZUj:Nat→List (Nat×Operand)→Bool
 | _,[]=>true
 | k,p :: r=>match Nat.beq p.1 k with
  | true=>ZUj (k+1) r
  | false=>false
def Zth:Option Int→Int→Int
 | some h,_=>h
 | none,n=>n
def cutE (P:Program) (o:Oper) (t:TypeId) (v:V) (lo hi:Option Int):Ev Unit:=match v with
 | .data (.slice s) l=>match Zwj P t with
  | some q=>match Nat.beq q.2 s.n with
   | true=>.bind (ZR l (Zth lo 0) (Zth hi (l.length:Int))) fun y=>ret o (.data (.slice s) y)
   | false=>.fail
  | none=>.fail
 | .data .str (l:List UInt8)=>match P.underlying t with
  | some .string=>.bind (ZR l (Zth lo 0) (Zth hi (l.length:Int))) fun y=>ret o (.data .str y)
  | _=>.fail
 | _=>.fail
def optI {ρ:Type} (x:Option Operand) (k:Option Int→Ev ρ):Ev ρ:=match x with
 | none=>k none
 | some x=>opd x fun v=>Z4a v fun _ i=>k (some i)
def insE (nid:Nat) (o:Oper) (c:ConI):V→Ev Unit
 | .cons a (.cons (.data (.int .i64) (i:Int)) (.cons (.own u2) .nl))=>.rdL u2 fun _ L2=>match L2 with
  | .own ty2 s2 l2 false=>match Nat.beq ty2 c.ty,Zcc s2 c.t l2 with
   | true,some [x]=>.del u2 (match a with
    | .own u=>.rdL u fun _ L=>match L with
     | .own ty s l false=>match Nat.beq ty c.ty,Zcc s c.t l with
      | true,some l'=>.bind (c.F l' i x) fun z=>.del u (.new nid (.own c.ty c.t z false) (ret o (.own nid)))
      | _,_=>.fail
     | _=>.fail
    | .nilS=>.bind (c.F [] i x) fun z=>.new nid (.own c.ty c.t z false) (ret o (.own nid))
    | _=>.fail)
   | _,_=>.fail
  | _=>.fail
 | _=>.fail
def arrE (C:Cf) (o:Oper) (t:TypeId) (s u off:Nat) (lo hi:Option Int):Ev Unit:=match Nat.beq off 0,lo,hi,C.P.underlying t with
 | true,none,none,some (.array n e)=>match ZOe C FU e,szA C.P e,Nat.blt 0 n,Nat.ble n 1000 with
  | some a,some q,true,true=>match Nat.beq q.1 a.n with
   | true=>.rdL u fun _ L=>match L with
    | .box _ c=>conv FU (Zzf a n) c fun x=>.rdL u fun _ L2=>match L2 with
     | .box _ _=>.del u (.wrS s (.vp (Zzf a n) x 0) (ret o (.data (.slice a) (Zme a n x))))
     | _=>.fail
    | _=>.fail
   | false=>.fail
  | _,_,_,_=>.fail
 | _,_,_,_=>.fail
def delE (nid:Nat) (o:Oper) (c:ConD):V→Ev Unit
 | .cons (.own u) (.cons (.data (.int .i64) (i:Int)) (.cons (.data (.int .i64) (j:Int)) .nl))=>.rdL u fun _ L=>match L with
  | .own ty s l false=>match Nat.beq ty c.ty,Zcc s c.t l with
   | true,some l'=>.bind (c.F l' i j) fun z=>.del u (.new nid (.own c.ty c.t z false) (ret o (.own nid)))
   | _,_=>.fail
  | _=>.fail
 | _=>.fail
def ZTj (C:Cf) (nid:Nat) (o:Oper) (f:FuncId) (args:V):Ev Unit:=match Z3 C.cons f with
 | some c=>Zhe c.args args fun p=>.bind (c.F p) fun z=>ret o (ZHd (Znf c.res z))
 | none=>match Z3 C.owns f with
  | some c=>Zhe c.args args fun p=>.bind (c.F p) fun z=>.new nid (.own c.ty c.t z false) (ret o (.own nid))
  | none=>match Z3 C.ins f with
   | some c=>insE nid o c args
   | none=>match Z3 C.omats f with
    | some c=>Zhe c.args args fun p=>.bind (c.F p) fun z=>.new nid (.mat c.ty c.ty2 c.t z nid) (ret o (.own nid))
    | none=>match Z3 C.dels f with
     | some c=>delE nid o c args
     | none=>.fail
def Zks:Operand→Bool
 | .const (.pointer none)=>true
 | _=>false
def Z1 (C:Cf) (nid:Nat) (o:Oper):Ev Unit:=match o.op with
  | .move x=>opd x (ret o)
  | .assign x=>match Zks x with
    | true=>.new nid (.box 0 .undef) (.del nid (ret o (.ptr nid 0)))
    | false=>opd x (ret o)
  | .nilCheck x=>opd x fun v=>match v with
    | .data (.ptr a) y=>ret o (.vp a y 0)
    | v=>live v (ret o v)
  | .pick (.tmp c) a b=>.test c (opd a (ret o)) (opd b (ret o))
  | .extract x i=>opd x fun v=>match v with
    | .tup c=>match nthV c i with
      | some z=>ret o z
      | none=>.fail
    | _=>.fail
  | .alloc t=>match Zql C t with
    | some z=>.new nid (.box t z) (ret o (.ptr nid 0))
    | none=>.fail
  | .box t x=>opd x fun v=>match v.fit with
    | true=>.new nid (.box t v) (ret o (.ptr nid 0))
    | false=>.fail
  | .load t x=>opd x fun p=>match onT C o with
    | true=>takeE C.P o nid t p
    | false=>ldE C.P t p (ret o)
  | .store t x y=>match o.dst with
    | none=>opd x fun p=>opd y fun v=>stE C.P nid t p v
    | some _=>.fail
  | .fieldAddr s x f=>opd x fun v=>fldE C.P s f v (ret o)
  | .field s x f=>opd x fun v=>match fldT C.P s f,v.isAgg with
    | some h,true=>match szA C.P h.type with
      | some q=>match Zma FU v h.offset q.1 q.2 with
        | some z=>ret o z
        | none=>.fail
      | none=>.fail
    | _,_=>.fail
  | .indexAddr t x i=>opd x fun v=>opd i fun w=>Z4a w fun _ j=>match onA C o with
    | true=>altE C.P o t v j
    | false=>ixE C.P o t v j
  | .index t x i=>opd x fun v=>opd i fun w=>Z4a w fun _ j=>match v with
    | .data .str (l:List UInt8)=>match C.P.underlying t with
      | some .string=>.bind (idx l j) fun (y:UInt8)=>ret o (.data (.int .u8) ((y.toNat:Nat):Int))
      | _=>.fail
    | v=>match C.P.underlying t with
      | some (.array n e)=>match szA C.P e,v.isAgg,decide (0≤j),decide (j<n) with
        | some q,true,true,true=>match Zma FU v (j.toNat*q.1) q.1 q.2 with
          | some z=>ret o z
          | none=>.fail
        | _,_,_,_=>.fail
      | _=>.fail
  | .binOp op t x y _=>opd x fun v=>opd y fun w=>binE C.P op t v w (ret o)
  | .unOp .not _ x=>opd x fun v=>Zim v fun b=>ret o (.data .bool (!b))
  | .unOp .neg _ x=>opd x fun v=>Z4a v fun κ i=>ret o (.data (.int κ) (κ.wrap (-i)))
  | .convert s d x=>opd x fun v=>match v,C.P.underlying s,C.P.underlying d with
    | .data (.int κ) i,some _,some (.int κ')=>match kEq κ κ' with
      | true=>ret o (.data (.int κ) i)
      | false=>ret o (.data (.int κ') (κ'.wrap i))
    | .data .str (l:List UInt8),some .string,some .string=>ret o (.data .str l)
    | _,_,_=>.fail
  | .makeFunc (.func f) first cap=>match first.toList with
    | []=>ZZe cap.toList fun c=>ret o (.fn f c)
    | _=>.fail
  | .makeInterface t x=>opd x fun v=>match v.fit with
    | true=>match C.P.underlying t with
      | some (.interface _)=>.fail
      | some _=>ret o (.ifc t v)
      | none=>.fail
    | false=>.fail
  | .makeSlice t l c=>opd l fun v=>opd c fun w=>Z4a v fun _ i=>Z4a w fun _ j=>match ZEg C.P t,o.dst with
    | some q,some d=>.bind (mk q.by_ i j) fun _=>match Zed C.mats d with
      | true=>match ZEg C.P q.e,zSl q.z.cells.toList,Nat.beq q.sz 1 with
        | some q2,some _,true=>match ZOe C FU q2.e with
          | some s=>match Nat.beq q2.sz s.n with
            | true=>.new nid (.mat q.e q2.e s (List.replicate i.toNat []) nid) (ret o (.own nid))
            | false=>.fail
          | none=>.fail
        | _,_,_=>.fail
      | false=>match ZOe C FU q.e with
        | some s=>match Zrg s,zOK s q.z.cells.toList,Nat.beq q.sz s.n with
          | some z,some _,true=>.new nid (.own q.e s (List.replicate i.toNat z) false) (ret o (.own nid))
          | _,_,_=>.fail
        | none=>.fail
    | _,_=>.fail
  | .buildSlice t n ps=>match ZEg C.P t with
    | some q=>match onM C o with
     | true=>match n,ps.toList with
      | 1,[(0,x)]=>opd x fun v=>match v,ZEg C.P q.e,zSl q.z.cells.toList with
        | .own u2,some q2,some _=>.rdL u2 fun _ L=>match L with
          | .own ty2 s l false=>match Nat.beq q2.e ty2,Nat.beq q2.sz s.n,Nat.beq q.sz 1 with
            | true,true,true=>.del u2 (.new nid (.mat q.e ty2 s [l] nid) (ret o (.own nid)))
            | _,_,_=>.fail
          | _=>.fail
        | _,_,_=>.fail
      | _,_=>.fail
     | false=>match ZOe C FU q.e,ZUj 0 ps.toList,Nat.beq ps.toList.length n,Nat.ble (n*q.sz) 16777216 with
      | some s,true,true,true=>match Nat.beq q.sz s.n with
        | true=>ZZe (ps.toList.map (·.2)) fun c=>convS s c fun l=>.new nid (.own q.e s l false) (ret o (.own nid))
        | false=>.fail
      | _,_,_,_=>.fail
    | none=>.fail
  | .build t ps=>match Zql C t,C.P.underlying t with
    | some z,some (.struct fs)=>match ZFl C.P fs.toList,(Z6f z).isAgg,z.isAgg with
      | true,true,true=>match ps.toList with
        | []=>ret o z
        | l=>ZZe (l.map (·.2)) fun c=>match putF C.P t (Z6f z) (zipV l c) with
          | some z'=>ret o z'
          | none=>.fail
      | _,_,_=>.fail
    | some z,some (.array n e)=>match C.P.info? e,(Z6f z).isAgg,z.isAgg with
      | some i,true,true=>ZZe (ps.toList.map (·.2)) fun c=>match putA n i.size (Z6f z) (zipV ps.toList c) with
        | some z'=>ret o z'
        | none=>.fail
      | _,_,_=>.fail
    | _,_=>.fail
  | .slice t x lo hi none=>optI lo fun i=>optI hi fun j=>opd x fun v=>match v with
    | .own u=>.rdL u fun _ L=>match L with
      | .own _ s _ _=>conv FU (.slice s) v fun l=>cutE C.P o t (.data (.slice s) l) i j
      | _=>.fail
    | .data (.leaf 0) (n:Nat)=>cutE C.P o t (.data (.slice (.int .u64)) (Zc 18446744073709551616 n)) i j
    | .data (.leaf 1) (n:Nat)=>cutE C.P o t (.data (.slice (.int .u32)) (Zc 4294967296 n)) i j
    | .ptr u off=>match x with
      | .tmp s=>arrE C o t s u off i j
      | _=>.fail
    | v=>cutE C.P o t v i j
  | .call c=>match c.callee with
    | .builtin .len=>match c.args.toList,c.argTypes.toList with
      | [x],[t]=>opd x fun v=>lenE C.P t v fun n=>ret o (.data (.int .i64) (n:Int))
      | _,_=>.fail
    | .builtin .append=>match c.args.toList,c.argTypes.toList with
      | [x,y],[t,t']=>match Nat.beq t t' with
        | true=>opd x fun v=>opd y fun w=>appE C o nid t v w
        | false=>.fail
      | _,_=>.fail
    | .builtin .max=>match c.args.toList with
      | [x,y]=>opd x fun v=>opd y fun w=>Z4a v fun κ i=>Z4a w fun κ' j=>match kEq κ κ' with
        | true=>ret o (.data (.int κ) (max i j:Int))
        | false=>.fail
      | [x,y,z]=>opd x fun v=>opd y fun w=>opd z fun u=>Z4a v fun κ i=>Z4a w fun κ' j=>Z4a u fun κ'' k=>match kEq κ κ',kEq κ κ'' with
        | true,true=>ret o (.data (.int κ) (max (max i j) k:Int))
        | _,_=>.fail
      | [x1,x2,x3,x4,x5,x6]=>opd x1 fun v1=>opd x2 fun v2=>opd x3 fun v3=>opd x4 fun v4=>opd x5 fun v5=>opd x6 fun v6=>Z4a v1 fun κ i1=>Z4a v2 fun κ2 i2=>Z4a v3 fun κ3 i3=>Z4a v4 fun κ4 i4=>Z4a v5 fun κ5 i5=>Z4a v6 fun κ6 i6=>match kEq κ κ2,kEq κ κ3,kEq κ κ4,kEq κ κ5,kEq κ κ6 with
        | true,true,true,true,true=>ret o (.data (.int κ) (max (max (max (max (max i1 i2) i3) i4) i5) i6:Int))
        | _,_,_,_,_=>.fail
      | _=>.fail
    | .builtin .min=>match c.args.toList with
      | [x,y]=>opd x fun v=>opd y fun w=>Z4a v fun κ i=>Z4a w fun κ' j=>match kEq κ κ' with
        | true=>ret o (.data (.int κ) (min i j:Int))
        | false=>.fail
      | _=>.fail
    | .value x=>opd x fun fv=>ZZe c.args.toList fun ags=>match fv with
      | .fn f .nl=>ZTj C nid o f ags
      | _=>.fail
    | .invoke x m=>opd x fun r=>ZZe c.args.toList fun ags=>match r with
      | .ifc t v=>match lkM C.meths t m with
        | some f=>ZTj C nid o f (.cons v ags)
        | none=>.fail
      | _=>.fail
    | _=>.fail
  | _=>.fail
def ZAh (o:Oper):Ev Unit:=match o.dst with
 | some d=>.wrS d .undef (.done ())
 | none=>.done ()
def gop (C:Cf) (ops:List Oper) (nid:Nat) (o:Oper):Ev Unit:=match o.guard with
 | none=>Z1 C nid o
 | some (j,w)=>match ops[j]? with
  | some q=>match q.dst with
   | some t=>.rdS t fun x=>match x with
    | .undef=>ZAh o
    | .data .bool _=>match w with
     | true=>.test t (Z1 C nid o) (ZAh o)
     | false=>.test t (ZAh o) (Z1 C nid o)
    | _=>.fail
   | none=>.fail
  | none=>.fail
structure Fp where
 rs:Nat
 ws:Nat
 rl:Nat
 wl:Nat
def Fp.no:Fp:=⟨0,0,0,0⟩
def bit (m k:Nat):Nat:=Nat.lor m (Nat.pow 2 k)
def ZCb {ρ α:Type} (n:Nat):Ev ρ→Fr→Lo→Fp→(ρ→Fr→Lo→Fp→Option α)→Option α
 | .fail,_,_,_,_=>none
 | .done r,f,l,p,K=>K r f l p
 | .rdS t k,f,l,p,K=>match lkE f t with
  | some x=>ZCb n (k x.x) f l ⟨bit p.rs t,p.ws,p.rl,p.wl⟩ K
  | none=>none
 | .rdL u k,f,l,p,K=>match lkE l u with
  | some x=>ZCb n (k x.st x.x) f l ⟨p.rs,p.ws,bit p.rl u,p.wl⟩ K
  | none=>none
 | .wrS t x e,f,l,p,K=>ZCb n e (⟨t,n,x⟩ :: f) l ⟨p.rs,bit p.ws t,p.rl,p.wl⟩ K
 | .wrL u L e,f,l,p,K=>ZCb n e f (⟨u,n,L⟩ :: era l u) ⟨p.rs,p.ws,p.rl,bit p.wl u⟩ K
 | .new u L e,f,l,p,K=>match lkE l u with
  | none=>ZCb n e f (⟨u,n,L⟩ :: l) ⟨p.rs,p.ws,bit p.rl u,bit p.wl u⟩ K
  | some _=>none
 | .del u e,f,l,p,K=>ZCb n e f (era l u) ⟨p.rs,p.ws,p.rl,bit p.wl u⟩ K
 | .bind x k,f,l,p,K=>bnd x fun y=>ZCb n (k y) f l p K
 | .test t e1 e2,f,l,p,K=>match lkE f t with
  | some ⟨_,s,.data .bool b⟩=>ifb b (ZCb n e1 (⟨t,s,.data .bool true⟩ :: f) l ⟨bit p.rs t,p.ws,p.rl,p.wl⟩ K) (ZCb n e2 (⟨t,s,.data .bool false⟩ :: f) l ⟨bit p.rs t,p.ws,p.rl,p.wl⟩ K)
  | _=>none
 | .alt b e1 e2,f,l,p,K=>ifb b (ZCb n e1 f l p K) (ZCb n e2 f l p K)
def Fp.free (p q:Fp):Bool:=Nat.beq (Nat.lor (Nat.lor (Nat.land p.ws (Nat.lor q.rs q.ws)) (Nat.land p.rs q.ws)) (Nat.lor (Nat.land p.wl (Nat.lor q.rl q.wl)) (Nat.land p.rl q.wl))) 0
def Z1c (done:List Nat):List Edge→Nat→Nat
 | [],m=>m
 | e :: r,m=>match Region.binds .any e with
  | true=>Z1c done r (Nat.lor (bit m e.on) (done.getD e.on 0))
  | false=>Z1c done r m
def Z6a:List Oper→List Nat→List Nat
 | [],done=>done
 | o :: r,done=>Z6a r (done++[Z1c done o.after.toList 0])
def chk1 (m:Nat) (q:Fp):List Fp→Nat→Bool
 | [],_=>true
 | p :: r,i=>match Nat.testBit m i with
  | true=>chk1 m q r (i+1)
  | false=>match p.free q with
   | true=>chk1 m q r (i+1)
   | false=>false
def ZWe:List Fp→List Nat→List Fp→Bool
 | _,_,[]=>true
 | bef,m :: ms,q :: qs=>match chk1 m q bef 0 with
  | true=>ZWe (bef++[q]) ms qs
  | false=>false
 | _,[],_ :: _=>false
def Zxj (i:Nat):List Edge→Bool
 | []=>true
 | e :: r=>match Region.binds .any e with
  | true=>match Nat.blt e.on i with
   | true=>Zxj i r
   | false=>false
  | false=>Zxj i r
def ZHe:Nat→List Oper→Bool
 | _,[]=>true
 | i,o :: r=>match Zxj i o.after.toList with
  | true=>ZHe (i+1) r
  | false=>false
def sm:Nat→(Nat→Rat)→Rat
 | 0,_=>0
 | n+1,f=>sm n f+f n
theorem ZT {n:Nat} {f g:Nat→Rat} (h:∀ j,j<n→f j=g j):sm n f=sm n g:=by
 induction n with
 | zero=>rfl
 | succ n ih=>simp only [sm];rw [ih fun j hj=>h j (by omega),h n (by omega)]
theorem ZPh (n:Nat) (f g:Nat→Rat):sm n (fun j=>f j+g j)=sm n f+sm n g:=by
 induction n with
 | zero=>show (0:Rat)=0+0;grind
 | succ n ih=>simp only [sm];rw [ih];grind
theorem ZUb (n:Nat) (c:Rat) (f:Nat→Rat):sm n (fun j=>c*f j)=c*sm n f:=by
 induction n with
 | zero=>show (0:Rat)=c*0;grind
 | succ n ih=>simp only [sm];rw [ih];grind
theorem Zia {n:Nat} {f:Nat→Rat} (h:∀ j,j<n→f j=0):sm n f=0:=by
 induction n with
 | zero=>rfl
 | succ n ih=>simp only [sm];rw [ih fun j hj=>h j (by omega),h n (by omega)];grind
theorem ZRa {n k:Nat} {f:Nat→Rat} (hk:k<n) (h:∀ j,j<n→j≠k→f j=0):sm n f=f k:=by
 induction n with
 | zero=>omega
 | succ n ih =>
  simp only [sm];by_cases e:k=n
  ·subst e;rw [Zia fun j hj=>h j (by omega) (by omega)];grind
  ·rw [ih (by omega) fun j hj hne=>h j (by omega) hne,h n (by omega) (by omega)];grind
theorem Zch (n:Nat) (f g:Nat→Rat):sm n (fun j=>f j-g j)=sm n f-sm n g:=by
 induction n with
 | zero=>show (0:Rat)=0-0;grind
 | succ n ih=>simp only [sm];rw [ih];grind
theorem ZFn (n m:Nat) (f:Nat→Nat→Rat):sm n (fun i=>sm m (f i))=sm m (fun j=>sm n fun i=>f i j):=by
 induction n with
 | zero=>exact (Zia fun j hj=>rfl).symm
 | succ n ih =>
  simp only [sm];rw [ih,← ZPh]
abbrev Mx:=Nat→Nat→Rat
section
variable {R n:Nat} {M0 M:Mx} {piv:List Nat}
def kv (M:Mx) (piv:List Nat) (j:Nat):Nat→Rat:=fun d=>if d=j then 1 else match piv.idxOf? d with
 | some i=>- M i j
 | none=>0
end
section
variable {R n:Nat} {N M:Mx} {b:Nat→Rat} {piv:List Nat}
end
noncomputable def ZGu (a:(List Int)):Option (Bool) :=
 bnd (ifb (((a.length:Int))==(1:Int))
 (bnd (idx a (0:Int)) fun b =>
 some (b==(1:Int)))
 (some false))
 (fun (c:Bool) =>
 (some c))
noncomputable def cut_m (a:(List Int)):Option ((List Int)) :=
 bnd (bnd (Zg (fun s:(List Int)=>match s with
| b =>
 (bnd (ifb (decide ((0:Int)<(b.length:Int)))
 (bnd (chk .i64 (((b.length:Int))-(1:Int))) fun c =>
 bnd (idx b c) fun d =>
 some (d==(0:Int)))
 (some false))
 (fun (e:Bool) =>
 (ifb (e)
 (bnd (chk .i64 (((b.length:Int))-(1:Int))) fun f =>
 bnd (ZR b (0:Int) f) fun g =>
 some (.inl g))
 (some (.inr b)))))) Zi a)
 (fun (h:(List Int)) =>
 (some h)))
 (fun (i:(List Int)) =>
 (some i))
noncomputable def cmp_m (a:(List Int)) (b:(List Int)):Option (Int) :=
 ifb (((a.length:Int)) != ((b.length:Int)))
 (ifb (decide ((a.length:Int)<(b.length:Int)))
 (some (-1:Int))
 (some (1:Int)))
 (bnd (chk .i64 (((a.length:Int))-(1:Int))) fun d =>
 bnd (bnd (Zg (fun s:Int=>match s with
| c =>
 (ifb (decide ((0:Int)≤c))
 (bnd (idx a c) fun e =>
 bnd (idx b c) fun f =>
 ifb (decide (e<f))
 (some (.inr ((.inl (-1:Int)))))
 (bnd (idx a c) fun g =>
 bnd (idx b c) fun h =>
 ifb (decide (h<g))
 (some (.inr ((.inl (1:Int)))))
 (bnd (chk .i64 (c-(1:Int))) fun i =>
 some (.inl i))))
 (some (.inr ((.inr (()))))))) Zi d)
 (fun (p:(Int) ⊕ (Unit))=>match p with
| .inl j =>
 (some ((.inr j)))
| .inr (()) =>
 (some ((.inl (()))))))
 (fun (p:(Unit) ⊕ (Int))=>match p with
| .inl (()) =>
 (some (0:Int))
| .inr k =>
 (some k)))
noncomputable def Zgp (a:Nat) (b:Nat):Option (Int) :=
 bnd (ifb (decide ((0:Int)<(((Zc 18446744073709551616 a)).length:Int)))
 (bnd (idx ((Zc 18446744073709551616 a)) (0:Int)) fun e =>
 some e)
 (some (0:Int)))
 (fun (f:Int) =>
 (bnd (idx ((Zc 18446744073709551616 b)) (0:Int)) fun g =>
 bnd (bnd (Zg (fun s:Int×Int=>match s with
| (d,c) =>
 (ifb (decide ((0:Int)<c))
 (bnd (rem .u64 d c) fun h =>
 some (.inl ((c,h))))
 (some (.inr d)))) Zi ((f,g)))
 (fun (i:Int) =>
 (some i)))
 (fun (j:Int) =>
 (some j))))
theorem Z2x {n:Nat}:ZGu (Zc 18446744073709551616 n)=some (decide (n=1)):=by
 unfold ZGu;by_cases h:n=1
 ·subst h;rw [Z2k (by omega) (by decide)];rfl
 ·by_cases h0:n=0
  ·subst h0;rw [Z7];rfl
  ·rw [Zqc (by decide) h0];by_cases h2:n / 18446744073709551616=0
   ·rw [h2,Z7];have:n%18446744073709551616=n:=Nat.mod_eq_of_lt (by have:=Nat.mod_add_div n 18446744073709551616;rw [h2] at this;have:=Nat.mod_lt n (show 0<18446744073709551616 by decide);omega);simp [ifb,bnd,idx,this,h];omega
   ·have h3:Zc 18446744073709551616 (n / 18446744073709551616)≠[]:=fun e=>h2 ((ZQh (by decide)).1 e);have h4:0<(Zc 18446744073709551616 (n / 18446744073709551616)).length:=List.length_pos_iff.2 h3;have h5:((((n%18446744073709551616:Nat):Int) :: Zc 18446744073709551616 (n / 18446744073709551616)).length:Int)==1↔False:=by
     simp only [List.length_cons,beq_iff_eq,iff_false];omega
    have h6:(((((n%18446744073709551616:Nat):Int) :: Zc 18446744073709551616 (n / 18446744073709551616)).length:Int)==1)=false:=by simpa using h5
    rw [h6];simp [ifb,bnd,h]
theorem cut_eq {a:List Int} (ha:Dig 18446744073709551616 a) (hl:a.length≤9223372036854775807):cut_m a=some (Zc 18446744073709551616 (val 18446744073709551616 a)):=by
 unfold cut_m;rw [Zwk (r:=Zc 18446744073709551616 (val 18446744073709551616 a)) (fun s=>Dig 18446744073709551616 s∧s.length≤9223372036854775807∧val 18446744073709551616 s=val 18446744073709551616 a) List.length ⟨ha,hl,rfl⟩ (ZV (by omega)) ?_]
 ·rfl
 ·rintro s ⟨h1,h2,h3⟩;by_cases h0:s=[]
  ·subst h0;right;rw [← h3];show some (Sum.inr [])=_;rw [show val 18446744073709551616 []=0 from rfl,Z7]
  ·have hp:0<s.length:=List.length_pos_iff.2 h0;have e1:decide ((0:Int)<(s.length:Int))=true:=decide_eq_true (by omega);have e2:chk .i64 ((s.length:Int)-1)=some ((s.length-1:Nat):Int):=by
    rw [Zk (by omega) (by omega)];congr 1;omega
   have e3:idx s ((s.length-1:Nat):Int)=some (s[s.length-1]'(by omega)):=Zz (by omega);simp only [e1,Zd,e2,Za,e3];by_cases hz:s[s.length-1]'(by omega)=0
   ·left;have e4:((s[s.length-1]'(by omega))==0)=true:=by simp [hz]
    simp only [e4,Zd];have e5:ZR s 0 ((s.length-1:Nat):Int)=some (s.take (s.length-1)):=by
     unfold ZR;rw [if_pos ⟨by omega,by omega,by omega⟩];simp
    rw [e5];refine ⟨_,rfl,⟨h1.take _,by simp;omega,?_⟩,by simp;omega⟩;have:=Z2a (B:=18446744073709551616) (l:=s) (i:=s.length-1) (by omega);rw [hz] at this;have h4:s.length-1+1=s.length:=by omega
    rw [h4,List.take_length] at this;simp at this;omega
   ·right;have e4:((s[s.length-1]'(by omega))==0)=false:=by simp [hz]
    simp only [e4,Ze];have hc:Cut s:=by
     intro x hx;rw [List.getLast?_eq_getElem?,List.getElem?_eq_getElem (by omega)] at hx
     cases hx;exact hz
    rw [← h3,ZOg (by decide) h1 hc]
theorem Z3c {B n:Nat} (hB:2≤B):(Zc B n)≠[]↔n≠0:=not_congr (ZQh hB)
theorem Zuk {B n m:Nat} (hB:2≤B) (h:(Zc B n).length<(Zc B m).length):n<m:=by
 have h1:=Zdc hB n;have hm:m≠0:=by rintro rfl;rw [Z7] at h;simp at h
 have h2:=Zqj hB hm;have h3:B^(Zc B n).length≤B^((Zc B m).length-1):=Nat.pow_le_pow_right (by omega) (by omega);omega
theorem ZCl {B:Nat} {a b:List Int} (ha:Dig B a) (hb:Dig B b) {i:Nat} (hl:a.length=b.length) (hi:i<a.length) (he:a.drop (i+1)=b.drop (i+1)) (h:a[i]<b[i]'(by omega)):val B a<val B b:=by
 rw [Zdd B a (i+1) (by omega),Zdd B b (i+1) (by omega),he,Z2a hi,Z2a (by omega:i<b.length)];have h1:=Zld (ha.take i);rw [List.length_take,Nat.min_eq_left (by omega)] at h1;have h2:=ha.get hi;have h3:=hb.get (i:=i) (by omega);have h4:B^i*(a[i].toNat+1)≤B^i*(b[i]'(by omega)).toNat:=Nat.mul_le_mul_left _ (by omega);rw [Nat.mul_add] at h4;omega
theorem cmp_eq {n m:Nat} (h1:(Zc 18446744073709551616 n).length≤9223372036854775807) (h2:(Zc 18446744073709551616 m).length≤9223372036854775807):cmp_m (Zc 18446744073709551616 n) (Zc 18446744073709551616 m)=some (Zha n m):=by
 unfold cmp_m;by_cases hl:(Zc 18446744073709551616 n).length=(Zc 18446744073709551616 m).length
 ·have e0:(((Zc 18446744073709551616 n).length:Int) != ((Zc 18446744073709551616 m).length:Int))=false:=by simp [hl]
  rw [e0,Ze];rw [Zk (by omega) (by omega),Za];have hd:=Zsa (B:=18446744073709551616) (by decide) n;have hd':=Zsa (B:=18446744073709551616) (by decide) m;have hvn:=Zja (B:=18446744073709551616) (by decide) n;have hvm:=Zja (B:=18446744073709551616) (by decide) m;generalize Zc 18446744073709551616 n=a at *;generalize Zc 18446744073709551616 m=b at *;rw [Zwk (r:=if n<m then .inl (-1) else if m<n then .inl 1 else .inr ()) (fun s:Int=>-1≤s∧s<a.length∧a.drop (s+1).toNat=b.drop (s+1).toNat) (fun s=>(s+1).toNat) ⟨by omega,by omega,?_⟩ (ZV (by omega)) ?_]
  ·rw [Za];unfold Zha;by_cases hlt:n<m
   ·simp only [if_pos hlt];rfl
   ·by_cases hgt:m<n
    ·simp only [if_neg hlt,if_pos hgt];rfl
    ·simp only [if_neg hlt,if_neg hgt];rfl
  ·rw [List.drop_eq_nil_of_le (by omega),List.drop_eq_nil_of_le (by omega)]
  ·rintro s ⟨h3,h4,h5⟩;by_cases hs:0≤s
   ·obtain ⟨i,rfl⟩:=Int.eq_ofNat_of_zero_le hs;have hi:i<a.length:=by omega
    have hi':i<b.length:=by omega
    have e1:decide ((0:Int)≤(i:Int))=true:=decide_eq_true hs;simp only [e1,Zd,Zz hi,Zz hi',Za];have ei:((i:Int)+1).toNat=i+1:=by omega
    rw [ei] at h5;by_cases hlt:a[i]<b[i]
    ·right;have:=ZCl hd hd' hl hi h5 hlt;rw [decide_eq_true hlt,Zd,if_pos (by omega)]
    ·by_cases hgt:b[i]<a[i]
     ·right;have:=ZCl hd' hd hl.symm hi' h5.symm hgt;rw [decide_eq_false hlt,Ze,decide_eq_true hgt,Zd,if_neg (by omega),if_pos (by omega)]
     ·left;rw [decide_eq_false hlt,Ze,decide_eq_false hgt,Ze,Zk (by omega) (by omega),Za];refine ⟨_,rfl,⟨by omega,by omega,?_⟩,by simp⟩;have e2:((i:Int)-1+1).toNat=i:=by omega
      rw [e2,List.drop_eq_getElem_cons hi,List.drop_eq_getElem_cons hi',h5];congr 1;omega
   ·right;have:s = -1:=by omega
    subst this;simp at h5;have:n=m:=by rw [← hvn,← hvm,h5]
    subst this;simp [ifb]
 ·have e0:(((Zc 18446744073709551616 n).length:Int) != ((Zc 18446744073709551616 m).length:Int))=true:=by simp;omega
  rw [e0,Zd];by_cases hlt:(Zc 18446744073709551616 n).length<(Zc 18446744073709551616 m).length
  ·have:=Zuk (by decide) hlt;rw [decide_eq_true (by omega),Zd];simp [Zha,this]
  ·have:=Zuk (B:=18446744073709551616) (n:=m) (m:=n) (by decide) (by omega);rw [decide_eq_false (by omega),Ze];have h5:¬ n<m:=by omega
   simp [Zha,this,h5]
theorem Z7n {B n:Nat} (hB:2≤B) (h0:n≠0) (h:n<B):idx (Zc B n) 0=some (n:Int):=by rw [Z2k h0 h];rfl
theorem ZQB {n m:Nat} (hn:n<18446744073709551616) (hm:m<18446744073709551616) (h0:m≠0):Zgp n m=some ((Nat.gcd n m:Nat):Int):=by
 unfold Zgp;have e1:ifb (decide ((0:Int)<((Zc 18446744073709551616 n).length:Int))) (bnd (idx (Zc 18446744073709551616 n) 0) fun y80=>some y80) (some 0)=some (n:Int):=by
  by_cases h:n=0
  ·subst h;rw [Z7];rfl
  ·rw [Z2k h hn];rfl
 rw [e1,Za,Z7n (by decide) h0 hm,Za];rw [Zwk (r:=((Nat.gcd n m:Nat):Int)) (fun s:Int×Int=>0≤s.1∧0≤s.2∧s.2<18446744073709551616∧Nat.gcd s.1.toNat s.2.toNat=Nat.gcd n m) (fun s=>s.2.toNat) ⟨by simp,by simp,by simp;omega,by simp⟩ (ZV (by simp;omega)) ?_]
 ·rfl
 ·rintro ⟨x,y⟩ ⟨h1,h2,h3,h4⟩;simp only at h1 h2 h3 h4 ⊢;by_cases hy:y=0
  ·right;subst hy;simp at h4;simp [ifb];omega
  ·left;rw [decide_eq_true (by omega),Zd];have e2:rem .u64 x y=some (x.tmod y):=by unfold rem;rw [if_neg hy]
   rw [e2,Za];obtain ⟨X,rfl⟩:=Int.eq_ofNat_of_zero_le h1;obtain ⟨Y,rfl⟩:=Int.eq_ofNat_of_zero_le h2;have e3:(X:Int).tmod (Y:Int)=((X%Y:Nat):Int):=by simp [Int.tmod_eq_emod_of_nonneg]
   rw [e3];have hY:0<Y:=by omega
   have:=Nat.mod_lt X hY;refine ⟨_,rfl,⟨by omega,by omega,by simp;omega,?_⟩,by simp;omega⟩;simp only [Int.toNat_natCast] at h4 ⊢;rw [← h4]
   conv=>rhs;rw [Nat.gcd_comm,Nat.gcd_rec,Nat.gcd_comm]
noncomputable def Zan (a:Nat) (b:Nat):Option (Nat) :=
 bnd (ifb (decide ((((Zc 18446744073709551616 a)).length:Int)<(((Zc 18446744073709551616 b)).length:Int)))
 (some ((b,a)))
 (some ((a,b))))
 (fun (p:Nat×Nat)=>match p with
| (d,h) =>
 (bnd (chk .i64 (((((Zc 18446744073709551616 d)).length:Int))+(1:Int))) fun k =>
 bnd (mk 8 ((((Zc 18446744073709551616 d)).length:Int)) k) fun v =>
 bnd (bnd (Zg (fun s:(List Int)×Int×Int=>match s with
| (e,i,c) =>
 (ifb (decide (c<(((Zc 18446744073709551616 d)).length:Int)))
 (bnd (idx ((Zc 18446744073709551616 d)) c) fun l =>
 bnd (ifb (decide (c<(((Zc 18446744073709551616 h)).length:Int)))
 (bnd (idx ((Zc 18446744073709551616 h)) c) fun m =>
 some m)
 (some (0:Int)))
 (fun (n:Int) =>
 (bnd (Zyb l n i) fun j =>
 bnd (idx e c) fun w =>
 bnd (chk .i64 (c+(1:Int))) fun o =>
 some (.inl (((e.set (c).toNat j.1),j.2,o))))))
 (some (.inr ((e,i)))))) Zi (((List.replicate ((((Zc 18446744073709551616 d)).length:Int)).toNat (0:Int)),(0:Int),(0:Int))))
 (fun (p:(List Int)×Int)=>match p with
| (q,r) =>
 (some ((q,r)))))
 (fun (p:(List Int)×Int)=>match p with
| (f,g) =>
 (bnd (ifb (decide ((0:Int)<g))
 (bnd (ZC 8 (f++[g])) fun x =>
 some ((f++[g])))
 (some f))
 (fun (t:(List Int)) =>
 (bnd (clo t) fun u =>
 some u))))))
noncomputable def Z0o (a:Nat) (b:Nat):Option (Nat) :=
 bnd (mk 8 ((((Zc 18446744073709551616 a)).length:Int)) ((((Zc 18446744073709551616 a)).length:Int))) fun n =>
 bnd (bnd (Zg (fun s:(List Int)×Int×Int=>match s with
| (d,f,c) =>
 (ifb (decide (c<(((Zc 18446744073709551616 a)).length:Int)))
 (bnd (idx ((Zc 18446744073709551616 a)) c) fun g =>
 bnd (ifb (decide (c<(((Zc 18446744073709551616 b)).length:Int)))
 (bnd (idx ((Zc 18446744073709551616 b)) c) fun h =>
 some h)
 (some (0:Int)))
 (fun (i:Int) =>
 (bnd (Znd g i f) fun e =>
 bnd (idx d c) fun o =>
 bnd (chk .i64 (c+(1:Int))) fun j =>
 some (.inl (((d.set (c).toNat e.1),e.2,j))))))
 (some (.inr d)))) Zi (((List.replicate ((((Zc 18446744073709551616 a)).length:Int)).toNat (0:Int)),(0:Int),(0:Int))))
 (fun (k:(List Int)) =>
 (some k)))
 (fun (l:(List Int)) =>
 (bnd (ZMa l) fun m =>
 some m))
theorem ZQr {P V Va Vb lo hi x y c B:Nat} (h:V+P*c=Va+Vb) (e:lo+B*hi=x+y+c):V+P*lo+P*B*hi=Va+P*x+(Vb+P*y):=by
 grind
theorem ZVo {P V Va Vb lo hi x y c B:Nat} (h:V+Vb=Va+P*c) (e:lo+y+c=x+B*hi):V+P*lo+(Vb+P*y)=Va+P*x+P*B*hi:=by
 grind
theorem ZQt {l:List Int} {B k:Nat} (hd:Dig B l) (hB:0<B):∃ y:Int,bnd (ifb (decide ((k:Int)<(l.length:Int))) (bnd (idx l (k:Int)) fun y=>some y) (some 0)) (fun x=>some x)=some y∧0≤y∧y<B∧val B (l.take (k+1))=val B (l.take k)+B^k*y.toNat ∧
  ∀ {α:Type} (f:Int→Option α),bnd (ifb (decide ((k:Int)<(l.length:Int))) (bnd (idx l (k:Int)) fun y=>some y) (some 0)) f=f y:=by
 by_cases h:k<l.length
 ·have e:decide ((k:Int)<(l.length:Int))=true:=decide_eq_true (by omega);refine ⟨l[k],?_,(hd.get h).1,(hd.get h).2,Z2a h,fun f=>?_⟩
  ·rw [e,Zd,Zz h];rfl
  ·rw [e,Zd,Zz h];rfl
 ·have e:decide ((k:Int)<(l.length:Int))=false:=decide_eq_false (by omega);refine ⟨0,?_,by omega,by omega,?_,fun f=>?_⟩
  ·rw [e];rfl
  ·rw [List.take_of_length_le (by omega),List.take_of_length_le (by omega)];simp
  ·rw [e];rfl
theorem Zhy {l:List Int} {k:Nat} {x:Int} (h:k<l.length):(l.set k x).take (k+1)=l.take k++[x]:=by
 rw [List.take_set,List.take_succ_eq_append_getElem h,List.set_append_right _ _ (by simp;omega)];simp [List.length_take,Nat.min_eq_left (Nat.le_of_lt h)]
theorem Z5h {B:Nat} {l:List Int} {k:Nat} {x:Int} (h:k<l.length):val B ((l.set k x).take (k+1))=val B (l.take k)+B^k*x.toNat:=by
 rw [Zhy h,ZGc,List.length_take,Nat.min_eq_left (by omega)];simp [val]
theorem Zii {x y c:Int} (hx:0≤x) (hy:0≤y) (hc:0≤c) (hc':c≤1):Zyb x y c=some ((x+y+c)%18446744073709551616,(x+y+c) / 18446744073709551616):=by
 unfold Zyb;rw [if_pos ⟨hx,hy,hc,hc'⟩]
theorem Zlv {x y c:Int} (hx:0≤x) (hy:0≤y) (hc:0≤c) (hc':c≤1):Znd x y c=some ((x-y-c)%18446744073709551616,if x<y+c then 1 else 0):=by
 unfold Znd;rw [if_pos ⟨hx,hy,hc,hc'⟩]
theorem ZSc {b:Nat} {l c:Int} (h0:0≤l) (h1:l≤c) (h2:(b:Int)*c≤281474976710656) (h3:c≤9223372036854775807):∃ u,mk b l c=some u:=by
 unfold mk;rw [if_pos ⟨h0,h1,h2,h3⟩];exact ⟨_,rfl⟩
theorem plus_eq {n m:Nat} (hn:okN n) (hm:okN m):Zan n m=some (n+m):=by
 unfold Zan;obtain ⟨x,y,e,hx,hy,hxy,hl⟩:∃ x y:Nat,ifb (decide ((((Zc 18446744073709551616 n)).length:Int)<(((Zc 18446744073709551616 m)).length:Int))) (some (m,n)) (some (n,m))=some (x,y)∧okN x∧okN y∧x+y=n+m ∧
   (Zc 18446744073709551616 y).length≤(Zc 18446744073709551616 x).length:=by
  by_cases h:(Zc 18446744073709551616 n).length<(Zc 18446744073709551616 m).length
  ·exact ⟨m,n,by rw [decide_eq_true (by omega)];rfl,hm,hn,by omega,by omega⟩
  ·exact ⟨n,m,by rw [decide_eq_false (by omega)];rfl,hn,hm,rfl,by omega⟩
 rw [e,Za,← hxy];simp only;have hdx:=Zsa (B:=18446744073709551616) (by decide) x;have hdy:=Zsa (B:=18446744073709551616) (by decide) y;have hvx:=Zja (B:=18446744073709551616) (by decide) x;have hvy:=Zja (B:=18446744073709551616) (by decide) y;have hcx:=Zgl (B:=18446744073709551616) (by decide) x;have hcy:=Zgl (B:=18446744073709551616) (by decide) y;unfold okN at hx hy;generalize Zc 18446744073709551616 x=a at *;generalize Zc 18446744073709551616 y=b at *;rw [Zk (by omega) (by omega),Za];obtain ⟨u,hu⟩:=ZSc (b:=8) (l:=(a.length:Int)) (c:=(a.length:Int)+1) (by omega) (by omega) (by omega) (by omega);rw [hu,Za,Z5];refine Zqa (fun s:(List Int)×Int×Int=>∃ k:Nat,s.2.2=(k:Int)∧k≤a.length∧s.1.length=a.length∧Dig 18446744073709551616 s.1∧0≤s.2.1∧s.2.1≤1 ∧
  val 18446744073709551616 (s.1.take k)+18446744073709551616^k*s.2.1.toNat=val 18446744073709551616 (a.take k)+val 18446744073709551616 (b.take k)) (fun s=>a.length-s.2.2.toNat)
  (fun r:List Int×Int=>r.1.length=a.length∧Dig 18446744073709551616 r.1∧0≤r.2∧r.2≤1∧val 18446744073709551616 r.1+18446744073709551616^a.length*r.2.toNat=x+y)
  ⟨0,rfl,by omega,by simp,Dig.replicate _ (by omega),Int.le_refl _,(by show (0:Int)≤1;omega),by simp [val]⟩ (ZV (by simp;omega)) ?_ ?_
 ·rintro ⟨out,c,i⟩ ⟨k,rfl,hk,ho,hd,hc,hc',hv⟩;simp only at ho hd hc hc' hv ⊢;by_cases hlt:k<a.length
  ·left;rw [decide_eq_true (by omega),Zd,Zz hlt,Za];obtain ⟨y,_,hy,hy',hvb,hf⟩:=ZQt (k:=k) hdy (by decide);rw [hf,Zii (hdx.get hlt).1 hy hc hc',Za,Zz (by omega),Za,Zk (by omega) (by omega),Za];have hx:=hdx.get hlt;refine ⟨_,rfl,⟨k+1,by simp,by omega,by simp [ho],?_,by simp;omega,by simp;omega,?_⟩,by simp;omega⟩
   ·exact hd.set _ (by omega)
   ·simp only [Int.toNat_natCast];rw [Z5h (by omega),Z2a hlt,hvb,Nat.pow_succ];exact ZQr hv (by omega)
  ·right;rw [decide_eq_false (by omega),Ze];refine ⟨_,rfl,ho,hd,hc,hc',?_⟩;have hk':k=a.length:=by omega
   subst hk';rw [← hvx,← hvy]
   simpa [List.take_of_length_le,ho,hl] using hv
 ·rintro ⟨out,c⟩ ⟨ho,hd,hc,hc',hv⟩;simp only at ho hd hc hc' hv ⊢;rw [Za];simp only;rw [← hv];by_cases h0:0<c
  ·have hc1:c=1:=by omega
   subst hc1;rw [decide_eq_true (by omega),Zd];have hr:ZC 8 (out++[(1:Int)])=some ():=by unfold ZC;rw [if_pos (by simp;omega)]
   rw [hr,Za,Za,ZYp (Dig.append.2 ⟨hd,Dig.cons.2 ⟨by omega,Dig.nil⟩⟩) (by intro x hx;simp at hx;omega),Za,ZGc,ho];simp [val]
  ·have hc1:c=0:=by omega
   subst hc1;rw [decide_eq_false (by omega),Ze,Za];have hcut:Cut out:=by
    intro z hz h0;subst h0;have hne:out≠[]:=by rintro rfl;cases hz
    have hpos:0<out.length:=List.length_pos_iff.2 hne;have h1:val 18446744073709551616 out<18446744073709551616^(a.length-1):=by
     rw [List.getLast?_eq_getElem?,List.getElem?_eq_getElem (by omega)] at hz;have h2:=Z2a (B:=18446744073709551616) (l:=out) (i:=out.length-1) (by omega);rw [Option.some.inj hz] at h2;have h3:out.length-1+1=out.length:=by omega
     rw [h3,List.take_length] at h2;have h4:=Zld (hd.take (out.length-1));rw [List.length_take,Nat.min_eq_left (by omega),ho] at h4;simp at h2;rw [h2,ho];exact h4
    have h5:x≠0:=by
     rintro rfl;rw [← ZOg (by decide) hdx hcx,hvx,Z7] at ho;simp at ho;exact hne ho
    have h6:=Zqj (B:=18446744073709551616) (by decide) h5;rw [← hvx,ZOg (by decide) hdx hcx,hvx] at h6;simp at hv;omega
   rw [ZYp hd hcut,Za];simp
theorem Z6c {B n m:Nat} (hB:2≤B) (h:n≤m):(Zc B n).length≤(Zc B m).length:=by
 apply Z1f hB;exact Nat.lt_of_le_of_lt h (Zdc hB m)
theorem ZGz {n m:Nat} (hn:okN n) (hm:m≤n):Z0o n m=some (n-m):=by
 unfold Z0o;have hl:=Z6c (B:=18446744073709551616) (by decide) hm;have hdx:=Zsa (B:=18446744073709551616) (by decide) n;have hdy:=Zsa (B:=18446744073709551616) (by decide) m;have hvx:=Zja (B:=18446744073709551616) (by decide) n;have hvy:=Zja (B:=18446744073709551616) (by decide) m;unfold okN at hn;generalize Zc 18446744073709551616 n=a at *;generalize Zc 18446744073709551616 m=b at *;obtain ⟨u,hu⟩:=ZSc (b:=8) (l:=(a.length:Int)) (c:=(a.length:Int)) (by omega) (by omega) (by omega) (by omega);rw [hu,Za,Z5];refine Zqa (fun s:(List Int)×Int×Int=>∃ k:Nat,s.2.2=(k:Int)∧k≤a.length∧s.1.length=a.length∧Dig 18446744073709551616 s.1∧0≤s.2.1∧s.2.1≤1 ∧
  val 18446744073709551616 (s.1.take k)+val 18446744073709551616 (b.take k)=val 18446744073709551616 (a.take k)+18446744073709551616^k*s.2.1.toNat) (fun s=>a.length-s.2.2.toNat)
  (fun r:List Int=>r.length=a.length∧Dig 18446744073709551616 r∧val 18446744073709551616 r=n-m)
  ⟨0,rfl,by omega,by simp,Dig.replicate _ (by omega),Int.le_refl _,(by show (0:Int)≤1;omega),by simp [val]⟩ (ZV (by simp;omega)) ?_ ?_
 ·rintro ⟨out,c,i⟩ ⟨k,rfl,hk,ho,hd,hc,hc',hv⟩;simp only at ho hd hc hc' hv ⊢;by_cases hlt:k<a.length
  ·left;rw [decide_eq_true (by omega),Zd,Zz hlt,Za];obtain ⟨y,_,hy,hy',hvb,hf⟩:=ZQt (k:=k) hdy (by decide);have hx:=hdx.get hlt;rw [hf,Zlv (hdx.get hlt).1 hy hc hc',Za,Zz (by omega),Za,Zk (by omega) (by omega),Za];refine ⟨_,rfl,⟨k+1,by simp,by omega,by simp [ho],?_,by simp only;split <;> omega,by simp only;split <;> omega,?_⟩,by simp;omega⟩
   ·exact hd.set _ (by omega)
   ·simp only [Int.toNat_natCast];rw [Z5h (by omega),Z2a hlt,hvb,Nat.pow_succ];refine ZVo hv ?_;split <;> omega
  ·right;rw [decide_eq_false (by omega),Ze];refine ⟨_,rfl,ho,hd,?_⟩;have hk':k=a.length:=by omega
   subst hk';simp [List.take_of_length_le,ho,hl,hvx,hvy] at hv;have hlt2:=Zld hd;rw [ho] at hlt2;have:c.toNat=0:=by
    have h1:c=0∨c=1:=by omega
    rcases h1 with rfl | rfl
    ·rfl
    ·simp at hv;omega
   rw [this] at hv;omega
 ·rintro out ⟨ho,hd,hv⟩;rw [Za];unfold ZMa;rw [hv,Za]
theorem ZoA {n m z:Nat} (h:Z7i n m=some z):Zan n m=some z:=by
 unfold Z7i at h;split at h
 ·rename_i hh;rw [plus_eq hh.1 hh.2,h]
 ·cases h
theorem ZvA {n m z:Nat} (h:ZUg n m=some z):Z0o n m=some z:=by
 unfold ZUg at h;split at h
 ·rename_i hh;rw [ZGz hh.1 hh.2,h]
 ·cases h
theorem Zpw {n m:Nat} {z:Int} (h:Zih n m=some z):Zgp n m=some z:=by
 unfold Zih at h;split at h
 ·rename_i hh;rw [ZQB hh.1 hh.2.1 hh.2.2,h]
 ·cases h
noncomputable def Zmn (x:Int) (y:Int):Option (Int×Int) :=
 bnd (ZK .u64 x (32:Int)) fun a =>
 bnd (ZK .u64 y (32:Int)) fun b =>
 bnd (ZK .u64 (IntKind.u64.wrap ((Z8a .u64 x (4294967295:Int))*(Z8a .u64 y (4294967295:Int)))) (32:Int)) fun c =>
 bnd (ZK .u64 (IntKind.u64.wrap ((IntKind.u64.wrap (a*(Z8a .u64 y (4294967295:Int))))+c)) (32:Int)) fun d =>
 bnd (ZK .u64 (IntKind.u64.wrap ((Z8a .u64 (IntKind.u64.wrap ((IntKind.u64.wrap (a*(Z8a .u64 y (4294967295:Int))))+c)) (4294967295:Int))+(IntKind.u64.wrap ((Z8a .u64 x (4294967295:Int))*b)))) (32:Int)) fun e =>
 some ((IntKind.u64.wrap ((IntKind.u64.wrap ((IntKind.u64.wrap (a*b))+d))+e),IntKind.u64.wrap (x*y)))
theorem wrap_u64 (z:Int):IntKind.u64.wrap z=z%18446744073709551616:=by
 simp [IntKind.wrap,IntKind.signed,IntKind.bits]
theorem ZAm {x:Int} {k:Nat} (hx:0≤x) (hk:k≤64):ZK .u64 x (k:Int)=some (x / 2^k):=by
 unfold ZK;rw [if_neg (by omega)];have:min ((k:Int).toNat) IntKind.u64.bits=k:=by simp [IntKind.bits];omega
 rw [this,Int.fdiv_eq_ediv_of_nonneg];exact Int.pow_nonneg (by omega)
theorem Zfg (x:Nat) (h:x<18446744073709551616):Z8a .u64 (x:Int) 4294967295=((x%4294967296:Nat):Int):=by
 unfold Z8a;rw [wrap_u64];have h1:(BitVec.ofInt IntKind.u64.bits (x:Int) &&& BitVec.ofInt IntKind.u64.bits 4294967295).toNat=x%4294967296:=by
  rw [BitVec.toNat_and];have e1:(BitVec.ofInt IntKind.u64.bits (x:Int)).toNat=x:=by
   show (BitVec.ofInt 64 (x:Int)).toNat=x;rw [BitVec.toNat_ofInt];simp;omega
  have e2:(BitVec.ofInt IntKind.u64.bits 4294967295).toNat=2^32-1:=by decide
  rw [e1,e2,Nat.and_two_pow_sub_one_eq_mod]
 rw [h1];omega
theorem Z9x {x y:Int} (hx:0≤x) (hy:0≤y) (hx':x<18446744073709551616) (hy':y<18446744073709551616):Zmn x y=some (x*y / 18446744073709551616,x*y%18446744073709551616):=by
 obtain ⟨X,rfl⟩:=Int.eq_ofNat_of_zero_le hx;obtain ⟨Y,rfl⟩:=Int.eq_ofNat_of_zero_le hy;obtain ⟨h1,h2,h3,h4⟩:=Go.Lib.mul64_hi X Y (by omega) (by omega);have p1:X / 4294967296*(Y%4294967296)≤18446744065119617025:=Go.Lib.half_mul_le (by omega) (by omega);have p2:X%4294967296*(Y / 4294967296)≤18446744065119617025:=Go.Lib.half_mul_le (by omega) (by omega);have p3:X / 4294967296*(Y / 4294967296)≤18446744065119617025:=Go.Lib.half_mul_le (by omega) (by omega);unfold Zmn;have s32:∀ n:Nat,ZK .u64 (n:Int) ((32:Int))=some ((n / 4294967296:Nat):Int):=fun n=>by
  have:=ZAm (x:=(n:Int)) (k:=32) (by omega) (by omega);exact this
 have wr:∀ n:Nat,n<18446744073709551616→IntKind.u64.wrap (n:Int)=(n:Int):=fun n h=>by rw [wrap_u64];omega
 have w1:IntKind.u64.wrap ((Z8a .u64 (X:Int) ((4294967295:Int)))*(Z8a .u64 (Y:Int) ((4294967295:Int))))=((X%4294967296*(Y%4294967296):Nat):Int):=by
  rw [Zfg X (by omega),Zfg Y (by omega),← Int.natCast_mul,wr _ h1]
 have w2:IntKind.u64.wrap (((X / 4294967296:Nat):Int)*(Z8a .u64 (Y:Int) ((4294967295:Int))))=((X / 4294967296*(Y%4294967296):Nat):Int):=by
  rw [Zfg Y (by omega),← Int.natCast_mul,wr _ (by omega)]
 have w3:IntKind.u64.wrap ((Z8a .u64 (X:Int) ((4294967295:Int)))*((Y / 4294967296:Nat):Int))=((X%4294967296*(Y / 4294967296):Nat):Int):=by
  rw [Zfg X (by omega),← Int.natCast_mul,wr _ (by omega)]
 have w4:IntKind.u64.wrap (((X / 4294967296:Nat):Int)*((Y / 4294967296:Nat):Int))=((X / 4294967296*(Y / 4294967296):Nat):Int):=by
  rw [← Int.natCast_mul,wr _ (by omega)]
 rw [s32,Za,s32,Za,w1,s32,Za,w2,w3,w4,← Int.natCast_add,wr _ h2,s32,Za,Zfg _ h2,← Int.natCast_add,wr _ h3,s32,Za,← Int.natCast_add];have hlt:X*Y / 18446744073709551616<18446744073709551616:=by
  rw [Nat.div_lt_iff_lt_mul (by omega)];exact Nat.mul_lt_mul'' (by omega) (by omega)
 rw [wr _ (by omega),← Int.natCast_add,wr _ (by omega),h4,wrap_u64];simp
theorem Zfz {x y:Int} {z:Int×Int} (h:ZBc x y=some z):Zmn x y=some z:=by
 unfold ZBc at h;split at h
 ·rename_i hh;rw [Z9x hh.1 hh.2.1 hh.2.2.1 hh.2.2.2,h]
 ·cases h
noncomputable def ZHo (a:Nat) (b:Nat):Option (Nat) :=
 bnd (Zyg a) fun o =>
 ifb (o)
 (some b)
 (bnd (Zyg b) fun q =>
 ifb (q)
 (some a)
 (bnd (chk .i64 (((((Zc 18446744073709551616 a)).length:Int))+((((Zc 18446744073709551616 b)).length:Int)))) fun f =>
 bnd (mk 8 f f) fun E =>
 bnd (bnd (Zg (fun s:(List Int)×Int=>match s with
| (g,c) =>
 (ifb (decide (c<(((Zc 18446744073709551616 a)).length:Int)))
 (bnd (idx ((Zc 18446744073709551616 a)) c) fun r =>
 bnd (bnd (Zg (fun s:(List Int)×Int×Int=>match s with
| (e,h,d) =>
 (ifb (decide (d<(((Zc 18446744073709551616 b)).length:Int)))
 (bnd (idx ((Zc 18446744073709551616 b)) d) fun t =>
 bnd (ZBc r t) fun i =>
 bnd (chk .i64 (c+d)) fun u =>
 bnd (idx e u) fun v =>
 bnd (Zyb i.2 v (0:Int)) fun j =>
 bnd (Zyb j.1 h (0:Int)) fun k =>
 bnd (chk .i64 (c+d)) fun l =>
 bnd (idx e l) fun F =>
 bnd (chk .i64 (d+(1:Int))) fun w =>
 some (.inl (((e.set (l).toNat k.1),IntKind.u64.wrap ((IntKind.u64.wrap (i.1+j.2))+k.2),w))))
 (some (.inr ((e,h)))))) Zi ((g,(0:Int),(0:Int))))
 (fun (p:(List Int)×Int)=>match p with
| (x,y) =>
 (some ((x,y)))))
 (fun (p:(List Int)×Int)=>match p with
| (m,z) =>
 (bnd (chk .i64 (c+((((Zc 18446744073709551616 b)).length:Int)))) fun n =>
 bnd (idx m n) fun G =>
 bnd (chk .i64 (c+(1:Int))) fun A =>
 some (.inl (((m.set (n).toNat z),A))))))
 (some (.inr g)))) Zi (((List.replicate (f).toNat (0:Int)),(0:Int))))
 (fun (B:(List Int)) =>
 (some B)))
 (fun (C:(List Int)) =>
 (bnd (ZMa C) fun D =>
 some D))))
noncomputable def Zao (x:Int):Option (Int) :=
 bnd (ifb (decide ((4294967296:Int)≤x))
 (bnd (ZK .u64 x (32:Int)) fun e =>
 some ((e,(32:Int))))
 (some ((x,(0:Int)))))
 (fun (p:Int×Int)=>match p with
| (a,c) =>
 (bnd (ifb (decide ((65536:Int)≤a))
 (bnd (ZK .u64 a (16:Int)) fun f =>
 bnd (chk .i64 (c+(16:Int))) fun g =>
 some ((f,g)))
 (some ((a,c))))
 (fun (p:Int×Int)=>match p with
| (b,d) =>
 (bnd (ifb (decide ((256:Int)≤b))
 (bnd (ZK .u64 b (8:Int)) fun h =>
 bnd (chk .i64 (d+(8:Int))) fun i =>
 some ((h,i)))
 (some ((b,d))))
 (fun (p:Int×Int)=>match p with
| (j,k) =>
 (bnd (idx (([0,1,2,2,3,3,3,3,4,4,4,4,4,4,4,4,5,5,5,5,5,5,5,5,5,5,5,5,5,5,5,5,6,6,6,6,6,6,6,6,6,6,6,6,6,6,6,6,6,6,6,6,6,6,6,6,6,6,6,6,6,6,6,6,7,7,7,7,7,7,7,7,7,7,7,7,7,7,7,7,7,7,7,7,7,7,7,7,7,7,7,7,7,7,7,7,7,7,7,7,7,7,7,7,7,7,7,7,7,7,7,7,7,7,7,7,7,7,7,7,7,7,7,7,7,7,7,7,8,8,8,8,8,8,8,8,8,8,8,8,8,8,8,8,8,8,8,8,8,8,8,8,8,8,8,8,8,8,8,8,8,8,8,8,8,8,8,8,8,8,8,8,8,8,8,8,8,8,8,8,8,8,8,8,8,8,8,8,8,8,8,8,8,8,8,8,8,8,8,8,8,8,8,8,8,8,8,8,8,8,8,8,8,8,8,8,8,8,8,8,8,8,8,8,8,8,8,8,8,8,8,8,8,8,8,8,8,8,8,8,8,8,8,8,8,8,8,8,8,8,8,8,8,8,8,8]:List UInt8)) (IntKind.u8.wrap j)) fun l =>
 bnd (chk .i64 (k+(IntKind.i64.wrap ((l.toNat:Int))))) fun m =>
 some m))))))
theorem ZSs {V' V t d c c' Q P R S x y vm B:Nat} (h:V+Q*c=P+R*x*vm) (hs:V'+Q*t=V+Q*d) (e:d+B*c'=x*y+t+c) (hQ:Q=R*S):V'+Q*B*c'=P+R*x*(vm+S*y):=by
 have:Q*(d+B*c')=Q*(x*y+t+c):=by rw [e]
 subst hQ;grind
theorem Zxy {x y t c B1:Nat} (hx:x≤18446744073709551615) (hy:y≤18446744073709551615) (ht:t≤18446744073709551615) (hc:c≤18446744073709551615):x*y+t+c≤340282366920938463463374607431768211455:=by
 have:=Nat.mul_le_mul hx hy;omega
theorem ZAo {x y:Nat} (hx:x<18446744073709551616) (hy:y<18446744073709551616):ZBc (x:Int) (y:Int)=some (((x*y / 18446744073709551616:Nat):Int),((x*y%18446744073709551616:Nat):Int)):=by
 unfold ZBc;rw [if_pos ⟨by omega,by omega,by omega,by omega⟩];simp
theorem Zsw {n m:Nat} (hn:okN n) (hm:okN m):ZHo n m=some (n*m):=by
 unfold ZHo;unfold Zyg;rw [Za];by_cases h1:n=1
 ·rw [decide_eq_true h1,Zd,h1,Nat.one_mul]
 rw [decide_eq_false h1,Ze,Za];by_cases h2:m=1
 ·rw [decide_eq_true h2,Zd,h2,Nat.mul_one]
 rw [decide_eq_false h2,Ze];have hdx:=Zsa (B:=18446744073709551616) (by decide) n;have hdy:=Zsa (B:=18446744073709551616) (by decide) m;have hvx:=Zja (B:=18446744073709551616) (by decide) n;have hvy:=Zja (B:=18446744073709551616) (by decide) m;unfold okN at hn hm;generalize Zc 18446744073709551616 n=a at *;generalize Zc 18446744073709551616 m=b at *;rw [Zk (by omega) (by omega),Za];obtain ⟨u,hu⟩:=ZSc (b:=8) (l:=(a.length:Int)+b.length) (c:=(a.length:Int)+b.length) (by omega) (by omega) (by omega) (by omega);rw [hu,Za,Z5];have e0:((a.length:Int)+b.length).toNat=a.length+b.length:=by omega
 rw [e0];refine Zqa (fun s:(List Int)×Int=>∃ k:Nat,s.2=(k:Int)∧k≤a.length∧s.1.length=a.length+b.length∧Dig 18446744073709551616 s.1 ∧
  val 18446744073709551616 s.1=val 18446744073709551616 (a.take k)*val 18446744073709551616 b∧∀ j (h:j<s.1.length),k+b.length≤j→s.1[j]=0) (fun s=>a.length-s.2.toNat)
  (fun r:List Int=>r.length=a.length+b.length∧val 18446744073709551616 r=n*m) ⟨0,rfl,by omega,by simp,Dig.replicate _ (by omega),by simp [val,Zil],by simp⟩ (ZV (by simp;omega)) ?_ ?_
 ·rintro ⟨out,i⟩ ⟨k,rfl,hk,ho,hd,hv,hz⟩;simp only at ho hd hv hz ⊢;by_cases hlt:k<a.length
  ·left;have hx:=hdx.get hlt;rw [decide_eq_true (by omega),Zd,Zz hlt,Za];obtain ⟨X,hX⟩:=Int.eq_ofNat_of_zero_le hx.1;have hX':X<18446744073709551616:=by omega
   obtain ⟨⟨o,c⟩,er,ho2,hd2,hc,hv2,hz2⟩:=Zhk (body:=fun s:(List Int)×Int×Int=>match s with
    | (x204,x212,x214) =>
    (ifb (decide (x214<(b.length:Int)))
    (bnd (idx b x214) fun y245 =>
    bnd (ZBc a[k] y245) fun y261 =>
    bnd (chk .i64 ((k:Int)+x214)) fun y281 =>
    bnd (idx x204 y281) fun y283 =>
    bnd (Zyb y261.2 y283 ((0:Int))) fun y290 =>
    bnd (Zyb y290.1 x212 ((0:Int))) fun y301 =>
    bnd (chk .i64 ((k:Int)+x214)) fun y303 =>
    bnd (idx x204 y303) fun y305 =>
    bnd (chk .i64 (x214+((1:Int)))) fun y321 =>
    some (.inl (((x204.set (y303).toNat y301.1),IntKind.u64.wrap ((IntKind.u64.wrap (y261.1+y290.2))+y301.2),y321))))
    (some (.inr ((x204,x212)))))) (fun s:(List Int)×Int×Int=>∃ q:Nat,s.2.2=(q:Int)∧q≤b.length∧s.1.length=a.length+b.length∧Dig 18446744073709551616 s.1∧(0≤s.2.1∧s.2.1<18446744073709551616) ∧
     val 18446744073709551616 s.1+18446744073709551616^(k+q)*s.2.1.toNat=val 18446744073709551616 (a.take k)*val 18446744073709551616 b+18446744073709551616^k*X*val 18446744073709551616 (b.take q)∧∀ j (h:j<s.1.length),k+b.length≤j→s.1[j]=0)
    (fun s=>b.length-s.2.2.toNat)
    (fun r:List Int×Int=>r.1.length=a.length+b.length∧Dig 18446744073709551616 r.1∧(0≤r.2∧r.2<18446744073709551616) ∧
     val 18446744073709551616 r.1+18446744073709551616^(k+b.length)*r.2.toNat=val 18446744073709551616 (a.take k)*val 18446744073709551616 b+18446744073709551616^k*X*val 18446744073709551616 b∧∀ j (h:j<r.1.length),k+b.length≤j→r.1[j]=0)
    (by
     rintro ⟨o,c,i⟩ ⟨q,rfl,hq,ho2,hd2,hc,hv2,hz2⟩;simp only at ho2 hd2 hc hv2 hz2 ⊢;by_cases hqlt:q<b.length
     ·left;have hy:=hdy.get hqlt;obtain ⟨Y,hY⟩:=Int.eq_ofNat_of_zero_le hy.1;have hY':Y<18446744073709551616:=by omega
      have hkq:k+q<o.length:=by omega
      have ht:=hd2.get hkq;obtain ⟨T,hT⟩:=Int.eq_ofNat_of_zero_le ht.1;obtain ⟨C,rfl⟩:=Int.eq_ofNat_of_zero_le hc.1;have eck:chk .i64 ((k:Int)+(q:Int))=some ((k+q:Nat):Int):=by rw [Zk (by omega) (by omega)];simp
      rw [decide_eq_true (by omega),Zd,Zz hqlt,Za,hX,hY,ZAo hX' hY',Za,eck,Za,Zz hkq,Za,hT];rw [Zii (by omega) (by omega) (by omega) (by omega),Za,Zii (by omega) (by omega) (by omega) (by omega),Za,Za,Zz hkq,Za,Zk (by omega) (by omega),Za];have hb:=Zxy (x:=X) (y:=Y) (t:=T) (c:=C) (B1:=0) (by omega) (by omega) (by omega) (by omega);have hxy:X*Y≤340282366920938463426481119284349108225:=Nat.mul_le_mul (show X≤18446744073709551615 by omega) (show Y≤18446744073709551615 by omega);generalize hp:X*Y=p at *;have ecar:IntKind.u64.wrap (IntKind.u64.wrap (((p / 18446744073709551616:Nat):Int)+(((p%18446744073709551616:Nat):Int)+(T:Int)+0) / 18446744073709551616)+((((p%18446744073709551616:Nat):Int)+(T:Int)+0)%18446744073709551616+(C:Int)+0) / 18446744073709551616) =
        (((p+T+C) / 18446744073709551616:Nat):Int):=by
       rw [wrap_u64,wrap_u64];omega
      have edig:((((p%18446744073709551616:Nat):Int)+(T:Int)+0)%18446744073709551616+(C:Int)+0)%18446744073709551616=(((p+T+C)%18446744073709551616:Nat):Int):=by omega
      simp only [ecar,edig];refine ⟨_,rfl,⟨q+1,by simp,by omega,by simp [ho2],hd2.set _ (by omega),by simp only;omega,?_,?_⟩,by simp;omega⟩
      ·simp only [Int.toNat_natCast];have hs:=ZZh (B:=18446744073709551616) (l:=o) (i:=k+q) (x:=(((p+T+C)%18446744073709551616:Nat):Int)) hkq;rw [hT] at hs;simp only [Int.toNat_natCast] at hs hv2;rw [Z2a hqlt,hY];simp only [Int.toNat_natCast];rw [show k+(q+1)=k+q+1 by omega,Nat.pow_succ];exact ZSs hv2 hs (by rw [hp];omega) (Nat.pow_add _ _ _)
      ·intro j hj hj2;simp only [Int.toNat_natCast] at hj ⊢;rw [List.getElem_set_ne (by omega)];exact hz2 j (by simpa using hj) hj2
     ·right;rw [decide_eq_false (by omega),Ze];have hq':q=b.length:=by omega
      subst hq';rw [List.take_length] at hv2;exact ⟨_,rfl,ho2,hd2,hc,hv2,hz2⟩) Zi (out,(0:Int),(0:Int)) ⟨0,rfl,by omega,ho,hd,⟨Int.le_refl _,by show (0:Int)<18446744073709551616;omega⟩,by simp [val,hv],hz⟩ (ZV (by simp;omega))
   rw [er,Za,Za];simp only at ho2 hd2 hc hv2 hz2 ⊢;have eck:chk .i64 ((k:Int)+(b.length:Int))=some ((k+b.length:Nat):Int):=by rw [Zk (by omega) (by omega)];simp
   have hkb:k+b.length<o.length:=by omega
   rw [eck,Za,Zz hkb,Za,Zk (by omega) (by omega),Za];refine ⟨_,rfl,⟨k+1,by simp,by omega,by simp [ho2],hd2.set _ hc,?_,?_⟩,by simp;omega⟩
   ·have hs:=ZZh (B:=18446744073709551616) (l:=o) (i:=k+b.length) (x:=c) hkb;rw [hz2 _ hkb (by omega)] at hs;simp only [Int.toNat_natCast] at hs ⊢;rw [Z2a hlt,hX];simp only [Int.toNat_natCast];simp at hs;rw [hs,hv2];grind
   ·intro j hj hj2;simp only [Int.toNat_natCast] at hj ⊢;rw [List.getElem_set_ne (by omega)];exact hz2 j (by simpa using hj) (by omega)
  ·right;rw [decide_eq_false (by omega),Ze];have hk':k=a.length:=by omega
   subst hk';rw [List.take_length,hvx,hvy] at hv;exact ⟨_,rfl,ho,hv⟩
 ·rintro out ⟨ho,hv⟩;rw [Za];unfold ZMa;rw [hv,Za]
theorem ZHB {n m z:Nat} (h:Zsc n m=some z):ZHo n m=some z:=by
 unfold Zsc at h;split at h
 ·rename_i hh;rw [Zsw hh.1 hh.2,h]
 ·cases h
theorem Zgg {n k:Nat} (h:n≠0):bl n=k+1↔2^k≤n∧n<2^(k+1):=by
 unfold bl;rw [if_neg h,← Nat.log2_eq_iff h];omega
theorem Z8f {n:Nat} (h:n≠0):∃ k,bl n=k+1:=⟨Nat.log2 n,by unfold bl;rw [if_neg h]⟩
theorem ZJc (n:Nat):n<2^bl n:=by
 by_cases h:n=0
 ·subst h;simp [bl]
 ·obtain ⟨k,hk⟩:=Z8f h;rw [hk];exact ((Zgg h).1 hk).2
theorem Zob {n k:Nat} (h:n<2^k):bl n≤k:=by
 by_cases h0:n=0
 ·subst h0;simp [bl]
 ·obtain ⟨q,hq⟩:=Z8f h0;have:=((Zgg h0).1 hq).1;rw [hq];have h2:2^q<2^k:=by omega
  exact (Nat.pow_lt_pow_iff_right (by omega)).1 h2
theorem ZKj {n k:Nat} (h:2^k≤n):bl n=bl (n / 2^k)+k:=by
 have hp:0<2^k:=Nat.pow_pos (by omega);have h0:n / 2^k≠0:=by
  have:=(Nat.le_div_iff_mul_le hp (x:=1) (y:=n)).2 (by omega);omega
 obtain ⟨q,hq⟩:=Z8f h0;have h1:=(Zgg h0).1 hq;have hn:n≠0:=by omega
 rw [hq,show q+1+k=(q+k)+1 by omega,Zgg hn];constructor
 ·have:=Nat.mul_le_mul_right (2^k) h1.1;rw [← Nat.pow_add] at this;exact Nat.le_trans this (Nat.div_mul_le_self _ _)
 ·have:=(Nat.div_lt_iff_lt_mul hp).1 h1.2;rw [← Nat.pow_add] at this;rw [show q+k+1=q+1+k by omega];exact this
set_option maxRecDepth 10000 in
theorem Z8v:∀ i:Fin 256,([0,1,2,2,3,3,3,3,4,4,4,4,4,4,4,4,5,5,5,5,5,5,5,5,5,5,5,5,5,5,5,5,6,6,6,6,6,6,6,6,6,6,6,6,6,6,6,6,6,6,6,6,6,6,6,6,6,6,6,6,6,6,6,6,7,7,7,7,7,7,7,7,7,7,7,7,7,7,7,7,7,7,7,7,7,7,7,7,7,7,7,7,7,7,7,7,7,7,7,7,7,7,7,7,7,7,7,7,7,7,7,7,7,7,7,7,7,7,7,7,7,7,7,7,7,7,7,7,8,8,8,8,8,8,8,8,8,8,8,8,8,8,8,8,8,8,8,8,8,8,8,8,8,8,8,8,8,8,8,8,8,8,8,8,8,8,8,8,8,8,8,8,8,8,8,8,8,8,8,8,8,8,8,8,8,8,8,8,8,8,8,8,8,8,8,8,8,8,8,8,8,8,8,8,8,8,8,8,8,8,8,8,8,8,8,8,8,8,8,8,8,8,8,8,8,8,8,8,8,8,8,8,8,8,8,8,8,8,8,8,8,8,8,8,8,8,8,8,8,8,8,8,8,8,8,8]:List UInt8)[i.val]?.map (fun y=>y.toNat)=some (bl i.val):=by decide +kernel
set_option maxRecDepth 10000 in
theorem bl_idx {n:Nat} (h:n<256):∃ y,idx ([0,1,2,2,3,3,3,3,4,4,4,4,4,4,4,4,5,5,5,5,5,5,5,5,5,5,5,5,5,5,5,5,6,6,6,6,6,6,6,6,6,6,6,6,6,6,6,6,6,6,6,6,6,6,6,6,6,6,6,6,6,6,6,6,7,7,7,7,7,7,7,7,7,7,7,7,7,7,7,7,7,7,7,7,7,7,7,7,7,7,7,7,7,7,7,7,7,7,7,7,7,7,7,7,7,7,7,7,7,7,7,7,7,7,7,7,7,7,7,7,7,7,7,7,7,7,7,7,8,8,8,8,8,8,8,8,8,8,8,8,8,8,8,8,8,8,8,8,8,8,8,8,8,8,8,8,8,8,8,8,8,8,8,8,8,8,8,8,8,8,8,8,8,8,8,8,8,8,8,8,8,8,8,8,8,8,8,8,8,8,8,8,8,8,8,8,8,8,8,8,8,8,8,8,8,8,8,8,8,8,8,8,8,8,8,8,8,8,8,8,8,8,8,8,8,8,8,8,8,8,8,8,8,8,8,8,8,8,8,8,8,8,8,8,8,8,8,8,8,8,8,8,8,8,8,8]:List UInt8) (n:Int)=some y∧y.toNat=bl n:=by
 have:=Z8v ⟨n,h⟩;obtain ⟨y,e,h2⟩:=Option.map_eq_some_iff.1 this;exact ⟨y,by simp only [idx,Int.toNat_natCast];rw [if_pos (by omega)];exact e,h2⟩
set_option maxRecDepth 10000 in
theorem Zjw {n:Nat} (hn:n<18446744073709551616):Zao (n:Int)=some (bl n:Int):=by
 unfold Zao;have sh:∀ (n k:Nat),k≤64→ZK .u64 (n:Int) (k:Int)=some ((n / 2^k:Nat):Int):=fun n k h=>by rw [ZAm (by omega) h];simp
 have s32:∀ n:Nat,ZK .u64 (n:Int) 32=some ((n / 4294967296:Nat):Int):=fun n=>sh n 32 (by omega);have s16:∀ n:Nat,ZK .u64 (n:Int) 16=some ((n / 65536:Nat):Int):=fun n=>sh n 16 (by omega);have s8:∀ n:Nat,ZK .u64 (n:Int) 8=some ((n / 256:Nat):Int):=fun n=>sh n 8 (by omega);obtain ⟨n1,k1,e1,h1,b1,l1⟩:∃ n1 k1:Nat,ifb (decide ((4294967296:Int)≤(n:Int))) (bnd (ZK .u64 (n:Int) 32) fun y=>some (y,(32:Int))) (some ((n:Int),0))=some ((n1:Int),(k1:Int))∧n1<4294967296∧bl n=bl n1+k1∧k1≤32:=by
  by_cases h:4294967296≤n
  ·exact ⟨n / 4294967296,32,by rw [decide_eq_true (by omega),Zd,s32];rfl,by omega,ZKj (k:=32) h,by omega⟩
  ·exact ⟨n,0,by rw [decide_eq_false (by omega)];rfl,by omega,rfl,by omega⟩
 rw [e1,Za];simp only;obtain ⟨n2,k2,e2,h2,b2,l2⟩:∃ n2 k2:Nat,ifb (decide ((65536:Int)≤(n1:Int))) (bnd (ZK .u64 (n1:Int) 16) fun y=>bnd (chk .i64 ((k1:Int)+16)) fun z=>some (y,z)) (some ((n1:Int),(k1:Int)))=some ((n2:Int),(k2:Int))∧n2<65536∧bl n=bl n2+k2∧k2≤48:=by
  by_cases h:65536≤n1
  ·exact ⟨n1 / 65536,k1+16,by rw [decide_eq_true (by omega),Zd,s16,Za,Zk (by omega) (by omega)];rfl,by omega,by rw [b1,ZKj (k:=16) h];simp;omega,by omega⟩
  ·exact ⟨n1,k1,by rw [decide_eq_false (by omega)];rfl,by omega,b1,by omega⟩
 rw [e2,Za];simp only;obtain ⟨n3,k3,e3,h3,b3,l3⟩:∃ n3 k3:Nat,ifb (decide ((256:Int)≤(n2:Int))) (bnd (ZK .u64 (n2:Int) 8) fun y=>bnd (chk .i64 ((k2:Int)+8)) fun z=>some (y,z)) (some ((n2:Int),(k2:Int)))=some ((n3:Int),(k3:Int))∧n3<256∧bl n=bl n3+k3∧k3≤56:=by
  by_cases h:256≤n2
  ·exact ⟨n2 / 256,k2+8,by rw [decide_eq_true (by omega),Zd,s8,Za,Zk (by omega) (by omega)];rfl,by omega,by rw [b2,ZKj (k:=8) h];simp;omega,by omega⟩
  ·exact ⟨n2,k2,by rw [decide_eq_false (by omega)];rfl,by omega,b2,by omega⟩
 rw [e3,Za];simp only;have hw:IntKind.u8.wrap (n3:Int)=(n3:Int):=by
  simp [IntKind.wrap,IntKind.signed,IntKind.bits];omega
 rw [hw];obtain ⟨y,ey,hy⟩:=bl_idx h3;have hb:bl n3≤8:=Zob h3;rw [ey,Za,Zjd (Z3a.2 ⟨by omega,by omega⟩),Zk (by omega) (by omega),Za,b3,hy];congr 1;omega
theorem ZhB {x z:Int} (h:Zxi x=some z):Zao x=some z:=by
 unfold Zxi at h;split at h
 ·rename_i hh;obtain ⟨n,rfl⟩:=Int.eq_ofNat_of_zero_le hh.1;rw [Zjw (by omega),← h];simp
 ·cases h
noncomputable def Zhr (x:Int):Option (Int) :=
 bnd (Zxi x) fun a =>
 bnd (chk .i64 ((64:Int)-a)) fun b =>
 some b
theorem Zux {x z:Int} (h:ZDd x=some z):Zhr x=some z:=by
 unfold ZDd at h;split at h
 ·rename_i hh;have hb:bl x.toNat≤64:=Zob (by omega);unfold Zhr Zxi;rw [if_pos hh,Za,Zk (by omega) (by omega),Za,h]
 ·cases h
noncomputable def Z1n (hi:Int) (lo:Int) (y:Int):Option (Int×Int) :=
 ifb (y==(0:Int))
  (none)
 (ifb (decide (y≤hi))
  (none)
 (ifb (hi==(0:Int))
 (bnd (quo .u64 lo y) fun p =>
 bnd (rem .u64 lo y) fun q =>
 some ((p,q)))
 (bnd (ZDd y) fun c =>
 bnd (ZQa .u64 y (IntKind.u64.wrap c)) fun b =>
 bnd (ZK .u64 b (32:Int)) fun a =>
 bnd (ZQa .u64 hi (IntKind.u64.wrap c)) fun d =>
 bnd (ZK .u64 lo (IntKind.u64.wrap ((64:Int)-(IntKind.u64.wrap c)))) fun e =>
 bnd (ZQa .u64 lo (IntKind.u64.wrap c)) fun j =>
 bnd (ZK .u64 j (32:Int)) fun h =>
 bnd (quo .u64 (orI .u64 d e) a) fun m =>
 bnd (bnd (Zg (fun s:Int×Int=>match s with
| (f,k) =>
 (bnd (ifb (decide ((4294967296:Int)≤f))
 (some true)
 (some (decide (IntKind.u64.wrap ((IntKind.u64.wrap ((4294967296:Int)*k))+h)<IntKind.u64.wrap (f*(Z8a .u64 b (4294967295:Int)))))))
 (fun (r:Bool) =>
 (ifb (r)
 (ifb (decide ((4294967296:Int)≤IntKind.u64.wrap (k+a)))
 (some (.inr (IntKind.u64.wrap (f-(1:Int)))))
 (some (.inl ((IntKind.u64.wrap (f-(1:Int)),IntKind.u64.wrap (k+a))))))
 (some (.inr f)))))) Zi ((m,IntKind.u64.wrap ((orI .u64 d e)-(IntKind.u64.wrap (m*a))))))
 (fun (t:Int) =>
 (some t)))
 (fun (i:Int) =>
 (bnd (quo .u64 (IntKind.u64.wrap ((IntKind.u64.wrap ((IntKind.u64.wrap ((orI .u64 d e)*(4294967296:Int)))+h))-(IntKind.u64.wrap (i*b)))) a) fun n =>
 bnd (bnd (Zg (fun s:Int×Int=>match s with
| (l,g) =>
 (bnd (ifb (decide ((4294967296:Int)≤g))
 (some true)
 (some (decide (IntKind.u64.wrap ((IntKind.u64.wrap ((4294967296:Int)*l))+(Z8a .u64 j (4294967295:Int)))<IntKind.u64.wrap (g*(Z8a .u64 b (4294967295:Int)))))))
 (fun (u:Bool) =>
 (ifb (u)
 (ifb (decide ((4294967296:Int)≤IntKind.u64.wrap (l+a)))
 (some (.inr (IntKind.u64.wrap (g-(1:Int)))))
 (some (.inl ((IntKind.u64.wrap (l+a),IntKind.u64.wrap (g-(1:Int)))))))
 (some (.inr g)))))) Zi ((IntKind.u64.wrap ((IntKind.u64.wrap ((IntKind.u64.wrap ((IntKind.u64.wrap ((orI .u64 d e)*(4294967296:Int)))+h))-(IntKind.u64.wrap (i*b))))-(IntKind.u64.wrap (n*a))),n)))
 (fun (v:Int) =>
 (some v)))
 (fun (o:Int) =>
 (bnd (ZK .u64 (IntKind.u64.wrap ((IntKind.u64.wrap ((IntKind.u64.wrap ((IntKind.u64.wrap ((IntKind.u64.wrap ((IntKind.u64.wrap ((orI .u64 d e)*(4294967296:Int)))+h))-(IntKind.u64.wrap (i*b))))*(4294967296:Int)))+(Z8a .u64 j (4294967295:Int))))-(IntKind.u64.wrap (o*b)))) (IntKind.u64.wrap c)) fun w =>
 some ((IntKind.u64.wrap ((IntKind.u64.wrap (i*(4294967296:Int)))+o),w)))))))))
theorem ZFe {x k:Nat} (hk:k≤64):ZQa .u64 (x:Int) (k:Int)=some ((x*2^k%18446744073709551616:Nat):Int):=by
 unfold ZQa;rw [if_neg (by omega)];have:min ((k:Int).toNat) IntKind.u64.bits=k:=by simp [IntKind.bits];omega
 rw [this,wrap_u64];simp
theorem ZGd {x k:Nat} (hk:k≤64):ZK .u64 (x:Int) (k:Int)=some ((x / 2^k:Nat):Int):=by
 rw [ZAm (by omega) hk];simp
theorem ZNf {a c k:Nat} (hc:c<2^k) (ha:a*2^k+c<18446744073709551616):orI .u64 ((a*2^k:Nat):Int) (c:Int)=((a*2^k+c:Nat):Int):=by
 unfold orI;have h1:(BitVec.ofInt IntKind.u64.bits ((a*2^k:Nat):Int) ||| BitVec.ofInt IntKind.u64.bits (c:Int)).toNat=a*2^k+c:=by
  rw [BitVec.toNat_or];have e1:(BitVec.ofInt IntKind.u64.bits ((a*2^k:Nat):Int)).toNat=a*2^k:=by
   show (BitVec.ofInt 64 ((a*2^k:Nat):Int)).toNat=a*2^k;rw [BitVec.toNat_ofInt];generalize a*2^k=z at *;simp;omega
  have e2:(BitVec.ofInt IntKind.u64.bits (c:Int)).toNat=c:=by
   show (BitVec.ofInt 64 (c:Int)).toNat=c;rw [BitVec.toNat_ofInt];generalize a*2^k=z at *;simp;omega
  rw [e1,e2,Nat.mul_comm a,← Nat.two_pow_add_eq_or_of_lt hc]
 rw [h1,wrap_u64];generalize a*2^k+c=z at *;omega
theorem Z7u {u d q r y1 y0 Y:Nat} (hY:Y=y1*4294967296+y0) (hu:u=q*y1+r) (h:q*y0≤4294967296*r+d):q*Y≤u*4294967296+d:=by
 subst hY hu;grind
theorem Zlx {u d q r y1 y0 Y:Nat} (hY:Y=y1*4294967296+y0) (hu:u=q*y1+r) (h:4294967296*r+d<q*y0):u*4294967296+d<q*Y:=by
 subst hY hu;grind
theorem ZRB {u d y1 y0 Y q:Nat} (hY:Y=y1*4294967296+y0) (hy:2147483648≤y1) (hy0:y0<4294967296) (huY:u<Y) (hq:q*y1≤u):q≤4294967297:=by
 rcases Nat.lt_or_ge 4294967297 q with h | h
 ·have h1:4294967298*y1≤q*y1:=Nat.mul_le_mul_right _ h;omega
 ·exact h
theorem ZVh {n:Nat} (h:n<18446744073709551616):IntKind.u64.wrap (n:Int)=(n:Int):=by rw [wrap_u64];omega
structure Half (u d y1 y0 Y:Nat):Prop where
 eY:Y=y1*4294967296+y0
 h1:2147483648≤y1
 h1':y1<4294967296
 h0:y0<4294967296
 hd:d<4294967296
 hu:u<Y
theorem ZVu {u d y1 y0 Y q r:Nat} (H:Half u d y1 y0 Y) (e:u=q*y1+r) (hr:r<4294967296) (hQ:(u*4294967296+d) / Y≤q) :
  (q<4294967296∧q*y0≤4294967296*r+d∧q=(u*4294967296+d) / Y) ∨
  ((4294967296≤q∨q<4294967296∧4294967296*r+d<q*y0)∧0<q∧(u*4294967296+d) / Y≤q-1∧u=(q-1)*y1+(r+y1)∧(4294967296≤r+y1→q-1=(u*4294967296+d) / Y)):=by
 obtain ⟨eY,h1,h1',h0,hd,hu⟩:=H;have hY:0<Y:=by omega
 have hQ1:∀ q,q*Y≤u*4294967296+d→q≤(u*4294967296+d) / Y:=fun q h=>(Nat.le_div_iff_mul_le hY).2 h;have hQ2:∀ q,u*4294967296+d<q*Y→(u*4294967296+d) / Y<q:=fun q h=>(Nat.div_lt_iff_lt_mul hY).2 h;have hQb:(u*4294967296+d) / Y<4294967296:=by
  apply hQ2;have:(u+1)*4294967296≤Y*4294967296:=Nat.mul_le_mul_right _ hu;rw [Nat.mul_comm 4294967296 Y];omega
 generalize (u*4294967296+d) / Y=Q at *;by_cases hc:q<4294967296∧q*y0≤4294967296*r+d
 ·left;refine ⟨hc.1,hc.2,?_⟩;have:=hQ1 q (Z7u eY e hc.2);omega
 ·right;have hlt:Q<q:=by
   by_cases hq:q<4294967296
   ·exact hQ2 q (Zlx eY e (by omega))
   ·omega
  have hq1:q*y1≤u:=by omega
  have hqb:=ZRB (d:=d) eY h1 h0 hu hq1;have e2:u=(q-1)*y1+(r+y1):=by
   obtain ⟨p,rfl⟩:∃ p,q=p+1:=⟨q-1,by omega⟩;rw [e,Nat.succ_mul];simp;omega
  refine ⟨by omega,by omega,by omega,e2,fun h=>?_⟩;have h3:(q-1)*y0≤4294967296*4294967295:=Nat.mul_le_mul (by omega) (by omega);have:=hQ1 _ (Z7u (d:=d) eY e2 (by omega));omega
theorem Zku {u d q Y:Nat} (hq:q=(u*4294967296+d) / Y) (hY:Y<18446744073709551616) (hY0:0<Y) :
  IntKind.u64.wrap (IntKind.u64.wrap (IntKind.u64.wrap ((u:Int)*4294967296)+(d:Int))-IntKind.u64.wrap ((q:Int)*(Y:Int)))=(((u*4294967296+d)%Y:Nat):Int):=by
 have h1:=Nat.div_add_mod (u*4294967296+d) Y;have h2:=Nat.mod_lt (u*4294967296+d) hY0;rw [← hq,Nat.mul_comm] at h1;rw [← Int.natCast_mul q Y];generalize q*Y=p at *;generalize (u*4294967296+d)%Y=m at *;simp only [wrap_u64];omega
theorem ZRh {p q:Nat} (hq:0<q) (hp:p<18446744073709551616):quo .u64 (p:Int) (q:Int)=some ((p / q:Nat):Int):=by
 unfold quo;rw [if_neg (by omega)];have e:(p:Int).tdiv (q:Int)=((p / q:Nat):Int):=by simp [Int.tdiv_eq_ediv_of_nonneg]
 have h:p / q≤p:=Nat.div_le_self _ _;generalize p / q=r at *;rw [e,ZWn (ZPc.2 ⟨by omega,by omega⟩)]
theorem ZIf {k:IntKind} {p q:Nat} (hq:0<q):rem k (p:Int) (q:Int)=some ((p%q:Nat):Int):=by
 unfold rem;rw [if_neg (by omega)];simp [Int.tmod_eq_emod_of_nonneg]
theorem Zew {H L y s Y:Nat} (hH:H<y) (hL:L<18446744073709551616) (hs:s≤63) (hY:Y=y*2^s) (hY':Y<18446744073709551616) :
  H*2^s%18446744073709551616=H*2^s∧L / 2^(64-s)<2^s∧H*2^s+L / 2^(64-s)<Y∧(H*2^s+L / 2^(64-s))*18446744073709551616+L*2^s%18446744073709551616=(H*18446744073709551616+L)*2^s:=by
 have e64:2^(64-s)*2^s=18446744073709551616:=by rw [← Nat.pow_add,show 64-s+s=64 by omega]
 have hp:0<2^s:=Nat.pow_pos (by omega);have hp2:0<2^(64-s):=Nat.pow_pos (by omega);have h1:(H+1)*2^s≤Y:=by rw [hY];exact Nat.mul_le_mul_right _ hH
 rw [Nat.add_mul,Nat.one_mul] at h1;have h2:L / 2^(64-s)<2^s:=by rw [Nat.div_lt_iff_lt_mul hp2,Nat.mul_comm,e64];exact hL
 have h3:L*2^s / 18446744073709551616=L / 2^(64-s):=by
  rw [← e64,Nat.mul_div_mul_right _ _ hp]
 have h4:=Nat.div_add_mod (L*2^s) 18446744073709551616;rw [h3] at h4;refine ⟨Nat.mod_eq_of_lt (by omega),h2,by omega,?_⟩;rw [Nat.add_mul (H*18446744073709551616),Nat.mul_right_comm H];omega
theorem Zbr {q r y0 d Y:Nat} (y1:Nat) (hY:Y%4294967296=y0) (hY':Y<18446744073709551616) (hr:r<4294967296) (hd:d<4294967296) :
  ifb (decide ((4294967296:Int)≤(q:Int))) (some true) (some (decide (IntKind.u64.wrap ((IntKind.u64.wrap (((4294967296:Int))*(r:Int)))+(d:Int))<IntKind.u64.wrap ((q:Int)*(Z8a .u64 (Y:Int) ((4294967295:Int))))))) =
  some (decide (4294967296≤q∨q<4294967296∧4294967296*r+d<q*y0)):=by
 by_cases h:4294967296≤q
 ·rw [decide_eq_true (by omega),Zd,decide_eq_true (.inl h)]
 ·rw [decide_eq_false (by omega),Ze];have h1:q*y0≤4294967295*4294967295:=Nat.mul_le_mul (by omega) (by omega);have e1:((4294967296:Int))*(r:Int)=((4294967296*r:Nat):Int):=by simp
  rw [Zfg _ hY',hY,← Int.natCast_mul q y0,ZVh (by omega),e1,ZVh (by omega),← Int.natCast_add,ZVh (by omega)];congr 1;apply decide_eq_decide.2;omega
theorem Zvy {H L y:Nat} (hL:L<18446744073709551616) (hH:H<y) (hy:y<18446744073709551616) :
  Z1n (H:Int) (L:Int) (y:Int)=some ((((H*18446744073709551616+L) / y:Nat):Int),(((H*18446744073709551616+L)%y:Nat):Int)):=by
 unfold Z1n;have e1:((y:Int)==0)=false:=by simp;omega
 rw [e1,Ze,decide_eq_false (by omega),Ze];by_cases hH0:H=0
 ·subst hH0;rw [show (((0:Nat):Int)==0)=true from rfl,Zd,ZRh (by omega) hL,Za,ZIf (by omega),Za];simp
 have e2:((H:Int)==0)=false:=by simp;omega
 have hy0:y≠0:=by omega
 obtain ⟨k,hk⟩:=Z8f hy0;have hbl:bl y≤64:=Zob (by omega);obtain ⟨hy1,hy2⟩:=(Zgg hy0).1 hk;have hz:ZDd (y:Int)=some ((64-bl y:Nat):Int):=by
  unfold ZDd;rw [if_pos ⟨by omega,by omega⟩];congr 1;simp;omega
 rw [e2,Ze,hz,Za];obtain ⟨s,hs⟩:∃ s,s=64-bl y:=⟨_,rfl⟩;rw [← hs,ZVh (n:=s) (by omega)];have e64s:IntKind.u64.wrap (((64:Int))-(s:Int))=((64-s:Nat):Int):=by rw [wrap_u64];omega
 rw [e64s];have eY:y*2^s<18446744073709551616:=by
  have:=Nat.mul_lt_mul_of_pos_right hy2 (Nat.pow_pos (n:=s) (show 0<2 by omega));rw [← Nat.pow_add,show k+1+s=64 by omega] at this;exact this
 have eY2:9223372036854775808≤y*2^s:=by
  have:=Nat.mul_le_mul_right (2^s) hy1;rw [← Nat.pow_add,show k+s=63 by omega] at this;exact this
 obtain ⟨p1,p2,p3,p4⟩:=Zew (s:=s) hH hL (by omega) rfl eY;rw [ZFe (by omega),Za,Nat.mod_eq_of_lt eY];have sh32:∀ n:Nat,ZK .u64 (n:Int) 32=some ((n / 4294967296:Nat):Int):=fun n=>ZGd (x:=n) (k:=32) (by omega);rw [sh32,Za,ZFe (by omega),Za,p1,ZGd (by omega),Za,ZFe (by omega),Za,sh32,Za,ZNf p2 (by omega)];obtain ⟨Y,hY⟩:∃ Y,Y=y*2^s:=⟨_,rfl⟩;obtain ⟨u,hu⟩:∃ u,u=H*2^s+L / 2^(64-s):=⟨_,rfl⟩;obtain ⟨t,ht⟩:∃ t,t=L*2^s%18446744073709551616:=⟨_,rfl⟩;have ht':t<18446744073709551616:=by rw [ht];exact Nat.mod_lt _ (by omega)
 rw [← hY] at eY eY2 p3 ⊢;rw [← hu] at p3 p4 ⊢;rw [← ht] at p4 ⊢;have H1:Half u (t / 4294967296) (Y / 4294967296) (Y%4294967296) Y:=⟨by omega,by omega,by omega,by omega,by omega,p3⟩;have hY0:0<Y:=by omega
 have hy10:0<Y / 4294967296:=by omega
 rw [ZRh (by omega) (by omega),Za,Z5];have eU:∀ u:Nat,u<Y→IntKind.u64.wrap ((u:Int)-IntKind.u64.wrap (((u / (Y / 4294967296):Nat):Int)*((Y / 4294967296:Nat):Int)))=((u%(Y / 4294967296):Nat):Int):=by
  intro u hu;have h1:=Nat.div_add_mod u (Y / 4294967296);rw [Nat.mul_comm] at h1;rw [← Int.natCast_mul];generalize u / (Y / 4294967296)*(Y / 4294967296)=g at *;generalize u%(Y / 4294967296)=m at *;rw [ZVh (n:=g) (by omega),wrap_u64];omega
 have eDiv:∀ u d:Nat,u<Y→d<4294967296→(u*4294967296+d) / Y≤u / (Y / 4294967296):=by
  intro u d hu hd;have h1:=Nat.div_add_mod Y 4294967296;apply (Nat.le_div_iff_mul_le hy10).2;have h2:=Nat.div_mul_le_self (u*4294967296+d) Y;generalize (u*4294967296+d) / Y=Q at *;have h3:Q*(Y / 4294967296*4294967296)≤Q*Y:=Nat.mul_le_mul_left _ (by omega);rw [← Nat.mul_assoc] at h3;generalize Q*(Y / 4294967296)=g at *;omega
 have eW:∀ q:Nat,0<q→q<18446744073709551616→IntKind.u64.wrap ((q:Int)-1)=((q-1:Nat):Int):=by
  intro q h1 h2;rw [wrap_u64];omega
 have eR:∀ r:Nat,r<4294967296→IntKind.u64.wrap ((r:Int)+((Y / 4294967296:Nat):Int))=((r+Y / 4294967296:Nat):Int):=by
  intro r h1;rw [← Int.natCast_add,ZVh (by omega)]
 rw [eU u p3];refine Zqa (fun s:Int×Int=>∃ q r:Nat,s=((q:Int),(r:Int))∧u=q*(Y / 4294967296)+r∧r<4294967296∧(u*4294967296+t / 4294967296) / Y≤q∧q<18446744073709551616) (fun s=>s.1.toNat)
  (fun r:Int=>r=(((u*4294967296+t / 4294967296) / Y:Nat):Int))
  ⟨u / (Y / 4294967296),u%(Y / 4294967296),rfl,by rw [Nat.mul_comm];exact (Nat.div_add_mod _ _).symm,Nat.lt_trans (Nat.mod_lt _ hy10) (by omega),eDiv u _ p3 (by omega),Nat.lt_of_le_of_lt (Nat.div_le_self _ _) (by omega)⟩
  (ZV (by simp only [Int.toNat_natCast];exact Nat.lt_of_le_of_lt (Nat.div_le_self _ _) (by omega))) ?_ ?_
 ·rintro _ ⟨q,r,rfl,e,hr,hQ,hq64⟩;simp only;rw [Zbr (y0:=Y%4294967296) 0 rfl eY hr (by omega),Za];rcases ZVu H1 e hr hQ with ⟨h1,h2,h3⟩ | ⟨h1,h2,h3,h4,h5⟩
  ·right;rw [decide_eq_false (by omega),Ze];exact ⟨_,rfl,by rw [h3]⟩
  ·rw [decide_eq_true h1,Zd,eR r hr,eW q h2 hq64];by_cases hb:4294967296≤r+Y / 4294967296
   ·right;rw [decide_eq_true (by omega),Zd];exact ⟨_,rfl,by rw [h5 hb]⟩
   ·left;rw [decide_eq_false (by omega),Ze];exact ⟨_,rfl,⟨q-1,r+Y / 4294967296,rfl,h4,by omega,h3,by omega⟩,by simp;omega⟩
 rintro _ rfl;rw [Za];obtain ⟨Q1,hQ1⟩:∃ Q,Q=(u*4294967296+t / 4294967296) / Y:=⟨_,rfl⟩;have hQ1b:Q1<4294967296:=by
  rw [hQ1,Nat.div_lt_iff_lt_mul hY0];have:(u+1)*4294967296≤Y*4294967296:=Nat.mul_le_mul_right _ p3;rw [Nat.mul_comm 4294967296 Y];omega
 have er1:=Zku hQ1 eY hY0;rw [← hQ1];have ecm:∀ z:Int,z*((4294967296:Int))=z*4294967296:=fun _=>rfl;rw [er1];obtain ⟨v,hv⟩:∃ v,v=(u*4294967296+t / 4294967296)%Y:=⟨_,rfl⟩;have hvY:v<Y:=by rw [hv];exact Nat.mod_lt _ hY0
 rw [← hv];have H2:Half v (t%4294967296) (Y / 4294967296) (Y%4294967296) Y:=⟨by omega,by omega,by omega,by omega,by omega,hvY⟩;rw [ZRh (by omega) (by omega),Za,Z5,eU v hvY,Zfg t ht'];refine Zqa (fun s:Int×Int=>∃ q r:Nat,s=((r:Int),(q:Int))∧v=q*(Y / 4294967296)+r∧r<4294967296∧(v*4294967296+t%4294967296) / Y≤q∧q<18446744073709551616) (fun s=>s.2.toNat)
  (fun r:Int=>r=(((v*4294967296+t%4294967296) / Y:Nat):Int))
  ⟨v / (Y / 4294967296),v%(Y / 4294967296),rfl,by rw [Nat.mul_comm];exact (Nat.div_add_mod _ _).symm,Nat.lt_trans (Nat.mod_lt _ hy10) (by omega),eDiv v _ hvY (by omega),Nat.lt_of_le_of_lt (Nat.div_le_self _ _) (by omega)⟩
  (ZV (by simp only [Int.toNat_natCast];exact Nat.lt_of_le_of_lt (Nat.div_le_self _ _) (by omega))) ?_ ?_
 ·rintro _ ⟨q,r,rfl,e,hr,hQ,hq64⟩;simp only;rw [Zbr (y0:=Y%4294967296) 0 rfl eY hr (by omega),Za];rcases ZVu H2 e hr hQ with ⟨h1,h2,h3⟩ | ⟨h1,h2,h3,h4,h5⟩
  ·right;rw [decide_eq_false (by omega),Ze];exact ⟨_,rfl,by rw [h3]⟩
  ·rw [decide_eq_true h1,Zd,eR r hr,eW q h2 hq64];by_cases hb:4294967296≤r+Y / 4294967296
   ·right;rw [decide_eq_true (by omega),Zd];exact ⟨_,rfl,by rw [h5 hb]⟩
   ·left;rw [decide_eq_false (by omega),Ze];exact ⟨_,rfl,⟨q-1,r+Y / 4294967296,rfl,h4,by omega,h3,by omega⟩,by simp;omega⟩
 rintro _ rfl;rw [Za];obtain ⟨Q0,hQ0⟩:∃ Q,Q=(v*4294967296+t%4294967296) / Y:=⟨_,rfl⟩;have hQ0b:Q0<4294967296:=by
  rw [hQ0,Nat.div_lt_iff_lt_mul hY0];have:(v+1)*4294967296≤Y*4294967296:=Nat.mul_le_mul_right _ hvY;rw [Nat.mul_comm 4294967296 Y];omega
 have er2:=Zku hQ0 eY hY0;rw [← hQ0,er2,ZGd (by omega),Za];have hd1:=Nat.div_add_mod (u*4294967296+t / 4294967296) Y;have hd2:=Nat.div_add_mod (v*4294967296+t%4294967296) Y;have hm2:=Nat.mod_lt (v*4294967296+t%4294967296) hY0;rw [← hQ1,← hv] at hd1;rw [← hQ0] at hd2;obtain ⟨w,hw⟩:∃ w,w=(v*4294967296+t%4294967296)%Y:=⟨_,rfl⟩;rw [← hw] at hd2 hm2 ⊢;have hN:(H*18446744073709551616+L)*2^s=Y*(Q1*4294967296+Q0)+w:=by
  rw [← p4,Nat.mul_add,← Nat.mul_assoc];generalize Y*Q1=g at *;generalize Y*Q0=g' at *;omega
 have hp:0<2^s:=Nat.pow_pos (by omega);have hMy:(H*18446744073709551616+L) / y=Q1*4294967296+Q0:=by
  have h1:=Nat.mul_div_mul_right (H*18446744073709551616+L) y hp;rw [← hY,hN,Nat.mul_add_div hY0,Nat.div_eq_of_lt hm2,Nat.add_zero] at h1;exact h1.symm
 have hMm:(H*18446744073709551616+L)%y*2^s=w:=by
  have h1:=Nat.mul_mod_mul_right (2^s) (H*18446744073709551616+L) y;rw [← hY,hN,Nat.mul_add_mod,Nat.mod_eq_of_lt hm2] at h1;exact h1.symm
 rw [hMy,← hMm,Nat.mul_div_cancel _ hp];have:IntKind.u64.wrap (IntKind.u64.wrap ((Q1:Int)*4294967296)+(Q0:Int))=((Q1*4294967296+Q0:Nat):Int):=by
  simp only [wrap_u64];omega
 rw [this]
theorem ZJy {hi lo y:Int} {z:Int×Int} (h:Z9c hi lo y=some z):Z1n hi lo y=some z:=by
 unfold Z9c at h;split at h
 ·rename_i hh;obtain ⟨h1,h2,h3,h4,h5⟩:=hh;obtain ⟨H,rfl⟩:=Int.eq_ofNat_of_zero_le h1;obtain ⟨L,rfl⟩:=Int.eq_ofNat_of_zero_le h2;obtain ⟨Y,rfl⟩:=Int.eq_ofNat_of_zero_le (show 0≤y by omega);rw [Zvy (by omega) (by omega) (by omega),← h];simp
 ·cases h
noncomputable def Zxn (a:Nat) (n:Int):Option (Nat×Int) :=
 bnd (mk 8 ((((Zc 18446744073709551616 a)).length:Int)) ((((Zc 18446744073709551616 a)).length:Int))) fun o =>
 bnd (chk .i64 (((((Zc 18446744073709551616 a)).length:Int))-(1:Int))) fun f =>
 bnd (bnd (Zg (fun s:(List Int)×Int×Int=>match s with
| (c,d,b) =>
 (ifb (decide ((0:Int)≤b))
 (bnd (idx ((Zc 18446744073709551616 a)) b) fun g =>
 bnd (Z9c d g n) fun e =>
 bnd (idx c b) fun q =>
 bnd (chk .i64 (b-(1:Int))) fun h =>
 some (.inl (((c.set (b).toNat e.1),e.2,h))))
 (some (.inr ((c,d)))))) Zi (((List.replicate ((((Zc 18446744073709551616 a)).length:Int)).toNat (0:Int)),(0:Int),f)))
 (fun (p:(List Int)×Int)=>match p with
| (i,j) =>
 (some ((i,j)))))
 (fun (p:(List Int)×Int)=>match p with
| (k,l) =>
 (bnd (ZMa k) fun m =>
 some ((m,l))))
noncomputable def Zin (a:Nat) (n:Int):Option (Nat) :=
 bnd (ifb (((((Zc 18446744073709551616 a)).length:Int))==(0:Int))
 (some true)
 (some (n==(0:Int))))
 (fun (j:Bool) =>
 (ifb (j)
 (some a)
 (bnd (quo .i64 n (64:Int)) fun k =>
 bnd (chk .i64 (((((Zc 18446744073709551616 a)).length:Int))+k)) fun l =>
 bnd (chk .i64 (l+(1:Int))) fun e =>
 bnd (mk 8 e e) fun z =>
 bnd (bnd (Zg (fun s:(List Int)×Int=>match s with
| (b,c) =>
 (ifb (decide (c<(((Zc 18446744073709551616 a)).length:Int)))
 (bnd (idx ((Zc 18446744073709551616 a)) c) fun f =>
 bnd (quo .i64 n (64:Int)) fun m =>
 bnd (chk .i64 (c+m)) fun d =>
 bnd (idx b d) fun g =>
 bnd (rem .i64 n (64:Int)) fun o =>
 bnd (ZQa .u64 f o) fun h =>
 bnd (idx b d) fun A =>
 bnd (quo .i64 n (64:Int)) fun p =>
 bnd (chk .i64 (c+p)) fun q =>
 bnd (chk .i64 (q+(1:Int))) fun i =>
 bnd (rem .i64 n (64:Int)) fun r =>
 bnd (chk .i64 ((64:Int)-r)) fun t =>
 bnd (ZK .u64 f t) fun u =>
 bnd (idx ((b.set (d).toNat (orI .u64 g h))) i) fun B =>
 bnd (chk .i64 (c+(1:Int))) fun v =>
 some (.inl (((((b.set (d).toNat (orI .u64 g h))).set (i).toNat u),v))))
 (some (.inr b)))) Zi (((List.replicate (e).toNat (0:Int)),(0:Int))))
 (fun (w:(List Int)) =>
 (some w)))
 (fun (x:(List Int)) =>
 (bnd (ZMa x) fun y =>
 some y)))))
noncomputable def Ztn (a:Nat) (n:Int):Option (Nat) :=
 bnd (quo .i64 n (64:Int)) fun f =>
 ifb (decide ((((Zc 18446744073709551616 a)).length:Int)≤f))
 (some ((0:Nat)))
 (bnd (quo .i64 n (64:Int)) fun g =>
 bnd (chk .i64 (((((Zc 18446744073709551616 a)).length:Int))-g)) fun d =>
 bnd (mk 8 d d) fun D =>
 bnd (bnd (Zg (fun s:(List Int)×Int=>match s with
| (c,b) =>
 (ifb (decide (b<(((List.replicate (d).toNat (0:Int))).length:Int)))
 (bnd (quo .i64 n (64:Int)) fun h =>
 bnd (chk .i64 (b+h)) fun i =>
 bnd (idx ((Zc 18446744073709551616 a)) i) fun j =>
 bnd (rem .i64 n (64:Int)) fun k =>
 bnd (ZK .u64 j k) fun e =>
 bnd (idx c b) fun E =>
 bnd (quo .i64 n (64:Int)) fun l =>
 bnd (chk .i64 (b+l)) fun m =>
 bnd (chk .i64 (m+(1:Int))) fun o =>
 bnd (ifb (decide (o<(((Zc 18446744073709551616 a)).length:Int)))
 (bnd (idx ((c.set (b).toNat e)) b) fun p =>
 bnd (quo .i64 n (64:Int)) fun q =>
 bnd (chk .i64 (b+q)) fun r =>
 bnd (chk .i64 (r+(1:Int))) fun t =>
 bnd (idx ((Zc 18446744073709551616 a)) t) fun u =>
 bnd (rem .i64 n (64:Int)) fun v =>
 bnd (chk .i64 ((64:Int)-v)) fun w =>
 bnd (ZQa .u64 u w) fun x =>
 bnd (idx ((c.set (b).toNat e)) b) fun F =>
 some ((((c.set (b).toNat e)).set (b).toNat (orI .u64 p x))))
 (some ((c.set (b).toNat e))))
 (fun (y:(List Int)) =>
 (bnd (chk .i64 (b+(1:Int))) fun z =>
 some (.inl ((y,z))))))
 (some (.inr c)))) Zi (((List.replicate (d).toNat (0:Int)),(0:Int))))
 (fun (A:(List Int)) =>
 (some A)))
 (fun (B:(List Int)) =>
 (bnd (ZMa B) fun C =>
 some C)))
theorem ZMz {q r rest x V W B d:Nat} (h:V*d+rest=W) (e:q*d+r=rest*B+x):(q+B*V)*d+r=x+B*W:=by
 subst h;grind
theorem ZKy {n d:Nat} (hn:okN n) (hd:0<d) (hd':d<18446744073709551616):Zxn n (d:Int)=some (n / d,((n%d:Nat):Int)):=by
 unfold Zxn;have hdx:=Zsa (B:=18446744073709551616) (by decide) n;have hvx:=Zja (B:=18446744073709551616) (by decide) n;unfold okN at hn;generalize Zc 18446744073709551616 n=a at *;obtain ⟨u,hu⟩:=ZSc (b:=8) (l:=(a.length:Int)) (c:=(a.length:Int)) (by omega) (by omega) (by omega) (by omega);rw [hu,Za,Zk (by omega) (by omega),Za,Z5];refine Zqa (fun s:(List Int)×Int×Int=>∃ k r:Nat,s.2.2=(k:Int)-1∧s.2.1=(r:Int)∧k≤a.length∧s.1.length=a.length∧r<d ∧
  val 18446744073709551616 (s.1.drop k)*d+r=val 18446744073709551616 (a.drop k)) (fun s=>(s.2.2+1).toNat)
  (fun r:List Int×Int=>val 18446744073709551616 r.1=n / d∧r.2=((n%d:Nat):Int))
  ⟨a.length,0,rfl,rfl,by omega,by simp,hd,by simp [val]⟩ (ZV (by simp;omega)) ?_ ?_
 ·rintro ⟨out,c,i⟩ ⟨k,r,e1,e2,hk,ho,hr,hv⟩;simp only at e1 e2 ho hv ⊢;subst e1 e2;by_cases h0:0<k
  ·left;obtain ⟨j,rfl⟩:∃ j,k=j+1:=⟨k-1,by omega⟩;have hj:j<a.length:=by omega
   have hx:=hdx.get hj;obtain ⟨X,hX⟩:=Int.eq_ofNat_of_zero_le hx.1;have ej:((j+1:Nat):Int)-1=(j:Int):=by omega
   rw [ej,decide_eq_true (by omega),Zd,Zz hj,Za,hX];have hdv:Z9c (r:Int) (X:Int) (d:Int)=some ((((r*18446744073709551616+X) / d:Nat):Int),(((r*18446744073709551616+X)%d:Nat):Int)):=by
    unfold Z9c;rw [if_pos ⟨by omega,by omega,by omega,by omega,by omega⟩];simp
   rw [hdv,Za,Zz (by omega),Za,Zk (by omega) (by omega),Za];refine ⟨_,rfl,⟨j,_,rfl,rfl,by omega,by simp [ho],Nat.mod_lt _ hd,?_⟩,by simp⟩;simp only [Int.toNat_natCast];rw [ZWb (by simp;omega),List.getElem_set_self,List.drop_set_of_lt (by omega),ZWb hj,hX];simp only [Int.toNat_natCast];exact ZMz hv (by rw [Nat.mul_comm];exact Nat.div_add_mod _ _)
  ·right;have:k=0:=by omega
   subst this;rw [decide_eq_false (by simp),Ze];simp only [List.drop_zero] at hv;rw [hvx] at hv;refine ⟨_,rfl,?_,?_⟩
   ·rw [← hv,Nat.mul_comm,Nat.mul_add_div hd,Nat.div_eq_of_lt hr];rfl
   ·rw [← hv,Nat.mul_comm,Nat.mul_add_mod,Nat.mod_eq_of_lt hr]
 ·rintro ⟨out,c⟩ ⟨hv,hc⟩;simp only at hv hc ⊢;rw [Za];simp only;unfold ZMa;rw [Za,hv,hc]
theorem ZTw {n:Nat} {d:Int} {z:Nat×Int} (hd:inR .u64 d) (h:Z3d n d=some z):Zxn n d=some z:=by
 unfold Z3d at h;split at h
 ·rename_i hh;obtain ⟨h1,h2⟩:=hh;have:=ZPc.1 hd;obtain ⟨D,rfl⟩:=Int.eq_ofNat_of_zero_le (show 0≤d by omega);rw [ZKy h1 (by omega) (by omega),← h];simp
 ·cases h
theorem Zfl {p q:Nat} (hq:0<q) (hp:p≤9223372036854775807):quo .i64 (p:Int) (q:Int)=some ((p / q:Nat):Int):=by
 unfold quo;rw [if_neg (by omega)];have e:(p:Int).tdiv (q:Int)=((p / q:Nat):Int):=by simp [Int.tdiv_eq_ediv_of_nonneg]
 have h:p / q≤p:=Nat.div_le_self _ _;generalize p / q=r at *;rw [e,Zk (by omega) (by omega)]
theorem Zoa {n:Nat} (h:n≤9223372036854775807):chk .i64 (n:Int)=some (n:Int):=Zk (by omega) (by omega)
theorem Z8w {V V1 V2 t1 t2 T x K B Q hi lo R P:Nat} (hv:V=T*K) (h1:V1+Q*t1=V+Q*(t1+lo)) (h2:V2+Q*B*t2=V1+Q*B*hi) (ht2:t2=0) (e:lo+B*hi=x*R) (hQ:Q*R=P*K):V2=(T+P*x)*K:=by
 subst hv ht2;have:Q*(lo+B*hi)=Q*(x*R):=by rw [e]
 grind
theorem left_eq {n k:Nat} (hn:okN n) (hk:k≤1099511627776):Zin n (k:Int)=some (n*2^k):=by
 unfold Zin;by_cases hn0:n=0
 ·subst hn0;rw [Z7];show some 0=_;simp
 by_cases hk0:k=0
 ·subst hk0;have:(((Zc 18446744073709551616 n).length:Int)==0)=false:=by
   have:=(Z3c (n:=n) (B:=18446744073709551616) (by decide)).2 hn0;have:=List.length_pos_iff.2 this;simp;omega
  rw [this];show some n=_;simp
 have e1:(((Zc 18446744073709551616 n).length:Int)==0)=false:=by
  have:=(Z3c (n:=n) (B:=18446744073709551616) (by decide)).2 hn0;have:=List.length_pos_iff.2 this;simp;omega
 have e2:((k:Int)==0)=false:=by simp;omega
 rw [e1,Ze,e2,Za,Ze];have hdx:=Zsa (B:=18446744073709551616) (by decide) n;have hvx:=Zja (B:=18446744073709551616) (by decide) n;unfold okN at hn;generalize Zc 18446744073709551616 n=a at *;have eq64:quo .i64 (k:Int) 64=some ((k / 64:Nat):Int):=Zfl (q:=64) (by omega) (by omega);have er64:rem .i64 (k:Int) 64=some ((k%64:Nat):Int):=ZIf (q:=64) (by omega);obtain ⟨w,hw⟩:∃ w,w=k / 64:=⟨_,rfl⟩;obtain ⟨s,hs⟩:∃ s,s=k%64:=⟨_,rfl⟩;have hks:k=64*w+s:=by omega
 rw [← hw] at eq64;rw [← hs] at er64;rw [eq64,Za];have c1:chk .i64 ((a.length:Int)+(w:Int))=some ((a.length+w:Nat):Int):=by rw [← Int.natCast_add,Zoa (by omega)]
 have c2:chk .i64 (((a.length+w:Nat):Int)+1)=some ((a.length+w+1:Nat):Int):=by rw [show ((a.length+w:Nat):Int)+1=((a.length+w+1:Nat):Int) by omega,Zoa (by omega)]
 obtain ⟨u,hu⟩:=ZSc (b:=8) (l:=((a.length+w+1:Nat):Int)) (c:=((a.length+w+1:Nat):Int)) (by omega) (by omega) (by omega) (by omega);rw [c1,Za,c2,Za,hu,Za,Z5,Int.toNat_natCast];have hp:0<2^s:=Nat.pow_pos (by omega);have hB:2^(64-s)*2^s=18446744073709551616:=by rw [← Nat.pow_add,show 64-s+s=64 by omega]
 have hR:18446744073709551616^w*2^s=2^k:=by
  rw [show (18446744073709551616:Nat)=2^64 from rfl,← Nat.pow_mul,← Nat.pow_add,← hks]
 refine Zqa (fun st:(List Int)×Int=>∃ i:Nat,st.2=(i:Int)∧i≤a.length∧st.1.length=a.length+w+1∧Dig 18446744073709551616 st.1 ∧
  val 18446744073709551616 st.1=val 18446744073709551616 (a.take i)*2^k∧(∀ j (h:j<st.1.length),j=i+w→st.1[j]<(2^s:Nat))∧∀ j (h:j<st.1.length),i+w<j→st.1[j]=0) (fun st=>a.length-st.2.toNat)
  (fun r:List Int=>val 18446744073709551616 r=n*2^k) ⟨0,rfl,by omega,by simp,Dig.replicate _ (by omega),by simp [val,Zil],by intro j h _;simp;exact_mod_cast hp,by simp⟩ (ZV (by simp;omega)) ?_ ?_
 ·rintro ⟨out,i⟩ ⟨i,rfl,hi,ho,hd,hv,ht,hz⟩;simp only at ho hd hv ht hz ⊢;by_cases hlt:i<a.length
  ·left;have hx:=hdx.get hlt;obtain ⟨X,hX⟩:=Int.eq_ofNat_of_zero_le hx.1;have hiw:i+w<out.length:=by omega
   have ht':=ht _ hiw rfl;obtain ⟨T,hT⟩:=Int.eq_ofNat_of_zero_le (hd.get hiw).1;have c3:chk .i64 ((i:Int)+(w:Int))=some ((i+w:Nat):Int):=by rw [← Int.natCast_add,Zoa (by omega)]
   have c4:chk .i64 (((i+w:Nat):Int)+1)=some ((i+w+1:Nat):Int):=by rw [show ((i+w:Nat):Int)+1=((i+w+1:Nat):Int) by omega,Zoa (by omega)]
   have c5:chk .i64 (64-(s:Int))=some ((64-s:Nat):Int):=by rw [show 64-(s:Int)=((64-s:Nat):Int) by omega,Zoa (by omega)]
   have c6:decide ((i:Int)<(a.length:Int))=true:=decide_eq_true (by omega);have c7:=ZFe (x:=X) (k:=s) (by omega);have c8:=ZGd (x:=X) (k:=64-s) (by omega);simp only [c6,Zd,Zz hlt,Za,eq64,c3,Zz hiw,er64,hX,c7,c4,c5,c8];have hTs:T<2^s:=by rw [hT] at ht';exact_mod_cast ht'
   have hXlt:X<18446744073709551616:=by omega
   have hdm:=Nat.div_add_mod (X*2^s) 18446744073709551616;have hdiv:X*2^s / 18446744073709551616=X / 2^(64-s):=by rw [← hB,Nat.mul_div_mul_right _ _ hp]
   have hmod:X*2^s%18446744073709551616=X%2^(64-s)*2^s:=by rw [← hB,Nat.mul_mod_mul_right]
   rw [hdiv] at hdm;have hhi:X / 2^(64-s)<2^s:=by
    rw [Nat.div_lt_iff_lt_mul (Nat.pow_pos (by omega)),Nat.mul_comm,hB];exact hXlt
   have hlo:X%2^(64-s)*2^s+T<18446744073709551616:=by
    have h1:X%2^(64-s)+1≤2^(64-s):=Nat.mod_lt _ (Nat.pow_pos (by omega));have h2:=Nat.mul_le_mul_right (2^s) h1;rw [hB,Nat.add_mul] at h2;omega
   have hor:orI .u64 ((T:Nat):Int) ((X*2^s%18446744073709551616:Nat):Int)=((X*2^s%18446744073709551616+T:Nat):Int):=by
    have hc:orI .u64 (T:Int) ((X*2^s%18446744073709551616:Nat):Int)=orI .u64 ((X*2^s%18446744073709551616:Nat):Int) (T:Int):=by
     unfold orI;rw [BitVec.or_comm]
    rw [hc,hmod,ZNf hTs hlo]
   simp only [Int.toNat_natCast];rw [hT,hor];have hiw1:i+w+1<(out.set (i+w) ((X*2^s%18446744073709551616+T:Nat):Int)).length:=by simp;omega
   rw [Zz hiw1,Za,Zk (by omega) (by omega),Za];have h2s:2^s≤18446744073709551616:=by rw [← hB];exact Nat.le_mul_of_pos_left _ (Nat.pow_pos (by omega))
   refine ⟨_,rfl,⟨i+1,by simp,by omega,by simp [ho],?_,?_,?_,?_⟩,by simp;omega⟩
   ·refine (hd.set _ ?_).set _ ?_
    ·rw [hmod];omega
    ·omega
   ·have h1:=ZZh (B:=18446744073709551616) (l:=out) (i:=i+w) (x:=((X*2^s%18446744073709551616+T:Nat):Int)) hiw;have h2:=ZZh (B:=18446744073709551616) (x:=((X / 2^(64-s):Nat):Int)) hiw1;rw [List.getElem_set_ne (by omega),hz _ (by omega) (by omega)] at h2;rw [hT] at h1;simp only [Int.toNat_natCast] at h1 h2;rw [Z2a hlt,hX];simp only [Int.toNat_natCast];rw [Nat.pow_succ] at h2;rw [Nat.add_comm (X*2^s%18446744073709551616) T] at h1 h2 ⊢;exact Z8w (R:=2^s) hv h1 h2 rfl (by omega) (by rw [Nat.pow_add,Nat.mul_assoc,hR])
   ·intro j hj hj2;have hj3:j=i+w+1:=by omega
    subst hj3;rw [List.getElem_set_self]
    exact_mod_cast hhi
   ·intro j hj hj2;rw [List.getElem_set_ne (by omega),List.getElem_set_ne (by omega)];exact hz j (by simpa using hj) (by omega)
  ·right;rw [decide_eq_false (by omega),Ze];have hi':i=a.length:=by omega
   subst hi';rw [List.take_length,hvx] at hv;exact ⟨_,rfl,hv⟩
 ·rintro out hv;rw [Za];unfold ZMa;rw [hv,Za]
theorem Zax {n:Nat} {k:Int} {z:Nat} (h:Z9d n k=some z):Zin n k=some z:=by
 unfold Z9d at h;split at h
 ·rename_i hh;obtain ⟨h1,h2,h3⟩:=hh;obtain ⟨K,rfl⟩:=Int.eq_ofNat_of_zero_le h2;rw [left_eq h1 (by omega),← h];simp
 ·cases h
theorem ZLy {V T x xs x' xs' ph P B R D lo0:Nat} (h:V*R+lo0=T+P*xs) (e:D*R+xs=x+B*xs'):(V+P*D)*R+lo0=T+P*x+P*B*xs':=by
 have:P*(D*R+xs)=P*(x+B*xs'):=by rw [e]
 grind
theorem ZSz {n k:Nat} (hn:okN n) (hk:k≤9223372036854775807):Ztn n (k:Int)=some (n / 2^k):=by
 unfold Ztn;have hdx:=Zsa (B:=18446744073709551616) (by decide) n;have hvx:=Zja (B:=18446744073709551616) (by decide) n;unfold okN at hn;generalize Zc 18446744073709551616 n=a at *;have eq64:quo .i64 (k:Int) 64=some ((k / 64:Nat):Int):=Zfl (q:=64) (by omega) (by omega);have er64:rem .i64 (k:Int) 64=some ((k%64:Nat):Int):=ZIf (q:=64) (by omega);obtain ⟨w,hw⟩:∃ w,w=k / 64:=⟨_,rfl⟩;obtain ⟨s,hs⟩:∃ s,s=k%64:=⟨_,rfl⟩;have hks:k=64*w+s:=by omega
 rw [← hw] at eq64;rw [← hs] at er64;have hR:18446744073709551616^w*2^s=2^k:=by
  rw [show (18446744073709551616:Nat)=2^64 from rfl,← Nat.pow_mul,← Nat.pow_add,← hks]
 rw [eq64,Za];by_cases hwl:a.length≤w
 ·rw [decide_eq_true (by omega),Zd];congr 1;symm;apply Nat.div_eq_of_lt;have h1:=Zld hdx;rw [hvx] at h1;have h2:18446744073709551616^a.length≤18446744073709551616^w:=Nat.pow_le_pow_right (by omega) hwl;have h3:18446744073709551616^w*1≤18446744073709551616^w*2^s:=Nat.mul_le_mul_left _ (Nat.pow_pos (by omega));omega
 rw [decide_eq_false (by omega),Ze,Za];have c1:chk .i64 ((a.length:Int)-(w:Int))=some ((a.length-w:Nat):Int):=by rw [Zk (by omega) (by omega)];congr 1;omega
 obtain ⟨u,hu⟩:=ZSc (b:=8) (l:=((a.length-w:Nat):Int)) (c:=((a.length-w:Nat):Int)) (by omega) (by omega) (by omega) (by omega);rw [c1,Za,hu,Za,Z5,Int.toNat_natCast];have hp:0<2^s:=Nat.pow_pos (by omega);have hB:2^(64-s)*2^s=18446744073709551616:=by rw [← Nat.pow_add,show 64-s+s=64 by omega]
 have hB':2^s*2^(64-s)=18446744073709551616:=by rw [Nat.mul_comm];exact hB
 have h2s:2^s≤18446744073709551616:=by rw [← hB];exact Nat.le_mul_of_pos_left _ (Nat.pow_pos (by omega))
 obtain ⟨A,hA⟩:∃ A,A=a.drop w:=⟨_,rfl⟩;have hAl:A.length=a.length-w:=by rw [hA,List.length_drop]
 have hdA:Dig 18446744073709551616 A:=by rw [hA];exact hdx.drop w
 have hAg:∀ j (h:j<A.length),A[j]=a[j+w]'(by omega):=by intro j h;subst hA;simp [Nat.add_comm]
 have low:∀ j,∃ q:Nat,(∀ (h:j<A.length),A[j]=(q:Int))∧(A.length≤j→q=0)∧q<18446744073709551616:=by
  intro j;by_cases h:j<A.length
  ·obtain ⟨X,hX⟩:=Int.eq_ofNat_of_zero_le (hdA.get h).1;have:=(hdA.get h).2;exact ⟨X,fun _=>hX,fun h'=>by omega,by omega⟩
  ·exact ⟨0,fun h'=>by omega,fun _=>rfl,by omega⟩
 have hrep:(List.replicate (a.length-w) (0:Int)).length=A.length:=by simp [hAl]
 rw [hrep];obtain ⟨q0,hq0⟩:=low 0;refine Zqa (fun st:(List Int)×Int=>∃ i q:Nat,st.2=(i:Int)∧i≤A.length∧st.1.length=A.length∧Dig 18446744073709551616 st.1 ∧
  ((∀ (h:i<A.length),A[i]=(q:Int))∧(A.length≤i→q=0)∧q<18446744073709551616) ∧
  val 18446744073709551616 (st.1.take i)*2^s+q0%2^s=val 18446744073709551616 (A.take i)+18446744073709551616^i*(q%2^s)) (fun st=>A.length-st.2.toNat)
  (fun r:List Int=>r.length=A.length∧val 18446744073709551616 r*2^s+q0%2^s=val 18446744073709551616 A) ⟨0,q0,rfl,by omega,by simp [hAl],Dig.replicate _ (by omega),hq0,by simp [val]⟩ (ZV (by simp;omega)) ?_ ?_
 ·rintro ⟨out,i⟩ ⟨i,q,rfl,hi,ho,hd,⟨hq1,hq2,hq3⟩,hv⟩;simp only at ho hd hv ⊢;by_cases hlt:i<A.length
  ·left;have hq:=hq1 hlt;obtain ⟨q',hq'1,hq'2,hq'3⟩:=low (i+1);have hio:i<out.length:=by omega
   have hia:i+w<a.length:=by omega
   have c3:chk .i64 ((i:Int)+(w:Int))=some ((i+w:Nat):Int):=by rw [← Int.natCast_add,Zoa (by omega)]
   have c4:chk .i64 (((i+w:Nat):Int)+1)=some ((i+w+1:Nat):Int):=by rw [show ((i+w:Nat):Int)+1=((i+w+1:Nat):Int) by omega,Zoa (by omega)]
   have c5:chk .i64 (64-(s:Int))=some ((64-s:Nat):Int):=by rw [show 64-(s:Int)=((64-s:Nat):Int) by omega,Zoa (by omega)]
   have c6:decide ((i:Int)<(A.length:Int))=true:=decide_eq_true (by omega);have c8:=ZGd (x:=q) (k:=s) (by omega);have c9:chk .i64 ((i:Int)+1)=some ((i+1:Nat):Int):=by rw [show (i:Int)+1=((i+1:Nat):Int) by omega,Zoa (by omega)]
   have haq:a[i+w]=(q:Int):=by rw [← hAg i hlt];exact hq
   have hqs:q / 2^s<2^(64-s):=by rw [Nat.div_lt_iff_lt_mul hp,hB];exact hq3
   have hqd:=Nat.div_add_mod q (2^s);have hqle:q / 2^s≤q:=Nat.div_le_self _ _;simp only [c6,Zd,Za,eq64,c3,Zz hia,er64,haq,c8,Zz hio,c4];have key:∀ D:Nat,D<18446744073709551616→D*2^s+q%2^s=q+18446744073709551616*(q'%2^s)→val 18446744073709551616 ((out.set i (D:Int)).take (i+1))*2^s+q0%2^s=val 18446744073709551616 (A.take (i+1))+18446744073709551616^(i+1)*(q'%2^s):=by
    intro D hD e;rw [Z5h hio,Z2a hlt,hq,Nat.pow_succ];simp only [Int.toNat_natCast];exact ZLy (x':=0) (ph:=0) hv e
   by_cases hnext:i+1<A.length
   ·have hia1:i+w+1<a.length:=by omega
    have haq':a[i+w+1]=(q':Int):=by
     have h1:=hAg _ hnext;rw [hq'1 hnext] at h1;have e:i+1+w=i+w+1:=by omega
     simp only [e] at h1;exact h1.symm
    have c10:=ZFe (x:=q') (k:=64-s) (by omega);have c11:decide (((i+w+1:Nat):Int)<(a.length:Int))=true:=decide_eq_true (by omega);have hmod:q'*2^(64-s)%18446744073709551616=q'%2^s*2^(64-s):=by rw [← hB',Nat.mul_mod_mul_right]
    have hlo:q'%2^s*2^(64-s)+q / 2^s<18446744073709551616:=by
     have h1:q'%2^s+1≤2^s:=Nat.mod_lt _ hp;have h2:=Nat.mul_le_mul_right (2^(64-s)) h1;rw [hB',Nat.add_mul] at h2;omega
    have hor:orI .u64 ((q / 2^s:Nat):Int) ((q'*2^(64-s)%18446744073709551616:Nat):Int)=((q'%2^s*2^(64-s)+q / 2^s:Nat):Int):=by
     have hc:orI .u64 ((q / 2^s:Nat):Int) ((q'*2^(64-s)%18446744073709551616:Nat):Int)=orI .u64 ((q'*2^(64-s)%18446744073709551616:Nat):Int) ((q / 2^s:Nat):Int):=by
      unfold orI;rw [BitVec.or_comm]
     rw [hc,hmod,ZNf hqs hlo]
    have c12:idx (out.set i ((q / 2^s:Nat):Int)) (i:Int)=some ((q / 2^s:Nat):Int):=by
     rw [Zz (by simp;omega),List.getElem_set_self]
    have c13:i<(out.set i ((q / 2^s:Nat):Int)).length:=by simp;omega
    simp only [c11,Zd,Za,Int.toNat_natCast,c12,eq64,c3,c4,c5,er64,Zz hia1,haq',c10,hor,c9,List.set_set];refine ⟨_,rfl,⟨i+1,q',rfl,by omega,by simp [ho],hd.set _ ⟨Int.natCast_nonneg _,by exact_mod_cast hlo⟩,⟨hq'1,hq'2,hq'3⟩,?_⟩,by simp;omega⟩;refine key _ hlo ?_;rw [Nat.add_mul,Nat.mul_assoc,hB];have:=Nat.mul_comm (2^s) (q / 2^s);omega
   ·have c11:decide (((i+w+1:Nat):Int)<(a.length:Int))=false:=decide_eq_false (by omega);simp only [c11,Ze,Za,Int.toNat_natCast,c9];refine ⟨_,rfl,⟨i+1,q',rfl,by omega,by simp [ho],hd.set _ ⟨Int.natCast_nonneg _,by exact_mod_cast (Nat.lt_of_le_of_lt hqle hq3)⟩,⟨hq'1,hq'2,hq'3⟩,?_⟩,by simp;omega⟩;refine key _ (Nat.lt_of_le_of_lt hqle hq3) ?_;rw [hq'2 (by omega)];have:=Nat.mul_comm (2^s) (q / 2^s);simp;omega
  ·right;have c6:decide ((i:Int)<(A.length:Int))=false:=decide_eq_false (by omega);simp only [c6,Ze];have hi':i=A.length:=by omega
   subst hi';rw [hq2 (by omega),← ho,List.take_length,ho,List.take_length] at hv;exact ⟨_,rfl,ho,by simpa using hv⟩
 ·rintro out ⟨ho,hv⟩;rw [Za];unfold ZMa;rw [Za];congr 1;have h1:n / 2^k=val 18446744073709551616 A / 2^s:=by
   have h2:=Zdd 18446744073709551616 a w (by omega);rw [← hA,hvx] at h2;have h3:=Zld (hdx.take w);rw [List.length_take,Nat.min_eq_left (by omega)] at h3;rw [← hR,← Nat.div_div_eq_div_mul,h2,Nat.add_comm,Nat.mul_add_div (Nat.pow_pos (by omega)),Nat.div_eq_of_lt h3,Nat.add_zero]
  rw [h1,← hv,Nat.mul_comm,Nat.mul_add_div hp,Nat.div_eq_of_lt (Nat.mod_lt _ hp),Nat.add_zero]
theorem ZRA {n:Nat} {k:Int} {z:Nat} (hk:inR .i64 k) (h:ZCg n k=some z):Ztn n k=some z:=by
 unfold ZCg at h;split at h
 ·rename_i hh;obtain ⟨h1,h2⟩:=hh;have:=Z3a.1 hk;obtain ⟨K,rfl⟩:=Int.eq_ofNat_of_zero_le h2;rw [ZSz h1 (by omega),← h];simp
 ·cases h
noncomputable def Z5i (u:(List Int)) (v:Nat) (q:Int):Option (Bool×(List Int)) :=
 bnd (chk .i64 (((((Zc 18446744073709551616 v)).length:Int))+(1:Int))) fun d =>
 bnd (mk 8 d d) fun D =>
 bnd (bnd (Zg (fun s:(List Int)×Int×Int=>match s with
| (e,g,b) =>
 (ifb (decide (b<(((Zc 18446744073709551616 v)).length:Int)))
 (bnd (idx ((Zc 18446744073709551616 v)) b) fun l =>
 bnd (ZBc l q) fun h =>
 bnd (Zyb h.2 g (0:Int)) fun i =>
 bnd (idx e b) fun E =>
 bnd (chk .i64 (b+(1:Int))) fun m =>
 some (.inl (((e.set (b).toNat i.1),IntKind.u64.wrap (h.1+i.2),m))))
 (some (.inr ((e,g)))))) Zi (((List.replicate (d).toNat (0:Int)),(0:Int),(0:Int))))
 (fun (p:(List Int)×Int)=>match p with
| (n,o) =>
 (some ((n,o)))))
 (fun (p:(List Int)×Int)=>match p with
| (f,j) =>
 (bnd (idx f ((((Zc 18446744073709551616 v)).length:Int))) fun F =>
 bnd (ZMa u) fun r =>
 bnd (ZMa ((f.set ((((Zc 18446744073709551616 v)).length:Int)).toNat j))) fun t =>
 bnd (Zid r t) fun w =>
 ifb (decide (w<(0:Int)))
 (some ((false,u)))
 (bnd (bnd (Zg (fun s:(List Int)×Int×Int=>match s with
| (c,x,a) =>
 (ifb (decide (a<(u.length:Int)))
 (bnd (idx c a) fun y =>
 bnd (idx ((f.set ((((Zc 18446744073709551616 v)).length:Int)).toNat j)) a) fun z =>
 bnd (Znd y z x) fun k =>
 bnd (idx c a) fun G =>
 bnd (chk .i64 (a+(1:Int))) fun A =>
 some (.inl (((c.set (a).toNat k.1),k.2,A))))
 (some (.inr c)))) Zi ((u,(0:Int),(0:Int))))
 (fun (B:(List Int)) =>
 (some B)))
 (fun (C:(List Int)) =>
 (some ((true,C)))))))
noncomputable def Zes (n:Int):Option (Nat) :=
 bnd (ZMa ([n])) fun a =>
 some a
theorem Z8x {n:Int} {z:Nat} (h:Ztc n=some z):Zes n=some z:=by
 unfold Ztc at h;unfold Zes ZMa;rw [Za,← h];simp [val]
theorem ZAx {V Q P c c' d y q B:Nat} (h:V+Q*c=P*q) (e:d+B*c'=y*q+c):(V+Q*d)+Q*B*c'=(P+Q*y)*q:=by
 have:Q*(d+B*c')=Q*(y*q+c):=by rw [e]
 grind
theorem take_eq {u:List Int} {v q:Nat} (hd:Dig 18446744073709551616 u) (hv:okN v) (hl:u.length=(Zc 18446744073709551616 v).length+1) (hq:q<18446744073709551616) :
  Z5i u v (q:Int)=if val 18446744073709551616 u<v*q then some (false,u) else some (true,ZDb u.length (val 18446744073709551616 u-v*q)):=by
 unfold Z5i;have hdx:=Zsa (B:=18446744073709551616) (by decide) v;have hvx:=Zja (B:=18446744073709551616) (by decide) v;unfold okN at hv;generalize Zc 18446744073709551616 v=a at *;have c1:chk .i64 ((a.length:Int)+1)=some ((a.length+1:Nat):Int):=by rw [show (a.length:Int)+1=((a.length+1:Nat):Int) by omega,Zoa (by omega)]
 obtain ⟨w,hw⟩:=ZSc (b:=8) (l:=((a.length+1:Nat):Int)) (c:=((a.length+1:Nat):Int)) (by omega) (by omega) (by omega) (by omega);rw [c1,Za,hw,Za,Z5,Int.toNat_natCast];have goal_some:∃ z,(if val 18446744073709551616 u<v*q then some (false,u) else some (true,ZDb u.length (val 18446744073709551616 u-v*q)))=some z:=by split <;> exact ⟨_,rfl⟩
 obtain ⟨z,hz⟩:=goal_some;rw [hz];refine Zqa (fun s:(List Int)×Int×Int=>∃ k c:Nat,s.2.2=(k:Int)∧s.2.1=(c:Int)∧k≤a.length∧s.1.length=a.length+1∧Dig 18446744073709551616 s.1∧c<18446744073709551616 ∧
  val 18446744073709551616 (s.1.take k)+18446744073709551616^k*c=val 18446744073709551616 (a.take k)*q) (fun s=>a.length-s.2.2.toNat)
  (fun r:List Int×Int=>∃ c:Nat,r.2=(c:Int)∧r.1.length=a.length+1∧Dig 18446744073709551616 r.1∧c<18446744073709551616∧val 18446744073709551616 (r.1.take a.length)+18446744073709551616^a.length*c=v*q)
  ⟨0,0,rfl,rfl,by omega,by simp,Dig.replicate _ (by omega),by omega,by simp [val]⟩ (ZV (by simp;omega)) ?_ ?_
 ·rintro ⟨p,c,i⟩ ⟨k,c,rfl,rfl,hk,ho,hdp,hc,hv2⟩;simp only at ho hdp hv2 ⊢;by_cases hlt:k<a.length
  ·left;have hx:=hdx.get hlt;obtain ⟨X,hX⟩:=Int.eq_ofNat_of_zero_le hx.1;have hX':X<18446744073709551616:=by omega
   have hxq:X*q≤18446744073709551615*18446744073709551615:=Nat.mul_le_mul (by omega) (by omega);have c2:decide ((k:Int)<(a.length:Int))=true:=decide_eq_true (by omega);have c3:chk .i64 ((k:Int)+1)=some ((k+1:Nat):Int):=by rw [show (k:Int)+1=((k+1:Nat):Int) by omega,Zoa (by omega)]
   have hkp:k<p.length:=by omega
   have c4:=ZAo hX' hq;have c5:=Zii (x:=((X*q%18446744073709551616:Nat):Int)) (y:=(c:Int)) (c:=0) (by omega) (by omega) (by omega) (by omega);simp only [c2,Zd,Zz hlt,Za,hX,c4,c5,Zz hkp,c3];generalize hp:X*q=t at *;have e1:IntKind.u64.wrap (((t / 18446744073709551616:Nat):Int)+(((t%18446744073709551616:Nat):Int)+(c:Int)+0) / 18446744073709551616)=(((t+c) / 18446744073709551616:Nat):Int):=by
    rw [wrap_u64];omega
   have e2:(((t%18446744073709551616:Nat):Int)+(c:Int)+0)%18446744073709551616=(((t+c)%18446744073709551616:Nat):Int):=by omega
   rw [e1,e2];refine ⟨_,rfl,⟨k+1,_,rfl,rfl,by omega,by simp [ho],hdp.set _ ⟨by omega,by omega⟩,by omega,?_⟩,by simp;omega⟩;simp only [Int.toNat_natCast];rw [Z5h hkp,Z2a hlt,hX,Nat.pow_succ];simp only [Int.toNat_natCast];exact ZAx hv2 (by rw [hp];omega)
  ·right;have c2:decide ((k:Int)<(a.length:Int))=false:=decide_eq_false (by omega);simp only [c2,Ze];have hk':k=a.length:=by omega
   subst hk';rw [List.take_length,hvx] at hv2;exact ⟨_,rfl,c,rfl,ho,hdp,hc,hv2⟩
 ·rintro ⟨p,c⟩ ⟨c,hcc,ho,hdp,hc,hv2⟩;simp only at hcc ho hdp hv2;subst hcc;rw [Za];have hlp:a.length<p.length:=by omega
  simp only [Zz hlp,Za,Int.toNat_natCast];obtain ⟨P,hP⟩:∃ P,P=p.set a.length (c:Int):=⟨_,rfl⟩;have hPl:P.length=a.length+1:=by rw [hP];simp [ho]
  have hPd:Dig 18446744073709551616 P:=by rw [hP];exact hdp.set _ ⟨by omega,by omega⟩
  have hPv:val 18446744073709551616 P=v*q:=by
   rw [← hv2];have:=Z5h (B:=18446744073709551616) (l:=p) (x:=(c:Int)) hlp;rw [← hP,← hPl,List.take_length] at this;rw [this];simp
  rw [← hP];have hcut:ZMa u=some (val 18446744073709551616 u):=rfl;have hcut2:ZMa P=some (v*q):=by unfold ZMa;rw [hPv]
  have hcmp:∀ n m,Zid n m=some (Zha n m):=fun _ _=>rfl;simp only [hcut,hcut2,hcmp,Za];by_cases hlt:val 18446744073709551616 u<v*q
  ·have:Zha (val 18446744073709551616 u) (v*q) = -1:=by unfold Zha;rw [if_pos hlt]
   rw [this,show decide ((-1:Int)<0)=true from rfl,Zd];rw [if_pos hlt] at hz;exact hz
  ·have:decide (Zha (val 18446744073709551616 u) (v*q)<0)=false:=by
    unfold Zha;rw [if_neg hlt];split <;> rfl
   rw [this,Ze,Z5];rw [if_neg hlt] at hz;rw [← hz];have hle:v*q≤val 18446744073709551616 u:=by omega
   refine Zqa (fun s:(List Int)×Int×Int=>∃ k c:Nat,s.2.2=(k:Int)∧s.2.1=(c:Int)∧k≤u.length∧s.1.length=u.length∧Dig 18446744073709551616 s.1∧c≤1∧s.1.drop k=u.drop k ∧
    val 18446744073709551616 (s.1.take k)+val 18446744073709551616 (P.take k)=val 18446744073709551616 (u.take k)+18446744073709551616^k*c) (fun s=>u.length-s.2.2.toNat)
    (fun r:List Int=>r.length=u.length∧Dig 18446744073709551616 r∧val 18446744073709551616 r=val 18446744073709551616 u-v*q)
    ⟨0,0,rfl,rfl,by omega,rfl,hd,by omega,rfl,by simp [val]⟩ (ZV (by simp;omega)) ?_ ?_
   ·rintro ⟨o,b,i⟩ ⟨k,b,rfl,rfl,hk,ho2,hdo,hb,hdr,hv3⟩;simp only at ho2 hdo hdr hv3 ⊢;by_cases hlt2:k<u.length
    ·left;have hko:k<o.length:=by omega
     have hkP:k<P.length:=by omega
     have hou:o[k]=u[k]:=by
      rw [List.drop_eq_getElem_cons hko,List.drop_eq_getElem_cons hlt2] at hdr;exact (List.cons.inj hdr).1
     obtain ⟨X,hX⟩:=Int.eq_ofNat_of_zero_le (hd.get hlt2).1;obtain ⟨Y,hY⟩:=Int.eq_ofNat_of_zero_le (hPd.get hkP).1;have hX2:=(hd.get hlt2).2;have hY2:=(hPd.get hkP).2;have c2:decide ((k:Int)<(u.length:Int))=true:=decide_eq_true (by omega);have c3:chk .i64 ((k:Int)+1)=some ((k+1:Nat):Int):=by rw [show (k:Int)+1=((k+1:Nat):Int) by omega,Zoa (by omega)]
     have c5:=Zlv (x:=(X:Int)) (y:=(Y:Int)) (c:=(b:Int)) (by omega) (by omega) (by omega) (by omega);simp only [c2,Zd,Zz hko,hou,hX,Za,Zz hkP,hY,c5,c3];obtain ⟨b',hb'⟩:∃ b':Nat,(if (X:Int)<(Y:Int)+(b:Int) then (1:Int) else 0)=(b':Int):=by
      by_cases hxy:(X:Int)<(Y:Int)+(b:Int)
      ·exact ⟨1,if_pos hxy⟩
      ·exact ⟨0,if_neg hxy⟩
     rw [hb'];have hbb:b'≤1∧((X:Int)-Y-b)%18446744073709551616+Y+b=X+18446744073709551616*b':=by
      split at hb' <;> omega
     refine ⟨_,rfl,⟨k+1,b',rfl,rfl,by omega,by simp [ho2],hdo.set _ ⟨by omega,by omega⟩,hbb.1,?_,?_⟩,by simp;omega⟩
     ·simp only [Int.toNat_natCast];rw [List.drop_set_of_lt (by omega)];rw [List.drop_eq_getElem_cons hko,List.drop_eq_getElem_cons hlt2] at hdr;exact (List.cons.inj hdr).2
     ·simp only [Int.toNat_natCast];rw [Z5h hko,Z2a hlt2,Z2a hkP,hX,hY,Nat.pow_succ];exact ZVo hv3 (by simp only [Int.toNat_natCast];omega)
    ·right;have c2:decide ((k:Int)<(u.length:Int))=false:=decide_eq_false (by omega);simp only [c2,Ze];have hk':k=u.length:=by omega
     subst hk';have e1:P.take u.length=P:=by rw [hl,← hPl,List.take_length]
     rw [← ho2,List.take_length,ho2,e1,hPv,List.take_length] at hv3;refine ⟨_,rfl,ho2,hdo,?_⟩;have h1:=Zld hdo;rw [ho2] at h1;have h2:b=0∨b=1:=by omega
     rcases h2 with rfl | rfl
     ·omega
     ·rw [Nat.mul_one] at hv3;omega
   ·rintro r ⟨h1,h2,h3⟩;rw [Za,← h3,← h1,Z3s h2]
theorem Zdx {u:List Int} {v:Nat} {q:Int} {z:Bool×List Int} (hd:Dig 18446744073709551616 u) (hq:inR .u64 q) (h:Zvh u v q=some z):Z5i u v q=some z:=by
 unfold Zvh at h;split at h
 ·rename_i hh;have:=ZPc.1 hq;obtain ⟨Q,rfl⟩:=Int.eq_ofNat_of_zero_le (show 0≤q by omega);rw [take_eq hd hh.1 hh.2 (by omega),← h];simp
 ·cases h
noncomputable def Zui (u:(List Int)) (v:Nat):Option (Int×(List Int)) :=
 bnd (idx u ((((Zc 18446744073709551616 v)).length:Int))) fun h =>
 bnd (chk .i64 (((((Zc 18446744073709551616 v)).length:Int))-(1:Int))) fun i =>
 bnd (idx ((Zc 18446744073709551616 v)) i) fun j =>
 bnd (ifb (decide (h<j))
 (bnd (idx u ((((Zc 18446744073709551616 v)).length:Int))) fun k =>
 bnd (chk .i64 (((((Zc 18446744073709551616 v)).length:Int))-(1:Int))) fun l =>
 bnd (idx u l) fun m =>
 bnd (chk .i64 (((((Zc 18446744073709551616 v)).length:Int))-(1:Int))) fun n =>
 bnd (idx ((Zc 18446744073709551616 v)) n) fun o =>
 bnd (Z9c k m o) fun f =>
 bnd (bnd (Zg (fun s:Int×Int=>match s with
| (a,b) =>
 (bnd (chk .i64 (((((Zc 18446744073709551616 v)).length:Int))-(2:Int))) fun q =>
 bnd (idx ((Zc 18446744073709551616 v)) q) fun r =>
 bnd (ZBc a r) fun c =>
 bnd (ifb (decide (c.1<b))
 (some true)
 (ifb (c.1==b)
 (bnd (chk .i64 (((((Zc 18446744073709551616 v)).length:Int))-(2:Int))) fun t =>
 bnd (idx u t) fun w =>
 some (decide (c.2≤w)))
 (some false)))
 (fun (x:Bool) =>
 (ifb (x)
 (some (.inr a))
 (bnd (chk .i64 (((((Zc 18446744073709551616 v)).length:Int))-(1:Int))) fun y =>
 bnd (idx ((Zc 18446744073709551616 v)) y) fun z =>
 bnd (Zyb b z (0:Int)) fun g =>
 ifb (decide ((0:Int)<g.2))
 (some (.inr (IntKind.u64.wrap (a-(1:Int)))))
 (some (.inl ((IntKind.u64.wrap (a-(1:Int)),g.1))))))))) Zi ((f.1,f.2)))
 (fun (A:Int) =>
 (some A)))
 (fun (B:Int) =>
 (some B)))
 (some (18446744073709551615:Int)))
 (fun (C:Int) =>
 (bnd (bnd (Zg (fun s:(List Int)×Int=>match s with
| (D,d) =>
 (bnd (Zvh D v d) fun e =>
 ifb (!(e.1))
 (some (.inl ((e.2,IntKind.u64.wrap (d-(1:Int))))))
 (some (.inr ((e.2,d)))))) Zi ((u,C)))
 (fun (p:(List Int)×Int)=>match p with
| (E,F) =>
 (some ((E,F)))))
 (fun (p:(List Int)×Int)=>match p with
| (G,H) =>
 (some ((H,G))))))
theorem top2 {B:Nat} {a:List Int} {n:Nat} (hn:a.length=n+2):val B a=val B (a.take n)+B^n*((a[n]'(by omega)).toNat+B*(a[n+1]'(by omega)).toNat):=by
 rw [Zdd B a n (by omega),ZWb (by omega),ZWb (by omega),List.drop_of_length_le (by omega)];simp [val]
theorem top3 {B:Nat} {a:List Int} {n:Nat} (hn:a.length=n+3):val B a=val B (a.take n)+B^n*((a[n]'(by omega)).toNat+B*((a[n+1]'(by omega)).toNat+B*(a[n+2]'(by omega)).toNat)):=by
 rw [Zdd B a n (by omega),ZWb (by omega),ZWb (by omega),ZWb (by omega),List.drop_of_length_le (by omega)];simp [val]
theorem ZuB {Q v v1 v2 lowv lowu u2 h R U:Nat} (hR:0<R) (hv:v=lowv+R*(v2+18446744073709551616*v1)) (hU:U=lowu+R*(u2+18446744073709551616*h)) (hlow:lowu<R) (hu2:u2<18446744073709551616) (hQ:Q*v≤U):Q*v1≤h:=by
 have h1:R*(Q*(18446744073709551616*v1))≤Q*v:=by
  rw [hv];have:Q*(R*(18446744073709551616*v1))≤Q*(lowv+R*(v2+18446744073709551616*v1)):=by
   apply Nat.mul_le_mul_left;rw [Nat.mul_add R];omega
  rw [Nat.mul_left_comm];exact this
 have h2:R*(Q*(18446744073709551616*v1))<R*(u2+18446744073709551616*h+1):=by rw [Nat.mul_add R _ 1];omega
 have h3:=Nat.lt_of_mul_lt_mul_left h2;rw [Nat.mul_left_comm] at h3;generalize Q*v1=t at *;omega
theorem ZBA {g v v1 v2 lowv lowu u2 h r R U:Nat} (hR:0<R) (hv:v=lowv+R*(v2+18446744073709551616*v1)) (hU:U=lowu+R*(u2+18446744073709551616*h)) (hlow:lowu<R) (hh:h=g*v1+r) (hgt:r*18446744073709551616+u2<g*v2):U<g*v:=by
 rcases Nat.lt_or_ge U (g*v) with hlt | hge
 ·exact hlt
 ·exfalso;have h1:R*(g*(v2+18446744073709551616*v1))≤g*v:=by
   have e:g*v=g*lowv+R*(g*(v2+18446744073709551616*v1)):=by rw [hv,Nat.mul_add,Nat.mul_left_comm g R]
   omega
  have h2:R*(g*(v2+18446744073709551616*v1))<R*(u2+18446744073709551616*h+1):=by rw [Nat.mul_add R _ 1];omega
  have h3:=Nat.lt_of_mul_lt_mul_left h2;rw [Nat.mul_add g,Nat.mul_left_comm] at h3;generalize g*v1=t at *;omega
theorem ZvB {u:List Int} {v:Nat} (hd:Dig 18446744073709551616 u) (hv:okN v) (hl:u.length=(Zc 18446744073709551616 v).length+1) (h2:2≤(Zc 18446744073709551616 v).length) (hlt:val 18446744073709551616 u<v*18446744073709551616) {z:Int×List Int}
  (f:Int→Option (Int×List Int)) (hf:∀ g:Nat,val 18446744073709551616 u / v≤g→g<18446744073709551616→f (g:Int)=some z) :
  (bnd (idx u ((((Zc 18446744073709551616 v)).length:Int))) fun y14 =>
 bnd (chk .i64 (((((Zc 18446744073709551616 v)).length:Int))-((1:Int)))) fun y20 =>
 bnd (idx ((Zc 18446744073709551616 v)) y20) fun y22 =>
 bnd (ifb (decide (y14<y22))
 (bnd (idx u ((((Zc 18446744073709551616 v)).length:Int))) fun y121 =>
 bnd (chk .i64 (((((Zc 18446744073709551616 v)).length:Int))-((1:Int)))) fun y127 =>
 bnd (idx u y127) fun y129 =>
 bnd (chk .i64 (((((Zc 18446744073709551616 v)).length:Int))-((1:Int)))) fun y135 =>
 bnd (idx ((Zc 18446744073709551616 v)) y135) fun y137 =>
 bnd (Z9c y121 y129 y137) fun y143 =>
 bnd (bnd (Zg (fun s:Int×Int=>match s with
 | (x183,x185) =>
 (bnd (chk .i64 (((((Zc 18446744073709551616 v)).length:Int))-((2:Int)))) fun y201 =>
 bnd (idx ((Zc 18446744073709551616 v)) y201) fun y203 =>
 bnd (ZBc x183 y203) fun y209 =>
 bnd (ifb (decide (y209.1<x185))
 (some true)
 (ifb (y209.1==x185)
 (bnd (chk .i64 (((((Zc 18446744073709551616 v)).length:Int))-((2:Int)))) fun y270 =>
 bnd (idx u y270) fun y272 =>
 some (decide (y209.2≤y272)))
 (some false)))
 (fun (x236:Bool) =>
 (ifb (x236)
 (some (.inr x183))
 (bnd (chk .i64 (((((Zc 18446744073709551616 v)).length:Int))-((1:Int)))) fun y251 =>
 bnd (idx ((Zc 18446744073709551616 v)) y251) fun y253 =>
 bnd (Zyb x185 y253 ((0:Int))) fun y259 =>
 ifb (decide ((0:Int)<y259.2))
 (some (.inr (IntKind.u64.wrap (x183-((1:Int))))))
 (some (.inl ((IntKind.u64.wrap (x183-((1:Int))),y259.1))))))))) Zi ((y143.1,y143.2)))
 (fun (x189:Int) =>
 (some x189)))
 (fun (x174:Int) =>
 (some x174)))
 (some ((18446744073709551615:Int)))) f)=some z:=by
 have hdx:=Zsa (B:=18446744073709551616) (by decide) v;have hvx:=Zja (B:=18446744073709551616) (by decide) v;have hcx:=Zgl (B:=18446744073709551616) (by decide) v;unfold okN at hv;generalize Zc 18446744073709551616 v=a at *;obtain ⟨n,hn⟩:∃ n,a.length=n+2:=⟨a.length-2,by omega⟩;have hu:u.length=n+3:=by omega
 obtain ⟨v1,hv1⟩:=Int.eq_ofNat_of_zero_le (hdx.get (i:=n+1) (by omega)).1;obtain ⟨v2,hv2⟩:=Int.eq_ofNat_of_zero_le (hdx.get (i:=n) (by omega)).1;obtain ⟨u0,hu0⟩:=Int.eq_ofNat_of_zero_le (hd.get (i:=n+2) (by omega)).1;obtain ⟨u1,hu1⟩:=Int.eq_ofNat_of_zero_le (hd.get (i:=n+1) (by omega)).1;obtain ⟨u2,hu2⟩:=Int.eq_ofNat_of_zero_le (hd.get (i:=n) (by omega)).1;have b1:=(hdx.get (i:=n+1) (by omega)).2;have b2:=(hdx.get (i:=n) (by omega)).2;have b3:=(hd.get (i:=n+2) (by omega)).2;have b4:=(hd.get (i:=n+1) (by omega)).2;have b5:=(hd.get (i:=n) (by omega)).2;rw [hv1] at b1;rw [hv2] at b2;rw [hu0] at b3;rw [hu1] at b4;rw [hu2] at b5;have hv10:v1≠0:=by
  have e:a.length-1=n+1:=by omega
  have:=hcx a[n+1] (by rw [List.getLast?_eq_getElem?];simp only [e];exact List.getElem?_eq_getElem _);rw [hv1] at this;omega
 have tv:=top2 (B:=18446744073709551616) hn;have tu:=top3 (B:=18446744073709551616) hu;rw [hvx,hv1,hv2] at tv;rw [hu0,hu1,hu2] at tu;simp only [Int.toNat_natCast] at tv tu;have hR:0<18446744073709551616^n:=Nat.pow_pos (by omega);have hlow:=Zld (hd.take n);rw [List.length_take,Nat.min_eq_left (by omega)] at hlow;have hv0:0<v:=by
  rcases Nat.eq_zero_or_pos v with h | h
  ·subst h;omega
  ·exact h
 obtain ⟨U,hU⟩:∃ U,U=val 18446744073709551616 u:=⟨_,rfl⟩;rw [← hU] at hf hlt tu;have hQv:U / v*v≤U:=Nat.div_mul_le_self _ _;have hQB:U / v<18446744073709551616:=by rw [Nat.div_lt_iff_lt_mul hv0,Nat.mul_comm];exact hlt
 have hQlt:∀ g,U<g*v→U / v<g:=fun g h=>(Nat.div_lt_iff_lt_mul hv0).2 h;generalize U / v=Q at *;have tu':U=val 18446744073709551616 (u.take n)+18446744073709551616^n*(u2+18446744073709551616*(u0*18446744073709551616+u1)):=by
  rw [tu];congr 2;omega
 have c0:chk .i64 ((a.length:Int)-1)=some ((n+1:Nat):Int):=by rw [Zk (by omega) (by omega)];congr 1;omega
 have c00:chk .i64 ((a.length:Int)-2)=some ((n:Nat):Int):=by rw [Zk (by omega) (by omega)];congr 1;omega
 have i0:idx u (a.length:Int)=some (u0:Int):=by rw [hn,Zz (by omega),hu0]
 have i1:idx u ((n+1:Nat):Int)=some (u1:Int):=by rw [Zz (by omega),hu1]
 have i2:idx u ((n:Nat):Int)=some (u2:Int):=by rw [Zz (by omega),hu2]
 have i3:idx a ((n+1:Nat):Int)=some (v1:Int):=by rw [Zz (by omega),hv1]
 have i4:idx a ((n:Nat):Int)=some (v2:Int):=by rw [Zz (by omega),hv2]
 simp only [i0,Za,c0,i3,i1,c00,i4,i2];by_cases hc:u0<v1
 ·have e1:decide ((u0:Int)<(v1:Int))=true:=decide_eq_true (by omega);have e2:Z9c (u0:Int) (u1:Int) (v1:Int)=some ((((u0*18446744073709551616+u1) / v1:Nat):Int),(((u0*18446744073709551616+u1)%v1:Nat):Int)):=by
   unfold Z9c;rw [if_pos ⟨by omega,by omega,by omega,by omega,by omega⟩];simp
  simp only [e1,Zd,e2,Za];obtain ⟨h,hh⟩:∃ h,h=u0*18446744073709551616+u1:=⟨_,rfl⟩;rw [← hh] at tu' ⊢;have hv1p:0<v1:=by omega
  have hg0:h / v1<18446744073709551616:=by
   rw [Nat.div_lt_iff_lt_mul hv1p,hh];have:(u0+1)*18446744073709551616≤v1*18446744073709551616:=Nat.mul_le_mul_right _ hc;rw [Nat.mul_comm 18446744073709551616];omega
  rw [Z5,Z5];refine Zqa (fun s:Int×Int=>∃ g r:Nat,s=((g:Int),(r:Int))∧h=g*v1+r∧r<18446744073709551616∧Q≤g∧g<18446744073709551616) (fun s=>s.1.toNat)
   (fun r:Int=>∃ g:Nat,r=(g:Int)∧Q≤g∧g<18446744073709551616)
   ⟨h / v1,h%v1,rfl,by rw [Nat.mul_comm];exact (Nat.div_add_mod _ _).symm,Nat.lt_trans (Nat.mod_lt _ hv1p) (by omega),(Nat.le_div_iff_mul_le hv1p).2 (ZuB hR tv tu' hlow (by omega) hQv),hg0⟩
   (ZV (by simp only [Int.toNat_natCast];omega)) ?_ ?_
  ·rintro _ ⟨g,r,rfl,e,hr,hQ,hg⟩;have m1:=ZAo (x:=g) (y:=v2) hg (by omega);simp only [m1,Za];have cond:ifb (decide (((g*v2 / 18446744073709551616:Nat):Int)<(r:Int))) (some true) (ifb (((g*v2 / 18446744073709551616:Nat):Int)==(r:Int)) (some (decide (((g*v2%18446744073709551616:Nat):Int)≤(u2:Int)))) (some false))=some (decide (g*v2≤r*18446744073709551616+u2)):=by
    generalize g*v2=t;by_cases q1:t / 18446744073709551616<r
    ·rw [decide_eq_true (by omega),Zd,decide_eq_true (by omega)]
    ·rw [decide_eq_false (by omega),Ze];by_cases q2:t / 18446744073709551616=r
     ·have:(((t / 18446744073709551616:Nat):Int)==(r:Int))=true:=by simp;omega
      rw [this,Zd];exact congrArg some (decide_eq_decide.2 (by omega))
     ·have:(((t / 18446744073709551616:Nat):Int)==(r:Int))=false:=by simp;omega
      rw [this,Ze,decide_eq_false (by omega)]
   rw [cond,Za];by_cases hcd:g*v2≤r*18446744073709551616+u2
   ·right;rw [decide_eq_true hcd,Zd];exact ⟨_,rfl,g,rfl,hQ,hg⟩
   ·rw [decide_eq_false hcd,Ze];have hdown:=ZBA hR tv tu' hlow e (by omega);have hQg:Q<g:=hQlt g hdown;have a1:=Zii (x:=(r:Int)) (y:=(v1:Int)) (c:=0) (by omega) (by omega) (by omega) (by omega);simp only [a1,Za];have ew:IntKind.u64.wrap ((g:Int)-1)=((g-1:Nat):Int):=by rw [wrap_u64];omega
    rw [ew];by_cases ho:18446744073709551616≤r+v1
    ·right;rw [decide_eq_true (by omega),Zd];exact ⟨_,rfl,g-1,rfl,by omega,by omega⟩
    ·left;rw [decide_eq_false (by omega),Ze];have er:((r:Int)+v1+0)%18446744073709551616=((r+v1:Nat):Int):=by omega
     rw [er];refine ⟨_,rfl,⟨g-1,r+v1,rfl,?_,by omega,by omega,by omega⟩,by simp;omega⟩;obtain ⟨g',rfl⟩:∃ g',g=g'+1:=⟨g-1,by omega⟩;rw [e,Nat.succ_mul];simp;omega
  ·rintro _ ⟨g,rfl,h1,h2⟩;simp only [Za];exact hf g h1 h2
 ·have e1:decide ((u0:Int)<(v1:Int))=false:=decide_eq_false (by omega);simp only [e1,Ze,Za];exact hf 18446744073709551615 (by omega) (by omega)
theorem ZHz {u:List Int} {v:Nat} (hd:Dig 18446744073709551616 u) (hv:okN v) (hl:u.length=(Zc 18446744073709551616 v).length+1) (h2:2≤(Zc 18446744073709551616 v).length) (hlt:val 18446744073709551616 u<v*18446744073709551616) :
  Zui u v=some (((val 18446744073709551616 u / v:Nat):Int),ZDb u.length (val 18446744073709551616 u%v)):=by
 unfold Zui;refine ZvB hd hv hl h2 hlt _ fun g hg hg2=>?_;have hv0:0<v:=by
  rcases Nat.eq_zero_or_pos v with h | h
  ·subst h;omega
  ·exact h
 obtain ⟨U,hU⟩:∃ U,U=val 18446744073709551616 u:=⟨_,rfl⟩;rw [← hU] at hg ⊢;have hdm:=Nat.div_add_mod U v;have hQ1:∀ g,v*g≤U→g≤U / v:=fun g h=>(Nat.le_div_iff_mul_le hv0).2 (by rw [Nat.mul_comm];exact h);have hQ2:∀ g,U<v*g→U / v<g:=fun g h=>(Nat.div_lt_iff_lt_mul hv0).2 (by rw [Nat.mul_comm];exact h);generalize U / v=Q at *;generalize U%v=M at *;rw [Z5];refine Zqa (fun s:(List Int)×Int=>∃ g:Nat,s=(u,(g:Int))∧Q≤g∧g<18446744073709551616) (fun s=>s.2.toNat) (fun r:(List Int)×Int=>r=(ZDb u.length (M),((Q:Nat):Int)))
  ⟨g,rfl,hg,hg2⟩ (ZV (by simp only [Int.toNat_natCast];omega)) ?_ ?_
 ·rintro _ ⟨g,rfl,hg,hg2⟩;have ht:Zvh u v (g:Int)=if U<v*g then some (false,u) else some (true,ZDb u.length (U-v*g)):=by
   unfold Zvh;rw [if_pos ⟨hv,hl⟩,← hU];simp
  by_cases hc:U<v*g
  ·left;rw [if_pos hc] at ht;have hQg:Q<g:=hQ2 g hc;have ew:IntKind.u64.wrap ((g:Int)-1)=((g-1:Nat):Int):=by rw [wrap_u64];omega
   simp only [ht,Za,Bool.not_false,Zd,ew];exact ⟨_,rfl,⟨g-1,rfl,by omega,by omega⟩,by simp;omega⟩
  ·right;rw [if_neg hc] at ht;have hQg:g≤Q:=hQ1 g (by omega);have e:g=Q:=by omega
   simp only [ht,Za,Bool.not_true,Ze];refine ⟨_,rfl,?_⟩;subst e;congr 2;omega
 ·rintro _ rfl;simp only [Za]
theorem ZBz {u:List Int} {v:Nat} {z:Int×List Int} (hd:Dig 18446744073709551616 u) (h:Z8g u v=some z):Zui u v=some z:=by
 unfold Z8g at h;split at h
 ·rename_i hh;rw [ZHz hd hh.1 hh.2.1 hh.2.2.1 hh.2.2.2,← h]
 ·cases h
noncomputable def ZOi (a:Nat) (b:Nat):Option (Nat×Nat) :=
 bnd (Zid a b) fun m =>
 ifb (decide (m<(0:Int)))
 (some (((0:Nat),a)))
 (ifb (((((Zc 18446744073709551616 b)).length:Int))==(1:Int))
 (bnd (idx ((Zc 18446744073709551616 b)) (0:Int)) fun n =>
 bnd (Z3d a n) fun j =>
 bnd (Ztc j.2) fun o =>
 some ((j.1,o)))
 (bnd (chk .i64 (((((Zc 18446744073709551616 b)).length:Int))-(1:Int))) fun q =>
 bnd (idx ((Zc 18446744073709551616 b)) q) fun r =>
 bnd (ZDd r) fun g =>
 bnd (Z9d b g) fun h =>
 bnd (Z9d a g) fun d =>
 bnd (ZC 8 (([]:(List Int))++((Zc 18446744073709551616 d)))) fun E =>
 bnd (ZC 8 ((([]:(List Int))++((Zc 18446744073709551616 d)))++[(0:Int)])) fun F =>
 bnd (chk .i64 ((((((([]:(List Int))++((Zc 18446744073709551616 d)))++[(0:Int)])).length:Int))-((((Zc 18446744073709551616 h)).length:Int)))) fun e =>
 bnd (mk 8 e e) fun G =>
 bnd (chk .i64 (((((List.replicate (e).toNat (0:Int))).length:Int))-(1:Int))) fun t =>
 bnd (bnd (Zg (fun s:(List Int)×(List Int)×Int=>match s with
| (f,i,c) =>
 (ifb (decide ((0:Int)≤c))
 (bnd (chk .i64 (c+((((Zc 18446744073709551616 h)).length:Int)))) fun u =>
 bnd (chk .i64 (u+(1:Int))) fun k =>
 bnd (cutP f c k) fun v =>
 bnd (Z8g v h) fun l =>
 bnd (idx i c) fun H =>
 bnd (chk .i64 (c-(1:Int))) fun w =>
 some (.inl (((List.take (c).toNat f++l.2++List.drop (k).toNat f),(i.set (c).toNat l.1),w))))
 (some (.inr ((f,i)))))) Zi ((((([]:(List Int))++((Zc 18446744073709551616 d)))++[(0:Int)]),(List.replicate (e).toNat (0:Int)),t)))
 (fun (p:(List Int)×(List Int))=>match p with
| (x,y) =>
 (some ((x,y)))))
 (fun (p:(List Int)×(List Int))=>match p with
| (z,A) =>
 (bnd (ZMa A) fun B =>
 bnd (ZMa z) fun C =>
 bnd (ZCg C g) fun D =>
 some ((B,D))))))
theorem Zzk {x:Int} {n:Nat} (h:x=(n:Int)) (hn:n≤9223372036854775807):chk .i64 x=some (n:Int):=by rw [h];exact Zoa hn
theorem Zbz {A V U U' q Qd P B seg low:Nat} (h:U+V*(P*B*q)=A) (e1:U=low+P*seg) (e2:U'=low+P*(seg%V)) (e3:Qd=seg / V):U'+V*(P*(Qd+B*q))=A:=by
 have hd:=Nat.div_add_mod seg V;rw [← e3] at hd;have h2:P*seg=P*(V*Qd+seg%V):=by rw [hd]
 subst e1 e2;rw [h2] at h;grind
theorem ZFA {n m:Nat} (hn:okN n) (hm:okN m) (h0:m≠0):ZOi n m=some (n / m,n%m):=by
 unfold ZOi;have hcmp:∀ n m,Zid n m=some (Zha n m):=fun _ _=>rfl;rw [hcmp,Za];by_cases hlt:n<m
 ·have:Zha n m = -1:=by unfold Zha;rw [if_pos hlt]
  rw [this,show decide ((-1:Int)<0)=true from rfl,Zd,Nat.div_eq_of_lt hlt,Nat.mod_eq_of_lt hlt]
 have hc:decide (Zha n m<0)=false:=by unfold Zha;rw [if_neg hlt];split <;> rfl
 rw [hc,Ze];have hne:(Zc 18446744073709551616 m)≠[]:=(Z3c (by decide)).2 h0;have hpos:=List.length_pos_iff.2 hne;by_cases h1:(Zc 18446744073709551616 m).length=1
 ·have e1:(((Zc 18446744073709551616 m).length:Int)==1)=true:=by simp;omega
  rw [e1,Zd];have hmB:m<18446744073709551616:=by have:=Zdc (B:=18446744073709551616) (by decide) m;rw [h1] at this;simpa using this
  rw [Z7n (by decide) h0 hmB,Za];have:Z3d n (m:Int)=some (n / m,((n%m:Nat):Int)):=by unfold Z3d;rw [if_pos ⟨hn,by omega⟩];simp
  rw [this,Za];show bnd (Ztc ((n%m:Nat):Int)) _=_;unfold Ztc;rw [Za];rfl
 have e1:(((Zc 18446744073709551616 m).length:Int)==1)=false:=by simp;omega
 rw [e1,Ze];obtain ⟨k,hk⟩:∃ k,(Zc 18446744073709551616 m).length=k+2:=⟨(Zc 18446744073709551616 m).length-2,by omega⟩;have c1:chk .i64 (((Zc 18446744073709551616 m).length:Int)-1)=some ((k+1:Nat):Int):=by
  unfold okN at hm;rw [Zk (by omega) (by omega)];congr 1;omega
 rw [c1,Za];have hdm:=Zsa (B:=18446744073709551616) (by decide) m;have hvm:=Zja (B:=18446744073709551616) (by decide) m;have hcm:=Zgl (B:=18446744073709551616) (by decide) m;have hmlt:=Zdc (B:=18446744073709551616) (by decide) m;have hmge:=Zqj (B:=18446744073709551616) (by decide) h0;rw [hk] at hmlt hmge;obtain ⟨top,htop⟩:=Int.eq_ofNat_of_zero_le (hdm.get (i:=k+1) (by omega)).1;have htopB:=(hdm.get (i:=k+1) (by omega)).2;rw [htop] at htopB;have hi:idx (Zc 18446744073709551616 m) ((k+1:Nat):Int)=some (top:Int):=by rw [Zz (by omega),htop]
 rw [hi,Za];have htop0:top≠0:=by
  have e:(Zc 18446744073709551616 m).length-1=k+1:=by omega
  have:=hcm (Zc 18446744073709551616 m)[k+1] (by rw [List.getLast?_eq_getElem?];simp only [e];exact List.getElem?_eq_getElem _);rw [htop] at this;omega
 obtain ⟨t,ht⟩:=Z8f htop0;have hbl:bl top≤64:=Zob (by omega);have htl:=ZJc top;have hz:ZDd (top:Int)=some ((64-bl top:Nat):Int):=by
  unfold ZDd;rw [if_pos ⟨by omega,by omega⟩];congr 1;simp;omega
 rw [hz,Za];obtain ⟨s,hs⟩:∃ s,s=64-bl top:=⟨_,rfl⟩;rw [← hs];have hp:0<2^s:=Nat.pow_pos (by omega);have hVlt:m*2^s<18446744073709551616^(k+2):=by
  have h3:=top2 (B:=18446744073709551616) (a:=Zc 18446744073709551616 m) (n:=k) hk;rw [hvm,htop] at h3;simp only [Int.toNat_natCast] at h3;have h4:=Zld (hdm.take (k+1));rw [List.length_take,Nat.min_eq_left (by omega)] at h4;have h5:=Zdd 18446744073709551616 (Zc 18446744073709551616 m) (k+1) (by omega);rw [hvm,ZWb (by omega),htop,List.drop_of_length_le (by omega)] at h5;simp only [val,Int.toNat_natCast,Nat.mul_zero,Nat.add_zero] at h5;have h6:m<18446744073709551616^(k+1)*(top+1):=by rw [Nat.mul_add];omega
  have h7:(top+1)*2^s≤18446744073709551616:=by
   have:=Nat.mul_le_mul_right (2^s) (show top+1≤2^bl top from htl);rw [← Nat.pow_add,show bl top+s=64 by omega] at this;exact this
  have h8:m*2^s<18446744073709551616^(k+1)*(top+1)*2^s:=Nat.mul_lt_mul_of_pos_right h6 hp;have h9:18446744073709551616^(k+1)*((top+1)*2^s)≤18446744073709551616^(k+1)*18446744073709551616:=Nat.mul_le_mul_left _ h7;rw [Nat.pow_succ _ (k+1)];rw [Nat.mul_assoc] at h8;omega
 obtain ⟨V,hV⟩:∃ V,V=m*2^s:=⟨_,rfl⟩;rw [← hV] at hVlt;have hmV:m≤V:=by rw [hV];exact Nat.le_mul_of_pos_right _ hp
 have hVl:(Zc 18446744073709551616 V).length=k+2:=by
  have h3:=Z1f (B:=18446744073709551616) (by decide) hVlt;have h4:=Z6c (B:=18446744073709551616) (by decide) hmV;omega
 have hVok:okN V:=by unfold okN at hm ⊢;omega
 have hV0:0<V:=by omega
 obtain ⟨A,hA⟩:∃ A,A=n*2^s:=⟨_,rfl⟩;have hAlt:A<18446744073709551616^((Zc 18446744073709551616 n).length+1):=by
  have h3:=Zdc (B:=18446744073709551616) (by decide) n;have h4:2^s≤2^64:=Nat.pow_le_pow_right (by omega) (by omega);rw [hA,Nat.pow_succ];exact Nat.lt_of_le_of_lt (Nat.mul_le_mul_left _ h4) (Nat.mul_lt_mul_of_pos_right h3 (by decide))
 have hAl:=Z1f (B:=18446744073709551616) (by decide) hAlt;have hVA:V≤A:=by rw [hV,hA];exact Nat.mul_le_mul_right _ (by omega)
 have hAV:=Z6c (B:=18446744073709551616) (by decide) hVA;have l1:Z9d m (s:Int)=some V:=by unfold Z9d;rw [if_pos ⟨hm,by omega,by omega⟩,hV];simp
 have l2:Z9d n (s:Int)=some A:=by unfold Z9d;rw [if_pos ⟨hn,by omega,by omega⟩,hA];simp
 unfold okN at hn hm;rw [l1,Za,l2,Za];have hdA:=Zsa (B:=18446744073709551616) (by decide) A;have hvA:=Zja (B:=18446744073709551616) (by decide) A;rw [hVl] at hAV ⊢;generalize Zc 18446744073709551616 A=w at *;have r1:ZC 8 (([]:List Int)++w)=some ():=by unfold ZC;rw [if_pos (by simp;omega)]
 have r2:ZC 8 ((([]:List Int)++w)++[(0:Int)])=some ():=by unfold ZC;rw [if_pos (by simp;omega)]
 rw [r1,Za,r2,Za,List.nil_append];obtain ⟨u,hu⟩:∃ u,u=w++[(0:Int)]:=⟨_,rfl⟩;have hul:u.length=w.length+1:=by rw [hu];simp
 have hud:Dig 18446744073709551616 u:=by rw [hu];exact Dig.append.2 ⟨hdA,Dig.cons.2 ⟨by omega,Dig.nil⟩⟩
 have huv:val 18446744073709551616 u=A:=by rw [hu,ZGc,hvA];simp [val]
 rw [← hu];obtain ⟨j0,hj0⟩:∃ j0,w.length+1=k+2+j0+1:=⟨w.length-(k+2),by omega⟩;have c2:chk .i64 ((u.length:Int)-((k+2:Nat):Int))=some ((j0+1:Nat):Int):=Zzk (by omega) (by omega);obtain ⟨x,hx⟩:=ZSc (b:=8) (l:=((j0+1:Nat):Int)) (c:=((j0+1:Nat):Int)) (by omega) (by omega) (by omega) (by omega);have c3:chk .i64 ((((List.replicate (j0+1) (0:Int)).length:Nat):Int)-1)=some ((j0:Nat):Int):=by
  rw [List.length_replicate];exact Zzk (by omega) (by omega)
 rw [c2,Za,hx,Za,Int.toNat_natCast,c3,Za,Z5];refine Zqa (fun st:(List Int)×(List Int)×Int=>∃ j:Nat,st.2.2=(j:Int)-1∧j≤j0+1∧st.1.length=u.length∧Dig 18446744073709551616 st.1∧st.2.1.length=j0+1 ∧
  val 18446744073709551616 (st.1.drop j)<V∧val 18446744073709551616 st.1+V*(18446744073709551616^j*val 18446744073709551616 (st.2.1.drop j))=A) (fun st=>(st.2.2+1).toNat)
  (fun r:(List Int)×(List Int)=>Dig 18446744073709551616 r.1∧val 18446744073709551616 r.1<V∧val 18446744073709551616 r.1+V*val 18446744073709551616 r.2=A)
  ⟨j0+1,by simp,by omega,rfl,hud,by simp,?_,by simp [val,huv]⟩ (ZV (by simp;omega)) ?_ ?_
 · -- the greatest words are below the divisor
  have h3:=Zdd 18446744073709551616 u (j0+1) (by omega);have h4:u.drop (j0+1)=w.drop (j0+1)++[0]:=by rw [hu,List.drop_append_of_le_length (by omega)]
  have h5:=Zld (hdA.drop (j0+1));rw [List.length_drop,show w.length-(j0+1)=k+1 by omega] at h5;rw [h4,ZGc];simp [val];have:18446744073709551616^(k+2-1)=18446744073709551616^(k+1):=rfl;omega
 ·rintro ⟨o,q,i⟩ ⟨j,e,hj,hol,hod,hql,hltV,hinv⟩;simp only at e hol hod hql hltV hinv ⊢;subst e;by_cases hj0':0<j
  ·left;obtain ⟨i,rfl⟩:∃ i,j=i+1:=⟨j-1,by omega⟩;have ei:((i+1:Nat):Int)-1=(i:Int):=by omega
   rw [ei,decide_eq_true (by omega),Zd];have d1:chk .i64 ((i:Int)+((k+2:Nat):Int))=some ((i+k+2:Nat):Int):=Zzk (by omega) (by omega);have d2:chk .i64 (((i+k+2:Nat):Int)+1)=some ((i+k+3:Nat):Int):=Zzk (by omega) (by omega);obtain ⟨seg,hseg⟩:∃ seg,seg=(o.take (i+k+3)).drop i:=⟨_,rfl⟩;have hsl:seg.length=k+3:=by rw [hseg,List.length_drop,List.length_take,Nat.min_eq_left (by omega)];omega
   have d3:cutP o (i:Int) ((i+k+3:Nat):Int)=some seg:=by
    unfold cutP;rw [if_pos ⟨by omega,by omega,by omega⟩,hseg];rfl
   have hsd:Dig 18446744073709551616 seg:=by rw [hseg];exact (hod.take _).drop _
   have hdropi:val 18446744073709551616 (o.drop i)<V*18446744073709551616:=by
    rw [ZWb (by omega)];have:=(hod.get (i:=i) (by omega)).2;have h3:18446744073709551616*(val 18446744073709551616 (o.drop (i+1))+1)≤18446744073709551616*V:=Nat.mul_le_mul_left _ hltV;rw [Nat.mul_add] at h3;rw [Nat.mul_comm V];omega
   have hsplit:o.drop i=seg++o.drop (i+k+3):=by
    have h3:=List.take_append_drop (i+k+3) o;have h4:o.drop i=((o.take (i+k+3))++o.drop (i+k+3)).drop i:=by rw [h3]
    rw [h4,List.drop_append_of_le_length (by rw [List.length_take];omega),hseg]
   have hhigh:val 18446744073709551616 (o.drop (i+k+3))=0:=by
    rcases Nat.eq_zero_or_pos (val 18446744073709551616 (o.drop (i+k+3))) with h | h
    ·exact h
    ·exfalso;rw [hsplit,ZGc,hsl] at hdropi;have h3:18446744073709551616^(k+3)*1≤18446744073709551616^(k+3)*val 18446744073709551616 (o.drop (i+k+3)):=Nat.mul_le_mul_left _ h;have h4:V*18446744073709551616≤18446744073709551616^(k+2)*18446744073709551616:=Nat.mul_le_mul_right _ (by omega);have h5:18446744073709551616^(k+3)=18446744073709551616^(k+2)*18446744073709551616:=Nat.pow_succ ..;generalize 18446744073709551616^(k+3)=g3 at *;generalize 18446744073709551616^(k+2)=g2 at *;omega
   have hsv:val 18446744073709551616 (o.drop i)=val 18446744073709551616 seg:=by rw [hsplit,ZGc,hhigh];simp
   have d4:Z8g seg V=some (((val 18446744073709551616 seg / V:Nat):Int),ZDb seg.length (val 18446744073709551616 seg%V)):=by
    unfold Z8g;rw [if_pos ⟨hVok,by omega,by omega,by omega⟩]
   have hiq:i<q.length:=by omega
   have d5:chk .i64 ((i:Int)-1)=some ((i:Int)-1):=Zk (by omega) (by omega);simp only [d1,Za,d2,d3,d4,Zz hiq,d5,Int.toNat_natCast];obtain ⟨r,hr⟩:∃ r,r=ZDb seg.length (val 18446744073709551616 seg%V):=⟨_,rfl⟩;have hrl:r.length=k+3:=by rw [hr,Z6r,hsl]
   have hrd:Dig 18446744073709551616 r:=by rw [hr];exact ZTv _ _
   have hmodlt:=Nat.mod_lt (val 18446744073709551616 seg) hV0;have hrv:val 18446744073709551616 r=val 18446744073709551616 seg%V:=by
    rw [hr,hsl];apply Z5t;have:18446744073709551616^(k+2)≤18446744073709551616^(k+3):=Nat.pow_le_pow_right (by omega) (by omega);omega
   rw [← hr];have htk:(o.take i).length=i:=by rw [List.length_take,Nat.min_eq_left (by omega)]
   have hnew:(o.take i++r++o.drop (i+k+3)).drop i=r++o.drop (i+k+3):=by
    rw [List.append_assoc,List.drop_append_of_le_length (by omega),List.drop_of_length_le (by omega),List.nil_append]
   have hnewv:val 18446744073709551616 ((o.take i++r++o.drop (i+k+3)).drop i)=val 18446744073709551616 seg%V:=by
    rw [hnew,ZGc,hhigh,hrv];simp
   refine ⟨_,rfl,⟨i,rfl,by omega,?_,?_,by simp [hql],by rw [hnewv];exact hmodlt,?_⟩,by simp⟩
   ·rw [List.length_append,List.length_append,htk,hrl,List.length_drop];omega
   ·exact Dig.append.2 ⟨Dig.append.2 ⟨hod.take _,hrd⟩,hod.drop _⟩
   ·rw [ZWb (by simp;omega),List.getElem_set_self,List.drop_set_of_lt (by omega)];simp only [Int.toNat_natCast];rw [Nat.pow_succ] at hinv;refine Zbz (seg:=val 18446744073709551616 seg) (low:=val 18446744073709551616 (o.take i)) hinv ?_ ?_ rfl
    ·rw [Zdd 18446744073709551616 o i (by omega),hsv]
    ·have h3:=Zdd 18446744073709551616 (o.take i++r++o.drop (i+k+3)) i (by rw [List.length_append,List.length_append,htk];omega);rw [hnewv] at h3;have h4:(o.take i++r++o.drop (i+k+3)).take i=o.take i:=by
      rw [List.append_assoc,List.take_append_of_le_length (by omega),List.take_of_length_le (by omega)]
     rw [h3,h4]
  ·right;have hjz:j=0:=by omega
   subst hjz;rw [decide_eq_false (by simp),Ze];simp only [List.drop_zero,Nat.pow_zero,Nat.one_mul] at hltV hinv;exact ⟨_,rfl,hod,hltV,hinv⟩
 ·rintro ⟨o,q⟩ ⟨hod,hltV,hinv⟩;simp only at hod hltV hinv;rw [Za];have f1:ZMa q=some (val 18446744073709551616 q):=rfl;have f2:ZMa o=some (val 18446744073709551616 o):=rfl;simp only [f1,f2,Za];have hrok:okN (val 18446744073709551616 o):=by
   have:=Z6c (B:=18446744073709551616) (by decide) (Nat.le_of_lt hltV);unfold okN;omega
  have f3:ZCg (val 18446744073709551616 o) (s:Int)=some (val 18446744073709551616 o / 2^s):=by
   unfold ZCg;rw [if_pos ⟨hrok,by omega⟩];simp
  rw [f3,Za];have g1:n / m=val 18446744073709551616 q:=by
   have h3:=Nat.mul_div_mul_right n m hp;rw [← hA,← hV,← hinv,Nat.add_comm,Nat.mul_add_div hV0,Nat.div_eq_of_lt hltV,Nat.add_zero] at h3;exact h3.symm
  have g2:n%m*2^s=val 18446744073709551616 o:=by
   have h3:=Nat.mul_mod_mul_right (2^s) n m;rw [← hA,← hV,← hinv,Nat.add_comm,Nat.mul_add_mod,Nat.mod_eq_of_lt hltV] at h3;exact h3.symm
  rw [g1,← g2,Nat.mul_div_cancel _ hp]
theorem Zhz {n m:Nat} {z:Nat×Nat} (h:ZLd n m=some z):ZOi n m=some z:=by
 unfold ZLd at h;split at h
 ·rename_i hh;rw [ZFA hh.1 hh.2.1 hh.2.2,← h]
 ·cases h
noncomputable def gcd_m (a:Nat) (b:Nat):Option (Nat) :=
 bnd (bnd (Zg (fun s:Nat×Nat=>match s with
| (d,c) =>
 (ifb (decide ((0:Int)<(((Zc 18446744073709551616 c)).length:Int)))
 (bnd (ifb (decide ((((Zc 18446744073709551616 d)).length:Int)≤(1:Int)))
 (some (decide ((((Zc 18446744073709551616 c)).length:Int)≤(1:Int))))
 (some false))
 (fun (e:Bool) =>
 (ifb (e)
 (bnd (Zih d c) fun f =>
 bnd (Ztc f) fun g =>
 some (.inr ((.inl g))))
 (bnd (ZLd d c) fun h =>
 some (.inl ((c,h.2)))))))
 (some (.inr ((.inr d)))))) Zi ((a,b)))
 (fun (p:(Nat) ⊕ (Nat))=>match p with
| .inl i =>
 (some ((.inr i)))
| .inr j =>
 (some ((.inl j)))))
 (fun (p:(Nat) ⊕ (Nat))=>match p with
| .inl k =>
 (some k)
| .inr l =>
 (some l))
noncomputable def Z0q (s:Bool) (n:Nat):Option (Int) :=
 bnd (ifb (s)
 (some ((decide ((0:Int)<(((Zc 18446744073709551616 n)).length:Int)),n)))
 (some ((false,n))))
 (fun (a:(Bool×Nat)) =>
 (bnd (ZMd a.1 a.2) fun b =>
 some b))
theorem ZTe {n m:Nat} (h:n≤m):bl n≤bl m:=Zob (Nat.lt_of_le_of_lt h (ZJc m))
theorem ZGr {a b:Nat} (h:b≤a) (h0:b≠0):bl (a%b)+1≤bl a:=by
 have ha:a≠0:=by omega
 obtain ⟨k,hk⟩:=Z8f ha;have h1:=(Zgg ha).1 hk;have h2:a%b<b:=Nat.mod_lt _ (by omega);have h3:a%b+b≤a:=by
  have h4:=Nat.div_add_mod a b;have h5:1≤a / b:=(Nat.le_div_iff_mul_le (by omega)).2 (by omega);have h6:b*1≤b*(a / b):=Nat.mul_le_mul_left _ h5;omega
 have h4:a%b<2^k:=by
  rw [Nat.pow_succ] at h1;omega
 have:=Zob h4;omega
theorem Zqp {n m:Nat} (h:n≤m) (hm:okN m):okN n:=by
 have:=Z6c (B:=18446744073709551616) (by decide) h;unfold okN at *;omega
theorem Zhp {n:Nat} (h:okN n):bl n≤4398046511104:=by
 unfold okN at h;have h1:=Zdc (B:=18446744073709551616) (by decide) n;have h2:18446744073709551616^(Zc 18446744073709551616 n).length=2^(64*(Zc 18446744073709551616 n).length):=by rw [Nat.pow_mul]
 rw [h2] at h1;have:=Zob h1;omega
theorem Zqq {n:Nat} (h:(Zc 18446744073709551616 n).length≤1):n<18446744073709551616:=by
 have h1:=Zdc (B:=18446744073709551616) (by decide) n;have h2:18446744073709551616^(Zc 18446744073709551616 n).length≤18446744073709551616^1:=Nat.pow_le_pow_right (by omega) h;rw [Nat.pow_one] at h2;omega
theorem gcd_eq {n m:Nat} (hn:okN n) (hm:okN m):gcd_m n m=some (Nat.gcd n m):=by
 unfold gcd_m;rw [Z5];refine Zqa (fun s:Nat×Nat=>okN s.1∧okN s.2∧Nat.gcd s.1 s.2=Nat.gcd n m) (fun s=>2*(bl s.1+bl s.2)+if s.1<s.2 then 1 else 0) (fun r:Nat ⊕ Nat=>r = .inl (Nat.gcd n m)∨r = .inr (Nat.gcd n m)) ⟨hn,hm,rfl⟩
  (ZV (by have:=Zhp hn;have:=Zhp hm;simp only;split <;> omega)) ?_ ?_
 ·rintro ⟨a,b⟩ ⟨ha,hb,hg⟩;simp only at ha hb hg ⊢;by_cases h0:b=0
  ·right;subst h0;rw [Z7];refine ⟨_,rfl,.inr ?_⟩;rw [← hg,Nat.gcd_zero_right]
  ·have hpos:=List.length_pos_iff.2 ((Z3c (n:=b) (B:=18446744073709551616) (by decide)).2 h0);rw [decide_eq_true (show (0:Int)<((Zc 18446744073709551616 b).length:Int) by omega),Zd];have cond:ifb (decide (((Zc 18446744073709551616 a).length:Int)≤1)) (some (decide (((Zc 18446744073709551616 b).length:Int)≤1))) (some false)=some (decide ((Zc 18446744073709551616 a).length≤1∧(Zc 18446744073709551616 b).length≤1)):=by
    by_cases q:(Zc 18446744073709551616 a).length≤1
    ·rw [decide_eq_true (by omega),Zd];exact congrArg some (decide_eq_decide.2 (by omega))
    ·rw [decide_eq_false (by omega),Ze,decide_eq_false (by omega)]
   rw [cond,Za];by_cases hc:(Zc 18446744073709551616 a).length≤1∧(Zc 18446744073709551616 b).length≤1
   ·right;rw [decide_eq_true hc,Zd];have h1:Zih a b=some ((Nat.gcd a b:Nat):Int):=by unfold Zih;rw [if_pos ⟨Zqq hc.1,Zqq hc.2,h0⟩]
    rw [h1,Za];have h2:Ztc ((Nat.gcd a b:Nat):Int)=some (Nat.gcd a b):=rfl;rw [h2,Za,hg];exact ⟨_,rfl,.inl rfl⟩
   ·left;rw [decide_eq_false hc,Ze];have h1:ZLd a b=some (a / b,a%b):=by unfold ZLd;rw [if_pos ⟨ha,hb,h0⟩]
    rw [h1,Za];have hlt:a%b<b:=Nat.mod_lt _ (by omega);refine ⟨_,rfl,⟨hb,Zqp (Nat.le_of_lt hlt) hb,?_⟩,?_⟩
    ·rw [← hg];simp only;rw [Nat.gcd_comm b,← Nat.gcd_rec,Nat.gcd_comm]
    ·simp only;rw [if_neg (by omega)];by_cases hab:a<b
     ·rw [if_pos hab,Nat.mod_eq_of_lt hab];omega
     ·have:=ZGr (a:=a) (b:=b) (by omega) h0;rw [if_neg hab];omega
 ·rintro r (rfl | rfl)
  ·rfl
  ·rfl
theorem gcdF_eq {n m z:Nat} (h:gcdF n m=some z):gcd_m n m=some z:=by
 unfold gcdF at h;split at h
 ·rename_i hh;rw [gcd_eq hh.1 hh.2,← h]
 ·cases h
noncomputable def of_m (n:Int):Option (Int) :=
 ifb (decide (n<(0:Int)))
 (bnd (Ztc (IntKind.u64.wrap (-(IntKind.u64.wrap n)))) fun a =>
 bnd (ZMd true a) fun b =>
 some b)
 (bnd (Ztc (IntKind.u64.wrap n)) fun c =>
 bnd (ZMd false c) fun d =>
 some d)
noncomputable def Zgt (d:Nat):Option (Nat) :=
 ifb (((((Zc 18446744073709551616 d)).length:Int))==(0:Int))
 (bnd (Ztc (1:Int)) fun a =>
 some a)
 (some d)
noncomputable def ZZu (x:Int):Option (Int) :=
 ifb (decide (x<0))
 (some (-1:Int))
 (ifb (decide ((0:Int)<(((Zc 18446744073709551616 x.natAbs)).length:Int)))
 (some (1:Int))
 (some (0:Int)))
theorem Zlt {n:Nat}:0<(Zc 18446744073709551616 n).length↔n≠0:=List.length_pos_iff.trans (Z3c (by decide))
theorem ZYt {n:Nat}:decide ((0:Int)<((Zc 18446744073709551616 n).length:Int))=decide (n≠0) :=
 decide_eq_decide.2 (Int.natCast_pos.trans Zlt)
theorem ZYr {n:Nat}:(((Zc 18446744073709551616 n).length:Int)==0)=decide (n=0):=by
 by_cases h:n=0
 ·subst h;rw [Z7];rfl
 ·rw [decide_eq_false h];have:=Zlt.2 h;exact beq_eq_false_iff_ne.2 (by omega)
theorem Zwg {s:Bool} {n:Nat} (h:s=true→n≠0):ZMd s n=some (if s then -(n:Int) else n):=by
 unfold ZMd;rw [if_neg (fun hh=>h hh.1 hh.2)]
theorem ZkB {s:Bool} {n:Nat} {z:Int} (h:Zmb s n=some z):Z0q s n=some z:=by
 unfold Zmb at h;unfold Z0q
 cases s
 ·rw [Ze,Za,Zwg (by simp),Za,← h]
 ·rw [Zd,Za,ZYt];by_cases h0:n=0
  ·subst h0;rw [Zwg (by simp),Za,← h];simp
  ·rw [decide_eq_true h0,Zwg (by simpa using h0),Za,← h]
theorem ofF_eq {n z:Int} (hn:inR .i64 n) (h:ofF n=some z):of_m n=some z:=by
 have hr:=Z3a.1 hn;unfold ofF at h
 cases h
 unfold of_m Ztc;rw [wrap_u64,wrap_u64];by_cases hc:n<0
 ·rw [decide_eq_true hc,Zd,Za,Zwg (by omega),Za];simp only [if_true];congr 1;omega
 ·rw [decide_eq_false hc,Ze,Za,Zwg (by simp),Za];have:((n%18446744073709551616).toNat:Int)=n:=by omega
  simp [this]
theorem ZeB {d z:Nat} (h:ZXc d=some z):Zgt d=some z:=by
 unfold ZXc Zpf at h;unfold Zgt;rw [ZYr];by_cases h0:d=0
 ·subst h0;rw [decide_eq_true rfl,Zd,← h];rfl
 ·rw [decide_eq_false h0,Ze,← h,if_neg h0]
theorem ZVA {x z:Int} (h:Zbj x=some z):ZZu x=some z:=by
 unfold Zbj at h
 cases h
 unfold ZZu;rw [ZYt];by_cases h1:x<0
 ·rw [decide_eq_true h1,Zd,Int.sign_eq_neg_one_of_neg h1]
 ·rw [decide_eq_false h1,Ze];by_cases h2:x=0
  ·subst h2;rfl
  ·rw [decide_eq_true (by omega),Zd,Int.sign_eq_one_of_pos (by omega)]
noncomputable def ZNu (x:Int) (y:Int):Option (Int) :=
 ifb ((decide (x<0))==(decide (y<0)))
 (bnd (Z7i x.natAbs y.natAbs) fun a =>
 bnd (Zmb (decide (x<0)) a) fun b =>
 some b)
 (bnd (Zid x.natAbs y.natAbs) fun c =>
 ifb (decide ((0:Int)≤c))
 (bnd (ZUg x.natAbs y.natAbs) fun d =>
 bnd (Zmb (decide (x<0)) d) fun e =>
 some e)
 (bnd (ZUg y.natAbs x.natAbs) fun f =>
 bnd (Zmb (decide (y<0)) f) fun g =>
 some g))
noncomputable def ZJs (x:Int) (y:Int):Option (Int) :=
 bnd (Zsc x.natAbs y.natAbs) fun a =>
 bnd (Zmb ((decide (x<0)) != (decide (y<0))) a) fun b =>
 some b
noncomputable def Zlu (x:Int) (n:Nat):Option (Int) :=
 bnd (Zsc x.natAbs n) fun a =>
 bnd (Zmb (decide (x<0)) a) fun b =>
 some b
noncomputable def ZOu (x:Int):Option (Int) :=
 bnd (Zmb (!(decide (x<0))) x.natAbs) fun a =>
 some a
noncomputable def ZPu (n:Int):Option (Rat) :=
 bnd (ofF n) fun a =>
 bnd (Z4e a ((0:Nat))) fun b =>
 some b
noncomputable def ZOr (n:Int) (d:Nat):Option (Rat) :=
 bnd (gcdF n.natAbs d) fun a =>
 bnd (Zyg a) fun e =>
 bnd (ifb (!(e))
 (bnd (ZLd n.natAbs a) fun f =>
 bnd (ZLd d a) fun g =>
 some ((g.1,(decide (n<0),f.1))))
 (some ((d,(decide (n<0),n.natAbs)))))
 (fun (p:Nat×(Bool×Nat))=>match p with
| (b,c) =>
 (bnd (Zyg b) fun h =>
 bnd (ifb (h)
 (some ((0:Nat)))
 (some b))
 (fun (i:Nat) =>
 (bnd (ZMd c.1 c.2) fun j =>
 bnd (Z4e j i) fun k =>
 some k))))
noncomputable def Ztv (x:Rat):Option (Bool) :=
 some (((((Zc 18446744073709551616 ((x.num).natAbs))).length:Int))==(0:Int))
noncomputable def Z5q (x:Rat) (y:Rat):Option (Bool) :=
 bnd (ifb ((decide (x.num<0))==(decide (y.num<0)))
 (bnd (Zid ((x.num).natAbs) ((y.num).natAbs)) fun a =>
 ifb (a==(0:Int))
 (bnd (Zid ((Zga x.den)) ((Zga y.den))) fun b =>
 some (b==(0:Int)))
 (some false))
 (some false))
 (fun (c:Bool) =>
 (some c))
theorem Zrx {x y z:Int} (h:Zti x y=some z):ZNu x y=some z:=by
 unfold Zti at h;split at h
 ·rename_i hh;obtain ⟨hx,hy⟩:=hh
  cases h
  unfold ZNu Zmb Z7i ZUg Zid;by_cases hs:decide (x<0)=decide (y<0)
  ·rw [hs,show (decide (y<0)==decide (y<0))=true by simp,Zd,if_pos ⟨hx,hy⟩,Za,Za];by_cases h0:y<0
   ·rw [decide_eq_true h0] at hs ⊢;have hx0:=of_decide_eq_true hs;rw [if_pos rfl];congr 1;omega
   ·rw [decide_eq_false h0] at hs ⊢;have hx0:=of_decide_eq_false hs;rw [if_neg (by simp)];congr 1;omega
  ·have e:(decide (x<0)==decide (y<0))=false:=by simpa using hs
   rw [e,Ze,Za];have hxy:(x<0∧¬ y<0)∨(¬ x<0∧y<0):=by
    by_cases h1:x<0 <;> by_cases h2:y<0 <;> simp [h1,h2] at hs ⊢
   by_cases hc:y.natAbs≤x.natAbs
   ·have:decide (0≤Zha x.natAbs y.natAbs)=true:=by
     unfold Zha;rw [if_neg (by omega)];split <;> rfl
    rw [this,Zd,if_pos ⟨hx,hc⟩,Za,Za];rcases hxy with ⟨h1,h2⟩ | ⟨h1,h2⟩
    ·rw [decide_eq_true h1,if_pos rfl];congr 1;omega
    ·rw [decide_eq_false h1,if_neg (by simp)];congr 1;omega
   ·have:decide (0≤Zha x.natAbs y.natAbs)=false:=by
     unfold Zha;rw [if_pos (by omega)];rfl
    rw [this,Ze,if_pos ⟨hy,by omega⟩,Za,Za];rcases hxy with ⟨h1,h2⟩ | ⟨h1,h2⟩
    ·rw [decide_eq_false h2,if_neg (by simp)];congr 1;omega
    ·rw [decide_eq_true h2,if_pos rfl];congr 1;omega
 ·cases h
theorem Ziv {x y:Int}:(if (decide (x<0) != decide (y<0))=true then -((x.natAbs*y.natAbs:Nat):Int) else ((x.natAbs*y.natAbs:Nat):Int))=x*y:=by
 rw [Int.natCast_mul];by_cases h1:x<0 <;> by_cases h2:y<0
 ·simp only [h1,h2,decide_true,bne_self_eq_false,Bool.false_eq_true,if_false];rw [Int.ofNat_natAbs_of_nonpos (by omega),Int.ofNat_natAbs_of_nonpos (by omega),Int.neg_mul_neg]
 ·simp only [h1,h2,decide_true,decide_false];rw [Int.ofNat_natAbs_of_nonpos (by omega),Int.natAbs_of_nonneg (by omega)];simp [Int.neg_mul]
 ·simp only [h1,h2,decide_true,decide_false];rw [Int.natAbs_of_nonneg (by omega),Int.ofNat_natAbs_of_nonpos (by omega)];simp [Int.mul_neg]
 ·simp only [h1,h2,decide_false,bne_self_eq_false,Bool.false_eq_true,if_false];rw [Int.natAbs_of_nonneg (by omega),Int.natAbs_of_nonneg (by omega)]
theorem Zyz {x y z:Int} (h:Z3i x y=some z):ZJs x y=some z:=by
 unfold Z3i at h;split at h
 ·rename_i hh
  cases h
  unfold ZJs Zmb Zsc;rw [if_pos hh,Za,Za,Ziv]
 ·cases h
theorem ZUy {x z:Int} {n:Nat} (h:Zmf x n=some z):Zlu x n=some z:=by
 unfold Zmf at h;split at h
 ·rename_i hh
  cases h
  unfold Zlu Zmb Zsc;rw [if_pos hh,Za,Za];have:=Ziv (x:=x) (y:=(n:Int));have h0:decide ((n:Int)<0)=false:=decide_eq_false (by omega);rw [h0] at this;simp only [Int.natAbs_natCast,Bool.bne_false] at this;rw [this]
 ·cases h
theorem ZCx {x z:Int} (h:Zgi x=some z):ZOu x=some z:=by
 unfold Zgi at h
 cases h
 unfold ZOu Zmb;rw [Za];by_cases h1:x<0
 ·rw [decide_eq_true h1];simp;omega
 ·rw [decide_eq_false h1];simp;omega
theorem ZeA {n:Int} {z:Rat} (h:Zsh n=some z):ZPu n=some z:=by
 unfold Zsh at h
 cases h
 unfold ZPu ofF;rw [Za];have:=Zrm (n:Rat);have e:Zga (n:Rat).den=0:=by simp [Zga]
 rw [e] at this;have e2:(n:Rat).num=n:=by simp
 rw [e2] at this;rw [this,Za]
theorem ZLw {x:Rat} {z:Bool} (h:Z9b x=some z):Ztv x=some z:=by
 unfold Z9b at h;unfold Ztv;rw [ZYr,← h];congr 1;apply decide_eq_decide.2;rw [Int.natAbs_eq_zero,Rat.num_eq_zero]
theorem ZIy {a b:Nat} (ha:a≠0) (hb:b≠0) (h:Zga a=Zga b):a=b:=by
 have h1:=Z6k a ha;have h2:=Z6k b hb;rw [← h1,← h2,h]
theorem ZAs {n m:Nat}:(Zha n m==0)=decide (n=m):=by
 unfold Zha;by_cases h:n<m
 ·rw [if_pos h,decide_eq_false (by omega)];rfl
 ·rw [if_neg h];by_cases h2:m<n
  ·rw [if_pos h2,decide_eq_false (by omega)];rfl
  ·rw [if_neg h2,decide_eq_true (by omega)];rfl
theorem Zbx {x y:Rat} {z:Bool} (h:ZOf x y=some z):Z5q x y=some z:=by
 unfold ZOf at h
 cases h
 unfold Z5q Zid;by_cases hxy:x=y
 ·subst hxy;simp only [beq_self_eq_true,Zd,Za,ZAs,decide_true]
 ·rw [decide_eq_false hxy];by_cases hs:decide (x.num<0)=decide (y.num<0)
  ·rw [hs];simp only [beq_self_eq_true,Zd,Za,ZAs];by_cases hn:x.num.natAbs=y.num.natAbs
   ·rw [decide_eq_true hn,Zd,Za];have hnum:x.num=y.num:=by
     by_cases h1:x.num<0 <;> by_cases h2:y.num<0 <;> simp [h1,h2] at hs <;> omega
    have hden:¬ Zga x.den=Zga y.den:=fun e=>hxy (Rat.ext hnum (ZIy x.den_nz y.den_nz e));rw [decide_eq_false hden]
   ·rw [decide_eq_false hn,Ze,Za]
  ·have e:(decide (x.num<0)==decide (y.num<0))=false:=by simpa using hs
   rw [e,Ze,Za]
theorem ZWw {n:Int} {d:Nat} {z:Rat} (h:Zxd n d=some z):ZOr n d=some z:=by
 unfold Zxd at h;split at h
 ·rename_i hh;obtain ⟨hn,hd,h0⟩:=hh
  cases h
  unfold ZOr gcdF Zyg ZLd;rw [if_pos ⟨hn,hd⟩,Za,Za];obtain ⟨g,hg⟩:∃ g,g=Nat.gcd n.natAbs d:=⟨_,rfl⟩;have hg0:g≠0:=by rw [hg];exact fun e=>h0 (Nat.gcd_eq_zero_iff.1 e).2
  have hgd:g∣d:=by rw [hg];exact Nat.gcd_dvd_right _ _
  have hgn:g∣n.natAbs:=by rw [hg];exact Nat.gcd_dvd_left _ _
  have hgok:okN g:=Zqp (Nat.le_of_dvd (by omega) hgd) hd;rw [← hg];have both:ifb (!decide (g=1)) (bnd (if okN n.natAbs∧okN g∧g≠0 then some (n.natAbs / g,n.natAbs%g) else none) fun y107=>bnd (if okN d∧okN g∧g≠0 then some (d / g,d%g) else none) fun y135=>some (y135.1,(decide (n<0),y107.1)))
    (some (d,(decide (n<0),n.natAbs)))=some (d / g,(decide (n<0),n.natAbs / g)):=by
   by_cases h1:g=1
   ·rw [decide_eq_true h1,h1];simp [ifb]
   ·rw [decide_eq_false h1,if_pos ⟨hn,hgok,hg0⟩,if_pos ⟨hd,hgok,hg0⟩];rfl
  rw [both,Za];simp only;rw [Za];have hden:ifb (decide (d / g=1)) (some 0) (some (d / g))=some (Zga (d / g)):=by
   unfold Zga;by_cases h1:d / g=1
   ·rw [decide_eq_true h1,Zd,if_pos h1]
   ·rw [decide_eq_false h1,Ze,if_neg h1]
  rw [hden,Za];have hq:mkRat n d=mkRat n d:=rfl;have e1:(mkRat n d).num=n / (g:Int):=by rw [Rat.num_mkRat,if_neg h0,Nat.gcd_comm,← hg]
  have e2:(mkRat n d).den=d / g:=by rw [Rat.den_mkRat,if_neg h0,Nat.gcd_comm,← hg]
  have hgpos:0<g:=by omega
  obtain ⟨c,hc⟩:=hgn;have hcd:n.natAbs / g=c:=by rw [hc,Nat.mul_div_cancel_left _ hgpos]
  have e3:ZMd (decide (n<0)) (n.natAbs / g)=some (n / (g:Int)):=by
   rw [hcd];by_cases hneg:n<0
   ·rw [decide_eq_true hneg,Zwg (fun _ e=>by rw [e] at hc;omega),if_pos rfl];have:n=(g:Int)*(-(c:Int)):=by
     have h1:(n.natAbs:Int)=(g:Int)*c:=by rw [hc];simp
     rw [Int.mul_neg,← h1];omega
    rw [this,Int.mul_ediv_cancel_left _ (by omega)]
   ·rw [decide_eq_false hneg,Zwg (by simp)];have:n=(g:Int)*(c:Int):=by
     have h1:(n.natAbs:Int)=(g:Int)*c:=by rw [hc];simp
     rw [← h1];omega
    rw [this,Int.mul_ediv_cancel_left _ (by omega)];simp
  rw [e3,Za,← e1,← e2,Zrm,Za]
 ·cases h
noncomputable def ZXp (x:Rat) (y:Rat):Option (Rat) :=
 bnd (ZXc ((Zga x.den))) fun a =>
 bnd (ZXc ((Zga y.den))) fun b =>
 bnd (Zmf x.num b) fun c =>
 bnd (Zmf y.num a) fun d =>
 bnd (Zti c d) fun e =>
 bnd (Zsc a b) fun f =>
 bnd (Zxd e f) fun g =>
 some g
noncomputable def Z6q (x:Rat) (y:Rat):Option (Rat) :=
 bnd (Z3i x.num y.num) fun a =>
 bnd (ZXc ((Zga x.den))) fun b =>
 bnd (ZXc ((Zga y.den))) fun c =>
 bnd (Zsc b c) fun d =>
 bnd (Zxd a d) fun e =>
 some e
noncomputable def Zkt (x:Rat):Option (Rat) :=
 bnd (Zgi x.num) fun a =>
 bnd (Z4e a ((Zga x.den))) fun b =>
 some b
noncomputable def ZBu (x:Rat):Option (Int) :=
 bnd (Zbj x.num) fun a =>
 some a
theorem Zeh (q:Rat):Zpf (Zga q.den)=q.den:=Z6k q.den q.den_nz
theorem okN_of {n k:Nat} (h:bl n≤64*k) (hk:k≤68719476736):okN n:=by
 unfold okN;refine Nat.le_trans (Z1f (B:=18446744073709551616) (k:=k) (by decide) ?_) hk;have h1:=ZJc n;have h2:18446744073709551616^k=2^(64*k):=by rw [Nat.pow_mul]
 rw [h2];exact Nat.lt_of_lt_of_le h1 (Nat.pow_le_pow_right (by omega) h)
theorem ZAa {n:Nat} (h:bl n≤4398046511104):okN n:=okN_of (k:=(bl n+63) / 64) (by omega) (by omega)
theorem Zhb (a b:Nat):bl (a*b)≤bl a+bl b:=by
 apply Zob;rw [Nat.pow_add];exact Nat.mul_lt_mul'' (ZJc a) (ZJc b)
theorem ZNm (a b:Nat):bl (a+b)≤max (bl a) (bl b)+1:=by
 apply Zob;have h1:=ZJc a;have h2:=ZJc b;have h3:2^bl a≤2^max (bl a) (bl b):=Nat.pow_le_pow_right (by omega) (Nat.le_max_left ..);have h4:2^bl b≤2^max (bl a) (bl b):=Nat.pow_le_pow_right (by omega) (Nat.le_max_right ..);rw [Nat.pow_succ];omega
theorem Zpy {x y z:Rat} (h:Zzb x y=some z):ZXp x y=some z:=by
 unfold Zzb at h;split at h
 ·rename_i hh;obtain ⟨⟨h1,h2⟩,h3,h4⟩:=hh
  cases h
  unfold ZXp ZXc Zmf Zti Zsc Zxd;rw [Zeh,Zeh,Za,Za];have p1:=Zhb x.num.natAbs y.den;have p2:=Zhb y.num.natAbs x.den;have p3:=Zhb x.den y.den;have e1:(x.num*(y.den:Int)).natAbs=x.num.natAbs*y.den:=by rw [Int.natAbs_mul];simp
  have e2:(y.num*(x.den:Int)).natAbs=y.num.natAbs*x.den:=by rw [Int.natAbs_mul];simp
  have p4:bl (x.num*(y.den:Int)+y.num*(x.den:Int)).natAbs≤4398046511104:=by
   have h5:=Int.natAbs_add_le (x.num*(y.den:Int)) (y.num*(x.den:Int));have h6:=ZTe h5;have h7:=ZNm (x.num*(y.den:Int)).natAbs (y.num*(x.den:Int)).natAbs;rw [e1,e2] at h7;rw [e1,e2] at h6;omega
  rw [if_pos ⟨ZAa (by omega),ZAa (by omega)⟩,Za,if_pos ⟨ZAa (by omega),ZAa (by omega)⟩,Za,if_pos ⟨by rw [e1];exact ZAa (by omega),by rw [e2];exact ZAa (by omega)⟩,Za,
   if_pos ⟨ZAa (by omega),ZAa (by omega)⟩,Za,if_pos ⟨ZAa p4,ZAa (by omega),Nat.mul_ne_zero x.den_nz y.den_nz⟩,Za,← Rat.add_def']
 ·cases h
theorem Z5z {x y z:Rat} (h:ZWa x y=some z):Z6q x y=some z:=by
 unfold ZWa at h;split at h
 ·rename_i hh;obtain ⟨⟨h1,h2⟩,h3,h4⟩:=hh
  cases h
  unfold Z6q ZXc Z3i Zsc Zxd;rw [Zeh,Zeh];have p1:=Zhb x.num.natAbs y.num.natAbs;have p3:=Zhb x.den y.den;have e1:(x.num*y.num).natAbs=x.num.natAbs*y.num.natAbs:=Int.natAbs_mul ..;rw [if_pos ⟨ZAa (by omega),ZAa (by omega)⟩,Za,Za,Za,if_pos ⟨ZAa (by omega),ZAa (by omega)⟩,Za,if_pos ⟨by rw [e1];exact ZAa (by omega),ZAa (by omega),Nat.mul_ne_zero x.den_nz y.den_nz⟩,Za,← Rat.mul_def']
 ·cases h
theorem ZMA {x:Rat} {z:Int} (h:Z8 x=some z):ZBu x=some z:=by
 unfold Z8 at h;unfold ZBu Zbj;rw [Za,h]
theorem ZiB {x z:Rat} (h:ZGa x=some z):Zkt x=some z:=by
 unfold ZGa at h
 cases h
 unfold Zkt Zgi;rw [Za];have:=Zrm (-x);have e1:(-x).num = -x.num:=rfl;have e2:(-x).den=x.den:=rfl;rw [e1,e2] at this;rw [this,Za]
noncomputable def Zoq (x:Rat) (y:Rat):Option (Rat×Int) :=
 bnd (Z9b y) fun b =>
 ifb (b)
 (some (((0:Rat),(3:Int))))
 (bnd (bnd (ZXc ((Zga y.den))) fun c =>
 bnd (Zmf x.num c) fun d =>
 some d)
 (fun (a:Int) =>
 (bnd (Zmb ((decide (a<0)) != (decide (y.num<0))) a.natAbs) fun e =>
 bnd (ZXc ((Zga x.den))) fun f =>
 bnd (Zsc f ((y.num).natAbs)) fun g =>
 bnd (Zxd e g) fun h =>
 some ((h,(0:Int))))))
noncomputable def Zss (n:Int) (d:Int):Option (Rat×Int) :=
 ifb (d==(0:Int))
 (some (((0:Rat),(3:Int))))
 (bnd (ofF n) fun a =>
 bnd (ofF d) fun b =>
 bnd (Zmb ((decide (a<0)) != (decide (b<0))) a.natAbs) fun c =>
 bnd (Zxd c b.natAbs) fun e =>
 some ((e,(0:Int))))
noncomputable def Zuu (x:Rat) (y:Rat):Option (Rat) :=
 bnd (ZGa y) fun a =>
 bnd (Zzb x a) fun b =>
 some b
theorem Zsi (n d:Int):Rat.divInt n d=mkRat (if d<0 then -n else n) d.natAbs:=by
 cases d with
 | ofNat d=>rw [if_neg (by simp)];rfl
 | negSucc d =>
  rw [if_pos (Int.negSucc_lt_zero d)];show Rat.normalize (-n) (d+1) (Nat.succ_ne_zero d)=mkRat (-n) (d+1);rw [Rat.normalize_eq_mkRat]
theorem inv_mk {y:Rat} (h:y≠0):y⁻¹=mkRat (if y.num<0 then -(y.den:Int) else y.den) y.num.natAbs:=by
 rw [Rat.inv_def,Zsi]
theorem ZCq {x y:Rat} (h:y≠0):x / y=mkRat (if y.num<0 then -(x.num*(y.den:Int)) else x.num*(y.den:Int)) (x.den*y.num.natAbs):=by
 rw [Rat.div_def,inv_mk h]
 conv=>lhs;rw [← Rat.mkRat_self x]
 rw [Rat.mkRat_mul_mkRat]
 ·congr 1;split <;> grind
theorem okQ_neg {x:Rat} (h:okQ x):okQ (-x):=by
 unfold okQ at *;have e1:(-x).num = -x.num:=rfl;have e2:(-x).den=x.den:=rfl;rw [e1,e2,Int.natAbs_neg];exact h
theorem ZIw {x y z:Rat} (h:Zrb x y=some z):Zuu x y=some z:=by
 unfold Zrb at h;split at h
 ·rename_i hh;unfold Zuu ZGa Zzb;rw [Za,if_pos ⟨hh.1,okQ_neg hh.2⟩,Za,← Rat.sub_eq_add_neg];exact h
 ·cases h
theorem ZMm {y:Rat} (h:y≠0):y.num≠0:=fun e=>h (by rwa [Rat.num_eq_zero] at e)
theorem ZKo (n m:Int):Zmb (decide (n<0) != decide (m<0)) n.natAbs=some (if m<0 then -n else n):=by
 unfold Zmb;by_cases h1:n<0 <;> by_cases h2:m<0 <;> simp [h1,h2] <;> omega
theorem Zsy {x y:Rat} {z:Rat×Int} (h:Z0e x y=some z):Zoq x y=some z:=by
 unfold Z0e at h;split at h
 ·rename_i hh;obtain ⟨⟨h1,h2⟩,h3,h4⟩:=hh
  cases h
  unfold Zoq Z9b;rw [Za];by_cases h0:y=0
  ·subst h0;rfl
  ·rw [decide_eq_false h0,Ze,if_neg h0];unfold Zmf ZXc Zsc Zxd;rw [Zeh,Zeh];have p1:=Zhb x.num.natAbs y.den;have p3:=Zhb x.den y.num.natAbs;have e1:(x.num*(y.den:Int)).natAbs=x.num.natAbs*y.den:=by rw [Int.natAbs_mul];simp
   have e2:(if y.num<0 then -(x.num*(y.den:Int)) else x.num*(y.den:Int)).natAbs=x.num.natAbs*y.den:=by
    split
    ·rw [Int.natAbs_neg];exact e1
    ·exact e1
   have hn:=ZMm h0;rw [Za,if_pos ⟨ZAa (by omega),ZAa (by omega)⟩,Za,Za,ZKo,Za,Za,if_pos ⟨ZAa (by omega),ZAa (by omega)⟩,Za,
    if_pos ⟨by rw [e2];exact ZAa (by omega),ZAa (by omega),Nat.mul_ne_zero x.den_nz (by omega)⟩,Za,← ZCq h0]
 ·cases h
theorem Z3A {n d:Int} {z:Rat×Int} (hn:inR .i64 n) (hd:inR .i64 d) (h:ZPi n d=some z):Zss n d=some z:=by
 unfold ZPi at h
 cases h
 have hn:=Z3a.1 hn;have hd:=Z3a.1 hd;have ok:∀ k:Nat,k<2^64→okN k:=fun k hk=>ZAa (Nat.le_trans (Zob hk) (by decide));unfold Zss;by_cases h0:d=0
 ·subst h0;rfl
 ·have e0:(d==0)=false:=by simp [h0]
  rw [e0,Ze,if_neg h0];unfold ofF Zxd;rw [Za,Za,ZKo,Za,if_pos ⟨ok _ (by split <;> omega),ok _ (by omega),by omega⟩,Za,← Zsi]
noncomputable def Zgs (x:Rat) (y:Rat):Option (Int) :=
 bnd (Zrb x y) fun a =>
 bnd (Z8 a) fun b =>
 some b
noncomputable def ZNq (r:(Int×Int)):Option (Rat) :=
 ifb (r.2==(0:Int))
 (bnd (Zsh r.1) fun a =>
 some a)
 (bnd (ZPi r.1 r.2) fun b =>
 some b.1)
theorem ZgA {x y:Rat} {z:Int} (h:ZKc x y=some z):Zgs x y=some z:=by
 unfold ZKc at h;split at h
 ·rename_i hh
  cases h
  unfold Zgs Zrb Z8;rw [if_pos hh,Za,Za]
 ·cases h
theorem Zlz {r:Int×Int} {z:Rat} (h:ZJi r=some z):ZNq r=some z:=by
 unfold ZJi at h
 cases h
 unfold ZNq Zx Zsh ZPi;by_cases h0:r.2=0
 ·rw [if_pos h0,h0];rfl
 ·have:(r.2==0)=false:=by simp [h0]
  rw [this,Ze,Za,if_neg h0,if_neg h0]
noncomputable def Zcm (n:Int):Option ((List UInt8)) :=
 bnd (bnd (Zg (fun s:(List Int)×Int×Int=>match s with
| (a,b,e) =>
 (ifb (decide ((0:Int)<b))
 (bnd (chk .i64 (e-(1:Int))) fun c =>
 bnd (rem .u64 b (10:Int)) fun g =>
 bnd (idx a c) fun k =>
 bnd (quo .u64 b (10:Int)) fun h =>
 some (.inl (((a.set (c).toNat (IntKind.u8.wrap (IntKind.u64.wrap ((48:Int)+g)))),h,c))))
 (some (.inr ((a,e)))))) Zi (((List.replicate 20 (0:Int)),n,(20:Int))))
 (fun (p:(List Int)×Int)=>match p with
| (i,j) =>
 (some ((i,j)))))
 (fun (p:(List Int)×Int)=>match p with
| (d,f) =>
 (bnd (ZR d f (d.length:Int)) fun l =>
 some ((ZQd (d.drop ((f).toNat))))))
theorem Zyx {n:Nat} (h:n<10):UInt8.ofNat (IntKind.u8.wrap (IntKind.u64.wrap (48+((n:Nat):Int)))).toNat=UInt8.ofNat (48+n):=by
 have:n=0∨n=1∨n=2∨n=3∨n=4∨n=5∨n=6∨n=7∨n=8∨n=9:=by omega
 rcases this with rfl | rfl | rfl | rfl | rfl | rfl | rfl | rfl | rfl | rfl <;> rfl
theorem ZGe {n:Nat} (h:n≠0):ZF n=ZF (n / 10)++[UInt8.ofNat (48+n%10)]:=by rw [ZF,dif_neg h]
theorem ZEc:ZF 0=[]:=by rw [ZF];rfl
theorem Zwz {n:Int} {z:List UInt8} (hn:inR .u64 n) (h:ZBh n=some z):Zcm n=some z:=by
 unfold ZBh at h
 cases h
 have hn:=ZPc.1 hn;obtain ⟨N,rfl⟩:=Int.eq_ofNat_of_zero_le hn.1;unfold Zcm;rw [Z5];refine Zqa (fun s:(List Int)×Int×Int=>∃ m k:Nat,s.2.1=(m:Int)∧s.2.2=(k:Int)∧k≤20∧m<10^k∧m<18446744073709551616∧s.1.length=20∧ZF m++ZQd (s.1.drop k)=ZF N) (fun s=>s.2.1.toNat)
  (fun r:List Int×Int=>∃ k:Nat,r.2=(k:Int)∧k≤20∧r.1.length=20∧ZQd (r.1.drop k)=ZF N) ⟨N,20,rfl,rfl,by omega,by omega,by omega,by simp,by simp [ZQd]⟩ (ZV (by simp;omega)) ?_ ?_
 ·rintro ⟨l,m,k⟩ ⟨m,k,rfl,rfl,hk,hm,hm2,hl,hd⟩;simp only at hm hm2 hl hd ⊢;by_cases h0:m=0
  ·right;subst h0;rw [decide_eq_false (by omega),Ze];rw [ZEc,List.nil_append] at hd;exact ⟨_,rfl,k,rfl,hk,hl,hd⟩
  ·left;rw [decide_eq_true (by omega),Zd];have hk0:k≠0:=by rintro rfl;omega
   obtain ⟨j,rfl⟩:∃ j,k=j+1:=⟨k-1,by omega⟩;have c1:chk .i64 (((j+1:Nat):Int)-1)=some (j:Int):=by rw [show ((j+1:Nat):Int)-1=(j:Int) by omega,Zoa (by omega)]
   have c2:rem .u64 (m:Int) 10=some ((m%10:Nat):Int):=ZIf (q:=10) (by omega);have c3:quo .u64 (m:Int) 10=some ((m / 10:Nat):Int):=ZRh (q:=10) (by omega) hm2;rw [c1,Za,c2,Za,Zz (by omega),Za,c3,Za];have hm10:m / 10<10^j:=by
    rw [Nat.pow_succ] at hm;omega
   refine ⟨_,rfl,⟨m / 10,j,rfl,rfl,by omega,hm10,by omega,by simp [hl],?_⟩,by simp only [Int.toNat_natCast];omega⟩;simp only [Int.toNat_natCast];have hj:j<l.length:=by omega
   rw [← hd,ZGe h0,List.append_assoc];congr 1;have e:(l.set j (IntKind.u8.wrap (IntKind.u64.wrap (48+((m%10:Nat):Int))))).drop j=IntKind.u8.wrap (IntKind.u64.wrap (48+((m%10:Nat):Int))) :: l.drop (j+1):=by
    rw [List.drop_eq_getElem_cons (by simpa using hj),List.getElem_set_self,List.drop_set_of_lt (by omega)]
   rw [e];show UInt8.ofNat _ :: ZQd _=_;rw [Zyx (Nat.mod_lt _ (by omega))];rfl
 ·rintro ⟨l,k⟩ ⟨k,rfl,hk,hl,hd⟩;simp only at hl hd ⊢;rw [Za];simp only;have:ZR l (k:Int) (l.length:Int)=some (l.drop k):=by
   unfold ZR;rw [if_pos ⟨by omega,by omega,by omega⟩];simp
  rw [this,Za,Int.toNat_natCast,hd,Int.toNat_natCast]
end Go.Eng
namespace Go.Eng
open Go.RowKit
theorem ZLo {v:Zb} {c:List Value} {a:List Int} (h:(Zu (Zf .u64)).rel v c a):Dig 18446744073709551616 a∧a.length≤9223372036854775807:=by
 have hl:=ZYg h;rw [Z3a] at hl;refine ⟨?_,by omega⟩;obtain ⟨q,cap,rfl,h1,h2,h3⟩:=h;rcases h3 with rfl | ⟨b,off,cc,T,fr,rfl,hb,hr⟩
 ·exact Dig.nil
 ·intro x hx;obtain ⟨i,hi⟩:=List.getElem?_of_mem hx;have hg:=ZVa hr hi;obtain ⟨_,h4⟩:=hg;have:=ZPc.1 h4;omega
theorem ZSt {v:Zb} {c:List Value} {n:Nat} (h:Zw.rel v c n):(Zc 18446744073709551616 n).length≤9223372036854775807:=(ZLo (a:=Zc 18446744073709551616 n) h).2
theorem Z1o {v:Zb}:∀ {cs:List Value} {u:List Int},Rep.rels (Zf .u64) v cs u→Dig 18446744073709551616 u
 | _,[],_=>Dig.nil
 | _,x :: u,h=>by
  obtain ⟨c1,c2,rfl,⟨_,h1⟩,h2⟩:=h
  have:=ZPc.1 h1
  exact Dig.cons.2 ⟨by omega,Z1o h2⟩
noncomputable def ZTq (a:(List Int)):Option ((List Int)) :=
 bnd (bnd (Zg (fun s:Int=>match s with
| b =>
 (bnd (ifb (decide ((0:Int)<b))
 (bnd (chk .i64 (b-(1:Int))) fun c =>
 bnd (idx a c) fun d =>
 some (d==(0:Int)))
 (some false))
 (fun (e:Bool) =>
 (ifb (e)
 (bnd (chk .i64 (b-(1:Int))) fun f =>
 some (.inl f))
 (some (.inr b)))))) Zi ((a.length:Int)))
 (fun (g:Int) =>
 (some g)))
 (fun (h:Int) =>
 (bnd (ZR a (0:Int) h) fun i =>
 some i))
noncomputable def ZHv (a:Nat) (b:Nat):Option (Int) :=
 ifb (decide ((((Zc 4294967296 a)).length:Int)<(((Zc 4294967296 b)).length:Int)))
 (some (-1:Int))
 (ifb (decide ((((Zc 4294967296 b)).length:Int)<(((Zc 4294967296 a)).length:Int)))
 (some (1:Int))
 (bnd (chk .i64 (((((Zc 4294967296 a)).length:Int))-(1:Int))) fun d =>
 bnd (bnd (Zg (fun s:Int=>match s with
| c =>
 (ifb (decide ((0:Int)≤c))
 (bnd (idx ((Zc 4294967296 a)) c) fun e =>
 bnd (idx ((Zc 4294967296 b)) c) fun f =>
 ifb (decide (e<f))
 (some (.inr ((.inl (-1:Int)))))
 (bnd (idx ((Zc 4294967296 a)) c) fun g =>
 bnd (idx ((Zc 4294967296 b)) c) fun h =>
 ifb (decide (h<g))
 (some (.inr ((.inl (1:Int)))))
 (bnd (chk .i64 (c-(1:Int))) fun i =>
 some (.inl i))))
 (some (.inr ((.inr (()))))))) Zi d)
 (fun (p:(Int) ⊕ (Unit))=>match p with
| .inl j =>
 (some ((.inr j)))
| .inr (()) =>
 (some ((.inl (()))))))
 (fun (p:(Unit) ⊕ (Int))=>match p with
| .inl (()) =>
 (some (0:Int))
| .inr k =>
 (some k))))
noncomputable def ZHn (a:Nat):Option (Int) :=
 ifb (((((Zc 4294967296 a)).length:Int))==(0:Int))
 (some (0:Int))
 (bnd (chk .i64 (((((Zc 4294967296 a)).length:Int))-(1:Int))) fun d =>
 bnd (chk .i64 ((32:Int)*d)) fun e =>
 bnd (chk .i64 (((((Zc 4294967296 a)).length:Int))-(1:Int))) fun f =>
 bnd (idx ((Zc 4294967296 a)) f) fun g =>
 bnd (bnd (Zg (fun s:Int×Int=>match s with
| (b,c) =>
 (ifb (decide ((0:Int)<c))
 (bnd (chk .i64 (b+(1:Int))) fun h =>
 bnd (ZK .u32 c (1:Int)) fun i =>
 some (.inl ((h,i))))
 (some (.inr b)))) Zi ((e,g)))
 (fun (j:Int) =>
 (some j)))
 (fun (k:Int) =>
 (some k)))
noncomputable def ZYu (x:Rat):Option (Nat) :=
 ifb (((((Zc 4294967296 x.den)).length:Int))==(0:Int))
 (bnd (ZKa ([(1:Int)])) fun a =>
 some a)
 (some x.den)
noncomputable def Zqs (x:Rat):Option (Bool) :=
 some (((((Zc 4294967296 x.num.natAbs)).length:Int))==(0:Int))
end Go.Eng
namespace Go.Eng
open Go.RowKit
theorem Z5n {v:Zb} {c:List Value} {a:List Int} (h:(Zu (Zf .u32)).rel v c a):Dig 4294967296 a∧a.length≤9223372036854775807:=by
 have hl:=ZYg h;rw [Z3a] at hl;refine ⟨?_,by omega⟩;obtain ⟨q,cap,rfl,h1,h2,h3⟩:=h;rcases h3 with rfl | ⟨b,off,cc,T,fr,rfl,hb,hr⟩
 ·exact Dig.nil
 ·intro x hx;obtain ⟨i,hi⟩:=List.getElem?_of_mem hx;have hg:=ZVa hr hi;obtain ⟨_,h4⟩:=hg;have h5:0≤x∧x≤4294967295:=h4;omega
theorem ZIr {v:Zb} {c:List Value} {n:Nat} (h:Z7a.rel v c n):(Zc 4294967296 n).length≤9223372036854775807:=(Z5n (a:=Zc 4294967296 n) h).2
theorem rcut_eq {a:List Int} (ha:Dig 4294967296 a) (hl:a.length≤9223372036854775807):ZTq a=some (Zc 4294967296 (val 4294967296 a)):=by
 unfold ZTq;rw [Z5];refine Zqa (fun s:Int=>∃ k:Nat,s=(k:Int)∧k≤a.length∧val 4294967296 (a.take k)=val 4294967296 a) (fun s=>s.toNat)
  (fun r:Int=>∃ k:Nat,r=(k:Int)∧k≤a.length∧val 4294967296 (a.take k)=val 4294967296 a∧Cut (a.take k)) ⟨a.length,rfl,by omega,by rw [List.take_length]⟩ (ZV (by omega)) ?_ ?_
 ·rintro s ⟨k,rfl,hk,hv⟩;simp only;by_cases h0:k=0
  ·right;subst h0;rw [show decide ((0:Int)<((0:Nat):Int))=false from rfl,Ze,Za,Ze];exact ⟨_,rfl,0,rfl,by omega,hv,by intro x hx;simp at hx⟩
  ·obtain ⟨j,rfl⟩:∃ j,k=j+1:=⟨k-1,by omega⟩;have c1:chk .i64 (((j+1:Nat):Int)-1)=some (j:Int):=by rw [show ((j+1:Nat):Int)-1=(j:Int) by omega,Zoa (by omega)]
   rw [decide_eq_true (by omega),Zd,c1,Za,Zz (by omega),Za,Za];by_cases hz:a[j]'(by omega)=0
   ·left;rw [show (a[j]'(by omega)==0)=true by simp [hz],Zd,Za];refine ⟨_,rfl,⟨j,rfl,by omega,?_⟩,by simp⟩;rw [← hv,Z2a (by omega),hz];simp
   ·right;rw [show (a[j]'(by omega)==0)=false by simp [hz],Ze];refine ⟨_,rfl,j+1,rfl,hk,hv,?_⟩;intro x hx;rw [List.getLast?_eq_getElem?,List.length_take,Nat.min_eq_left (by omega),Nat.add_sub_cancel,List.getElem?_take_of_lt (by omega),List.getElem?_eq_getElem (by omega)] at hx
    cases hx;exact hz
 ·rintro r ⟨k,rfl,hk,hv,hc⟩;rw [Za];have e:ZR a 0 (k:Int)=some (a.take k):=by
   unfold ZR;rw [if_pos ⟨by omega,by omega,by omega⟩];simp
  rw [e,Za,← hv,ZOg (by decide) (ha.take k) hc]
theorem ZBB {n m:Nat} (h1:(Zc 4294967296 n).length≤9223372036854775807) (h2:(Zc 4294967296 m).length≤9223372036854775807):ZHv n m=Z2c n m:=by
 unfold ZHv Z2c Zha;by_cases hlt:(Zc 4294967296 n).length<(Zc 4294967296 m).length
 ·have:=Zuk (by decide) hlt;rw [decide_eq_true (by omega),Zd,if_pos this]
 ·by_cases hgt:(Zc 4294967296 m).length<(Zc 4294967296 n).length
  ·have:=Zuk (by decide) hgt;rw [decide_eq_false (by omega),Ze,decide_eq_true (by omega),Zd,if_neg (by omega),if_pos this]
  ·have hl:(Zc 4294967296 n).length=(Zc 4294967296 m).length:=by omega
   rw [decide_eq_false (by omega),Ze,decide_eq_false (by omega),Ze,Zk (by omega) (by omega),Za];have hd:=Zsa (B:=4294967296) (by decide) n;have hd':=Zsa (B:=4294967296) (by decide) m;have hvn:=Zja (B:=4294967296) (by decide) n;have hvm:=Zja (B:=4294967296) (by decide) m;generalize Zc 4294967296 n=a at *;generalize Zc 4294967296 m=b at *;rw [Z5,Zwk (r:=if n<m then .inl (-1) else if m<n then .inl 1 else .inr ()) (fun s:Int=>-1≤s∧s<a.length∧a.drop (s+1).toNat=b.drop (s+1).toNat) (fun s=>(s+1).toNat) ⟨by omega,by omega,?_⟩ (ZV (by omega)) ?_]
   ·rw [Za];by_cases hlt:n<m
    ·simp only [if_pos hlt];rfl
    ·by_cases hgt:m<n
     ·simp only [if_neg hlt,if_pos hgt];rfl
     ·simp only [if_neg hlt,if_neg hgt];rfl
   ·rw [List.drop_eq_nil_of_le (by omega),List.drop_eq_nil_of_le (by omega)]
   ·rintro s ⟨h3,h4,h5⟩;by_cases hs:0≤s
    ·obtain ⟨i,rfl⟩:=Int.eq_ofNat_of_zero_le hs;have hi:i<a.length:=by omega
     have hi':i<b.length:=by omega
     have e1:decide ((0:Int)≤(i:Int))=true:=decide_eq_true hs;simp only [e1,Zd,Zz hi,Zz hi',Za];have ei:((i:Int)+1).toNat=i+1:=by omega
     rw [ei] at h5;by_cases hlt:a[i]<b[i]
     ·right;have:=ZCl hd hd' hl hi h5 hlt;rw [decide_eq_true hlt,Zd,if_pos (by omega)]
     ·by_cases hgt:b[i]<a[i]
      ·right;have:=ZCl hd' hd hl.symm hi' h5.symm hgt;rw [decide_eq_false hlt,Ze,decide_eq_true hgt,Zd,if_neg (by omega),if_pos (by omega)]
      ·left;rw [decide_eq_false hlt,Ze,decide_eq_false hgt,Ze,Zk (by omega) (by omega),Za];refine ⟨_,rfl,⟨by omega,by omega,?_⟩,by simp⟩;have e2:((i:Int)-1+1).toNat=i:=by omega
       rw [e2,List.drop_eq_getElem_cons hi,List.drop_eq_getElem_cons hi',h5];congr 1;omega
    ·right;have:s = -1:=by omega
     subst this;simp at h5;have:n=m:=by rw [← hvn,← hvm,h5]
     subst this;simp [ifb]
theorem ZxB {B n k:Nat} (hB:2≤B) (h0:n≠0) (hk:(Zc B n).length=k+1):(Zc B n)[k]? = some ((n / B^k:Nat):Int):=by
 induction k generalizing n with
 | zero =>
  rw [Zqc hB h0] at hk ⊢;have h2:n / B=0:=by
   rw [List.length_cons] at hk;exact (ZQh hB).1 (List.eq_nil_of_length_eq_zero (by omega))
  have:=Nat.mod_add_div n B;rw [h2] at this;simp at this;simp [this]
 | succ k ih =>
  rw [Zqc hB h0] at hk ⊢;rw [List.length_cons] at hk;have h2:n / B≠0:=by
   intro h2;rw [h2,Z7] at hk;simp at hk
  rw [List.getElem?_cons_succ,ih h2 (by omega),Nat.div_div_eq_div_mul,Nat.pow_succ,Nat.mul_comm B]
theorem shr_u32 {x k:Nat} (hk:k≤32):ZK .u32 (x:Int) (k:Int)=some ((x / 2^k:Nat):Int):=by
 unfold ZK;rw [if_neg (by omega)];have:min ((k:Int).toNat) IntKind.u32.bits=k:=by simp [IntKind.bits];omega
 rw [this,Int.fdiv_eq_ediv_of_nonneg _ (Int.pow_nonneg (by omega))];simp
theorem ZMl {n:Nat} (h:n≠0):bl n=bl (n / 2)+1:=by
 by_cases h1:n=1
 ·subst h1;decide
 ·have:=ZKj (n:=n) (k:=1) (by omega)
  simpa using this
theorem ZIz {n:Nat} (hn:ZJ n):ZHn n=some (bl n:Int):=by
 unfold ZHn;by_cases h0:n=0
 ·subst h0;rw [Z7];rfl
 ·obtain ⟨k,hk⟩:∃ k,(Zc 4294967296 n).length=k+1:=by
   have:=List.length_pos_iff.2 ((Z3c (n:=n) (B:=4294967296) (by decide)).2 h0);exact ⟨(Zc 4294967296 n).length-1,by omega⟩
  have htop:=ZxB (by decide) h0 hk;unfold ZJ at hn;rw [hk] at hn ⊢;have e0:((((k+1:Nat):Int))==(0:Int))=false:=by simp;omega
  have c1:chk .i64 (((k+1:Nat):Int)-1)=some (k:Int):=by rw [show ((k+1:Nat):Int)-1=(k:Int) by omega,Zoa (by omega)]
  have c2:chk .i64 (32*(k:Int))=some ((32*k:Nat):Int):=by rw [show (32*(k:Int))=((32*k:Nat):Int) by omega,Zoa (by omega)]
  have c3:idx (Zc 4294967296 n) (k:Int)=some ((n / 4294967296^k:Nat):Int):=by
   simp only [idx,Int.toNat_natCast];rw [if_pos (by omega)];exact htop
  rw [e0,Ze,c1,Za,c2,Za,Za,c3,Za,Z5];have hB:n=n:=rfl;have hge:4294967296^k≤n:=by
   have:=Zqj (B:=4294967296) (by decide) h0;rw [hk] at this;simpa using this
  have hlt:n / 4294967296^k<4294967296:=by
   have:=Zdc (B:=4294967296) (by decide) n;rw [hk,Nat.pow_succ] at this;exact Nat.div_lt_of_lt_mul this
  have h2:(4294967296:Nat)^k=2^(32*k):=by rw [Nat.pow_mul]
  have hbl:bl n=bl (n / 4294967296^k)+32*k:=by rw [h2];exact ZKj (by rw [← h2];exact hge)
  rw [hbl];generalize n / 4294967296^k=t at *;refine Zqa (fun s:Int×Int=>∃ c t':Nat,s.1=(c:Int)∧s.2=(t':Int)∧t'<4294967296∧bl t'+c=bl t+32*k∧c≤4398046511104+bl t-bl t'∧bl t'≤bl t) (fun s=>s.2.toNat)
   (fun r:Int=>r=((bl t+32*k:Nat):Int)) ⟨32*k,t,rfl,rfl,hlt,by omega,by omega,by omega⟩ (ZV (by simp;omega)) ?_ ?_
  ·rintro ⟨c,t'⟩ ⟨c,t',rfl,rfl,h3,h4,h5,h6⟩;simp only;by_cases ht:t'=0
   ·right;subst ht;rw [show decide ((0:Int)<((0:Nat):Int))=false from rfl,Ze];exact ⟨_,rfl,by rw [← h4];simp [bl]⟩
   ·left;have hb:=ZMl ht;have hbt:bl t≤32:=Zob (by omega);have c4:chk .i64 ((c:Int)+1)=some ((c+1:Nat):Int):=by rw [show (c:Int)+1=((c+1:Nat):Int) by omega,Zoa (by omega)]
    have c5:=shr_u32 (x:=t') (k:=1) (by omega);rw [decide_eq_true (by omega),Zd,c4,Za];have c6:ZK .u32 (t':Int) 1=some ((t' / 2:Nat):Int):=by simpa using c5
    rw [c6,Za];exact ⟨_,rfl,⟨c+1,t' / 2,rfl,rfl,by omega,by omega,by omega,by omega⟩,by simp;omega⟩
  ·rintro r rfl;rw [Za]
theorem ZHw {n:Nat} {z:Int} (h:Z0f n=some z):ZHn n=some z:=by
 unfold Z0f at h;split at h
 ·rename_i hh;rw [ZIz hh,h]
 ·cases h
theorem Ztm:ZKa [(1:Int)]=some 1:=by
 have:=Zwq 1
 rwa [Z2k (by omega) (by decide)] at this
theorem ZRi {n:Nat}:(((Zc 4294967296 n).length:Int)==0)=decide (n=0):=by
 by_cases h:n=0
 ·subst h;rw [Z7];rfl
 ·have:=List.length_pos_iff.2 ((Z3c (n:=n) (B:=4294967296) (by decide)).2 h);rw [decide_eq_false h];exact beq_false_of_ne (by omega)
theorem ZPm {n:Nat}:decide ((0:Int)<((Zc 4294967296 n).length:Int))=decide (n≠0):=by
 by_cases h:n=0
 ·subst h;rw [Z7];rfl
 ·have:=List.length_pos_iff.2 ((Z3c (n:=n) (B:=4294967296) (by decide)).2 h);rw [decide_eq_true h,decide_eq_true (by omega)]
theorem ZJw {x:Rat} {z:Nat} (h:ZCc x=some z):ZYu x=some z:=by
 unfold ZCc at h;unfold ZYu;rw [ZRi,decide_eq_false x.den_nz,Ze,h]
theorem ZYB {x:Rat} {z:Bool} (h:Zwc x=some z):Zqs x=some z:=by
 unfold Zwc at h;unfold Zqs;rw [ZRi,← h];congr 1;apply decide_eq_decide.2;rw [← Rat.num_eq_zero];omega
noncomputable def ZUt (n:Int):Option (Nat) :=
 bnd (ZK .u64 n (32:Int)) fun a =>
 bnd (Zlb ([IntKind.u32.wrap n,IntKind.u32.wrap a])) fun b =>
 some b
noncomputable def ZCo (a:Nat) (b:Nat):Option (Nat) :=
 bnd (bnd (Zg (fun s:(List Int)×Int×Int=>match s with
| (d,h,c) =>
 (ifb (decide (c<(((Zc 4294967296 a)).length:Int)))
 (bnd (idx ((Zc 4294967296 a)) c) fun i =>
 bnd (chk .i64 ((IntKind.i64.wrap i)-h)) fun f =>
 bnd (ifb (decide (c<(((Zc 4294967296 b)).length:Int)))
 (bnd (idx ((Zc 4294967296 b)) c) fun j =>
 bnd (chk .i64 (f-(IntKind.i64.wrap j))) fun k =>
 some k)
 (some f))
 (fun (e:Int) =>
 (bnd (ifb (decide (e<(0:Int)))
 (bnd (chk .i64 (e+(4294967296:Int))) fun l =>
 some (((1:Int),l)))
 (some (((0:Int),e))))
 (fun (p:Int×Int)=>match p with
| (m,g) =>
 (bnd (ZC 4 (d++[IntKind.u32.wrap g])) fun t =>
 bnd (chk .i64 (c+(1:Int))) fun n =>
 some (.inl (((d++[IntKind.u32.wrap g]),m,n))))))))
 (some (.inr d)))) Zi ((([]:(List Int)),(0:Int),(0:Int))))
 (fun (o:(List Int)) =>
 (some o)))
 (fun (q:(List Int)) =>
 (bnd (Zlb q) fun r =>
 some r))
noncomputable def Zzn (a:Nat) (b:Nat):Option (Nat) :=
 bnd (chk .i64 (((((Zc 4294967296 a)).length:Int))+((((Zc 4294967296 b)).length:Int)))) fun f =>
 bnd (mk 4 f f) fun A =>
 bnd (bnd (Zg (fun s:(List Int)×Int=>match s with
| (h,c) =>
 (ifb (decide (c<(((Zc 4294967296 a)).length:Int)))
 (bnd (bnd (Zg (fun s:(List Int)×Int×Int=>match s with
| (e,g,d) =>
 (ifb (decide (d<(((Zc 4294967296 b)).length:Int)))
 (bnd (idx ((Zc 4294967296 a)) c) fun i =>
 bnd (idx ((Zc 4294967296 b)) d) fun j =>
 bnd (chk .i64 (c+d)) fun o =>
 bnd (idx e o) fun k =>
 bnd (chk .i64 (c+d)) fun l =>
 bnd (idx e l) fun B =>
 bnd (ZK .u64 (IntKind.u64.wrap ((IntKind.u64.wrap (g+(IntKind.u64.wrap ((IntKind.u64.wrap i)*(IntKind.u64.wrap j)))))+(IntKind.u64.wrap k))) (32:Int)) fun q =>
 bnd (chk .i64 (d+(1:Int))) fun r =>
 some (.inl (((e.set (l).toNat (IntKind.u32.wrap (IntKind.u64.wrap ((IntKind.u64.wrap (g+(IntKind.u64.wrap ((IntKind.u64.wrap i)*(IntKind.u64.wrap j)))))+(IntKind.u64.wrap k))))),q,r))))
 (some (.inr ((e,g)))))) Zi ((h,(0:Int),(0:Int))))
 (fun (p:(List Int)×Int)=>match p with
| (t,u) =>
 (some ((t,u)))))
 (fun (p:(List Int)×Int)=>match p with
| (m,v) =>
 (bnd (chk .i64 (c+((((Zc 4294967296 b)).length:Int)))) fun n =>
 bnd (idx m n) fun C =>
 bnd (chk .i64 (c+(1:Int))) fun w =>
 some (.inl (((m.set (n).toNat (IntKind.u32.wrap v)),w))))))
 (some (.inr h)))) Zi (((List.replicate (f).toNat (0:Int)),(0:Int))))
 (fun (x:(List Int)) =>
 (some x)))
 (fun (y:(List Int)) =>
 (bnd (Zlb y) fun z =>
 some z))
noncomputable def ZSm (a:Nat) (n:Int):Option (Nat) :=
 ifb (((((Zc 4294967296 a)).length:Int))==(0:Int))
 (some ((0:Nat)))
 (bnd (quo .i64 n (32:Int)) fun c =>
 bnd (mk 4 c c) fun r =>
 bnd (bnd (Zg (fun s:(List Int)×Int×Int=>match s with
| (d,b,e) =>
 (ifb (decide (e<(((Zc 4294967296 a)).length:Int)))
 (bnd (idx ((Zc 4294967296 a)) e) fun i =>
 bnd (rem .i64 n (32:Int)) fun j =>
 bnd (ZQa .u64 (IntKind.u64.wrap i) (IntKind.u64.wrap j)) fun f =>
 bnd (ZC 4 (d++[IntKind.u32.wrap (orI .u64 f b)])) fun t =>
 bnd (ZK .u64 (orI .u64 f b) (32:Int)) fun k =>
 bnd (chk .i64 (e+(1:Int))) fun l =>
 some (.inl (((d++[IntKind.u32.wrap (orI .u64 f b)]),k,l))))
 (some (.inr ((d,b)))))) Zi (((List.replicate (c).toNat (0:Int)),(0:Int),(0:Int))))
 (fun (p:(List Int)×Int)=>match p with
| (m,o) =>
 (some ((m,o)))))
 (fun (p:(List Int)×Int)=>match p with
| (g,h) =>
 (bnd (ZC 4 (g++[IntKind.u32.wrap h])) fun u =>
 bnd (Zlb ((g++[IntKind.u32.wrap h]))) fun q =>
 some q)))
noncomputable def ZNo (a:Nat) (n:Int):Option (Nat) :=
 bnd (quo .i64 n (32:Int)) fun f =>
 bnd (bnd (Zg (fun s:(List Int)×Int=>match s with
| (c,b) =>
 (ifb (decide (b<(((Zc 4294967296 a)).length:Int)))
 (bnd (idx ((Zc 4294967296 a)) b) fun d =>
 bnd (chk .i64 (b+(1:Int))) fun g =>
 bnd (ifb (decide (g<(((Zc 4294967296 a)).length:Int)))
 (bnd (chk .i64 (b+(1:Int))) fun h =>
 bnd (idx ((Zc 4294967296 a)) h) fun i =>
 bnd (ZQa .u64 (IntKind.u64.wrap i) (32:Int)) fun j =>
 some (orI .u64 (IntKind.u64.wrap d) j))
 (some (IntKind.u64.wrap d)))
 (fun (k:Int) =>
 (bnd (rem .i64 n (32:Int)) fun l =>
 bnd (ZK .u64 k (IntKind.u64.wrap l)) fun e =>
 bnd (ZC 4 (c++[IntKind.u32.wrap e])) fun r =>
 bnd (chk .i64 (b+(1:Int))) fun m =>
 some (.inl (((c++[IntKind.u32.wrap e]),m))))))
 (some (.inr c)))) Zi ((([]:(List Int)),f)))
 (fun (o:(List Int)) =>
 (some o)))
 (fun (p:(List Int)) =>
 (bnd (Zlb p) fun q =>
 some q))
noncomputable def ZPo (a:Nat) (b:Int):Option (Nat×Int) :=
 bnd (mk 4 ((((Zc 4294967296 a)).length:Int)) ((((Zc 4294967296 a)).length:Int))) fun r =>
 bnd (chk .i64 (((((Zc 4294967296 a)).length:Int))-(1:Int))) fun h =>
 bnd (bnd (Zg (fun s:(List Int)×Int×Int=>match s with
| (d,e,c) =>
 (ifb (decide ((0:Int)≤c))
 (bnd (ZQa .u64 e (32:Int)) fun f =>
 bnd (idx ((Zc 4294967296 a)) c) fun g =>
 bnd (quo .u64 (orI .u64 f (IntKind.u64.wrap g)) (IntKind.u64.wrap b)) fun i =>
 bnd (idx d c) fun t =>
 bnd (rem .u64 (orI .u64 f (IntKind.u64.wrap g)) (IntKind.u64.wrap b)) fun j =>
 bnd (chk .i64 (c-(1:Int))) fun k =>
 some (.inl (((d.set (c).toNat (IntKind.u32.wrap i)),j,k))))
 (some (.inr ((d,e)))))) Zi (((List.replicate ((((Zc 4294967296 a)).length:Int)).toNat (0:Int)),(0:Int),h)))
 (fun (p:(List Int)×Int)=>match p with
| (l,m) =>
 (some ((l,m)))))
 (fun (p:(List Int)×Int)=>match p with
| (n,o) =>
 (bnd (Zlb n) fun q =>
 some ((q,IntKind.u32.wrap o))))
end Go.Eng
namespace Go.Eng
open Go.RowKit
theorem wrap_u32 (z:Int):IntKind.u32.wrap z=z%4294967296:=by
 simp [IntKind.wrap,IntKind.signed,IntKind.bits]
theorem ZZa {n:Nat} (h:n<18446744073709551616):IntKind.u64.wrap (n:Int)=(n:Int):=by rw [wrap_u64];omega
theorem Zcq {n:Nat} (h:n≤9223372036854775807):IntKind.i64.wrap (n:Int)=(n:Int):=Zjd (Z3a.2 ⟨by omega,by omega⟩)
theorem ZZx {n:Int} {z:Nat} (hn:inR .u64 n) (h:Z8b n=some z):ZUt n=some z:=by
 unfold Z8b at h;have hn:=ZPc.1 hn;obtain ⟨N,rfl⟩:=Int.eq_ofNat_of_zero_le hn.1;unfold ZUt Zlb;have c1:ZK .u64 (N:Int) 32=some ((N / 4294967296:Nat):Int):=by
  have:=ZGd (x:=N) (k:=32) (by omega);exact this
 rw [c1,Za,Za,← h,wrap_u32,wrap_u32];simp only [val];congr 1;omega
theorem Zea {α:Type} {b:Nat} {l:List α} (h:l.length*b≤140737488355328):ZC b l=some ():=by unfold ZC;rw [if_pos h]
theorem Z4h {B:Nat} (l:List Int) (x:Int):val B (l++[x])=val B l+B^l.length*x.toNat:=by rw [ZGc];simp [val]
theorem Dig.snoc {B:Nat} {l:List Int} (h:Dig B l) {x:Int} (hx:0≤x∧x<B):Dig B (l++[x]):=Dig.append.2 ⟨h,Dig.cons.2 ⟨hx,Dig.nil⟩⟩
theorem ZYd {B:Nat} {l:List Int} (h:Dig B l) {i:Nat} (hi:i<l.length):∃ x:Nat,l[i]=(x:Int)∧x<B:=by
 obtain ⟨X,hX⟩:=Int.eq_ofNat_of_zero_le (h.get hi).1;have:=(h.get hi).2;exact ⟨X,hX,by omega⟩
theorem Zro {σ ρ τ γ:Type} {body:σ→Option (σ ⊕ ρ)} {f:ρ→Option (τ ⊕ γ)} {n:Nat} {s:σ} {J:τ→Prop} (I:σ→Prop) (μ:σ→Nat) (Q:ρ→Prop) (hs:I s) (hn:μ s<n)
  (h:∀ s,I s→(∃ s',body s=some (.inl s')∧I s'∧μ s'<μ s) ∨ ∃ r,body s=some (.inr r)∧Q r) (hf:∀ r,Q r→∃ t,f r=some (.inl t)∧J t):∃ t,bnd (Zg body n s) f=some (.inl t)∧J t:=by
 obtain ⟨r,e,hq⟩:=Zhk I μ Q h n s hs hn;rw [e];exact hf r hq
theorem rdif_eq {n m:Nat} (hn:ZJ n) (hm:m≤n):ZCo n m=some (n-m):=by
 unfold ZCo;have hl:=Z6c (B:=4294967296) (by decide) hm;have hdx:=Zsa (B:=4294967296) (by decide) n;have hdy:=Zsa (B:=4294967296) (by decide) m;have hvx:=Zja (B:=4294967296) (by decide) n;have hvy:=Zja (B:=4294967296) (by decide) m;unfold ZJ at hn;generalize Zc 4294967296 n=a at *;generalize Zc 4294967296 m=b at *;rw [Z5];refine Zqa (fun s:(List Int)×Int×Int=>∃ k c:Nat,s.2.2=(k:Int)∧s.2.1=(c:Int)∧k≤a.length∧s.1.length=k∧Dig 4294967296 s.1∧c≤1 ∧
  val 4294967296 s.1+val 4294967296 (b.take k)=val 4294967296 (a.take k)+4294967296^k*c) (fun s=>a.length-s.2.2.toNat)
  (fun r:List Int=>val 4294967296 r=n-m)
  ⟨0,0,rfl,rfl,by omega,rfl,Dig.nil,by omega,by simp [val]⟩ (ZV (by simp;omega)) ?_ ?_
 ·rintro ⟨out,c,i⟩ ⟨k,c,rfl,rfl,hk,ho,hd,hc,hv⟩;simp only at ho hd hc hv ⊢;by_cases hlt:k<a.length
  ·left;obtain ⟨x,hx,hx'⟩:=ZYd hdx hlt;rw [decide_eq_true (by omega),Zd,Zz hlt,Za,hx,Zcq (by omega),Zk (by omega) (by omega),Za];obtain ⟨y,hy',hvb,hf⟩:∃ y:Nat,y<4294967296∧val 4294967296 (b.take (k+1))=val 4294967296 (b.take k)+4294967296^k*y ∧
     ifb (decide ((k:Int)<(b.length:Int))) (bnd (idx b (k:Int)) fun y178=>bnd (chk .i64 ((x:Int)-(c:Int)-(IntKind.i64.wrap y178))) fun y186=>some y186) (some ((x:Int)-(c:Int)))=some ((x:Int)-(c:Int)-(y:Int)):=by
    by_cases hb:k<b.length
    ·obtain ⟨y,hy,hy'⟩:=ZYd hdy hb;refine ⟨y,hy',?_,?_⟩
     ·rw [Z2a hb,hy];rfl
     ·rw [decide_eq_true (by omega),Zd,Zz hb,Za,hy,Zcq (by omega),Zk (by omega) (by omega),Za]
    ·refine ⟨0,by omega,?_,?_⟩
     ·rw [List.take_of_length_le (by omega),List.take_of_length_le (by omega)];simp
     ·rw [decide_eq_false (by omega),Ze];simp
   rw [hf,Za];obtain ⟨d,c',hd',hc',e,hg⟩:∃ d c':Nat,d<4294967296∧c'≤1∧d+y+c=x+4294967296*c' ∧
     ifb (decide ((x:Int)-(c:Int)-(y:Int)<0)) (bnd (chk .i64 ((x:Int)-(c:Int)-(y:Int)+4294967296)) fun y175=>some ((1:Int),y175)) (some ((0:Int),(x:Int)-(c:Int)-(y:Int)))=some ((c':Int),(d:Int)):=by
    by_cases h:(x:Int)-c-y<0
    ·refine ⟨x+4294967296-c-y,1,by omega,by omega,by omega,?_⟩;rw [decide_eq_true h,Zd,Zk (by omega) (by omega),Za];congr 2;omega
    ·refine ⟨x-c-y,0,by omega,by omega,by omega,?_⟩;rw [decide_eq_false h,Ze];congr 2;omega
   rw [hg,Za];simp only;have ew:IntKind.u32.wrap (d:Int)=(d:Int):=by rw [wrap_u32];omega
   rw [ew,Zea (by simp;omega),Za,Zk (by omega) (by omega),Za];refine ⟨_,rfl,⟨k+1,c',by simp,rfl,by omega,by simp [ho],hd.snoc (by omega),hc',?_⟩,by simp;omega⟩;simp only [Z4h,ho,Int.toNat_natCast];rw [Z2a hlt,hx,hvb,Nat.pow_succ];simp only [Int.toNat_natCast];exact ZVo hv e
  ·right;rw [decide_eq_false (by omega),Ze];refine ⟨_,rfl,?_⟩;have hk':k=a.length:=by omega
   subst hk';rw [List.take_length,List.take_of_length_le hl,hvx,hvy] at hv;have hlt2:=Zld hd;rw [ho] at hlt2;have:c=0:=by
    have h1:c=0∨c=1:=by omega
    rcases h1 with rfl | rfl
    ·rfl
    ·omega
   subst this;omega
 ·rintro out hv;rw [Za];unfold Zlb;rw [hv,Za]
theorem Zmy {n m z:Nat} (h:ZTb n m=some z):ZCo n m=some z:=by
 unfold ZTb at h;split at h
 ·rename_i hh;rw [rdif_eq hh.1 hh.2,h]
 ·cases h
theorem Z5A {n m:Nat} (hn:ZJ n) (hm:ZJ m):Zzn n m=some (n*m):=by
 unfold Zzn;have hdx:=Zsa (B:=4294967296) (by decide) n;have hdy:=Zsa (B:=4294967296) (by decide) m;have hvx:=Zja (B:=4294967296) (by decide) n;have hvy:=Zja (B:=4294967296) (by decide) m;unfold ZJ at hn hm;generalize Zc 4294967296 n=a at *;generalize Zc 4294967296 m=b at *;rw [Zk (by omega) (by omega),Za];obtain ⟨u,hu⟩:=ZSc (b:=4) (l:=(a.length:Int)+b.length) (c:=(a.length:Int)+b.length) (by omega) (by omega) (by omega) (by omega);rw [hu,Za,Z5];have e0:((a.length:Int)+b.length).toNat=a.length+b.length:=by omega
 rw [e0];refine Zqa (fun s:(List Int)×Int=>∃ k:Nat,s.2=(k:Int)∧k≤a.length∧s.1.length=a.length+b.length∧Dig 4294967296 s.1 ∧
  val 4294967296 s.1=val 4294967296 (a.take k)*val 4294967296 b∧∀ j (h:j<s.1.length),k+b.length≤j→s.1[j]=0) (fun s=>a.length-s.2.toNat)
  (fun r:List Int=>val 4294967296 r=n*m) ⟨0,rfl,by omega,by simp,Dig.replicate _ (by omega),by simp [val,Zil],by simp⟩ (ZV (by simp;omega)) ?_ ?_
 ·rintro ⟨out,i⟩ ⟨k,rfl,hk,ho,hd,hv,hz⟩;simp only at ho hd hv hz ⊢;by_cases hlt:k<a.length
  ·left;obtain ⟨X,hX,hX'⟩:=ZYd hdx hlt;rw [decide_eq_true (by omega),Zd,Z5];refine Zro (s:=(out,(0:Int),(0:Int))) (fun s:(List Int)×Int×Int=>∃ q c:Nat,s.2.2=(q:Int)∧s.2.1=(c:Int)∧q≤b.length∧s.1.length=a.length+b.length∧Dig 4294967296 s.1∧c<4294967296 ∧
     val 4294967296 s.1+4294967296^(k+q)*c=val 4294967296 (a.take k)*val 4294967296 b+4294967296^k*X*val 4294967296 (b.take q)∧∀ j (h:j<s.1.length),k+b.length≤j→s.1[j]=0)
    (fun s=>b.length-s.2.2.toNat)
    (fun r:List Int×Int=>∃ c:Nat,r.2=(c:Int)∧r.1.length=a.length+b.length∧Dig 4294967296 r.1∧c<4294967296 ∧
     val 4294967296 r.1+4294967296^(k+b.length)*c=val 4294967296 (a.take k)*val 4294967296 b+4294967296^k*X*val 4294967296 b∧∀ j (h:j<r.1.length),k+b.length≤j→r.1[j]=0)
    ⟨0,0,rfl,rfl,by omega,ho,hd,by omega,(show val 4294967296 out+4294967296^(k+0)*0=val 4294967296 (a.take k)*val 4294967296 b+4294967296^k*X*val 4294967296 (b.take 0) by simp [val,hv]),hz⟩ (ZV (by simp;omega)) ?_ ?_
   ·rintro ⟨o,c,i⟩ ⟨q,c,rfl,rfl,hq,ho2,hd2,hc,hv2,hz2⟩;simp only at ho2 hd2 hc hv2 hz2 ⊢;by_cases hqlt:q<b.length
    ·left;obtain ⟨Y,hY,hY'⟩:=ZYd hdy hqlt;have hkq:k+q<o.length:=by omega
     obtain ⟨T,hT,hT'⟩:=ZYd hd2 hkq;have eck:chk .i64 ((k:Int)+(q:Int))=some ((k+q:Nat):Int):=by rw [← Int.natCast_add,Zoa (by omega)]
     have hxy:X*Y≤18446744065119617025:=Nat.mul_le_mul (show X≤4294967295 by omega) (show Y≤4294967295 by omega);have e1:IntKind.u64.wrap ((X:Int)*(Y:Int))=((X*Y:Nat):Int):=by rw [← Int.natCast_mul,ZZa (by omega)]
     have e2:IntKind.u64.wrap ((c:Int)+((X*Y:Nat):Int))=((c+X*Y:Nat):Int):=by rw [← Int.natCast_add,ZZa (by omega)]
     have e3:IntKind.u64.wrap (((c+X*Y:Nat):Int)+(T:Int))=((c+X*Y+T:Nat):Int):=by rw [← Int.natCast_add,ZZa (by omega)]
     have e4:ZK .u64 ((c+X*Y+T:Nat):Int) 32=some (((c+X*Y+T) / 4294967296:Nat):Int):=ZGd (x:=c+X*Y+T) (k:=32) (by omega);have e5:IntKind.u32.wrap ((c+X*Y+T:Nat):Int)=(((c+X*Y+T)%4294967296:Nat):Int):=by rw [wrap_u32];omega
     rw [decide_eq_true (by omega),Zd,Zz hlt,Za,Zz hqlt,Za,eck,Za,Zz hkq,Za,Za,Zz hkq,Za,hX,hY,hT,ZZa (by omega),ZZa (by omega),ZZa (by omega),e1,e2,e3,e4,Za,Zk (by omega) (by omega),Za,e5];refine ⟨_,rfl,⟨q+1,(c+X*Y+T) / 4294967296,by simp,rfl,by omega,by simp [ho2],hd2.set _ (by omega),by omega,?_,?_⟩,by simp;omega⟩
     ·simp only [Int.toNat_natCast];have hs:=ZZh (B:=4294967296) (l:=o) (i:=k+q) (x:=(((c+X*Y+T)%4294967296:Nat):Int)) hkq;rw [hT] at hs;simp only [Int.toNat_natCast] at hs;rw [Z2a hqlt,hY];simp only [Int.toNat_natCast];rw [show k+(q+1)=k+q+1 by omega,Nat.pow_succ];exact ZSs hv2 hs (by omega) (Nat.pow_add _ _ _)
     ·intro j hj hj2;simp only [Int.toNat_natCast] at hj ⊢;rw [List.getElem_set_ne (by omega)];exact hz2 j (by simpa using hj) hj2
    ·right;rw [decide_eq_false (by omega),Ze];have hq':q=b.length:=by omega
     subst hq';rw [List.take_length] at hv2;exact ⟨_,rfl,c,rfl,ho2,hd2,hc,hv2,hz2⟩
   ·rintro ⟨o,c⟩ ⟨c,rfl,ho2,hd2,hc,hv2,hz2⟩;simp only at ho2 hd2 hc hv2 hz2 ⊢;rw [Za];simp only;have eck:chk .i64 ((k:Int)+(b.length:Int))=some ((k+b.length:Nat):Int):=by rw [← Int.natCast_add,Zoa (by omega)]
    have hkb:k+b.length<o.length:=by omega
    have ew:IntKind.u32.wrap (c:Int)=(c:Int):=by rw [wrap_u32];omega
    rw [eck,Za,Zz hkb,Za,Zk (by omega) (by omega),Za,ew];refine ⟨_,rfl,⟨k+1,by simp,by omega,by simp [ho2],hd2.set _ (by omega),?_,?_⟩,by simp;omega⟩
    ·have hs:=ZZh (B:=4294967296) (l:=o) (i:=k+b.length) (x:=(c:Int)) hkb;rw [hz2 _ hkb (by omega)] at hs;simp only [Int.toNat_natCast] at hs ⊢;rw [Z2a hlt,hX];simp only [Int.toNat_natCast];simp at hs;rw [hs,hv2];grind
    ·intro j hj hj2;simp only [Int.toNat_natCast] at hj ⊢;rw [List.getElem_set_ne (by omega)];exact hz2 j (by simpa using hj) (by omega)
  ·right;rw [decide_eq_false (by omega),Ze];have hk':k=a.length:=by omega
   subst hk';rw [List.take_length,hvx,hvy] at hv;exact ⟨_,rfl,hv⟩
 ·rintro out hv;rw [Za];unfold Zlb;rw [hv,Za]
theorem Z4z {n m z:Nat} (h:Zza n m=some z):Zzn n m=some z:=by
 unfold Zza at h;split at h
 ·rename_i hh;rw [Z5A hh.1 hh.2,h]
 ·cases h
noncomputable def ZDo (a:Nat) (b:Nat):Option (Nat) :=
 bnd (bnd (Zg (fun s:(List Int)×Int×Int=>match s with
| (d,e,c) =>
 (bnd (ifb (decide (c<(((Zc 4294967296 a)).length:Int)))
 (some true)
 (some (decide (c<(((Zc 4294967296 b)).length:Int)))))
 (fun (j:Bool) =>
 (ifb (j)
 (bnd (ifb (decide (c<(((Zc 4294967296 a)).length:Int)))
 (bnd (idx ((Zc 4294967296 a)) c) fun k =>
 some (IntKind.u64.wrap (e+(IntKind.u64.wrap k))))
 (some e))
 (fun (g:Int) =>
 (bnd (ifb (decide (c<(((Zc 4294967296 b)).length:Int)))
 (bnd (idx ((Zc 4294967296 b)) c) fun l =>
 some (IntKind.u64.wrap (g+(IntKind.u64.wrap l))))
 (some g))
 (fun (f:Int) =>
 (bnd (ZC 4 (d++[IntKind.u32.wrap f])) fun t =>
 bnd (ZK .u64 f (32:Int)) fun m =>
 bnd (chk .i64 (c+(1:Int))) fun n =>
 some (.inl (((d++[IntKind.u32.wrap f]),m,n))))))))
 (some (.inr ((d,e)))))))) Zi ((([]:(List Int)),(0:Int),(0:Int))))
 (fun (p:(List Int)×Int)=>match p with
| (o,q) =>
 (some ((o,q)))))
 (fun (p:(List Int)×Int)=>match p with
| (h,i) =>
 (bnd (ZC 4 (h++[IntKind.u32.wrap i])) fun u =>
 bnd (Zlb ((h++[IntKind.u32.wrap i]))) fun r =>
 some r))
theorem ZZs {l:List Int} (hd:Dig 4294967296 l) (k c:Nat) (hc:c<1099511627776):∃ x:Nat,x<4294967296∧val 4294967296 (l.take (k+1))=val 4294967296 (l.take k)+4294967296^k*x ∧
  ifb (decide ((k:Int)<(l.length:Int))) (bnd (idx l (k:Int)) fun y=>some (IntKind.u64.wrap ((c:Int)+IntKind.u64.wrap y))) (some (c:Int))=some ((c+x:Nat):Int):=by
 by_cases h:k<l.length
 ·obtain ⟨x,hx,hx'⟩:=ZYd hd h;refine ⟨x,hx',?_,?_⟩
  ·rw [Z2a h,hx];rfl
  ·rw [decide_eq_true (by omega),Zd,Zz h,Za,hx,ZZa (by omega),← Int.natCast_add,ZZa (by omega)]
 ·refine ⟨0,by omega,?_,?_⟩
  ·rw [List.take_of_length_le (by omega),List.take_of_length_le (by omega)];simp
  ·rw [decide_eq_false (by omega),Ze];rfl
theorem rsum_eq {n m:Nat} (hn:ZJ n) (hm:ZJ m):ZDo n m=some (n+m):=by
 unfold ZDo;have hdx:=Zsa (B:=4294967296) (by decide) n;have hdy:=Zsa (B:=4294967296) (by decide) m;have hvx:=Zja (B:=4294967296) (by decide) n;have hvy:=Zja (B:=4294967296) (by decide) m;unfold ZJ at hn hm;generalize Zc 4294967296 n=a at *;generalize Zc 4294967296 m=b at *;rw [Z5];refine Zqa (fun s:(List Int)×Int×Int=>∃ k c:Nat,s.2.2=(k:Int)∧s.2.1=(c:Int)∧k≤max a.length b.length∧s.1.length=k∧Dig 4294967296 s.1∧c≤1 ∧
  val 4294967296 s.1+4294967296^k*c=val 4294967296 (a.take k)+val 4294967296 (b.take k)) (fun s=>max a.length b.length-s.2.2.toNat)
  (fun r:List Int×Int=>∃ c:Nat,r.2=(c:Int)∧c≤1∧r.1.length=max a.length b.length∧Dig 4294967296 r.1∧val 4294967296 r.1+4294967296^r.1.length*c=n+m)
  ⟨0,0,rfl,rfl,by omega,rfl,Dig.nil,by omega,by simp [val]⟩ (ZV (by simp;omega)) ?_ ?_
 ·rintro ⟨out,c,i⟩ ⟨k,c,rfl,rfl,hk,ho,hd,hc,hv⟩;simp only at ho hd hc hv ⊢;have cond:ifb (decide ((k:Int)<(a.length:Int))) (some true) (some (decide ((k:Int)<(b.length:Int))))=some (decide (k<max a.length b.length)):=by
   by_cases h:k<a.length
   ·rw [decide_eq_true (by omega),Zd,decide_eq_true (by omega)]
   ·rw [decide_eq_false (by omega),Ze];exact congrArg some (decide_eq_decide.2 (by omega))
  rw [cond,Za];by_cases hlt:k<max a.length b.length
  ·left;obtain ⟨x,hx,hvx2,hf⟩:=ZZs hdx k c (by omega);obtain ⟨y,hy,hvy2,hg⟩:=ZZs hdy k (c+x) (by omega);rw [decide_eq_true hlt,Zd,hf,Za,hg,Za];have e1:IntKind.u32.wrap ((c+x+y:Nat):Int)=(((c+x+y)%4294967296:Nat):Int):=by rw [wrap_u32];omega
   have e2:ZK .u64 ((c+x+y:Nat):Int) 32=some (((c+x+y) / 4294967296:Nat):Int):=ZGd (x:=c+x+y) (k:=32) (by omega);rw [e1,Zea (by simp;omega),Za,e2,Za,Zk (by omega) (by omega),Za];refine ⟨_,rfl,⟨k+1,(c+x+y) / 4294967296,by simp,rfl,by omega,by simp [ho],hd.snoc (by omega),by omega,?_⟩,by simp;omega⟩;simp only [Z4h,ho,Int.toNat_natCast];rw [hvx2,hvy2,Nat.pow_succ];exact ZQr hv (by omega)
  ·right;rw [decide_eq_false hlt,Ze];have hk':k=max a.length b.length:=by omega
   refine ⟨_,rfl,c,rfl,hc,(show out.length=_ by omega),hd,?_⟩;rw [List.take_of_length_le (by omega),List.take_of_length_le (by omega),hvx,hvy] at hv;simp only;rw [ho];exact hv
 ·rintro ⟨out,c⟩ ⟨c,rfl,hc,hl,hd,hv⟩;simp only at hl hd hv ⊢;rw [Za];simp only;have e1:IntKind.u32.wrap (c:Int)=(c:Int):=by rw [wrap_u32];omega
  rw [e1,Zea (by simp;omega),Za];unfold Zlb;rw [Za,Z4h,Int.toNat_natCast,hv]
theorem ZNy {n m z:Nat} (h:ZKe n m=some z):ZDo n m=some z:=by
 unfold ZKe at h;split at h
 ·rename_i hh;rw [rsum_eq hh.1 hh.2,h]
 ·cases h
theorem ZQw {n k:Nat} (hn:ZJ n) (hk:k≤1099511627776):ZSm n (k:Int)=some (n*2^k):=by
 unfold ZSm;rw [ZRi];by_cases h0:n=0
 ·subst h0;rw [show decide ((0:Nat)=0)=true from rfl,Zd,Nat.zero_mul]
 rw [decide_eq_false h0,Ze];have hdx:=Zsa (B:=4294967296) (by decide) n;have hvx:=Zja (B:=4294967296) (by decide) n;unfold ZJ at hn;generalize Zc 4294967296 n=a at *;obtain ⟨w,hw⟩:∃ w,w=k / 32:=⟨_,rfl⟩;obtain ⟨s,hs⟩:∃ s,s=k%32:=⟨_,rfl⟩;have hks:k=32*w+s:=by omega
 have eq32:quo .i64 (k:Int) 32=some (w:Int):=by have:=Zfl (p:=k) (q:=32) (by omega) (by omega);rw [← hw] at this;exact this
 have er32:rem .i64 (k:Int) 32=some (s:Int):=by have:=ZIf (k:=.i64) (p:=k) (q:=32) (by omega);rw [← hs] at this;exact this
 have hR:4294967296^w*2^s=2^k:=by
  rw [show (4294967296:Nat)=2^32 from rfl,← Nat.pow_mul,← Nat.pow_add,← hks]
 have h2s:2^s≤2147483648:=Nat.le_trans (Nat.pow_le_pow_right (by omega) (show s≤31 by omega)) (by decide);obtain ⟨u,hu⟩:=ZSc (b:=4) (l:=(w:Int)) (c:=(w:Int)) (by omega) (by omega) (by omega) (by omega);rw [eq32,Za,hu,Za,Z5,Int.toNat_natCast];refine Zqa (fun st:(List Int)×Int×Int=>∃ i c:Nat,st.2.2=(i:Int)∧st.2.1=(c:Int)∧i≤a.length∧st.1.length=w+i∧Dig 4294967296 st.1∧c<2^s ∧
  val 4294967296 st.1+4294967296^(w+i)*c=val 4294967296 (a.take i)*2^k) (fun st=>a.length-st.2.2.toNat)
  (fun r:List Int×Int=>∃ c:Nat,r.2=(c:Int)∧c<2^s∧r.1.length=w+a.length∧val 4294967296 r.1+4294967296^r.1.length*c=n*2^k)
  ⟨0,0,rfl,rfl,by omega,by simp,Dig.replicate _ (by omega),Nat.pow_pos (by omega),by simp [val,Zil]⟩ (ZV (by simp;omega)) ?_ ?_
 ·rintro ⟨out,c,i⟩ ⟨i,c,rfl,rfl,hi,ho,hd,hc,hv⟩;simp only at ho hd hc hv ⊢;by_cases hlt:i<a.length
  ·left;obtain ⟨x,hx,hx'⟩:=ZYd hdx hlt;have hxs:x*2^s≤4294967295*2^s:=Nat.mul_le_mul_right _ (by omega);have hlt64:x*2^s+c<4294967296*2^s:=by omega
   have h64:4294967296*2^s≤9223372036854775808:=by omega
   have e1:ZQa .u64 (x:Int) (s:Int)=some ((x*2^s:Nat):Int):=by rw [ZFe (by omega),Nat.mod_eq_of_lt (by omega)]
   have e2:orI .u64 ((x*2^s:Nat):Int) (c:Int)=((x*2^s+c:Nat):Int):=ZNf hc (by omega);rw [decide_eq_true (by omega),Zd,Zz hlt,Za,er32,Za,hx,ZZa (by omega),ZZa (by omega),e1,Za,e2];obtain ⟨v,hv1⟩:∃ v,v=x*2^s+c:=⟨_,rfl⟩;rw [← hv1] at hlt64 ⊢;have e3:IntKind.u32.wrap (v:Int)=((v%4294967296:Nat):Int):=by rw [wrap_u32];omega
   have e4:ZK .u64 (v:Int) 32=some ((v / 4294967296:Nat):Int):=ZGd (x:=v) (k:=32) (by omega);rw [e3,Zea (by simp;omega),Za,e4,Za,Zk (by omega) (by omega),Za];refine ⟨_,rfl,⟨i+1,v / 4294967296,by simp,rfl,by omega,by simp [ho];omega,hd.snoc (by omega),?_,?_⟩,by simp;omega⟩
   ·omega
   ·simp only [Z4h,ho,Int.toNat_natCast];rw [Z2a hlt,hx,Nat.add_mul,← Nat.add_assoc w i 1,Nat.pow_succ];simp only [Int.toNat_natCast];have h1:4294967296^i*x*2^k=4294967296^(w+i)*(x*2^s):=by rw [← hR,Nat.pow_add];grind
    rw [h1,← hv,Nat.add_assoc];have h2:v=v%4294967296+4294967296*(v / 4294967296):=by omega
    have h3:4294967296^(w+i)*v=4294967296^(w+i)*(v%4294967296)+4294967296^(w+i)*4294967296*(v / 4294967296):=by
     conv=>lhs;rw [h2]
     rw [Nat.mul_add,Nat.mul_assoc]
    rw [Nat.add_assoc,← h3,hv1,Nat.mul_add];omega
  ·right;rw [decide_eq_false (by omega),Ze];have hi':i=a.length:=by omega
   subst hi';rw [List.take_length,hvx] at hv;exact ⟨_,rfl,c,rfl,hc,ho,by simp only;rw [ho];exact hv⟩
 ·rintro ⟨out,c⟩ ⟨c,rfl,hc,hl,hv⟩;simp only at hl hv ⊢;rw [Za];simp only;have e1:IntKind.u32.wrap (c:Int)=(c:Int):=by rw [wrap_u32];omega
  rw [e1,Zea (by simp;omega),Za];unfold Zlb;rw [Za,Z4h,Int.toNat_natCast,hv]
theorem Z4y {n z:Nat} {k:Int} (h:Zjc n k=some z):ZSm n k=some z:=by
 unfold Zjc at h;split at h
 ·rename_i hh;obtain ⟨K,rfl⟩:=Int.eq_ofNat_of_zero_le hh.2.1;rw [ZQw hh.1 (by omega),← h];rfl
 ·cases h
theorem Zww {n d:Nat} (hn:ZJ n) (hd0:0<d) (hd1:d<4294967296):ZPo n (d:Int)=some (n / d,((n%d:Nat):Int)):=by
 unfold ZPo;have hdx:=Zsa (B:=4294967296) (by decide) n;have hvx:=Zja (B:=4294967296) (by decide) n;unfold ZJ at hn;generalize Zc 4294967296 n=a at *;obtain ⟨u,hu⟩:=ZSc (b:=4) (l:=(a.length:Int)) (c:=(a.length:Int)) (by omega) (by omega) (by omega) (by omega);rw [hu,Za,Zk (by omega) (by omega),Za,Z5,Int.toNat_natCast];refine Zqa (fun st:(List Int)×Int×Int=>∃ k r:Nat,st.2.2=(k:Int)-1∧st.2.1=(r:Int)∧k≤a.length∧st.1.length=a.length∧Dig 4294967296 st.1∧r<d ∧
  val 4294967296 (a.drop k)=val 4294967296 (st.1.drop k)*d+r) (fun st=>(st.2.2+1).toNat)
  (fun st:List Int×Int=>∃ r:Nat,st.2=(r:Int)∧r<d∧n=val 4294967296 st.1*d+r)
  ⟨a.length,0,rfl,rfl,by omega,by simp,Dig.replicate _ (by omega),hd0,by simp [List.drop_eq_nil_of_le,val]⟩ (ZV (by simp;omega)) ?_ ?_
 ·rintro ⟨out,r,i⟩ ⟨k,r,hi,rfl,hk,ho,hd,hr,hv⟩;simp only at hi ho hd hr hv ⊢;subst hi;by_cases h0:k=0
  ·right;subst h0;rw [show decide ((0:Int)≤((0:Nat):Int)-1)=false from rfl,Ze];rw [List.drop_zero,List.drop_zero,hvx] at hv;exact ⟨_,rfl,r,rfl,hr,hv⟩
  ·left;obtain ⟨j,rfl⟩:∃ j,k=j+1:=⟨k-1,by omega⟩;have ej:((j+1:Nat):Int)-1=(j:Int):=by omega
   rw [ej];have hja:j<a.length:=by omega
   have hjo:j<out.length:=by omega
   obtain ⟨x,hx,hx'⟩:=ZYd hdx hja;have e1:ZQa .u64 (r:Int) 32=some ((r*2^32:Nat):Int):=by
    have:=ZFe (x:=r) (k:=32) (by omega);rw [Nat.mod_eq_of_lt (by omega)] at this;exact this
   have e2:orI .u64 ((r*2^32:Nat):Int) (x:Int)=((r*2^32+x:Nat):Int):=ZNf (k:=32) (by omega) (by omega);obtain ⟨v,hv1⟩:∃ v,v=r*2^32+x:=⟨_,rfl⟩;have hvlt:v<d*4294967296:=by omega
   have hq:v / d<4294967296:=(Nat.div_lt_iff_lt_mul hd0).2 (by rw [Nat.mul_comm];exact hvlt);have hm:=Nat.mod_lt v hd0;have hdm:=Nat.div_add_mod v d;have e3:quo .u64 (v:Int) (d:Int)=some ((v / d:Nat):Int):=ZRh hd0 (by omega);have e4:rem .u64 (v:Int) (d:Int)=some ((v%d:Nat):Int):=ZIf hd0;rw [decide_eq_true (by omega),Zd,e1,Za,Zz hja,Za,hx,ZZa (by omega),ZZa (by omega),e2,← hv1,e3,Za,Zz hjo,Za,e4,Za,Zk (by omega) (by omega),Za];generalize v / d=q at *;generalize v%d=r' at *;have e5:IntKind.u32.wrap (q:Int)=(q:Int):=by rw [wrap_u32];omega
   rw [e5];refine ⟨_,rfl,⟨j,r',rfl,rfl,by omega,by simp [ho],hd.set _ (by omega),hm,?_⟩,by simp⟩;simp only [Int.toNat_natCast];have e6:(out.set j (q:Int)).drop j=(q:Int) :: out.drop (j+1):=by
    rw [List.drop_eq_getElem_cons (by simpa using hjo),List.getElem_set_self,List.drop_set_of_lt (by omega)]
   rw [e6,ZWb hja,hx,hv];simp only [val,Int.toNat_natCast];have:4294967296*(val 4294967296 (out.drop (j+1))*d+r)+x=4294967296*val 4294967296 (out.drop (j+1))*d+v:=by rw [hv1];grind
   grind
 ·rintro ⟨out,r⟩ ⟨r,rfl,hr,hv⟩;simp only at hr hv ⊢;rw [Za];simp only;unfold Zlb;have e1:IntKind.u32.wrap (r:Int)=(r:Int):=by rw [wrap_u32];omega
  rw [Za,e1,hv];have h1:(val 4294967296 out*d+r) / d=val 4294967296 out:=by
   rw [Nat.mul_comm,Nat.mul_add_div hd0,Nat.div_eq_of_lt hr,Nat.add_zero]
  have h2:(val 4294967296 out*d+r)%d=r:=by
   rw [Nat.mul_comm,Nat.mul_add_mod,Nat.mod_eq_of_lt hr]
  rw [h1,h2]
theorem ZTA {n:Nat} {d:Int} {z:Nat×Int} (hd:inR .u32 d) (h:Zqf n d=some z):ZPo n d=some z:=by
 unfold Zqf at h;split at h
 ·rename_i hh;have hd:0≤d∧d≤4294967295:=hd;obtain ⟨D,rfl⟩:=Int.eq_ofNat_of_zero_le hd.1;rw [Zww hh.1 (by omega) (by omega),← h];rfl
 ·cases h
theorem ZHy {v R s:Nat} (hs:s≤31):(v+18446744073709551616*R) / 2^s%4294967296=v / 2^s%4294967296:=by
 have e:18446744073709551616*R=2^s*(4294967296*(2^(32-s)*R)):=by
  have:(18446744073709551616:Nat)=2^s*(4294967296*2^(32-s)):=by
   rw [show (4294967296:Nat)=2^32 from rfl,← Nat.pow_add,← Nat.pow_add,show s+(32+(32-s))=64 by omega]
  rw [this,Nat.mul_assoc,Nat.mul_assoc]
 rw [e,Nat.add_mul_div_left _ _ (Nat.pow_pos (by omega)),Nat.add_mul_mod_self_left]
theorem Zzy (T B j:Nat):T%B^(j+1)=T%B^j+B^j*(T / B^j%B):=by
 rw [Nat.pow_succ,Nat.mod_mul]
theorem Zyq {B n:Nat} (hB:2≤B) (w:Nat):val B ((Zc B n).drop w)=n / B^w:=by
 induction w generalizing n with
 | zero=>rw [List.drop_zero,Zja hB,Nat.pow_zero,Nat.div_one]
 | succ w ih =>
  by_cases h:n=0
  ·subst h;rw [Z7];simp [val]
  ·rw [Zqc hB h,List.drop_succ_cons,ih,Nat.div_div_eq_div_mul,Nat.pow_succ,Nat.mul_comm B]
theorem ZMw {n k:Nat} (hn:ZJ n) (hk:k≤9223372036854775807):ZNo n (k:Int)=some (n / 2^k):=by
 unfold ZNo;have hdx:=Zsa (B:=4294967296) (by decide) n;have hdv:∀ w,val 4294967296 ((Zc 4294967296 n).drop w)=n / 4294967296^w:=Zyq (by decide);unfold ZJ at hn;generalize Zc 4294967296 n=a at *;obtain ⟨w,hw⟩:∃ w,w=k / 32:=⟨_,rfl⟩;obtain ⟨s,hs⟩:∃ s,s=k%32:=⟨_,rfl⟩;have hks:k=32*w+s:=by omega
 have eq32:quo .i64 (k:Int) 32=some (w:Int):=by have:=Zfl (p:=k) (q:=32) (by omega) (by omega);rw [← hw] at this;exact this
 have er32:rem .i64 (k:Int) 32=some (s:Int):=by have:=ZIf (k:=.i64) (p:=k) (q:=32) (by omega);rw [← hs] at this;exact this
 have hR:4294967296^w*2^s=2^k:=by
  rw [show (4294967296:Nat)=2^32 from rfl,← Nat.pow_mul,← Nat.pow_add,← hks]
 have hlen:∀ j,a.length≤w+j→n / 4294967296^(w+j)=0:=by
  intro j hj;rw [← hdv,List.drop_eq_nil_of_le hj];rfl
 rw [eq32,Za,Z5];refine Zqa (fun st:(List Int)×Int=>∃ j:Nat,st.2=((w+j:Nat):Int)∧(j=0∨w+j≤a.length)∧st.1.length=j∧Dig 4294967296 st.1∧val 4294967296 st.1=n / 2^k%4294967296^j) (fun st=>a.length-st.2.toNat)
  (fun r:List Int=>val 4294967296 r=n / 2^k) ⟨0,rfl,.inl rfl,rfl,Dig.nil,by simp [val,Nat.mod_one]⟩ (ZV (by simp;omega)) ?_ ?_
 ·rintro ⟨out,i⟩ ⟨j,rfl,hj,ho,hd,hv⟩;simp only at ho hd hv ⊢;have hT:n / 2^k / 4294967296^j=n / 4294967296^(w+j) / 2^s:=by
   rw [Nat.div_div_eq_div_mul,Nat.div_div_eq_div_mul,← hR,Nat.pow_add];congr 1;grind
  by_cases hlt:w+j<a.length
  ·left;obtain ⟨x,hx,hx'⟩:=ZYd hdx hlt;have c1:chk .i64 (((w+j:Nat):Int)+1)=some ((w+j+1:Nat):Int):=by rw [show ((w+j:Nat):Int)+1=((w+j+1:Nat):Int) by omega,Zoa (by omega)]
   obtain ⟨v,R,hv1,hv2,hf⟩:∃ v R:Nat,v<18446744073709551616∧n / 4294967296^(w+j)=v+18446744073709551616*R ∧
     ifb (decide (((w+j+1:Nat):Int)<(a.length:Int))) (bnd (chk .i64 (((w+j:Nat):Int)+1)) fun y155=>bnd (idx a y155) fun y157=>bnd (ZQa .u64 (IntKind.u64.wrap y157) 32) fun y163=>some (orI .u64 (x:Int) y163)) (some (x:Int))=some (v:Int):=by
    rw [← hdv,ZWb hlt,hx];simp only [Int.toNat_natCast];by_cases h:w+j+1<a.length
    ·obtain ⟨y,hy,hy'⟩:=ZYd hdx h;refine ⟨x+4294967296*y,val 4294967296 (a.drop (w+j+1+1)),by omega,?_,?_⟩
     ·rw [ZWb h,hy];simp only [Int.toNat_natCast];omega
     ·have e1:ZQa .u64 (y:Int) 32=some ((y*2^32:Nat):Int):=by
       have:=ZFe (x:=y) (k:=32) (by omega);rw [Nat.mod_eq_of_lt (by omega)] at this;exact this
      have e2:orI .u64 (x:Int) ((y*2^32:Nat):Int)=((x+4294967296*y:Nat):Int):=by
       have hc:orI .u64 (x:Int) ((y*2^32:Nat):Int)=orI .u64 ((y*2^32:Nat):Int) (x:Int):=by unfold orI;rw [BitVec.or_comm]
       rw [hc,ZNf (k:=32) (by omega) (by omega)];exact congrArg (fun q:Nat=>(q:Int)) (by omega)
      rw [decide_eq_true (by omega),Zd,c1,Za,Zz h,Za,hy,ZZa (by omega),e1,Za,e2]
    ·refine ⟨x,0,by omega,?_,?_⟩
     ·rw [List.drop_eq_nil_of_le (by omega)];simp [val]
     ·rw [decide_eq_false (by omega),Ze]
   rw [c1] at hf;rw [decide_eq_true (by omega),Zd,Zz hlt,Za,c1,Za,hx,ZZa (by omega),hf,Za,er32,Za,ZZa (by omega),ZGd (by omega),Za];have e3:IntKind.u32.wrap ((v / 2^s:Nat):Int)=((v / 2^s%4294967296:Nat):Int):=by rw [wrap_u32];omega
   rw [e3,Zea (by simp;omega),Za,Za];refine ⟨_,rfl,⟨j+1,by simp only;omega,.inr (by omega),by simp [ho],hd.snoc (by omega),?_⟩,by simp;omega⟩;simp only [Z4h,ho,Int.toNat_natCast];rw [Zzy,hv,hT,hv2,ZHy (by omega)]
  ·right;rw [decide_eq_false (by omega),Ze];refine ⟨_,rfl,?_⟩;rw [hv];apply Nat.mod_eq_of_lt;have h0:n / 2^k / 4294967296^j=0:=by rw [hT,hlen j (by omega),Nat.zero_div]
   rcases (Nat.div_eq_zero_iff).1 h0 with h | h
   ·exact absurd h (Nat.pos_iff_ne_zero.1 (Nat.pow_pos (by omega)))
   ·exact h
 ·rintro out hv;rw [Za];unfold Zlb;rw [hv,Za]
theorem Zdw {n z:Nat} {k:Int} (hk:inR .i64 k) (h:Zpg n k=some z):ZNo n k=some z:=by
 unfold Zpg at h;split at h
 ·rename_i hh;have hk:=Z3a.1 hk;obtain ⟨K,rfl⟩:=Int.eq_ofNat_of_zero_le hh.2;rw [ZMw hh.1 (by omega),← h];rfl
 ·cases h
end Go.Eng
