/- Lemmas towards the statement: the engine of the walks, the functions' models, laws and walks, part 2. Conditions: as each states. -/
import Derived.Lib.Mul64
import Derived.Test.YteieminegehfdaaGreatDeA
set_option linter.all false
set_option maxRecDepth 100000
namespace Go.Eng
open Go.RowKit
structure Con where
 args:List T
 res:List T
 F:ZI args→Option (ZI res)
structure ConO where
 args:List T
 ty:TypeId
 t:T
 F:ZI args→Option (List t.den)
structure ConM where
 args:List T
 ty:TypeId
 ty2:TypeId
 t:T
 F:ZI args→Option (List (List t.den))
structure ConI where
 ty:TypeId
 t:T
 F:List t.den→Int→t.den→Option (List t.den)
inductive CT where
 | dat (t:T)
 | own (ty:TypeId) (t:T)
 | mat (ty ty2:TypeId) (t:T)
 | nl
 | one (a:CT)
 | cons (a b:CT)
 | agg (c:CT)
 | box (ty:TypeId) (c:CT)
def CT.den:CT→Type
 | .dat t=>t.den
 | .own _ t=>List t.den
 | .mat _ _ t=>List (List t.den)
 | .nl=>Unit
 | .one a=>a.den
 | .cons a b=>a.den×b.den
 | .agg c=>c.den
 | .box _ c=>c.den
structure ConB where
 ty:TypeId
 c:CT
 args:List T
 res:List T
 F:c.den→ZI args→Option (c.den×ZI res)
structure ConD where
 ty:TypeId
 t:T
 F:List t.den→Int→Int→Option (List t.den)
structure ConP where
 args:List T
 ty:TypeId
 t:T
 res:List T
 F:ZI args→Option (List t.den×ZI res)
structure Ex where
 pows:List (FuncId×ConP):=[]
 omats:List (FuncId×ConM):=[]
 boxs:List (FuncId×ConB):=[]
 dels:List (FuncId×ConD):=[]
structure Cf where
 P:Program
 leafs:List (TypeId×Nat)
 cons:List (FuncId×Con)
 mats:List Nat
 owns:List (FuncId×ConO)
 ins:List (FuncId×ConI)
 meths:List ((TypeId×String)×FuncId)
 ex:Ex:={}
abbrev Cf.omats (C:Cf):=C.ex.omats
abbrev Cf.boxs (C:Cf):=C.ex.boxs
abbrev Cf.dels (C:Cf):=C.ex.dels
abbrev Cf.pows (C:Cf):=C.ex.pows
def lkM:List ((TypeId×String)×FuncId)→TypeId→String→Option FuncId
 | [],_,_=>none
 | p :: r,t,m=>match Nat.beq p.1.1 t,p.1.2==m with
  | true,true=>some p.2
  | _,_=>lkM r t m
def codeF (f:TypeId→Option T):TypeId→List Field→Option T
 | t,[]=>f t
 | t,h :: r=>match f t,codeF f h.type r with
  | some a,some b=>some (.pair a b)
  | _,_=>none
def Zsa (a:T):Nat→T
 | 0=>.one a
 | 1=>.one a
 | 2=>.pair a a
 | k+3=>.pair a (Zsa a (k+2))
def Z8a (a:T):(n:Nat)→(Zsa a n).den→List a.den
 | 0,_=>[]
 | 1,x=>[x]
 | 2,x=>[x.1,x.2]
 | k+3,x=>x.1 :: Z8a a (k+2) x.2
def Zbd (C:Cf):Nat→TypeId→Option T
 | 0,_=>none
 | g+1,t=>match ZT C.leafs t with
  | some i=>some (.leaf i)
  | none=>match C.P.underlying t with
   | some (.int k)=>some (.int k)
   | some .bool=>some .bool
   | some (.float k)=>some (.flt k)
   | some .string=>some .str
   | some (.slice e)=>match Zbd C g e with
    | some a=>some (.slice a)
    | none=>none
   | some (.array n e)=>match Zbd C g e,Nat.blt 0 n with
    | some a,true=>some (Zsa a n)
    | _,_=>none
   | some (.struct fs)=>match fs.toList with
    | []=>none
    | [f]=>match Zbd C g f.type with
     | some a=>some (.one a)
     | none=>none
    | f :: h :: r=>codeF (Zbd C g) f.type (h :: r)
   | _=>none
def zeroLf:(i:Nat)→Option (Zjo i)
 | 0=>some (0:Nat)
 | 1=>some (0:Nat)
 | 2=>some (0:Int)
 | 3=>some (0:Rat)
 | _=>none
def arrS (a:T):(n:Nat)→(Zsa a n).den→Nat→a.den→(Zsa a n).den
 | 0,x,_,_=>x
 | 1,x,i,y=>match i with
  | 0=>y
  | _+1=>x
 | 2,x,i,y=>match i with
  | 0=>(y,x.2)
  | 1=>(x.1,y)
  | _+2=>x
 | k+3,x,i,y=>match i with
  | 0=>(y,x.2)
  | i+1=>(x.1,arrS a (k+2) x.2 i y)
def Zfg:(t:T)→Option t.den
 | .int _=>some (0:Int)
 | .bool=>some false
 | .flt _=>some (0:Nat)
 | .str=>some ([]:List UInt8)
 | .one a=>Zfg a
 | .pair a b=>match Zfg a,Zfg b with
  | some x,some y=>some (x,y)
  | _,_=>none
 | .slice _=>some []
 | .leaf i=>zeroLf i
 | .ptr _=>none
def zSl:List Value→Option (List Value)
 | .slice none 0 0 :: r=>some r
 | _=>none
def zOK:T→List Value→Option (List Value)
 | .int k,.int k' n :: r=>match kEq k k',n with
  | true,.ofNat 0=>some r
  | _,_=>none
 | .bool,.bool false :: r=>some r
 | .flt k,.float k' 0 :: r=>match fEqK k k' with
  | true=>some r
  | false=>none
 | .str,.string s :: r=>match s.data.toList with
  | []=>some r
  | _=>none
 | .one a,cs=>zOK a cs
 | .pair a b,cs=>match zOK a cs with
  | some r=>zOK b r
  | none=>none
 | .slice _,cs=>zSl cs
 | .leaf 0,cs=>zSl cs
 | .leaf 1,cs=>zSl cs
 | .leaf 2,.bool false :: cs=>zSl cs
 | .leaf 3,.bool false :: cs=>match zSl cs with
  | some r=>zSl r
  | none=>none
 | _,_=>none
def Zug (t:T) (cs:List Value):Option (V×List Value):=match Zfg t,zOK t cs with
 | some x,some r=>some (.data t x,r)
 | _,_=>none
def Z6j (f:TypeId→List Value→Option (V×List Value)):List Field→List Value→Option (V×List Value)
 | [],cs=>some (.nl,cs)
 | h :: r,cs=>match f h.type cs with
  | some (v,cs)=>match Z6j f r cs with
   | some (c,cs)=>some (.cons v c,cs)
   | none=>none
  | none=>none
def zRep (f:List Value→Option (V×List Value)):Nat→List Value→Option (V×List Value)
 | 0,cs=>some (.nl,cs)
 | k+1,cs=>match f cs with
  | some (v,cs)=>match zRep f k cs with
   | some (c,cs)=>some (.cons v c,cs)
   | none=>none
  | none=>none
def Zsi (C:Cf):Nat→TypeId→List Value→Option (V×List Value)
 | 0,_,_=>none
 | g+1,t,cs=>match ZT C.leafs t with
  | some 4=>match cs with
   | .bool false :: .slice none 0 0 :: .slice none 0 0 :: r=>some (.agg (.cons (.data .bool false) (.cons (.data (.leaf 1) (0:Nat)) (.cons (.data (.leaf 1) (0:Nat)) .nl))),r)
   | _=>none
  | some i=>Zug (.leaf i) cs
  | none=>match C.P.underlying t with
   | some (.int k)=>Zug (.int k) cs
   | some .bool=>Zug .bool cs
   | some (.float k)=>Zug (.flt k) cs
   | some .string=>Zug .str cs
   | some (.slice _)=>match zSl cs with
    | some r=>some (.nilS,r)
    | none=>none
   | some (.struct fs)=>match Z6j (Zsi C g) fs.toList cs with
    | some (c,r)=>some (.agg c,r)
    | none=>none
   | some (.array n e)=>match zRep (Zsi C g e) n cs with
    | some (c,r)=>some (.agg c,r)
    | none=>none
   | _=>none
def ZGj (C:Cf) (t:TypeId):Option V:=match C.P.info? t with
 | some i=>match i.zero with
  | some z=>match Zsi C FU t z.cells.toList with
   | some (v,[])=>some v
   | _=>none
  | none=>none
 | none=>none
def aggD:TypeDesc→Bool
 | .struct _=>true
 | .array _ _=>true
 | _=>false
def szA (P:Program) (t:TypeId):Option (Nat×Bool):=match P.info? t,P.underlying t with
 | some i,some d=>some (i.size,aggD d)
 | _,_=>none
def fldA (P:Program) (s:TypeId) (f:Nat):Option Nat:=match P.underlying s with
 | some (.struct fs)=>match fs.toList[f]? with
  | some h=>match P.info? h.type with
   | some i=>match Nat.blt 0 i.size with
    | true=>some h.offset
    | false=>none
   | none=>none
  | none=>none
 | _=>none
def fldT (P:Program) (s:TypeId) (f:Nat):Option Field:=match P.underlying s with
 | some (.struct fs)=>fs.toList[f]?
 | _=>none
def ZYi (P:Program) (t:TypeId):Option (TypeId×Nat):=match P.underlying t with
 | some (.slice e)=>match P.info? e with
  | some i=>some (e,i.size)
  | none=>none
 | _=>none
structure EI where
 e:TypeId
 sz:Nat
 by_:Nat
 z:Value
def Zag (P:Program) (t:TypeId):Option EI:=match P.underlying t with
 | some (.slice e)=>match P.info? e with
  | some i=>match i.zero with
   | some z=>match Nat.beq z.cells.toList.length i.size,Nat.blt 0 i.size,Nat.blt 0 i.bytes with
    | true,true,true=>some ⟨e,i.size,i.bytes,z⟩
    | _,_,_=>none
   | none=>none
  | none=>none
 | _=>none
def Zcl:Value→Option V
 | .bool b=>some (.data .bool b)
 | .int k n=>if inR k n then some (.data (.int k) n) else none
 | .float k n=>if n<18446744073709551616 then some (.data (.flt k) n) else none
 | .string s=>if s.data.toList.length≤maxLen then some (.data .str s.data.toList) else none
 | .slice none 0 0=>some .nilS
 | _=>none
def opd {ρ:Type} (x:Operand) (k:V→Ev ρ):Ev ρ:=match x with
 | .tmp t=>.rdS t k
 | .const c=>match Zcl c with
  | some v=>k v
  | none=>.fail
 | .func f=>k (.fn f .nl)
 | .global _=>.fail
def ret (o:Oper) (v:V):Ev Unit:=match o.dst with
 | some d=>.wrS d v (.done ())
 | none=>.fail
def Z6a {ρ:Type} (v:V) (k:IntKind→Int→Ev ρ):Ev ρ:=match v with
 | .data (.int κ) x=>k κ x
 | _=>.fail
def Z2m {ρ:Type} (v:V) (k:Bool→Ev ρ):Ev ρ:=match v with
 | .data .bool x=>k x
 | _=>.fail
def nthV:V→Nat→Option V
 | .cons a _,0=>some a
 | .cons _ b,n+1=>nthV b n
 | _,_=>none
def appV:V→V→V
 | .cons a b,c=>.cons a (appV b c)
 | _,c=>c
def binI {ρ:Type} (op:BinOp) (κ:IntKind) (x y:Int) (k:V→Ev ρ):Ev ρ:=match op with
 | .add=>match κ.signed with
  | true=>.bind (chk κ (x+y)) λz=>k (.data (.int κ) z)
  | false=>k (.data (.int κ) (κ.wrap (x+y)))
 | .sub=>match κ.signed with
  | true=>.bind (chk κ (x-y)) λz=>k (.data (.int κ) z)
  | false=>k (.data (.int κ) (κ.wrap (x-y)))
 | .mul=>match κ.signed with
  | true=>.bind (chk κ (x*y)) λz=>k (.data (.int κ) z)
  | false=>k (.data (.int κ) (κ.wrap (x*y)))
 | .quo=>.bind (quo κ x y) λz=>k (.data (.int κ) z)
 | .rem=>.bind (rem κ x y) λz=>k (.data (.int κ) z)
 | .and=>k (.data (.int κ) (Z8 κ x y))
 | .or=>k (.data (.int κ) (orI κ x y))
 | .xor=>k (.data (.int κ) (xorI κ x y))
 | .lss=>k (.data .bool (decide (x<y)))
 | .leq=>k (.data .bool (decide (x≤y)))
 | .gtr=>k (.data .bool (decide (y<x)))
 | .geq=>k (.data .bool (decide (y≤x)))
 | .eql=>k (.data .bool (x==y))
 | .neq=>k (.data .bool (x != y))
 | _=>.fail
def binE {ρ:Type} (P:Program) (op:BinOp) (t:TypeId) (v v':V) (k:V→Ev ρ):Ev ρ:=match v,v' with
 | .data (.int κ) x,.data (.int κ') y=>match op with
  | .shl=>.bind (ZVa κ x y) λz=>k (.data (.int κ) z)
  | .shr=>.bind (ZN κ x y) λz=>k (.data (.int κ) z)
  | op=>match kEq κ κ' with
   | true=>binI op κ x y k
   | false=>.fail
 | .data .bool (x:Bool),.data .bool (y:Bool)=>match P.underlying t with
  | some .bool=>match op with
   | .eql=>k (.data .bool (x==y))
   | .neq=>k (.data .bool (x != y))
   | _=>.fail
  | _=>.fail
 | .data .str (x:List UInt8),.data .str (y:List UInt8)=>match op with
  | .add=>.bind (Zsb (x++y)) λ_=>k (.data .str (x++y))
  | .eql=>k (.data .bool (x==y))
  | .neq=>k (.data .bool (x != y))
  | _=>.fail
 | _,_=>.fail
def ldE {ρ:Type} (P:Program) (t:TypeId) (p:V) (k:V→Ev ρ):Ev ρ:=match szA P t with
 | none=>.fail
 | some s=>match p with
  | .ptr u off=>.rdL u λ_ L=>match L with
   | .box _ c=>match Zna FU c off s.1 s.2 with
    | some z=>k z
    | none=>.fail
   | _=>.fail
  | .el u i cv e x off=>.rdL u λcv' L=>match L with
   | .own _ _ _ _=>match Nat.beq cv' cv with
    | true=>match Zna FU (.data e x) off s.1 s.2 with
     | some z=>k z
     | none=>.fail
    | false=>.fail
   | .box ty (.data t' w')=>match P.underlying ty with
    | some (.array m _)=>match T.cast t' (Zsa e m) w',Nat.beq off 0,Nat.blt 0 m with
     | some w2,true,true=>.bind (idx (Z8a e m w2) (i:Int)) λy=>match Zna FU (.data e y) 0 s.1 s.2 with
      | some z=>k z
      | none=>.fail
     | _,_,_=>.fail
    | _=>.fail
   | _=>.fail
  | .vp e x off=>match Zna FU (.data e x) off s.1 s.2 with
   | some z=>k z
   | none=>.fail
  | .rp u i hv cv e r=>.rdL u λcv' L=>match L with
   | .mat _ _ _ _ hv'=>match Nat.beq hv' hv,Nat.beq cv' cv,s.2 with
    | true,true,false=>k (.row u i hv cv e r)
    | _,_,_=>.fail
   | _=>.fail
  | .rel u _ _ hv cv e _ x off=>.rdL u λcv' L=>match L with
   | .mat _ _ _ _ hv'=>match Nat.beq hv' hv,Nat.beq cv' cv with
    | true,true=>match Zna FU (.data e x) off s.1 s.2 with
     | some z=>k z
     | none=>.fail
    | _,_=>.fail
   | _=>.fail
  | _=>.fail
def V.plain:V→Bool
 | .undef | .tup _=>false
 | .cons a b=>match a.plain with
  | true=>b.plain
  | false=>false
 | .agg c=>c.plain
 | _=>true
def V.fit (v:V):Bool:=match v.plain,v.isAgg with
 | true,true=>true
 | true,false=>Nat.beq v.size 1
 | false,_=>false
def Ztc (s t:T) (l:List s.den):Option (List t.den):=T.cast (.slice s) (.slice t) l
def ZPb (s t:T) (m:List (List s.den)):Option (List (List t.den)):=T.cast (.slice (.slice s)) (.slice (.slice t)) m
def eqN (i j:Nat):Option Unit:=if i=j then some () else none
def Zub {α:Type} (m:List (List α)) (i j:Nat):List (List α):=(m.set i (m.getD j [])).set j (m.getD i [])
def stE (P:Program) (nid:Nat) (t:TypeId) (p v:V):Ev Unit:=match szA P t with
 | none=>.fail
 | some q=>match Nat.beq v.size q.1,eqB v.isAgg q.2,v.fit with
  | true,true,true=>match p with
   | .ptr u off=>.rdL u λ_ L=>match L with
    | .box ty c=>match Zdb FU c off v with
     | some c'=>.wrL u (.box ty c') (.done ())
     | none=>.fail
    | _=>.fail
   | .el u i cv s x off=>match Zdb FU (.data s x) off v with
    | some z=>conv FU s z λy=>.rdL u λcv' L=>match L with
     | .own ty s' l false=>match Nat.beq off 0,Nat.beq v.size s.n,Nat.beq cv' cv with
      | true,true,_=>match T.cast s s' y with
       | some y'=>.wrL u (.own ty s' (l.set i y') false) (.done ())
       | none=>.fail
      | _,_,true=>match T.cast s s' y with
       | some y'=>.wrL u (.own ty s' (l.set i y') false) (.done ())
       | none=>.fail
      | _,_,_=>.fail
     | .box ty (.data t' w')=>match P.underlying ty with
      | some (.array m _)=>match Nat.beq off 0,Nat.beq v.size s.n,T.cast t' (Zsa s m) w',Nat.blt 0 m with
       | true,true,some w2,true=>.bind (inN i m) λ_=>match T.cast (Zsa s m) t' (arrS s m w2 i y) with
        | some w3=>.wrL u (.box ty (.data t' w3)) (.done ())
        | none=>.fail
       | _,_,_,_=>.fail
      | _=>.fail
     | _=>.fail
    | none=>.fail
   | .rp u i _ _ _ _=>match v with
    | .own u2=>.rdL u λ_ L=>match L with
     | .mat ty ty2 s m _=>.rdL u2 λ_ L2=>match L2 with
      | .own ty3 s' l false=>match Nat.beq ty3 ty2,Ztc s' s l with
       | true,some l'=>.del u2 (.wrL u (.mat ty ty2 s (m.set i l') nid) (.done ()))
       | _,_=>.fail
      | _=>.fail
     | .mid ty ty2 s m _ (.hol j)=>.bind (eqN i j) λ_=>.rdL u2 λ_ L2=>match L2 with
      | .own ty3 s' l false=>match Nat.beq ty3 ty2,Ztc s' s l with
       | true,some l'=>.del u2 (.wrL u (.mat ty ty2 s (m.set i l') nid) (.done ()))
       | _,_=>.fail
      | _=>.fail
     | _=>.fail
    | .row u2 j hv2 _ _ _=>.rdL u λ_ L=>match L with
     | .mat ty ty2 s m hv=>match Nat.beq u2 u,Nat.beq hv hv2 with
      | true,true=>.wrL u (.mid ty ty2 s m hv (.swp i j)) (.done ())
      | _,_=>.fail
     | .mid ty ty2 s m hv (.swp i0 j0)=>match Nat.beq u2 u,Nat.beq hv hv2 with
      | true,true=>.bind (eqN i j0) λ_=>.bind (eqN j i0) λ_=>.wrL u (.mat ty ty2 s (Zub m i0 j0) nid) (.done ())
      | _,_=>.fail
     | _=>.fail
    | _=>.fail
   | .rel u i j hv cv s r x off=>match Zdb FU (.data s x) off v with
    | some z=>.rdL u λ_ L0=>match L0 with
     | .mat _ _ _ _ _=>conv FU s z λy=>.rdL u λcv' L=>match L with
      | .mat ty ty2 s' m hv'=>match Nat.beq hv' hv,Nat.beq cv' cv with
       | true,true=>match Ztc s s' (r.set j y) with
        | some r'=>.wrL u (.mat ty ty2 s' (m.set i r') hv') (.done ())
        | none=>.fail
       | _,_=>.fail
      | _=>.fail
     | _=>.fail
    | none=>.fail
   | _=>.fail
  | _,_,_=>.fail
def onM (C:Cf) (o:Oper):Bool:=match o.dst with
 | some d=>ZDa C.mats d
 | none=>false
def onT (C:Cf) (o:Oper):Bool:=match o.dst with
 | some d=>ZDa C.mats (d+100000)
 | none=>false
def takeE (P:Program) (o:Oper) (nid:Nat) (t:TypeId) (p:V):Ev Unit:=match szA P t with
 | none=>.fail
 | some s=>match p,s.2 with
  | .rp u i hv cv e r,false=>.rdL u λcv' L=>match L with
   | .mat ty ty2 s' m hv'=>match Nat.beq hv' hv,Nat.beq cv' cv,Ztc e s' r with
    | true,true,some z=>.wrL u (.mid ty ty2 s' m hv' (.hol i)) (.new nid (.own ty2 s' z false) (ret o (.own nid)))
    | _,_,_=>.fail
   | _=>.fail
  | _,_=>.fail
def shift:V→Nat→Option V
 | .ptr u off,k=>some (.ptr u (off+k))
 | .vp t x off,k=>some (.vp t x (off+k))
 | .el u i cv t x off,k=>some (.el u i cv t x (off+k))
 | .rel u i j hv cv t r x off,k=>some (.rel u i j hv cv t r x (off+k))
 | _,_=>none
def live {ρ:Type} (v:V) (k:Ev ρ):Ev ρ:=match v with
 | .ptr u _=>.rdL u λ_ L=>match L with
  | .box _ _=>k
  | _=>.fail
 | .vp _ _ _=>k
 | .el u _ _ _ _ _=>.rdL u λ_ L=>match L with
  | .own _ _ _ _=>k
  | _=>.fail
 | .rel u _ _ hv _ _ _ _ _=>.rdL u λ_ L=>match L with
  | .mat _ _ _ _ hv'=>match Nat.beq hv' hv with
   | true=>k
   | false=>.fail
  | _=>.fail
 | _=>.fail
def ixA (P:Program) (o:Oper) (t:TypeId) (v:V) (j:Int):Ev Unit:=match P.underlying t with
 | some (.array n e)=>match P.info? e,decide (0≤j),decide (j<n) with
  | some i,true,true=>match shift v (j.toNat*i.size) with
   | some z=>live v (ret o z)
   | none=>.fail
  | _,_,_=>.fail
 | _=>.fail
def alts (P:Program) (o:Oper) (t:TypeId) (v:V) (j:Int):Nat→Nat→Ev Unit
 | 0,_=>.fail
 | m+1,k=>.alt (decide (j=(k:Int))) (ixA P o t v (k:Int)) (alts P o t v j m (k+1))
def altE (P:Program) (o:Oper) (t:TypeId) (v:V) (j:Int):Ev Unit:=match P.underlying t with
 | some (.array n _)=>alts P o t v j n 0
 | _=>.fail
def ixQ (C:Cf) (o:Oper) (t:TypeId) (v:V) (j:Int):Ev Unit:=match C.P.underlying t with
 | some (.array m e)=>match Zbd C FU e,szA C.P e,Nat.blt 0 m with
  | some a,some q,true=>match Nat.beq q.1 a.n,v with
   | true,.ptr u 0=>.rdL u λcv L=>match L with
    | .box ty (.data s x)=>match Nat.beq ty t,T.cast s (Zsa a m) x with
     | true,some x'=>.bind (idx (Z8a a m x') j) λy=>ret o (.el u j.toNat cv a y 0)
     | _,_=>.fail
    | _=>.fail
   | _,_=>.fail
  | _,_,_=>.fail
 | _=>.fail
def ixW (C:Cf) (o:Oper) (t:TypeId) (v:V) (j:Int):Ev Unit:=match C.P.underlying t with
 | some (.array m e)=>match Zbd C FU e,szA C.P e,v,Nat.blt 0 m with
  | some a,some q,.data s x,true=>match Nat.beq q.1 a.n,eqB q.2 a.agg,T.cast s (Zsa a m) x with
   | true,true,some x'=>.bind (idx (Z8a a m x') j) λy=>ret o (.data a y)
   | _,_,_=>.fail
  | _,_,_,_=>.fail
 | _=>.fail
def onQ (C:Cf) (o:Oper):Bool:=match o.dst with
 | some d=>ZDa C.mats (d+400000)
 | none=>false
def onA (C:Cf) (o:Oper):Bool:=match o.dst with
 | some d=>ZDa C.mats (d+200000)
 | none=>false
def ixV (C:Cf) (o:Oper) (t:TypeId) (v:V) (j:Int):Ev Unit:=match C.P.underlying t with
 | some (.array n e)=>match szA C.P e,v.isAgg,decide (0≤j),decide (j<n) with
  | some q,true,true,true=>match Zna FU v (j.toNat*q.1) q.1 q.2 with
   | some z=>ret o z
   | none=>.fail
  | _,_,_,_=>.fail
 | _=>.fail
def altsV (C:Cf) (o:Oper) (t:TypeId) (v:V) (j:Int):Nat→Nat→Ev Unit
 | 0,_=>.fail
 | m+1,k=>.alt (decide (j=(k:Int))) (ixV C o t v (k:Int)) (altsV C o t v j m (k+1))
def altvE (C:Cf) (o:Oper) (t:TypeId) (v:V) (j:Int):Ev Unit:=match C.P.underlying t with
 | some (.array n _)=>altsV C o t v j n 0
 | _=>.fail
def ixE (P:Program) (o:Oper) (t:TypeId) (v:V) (j:Int):Ev Unit:=match ZYi P t with
 | none=>ixA P o t v j
 | some q=>match v with
  | .own u=>.rdL u λcv L=>match L with
   | .own _ s l _=>match Nat.beq q.2 s.n with
    | true=>.bind (idx l j) λy=>ret o (.el u j.toNat cv s y 0)
    | false=>.fail
   | .mat _ _ s m hv=>match Nat.beq q.2 1 with
    | true=>.bind (idx m j) λr=>ret o (.rp u j.toNat hv cv s r)
    | false=>.fail
   | .mid _ _ s m hv _=>match Nat.beq q.2 1 with
    | true=>.bind (idx m j) λr=>ret o (.rp u j.toNat hv cv s r)
    | false=>.fail
   | _=>.fail
  | .data (.slice s) l=>match Nat.beq q.2 s.n with
   | true=>.bind (idx l j) λy=>ret o (.vp s y 0)
   | false=>.fail
  | .data (.leaf 0) (n:Nat)=>match Nat.beq q.2 1 with
   | true=>.bind (idx (Zc 18446744073709551616 n) j) λy=>ret o (.vp (.int .u64) y 0)
   | false=>.fail
  | .data (.leaf 1) (n:Nat)=>match Nat.beq q.2 1 with
   | true=>.bind (idx (Zc 4294967296 n) j) λy=>ret o (.vp (.int .u32) y 0)
   | false=>.fail
  | .row u i hv cv s r=>.rdL u λcv' L=>match L with
   | .mat _ _ s' m hv'=>match Nat.beq hv' hv,Nat.beq cv' cv,Nat.beq q.2 s.n with
    | true,true,true=>.bind (idx r j) λy=>ret o (.rel u i j.toNat hv cv s r y 0)
    | true,false,true=>match ZPb s' s m with
     | some m'=>.bind (idx m' (i:Int)) λr'=>.bind (idx r' j) λy=>ret o (.rel u i j.toNat hv cv' s r' y 0)
     | none=>.fail
    | _,_,_=>.fail
   | _=>.fail
  | _=>.fail
def lenE {ρ:Type} (P:Program) (t:TypeId) (v:V) (k:Nat→Ev ρ):Ev ρ:=match v with
 | .data .str (s:List UInt8)=>match P.underlying t with
  | some .string=>k s.length
  | _=>.fail
 | v=>match ZYi P t with
  | none=>.fail
  | some _=>match v with
   | .own u=>.rdL u λ_ L=>match L with
    | .own _ _ l _=>k l.length
    | .mat _ _ _ m _=>k m.length
    | _=>.fail
   | .data (.slice _) l=>k l.length
   | .data (.leaf 0) (n:Nat)=>k (Zc 18446744073709551616 n).length
   | .data (.leaf 1) (n:Nat)=>k (Zc 4294967296 n).length
   | .row u _ hv _ _ r=>.rdL u λ_ L=>match L with
    | .mat _ _ _ _ hv'=>match Nat.beq hv' hv with
     | true=>k r.length
     | _=>.fail
    | _=>.fail
   | _=>.fail
def fldE {ρ:Type} (P:Program) (s:TypeId) (f:Nat) (v:V) (k:V→Ev ρ):Ev ρ:=match fldA P s f with
 | some h=>match shift v h with
  | some z=>live v (k z)
  | none=>.fail
 | none=>.fail
def Zue {ρ:Type}:List Operand→(V→Ev ρ)→Ev ρ
 | [],k=>k .nl
 | x :: r,k=>opd x λv=>match v with
  | .tup _=>.fail
  | v=>Zue r λc=>k (.cons v c)
def ZRe {ρ:Type}:(ts:List T)→V→(ZI ts→Ev ρ)→Ev ρ
 | [],.nl,k=>k ()
 | [t],.cons v .nl,k=>conv FU t v k
 | t :: u :: r,.cons v c,k=>conv FU t v λx=>ZRe (u :: r) c λy=>k (x,y)
 | _,_,_=>.fail
def convS {ρ:Type} (t:T):V→(List t.den→Ev ρ)→Ev ρ
 | .nl,k=>k []
 | .cons v c,k=>conv FU t v λx=>convS t c λl=>k (x :: l)
 | _,_=>.fail
def Z4c:(ts:List T)→ZI ts→V
 | [],_=>.nl
 | [t],x=>.cons (.data t x) .nl
 | t :: u :: r,x=>.cons (.data t x.1) (Z4c (u :: r) x.2)
def ZUd:V→V
 | .cons v .nl=>v
 | c=>.tup c
def appM (o:Oper) (nid:Nat) (q:EI) (p:Option Nat) (v':V):Ev Unit:=match v' with
 | .own u2=>.rdL u2 λ_ L2=>match L2 with
  | .mat ty' ty2' s' m' _=>match p with
   | none=>match Nat.beq q.e ty',Nat.beq q.sz 1 with
    | true,true=>.bind (Zy q.by_ ([]++m')) λ_=>.del u2 (.new nid (.mat ty' ty2' s' ([]++m') nid) (ret o (.own nid)))
    | _,_=>.fail
   | some u=>match Nat.beq u u2 with
    | true=>.fail
    | false=>.rdL u λ_ L=>match L with
     | .mat ty ty2 s m _=>match ZPb s' s m',Nat.beq ty ty',Nat.beq ty2 ty2',Nat.beq q.e ty,Nat.beq q.sz 1 with
      | some m2,true,true,true,true=>.bind (Zy q.by_ (m++m2)) λ_=>.del u2 (.del u (.new nid (.mat ty ty2 s (m++m2) nid) (ret o (.own nid))))
      | _,_,_,_,_=>.fail
     | _=>.fail
  | _=>.fail
 | _=>.fail
def appE (C:Cf) (o:Oper) (nid:Nat) (t:TypeId) (v v':V):Ev Unit:=match Zag C.P t with
  | none=>.fail
  | some q=>match v with
    | .own u=>.rdL u λ_ L=>match L with
      | .own _ s _ _=>conv FU (.slice s) v' λy=>.rdL u λ_ L=>match L with
        | .own ty s' l false=>match Ztc s s' y,Nat.beq q.e ty,Nat.beq q.sz s'.n with
          | some y',true,true=>.bind (Zy q.by_ (l++y')) λ_=>.del u (.new nid (.own ty s' (l++y') false) (ret o (.own nid)))
          | _,_,_=>.fail
        | _=>.fail
      | .mat _ _ _ _ _=>appM o nid q (some u) v'
      | _=>.fail
    | .row u i hv cv s r=>conv FU (.slice s) v' λ(y:List s.den)=>.rdL u λcv' L=>match L with
      | .mat ty ty2 s' m hv'=>match Nat.beq hv' hv,Nat.beq cv' cv,Ztc s s' (r++y),Nat.beq q.e ty2,Nat.beq q.sz s'.n with
        | true,true,some z,true,true=>.bind (Zy q.by_ z) λ_=>.wrL u (.mid ty ty2 s' m hv' (.hol i)) (.new nid (.own ty2 s' z false) (ret o (.own nid)))
        | _,_,_,_,_=>.fail
      | _=>.fail
    | .nilS=>match onM C o with
     | true=>appM o nid q none v'
     | false=>match Zbd C FU q.e with
      | some s=>match Nat.beq q.sz s.n with
        | true=>conv FU (.slice s) v' λ(y:List s.den)=>.bind (Zy q.by_ ([]++y)) λ_=>.new nid (.own q.e s ([]++y) false) (ret o (.own nid))
        | false=>.fail
      | none=>.fail
    | _=>.fail
def putF (P:Program) (s:TypeId):V→List (Nat×V)→Option V
 | z,[]=>some z
 | z,p :: r=>match fldT P s p.1 with
  | some h=>match szA P h.type with
   | some q=>match Nat.beq p.2.size q.1,p.2.fit,Zdb FU z h.offset p.2 with
    | true,true,some z'=>putF P s z' r
    | _,_,_=>none
   | none=>none
  | none=>none
def putA (n sz:Nat):V→List (Nat×V)→Option V
 | z,[]=>some z
 | z,p :: r=>match Nat.blt p.1 n,Nat.beq p.2.size sz,p.2.fit,Zdb FU z (p.1*sz) p.2 with
  | true,true,true,some z'=>putA n sz z' r
  | _,_,_,_=>none
def Zxl (P:Program):List Field→Bool
 | []=>true
 | h :: r=>match P.info? h.type with
  | some _=>Zxl P r
  | none=>false
def zipV:List (Nat×Operand)→V→List (Nat×V)
 | p :: r,.cons v c=>(p.1,v) :: zipV r c
 | _,_=>[]
def Zog:V→V
 | .data t x=>match ZEe t x with
  | some c=>.agg c
  | none=>.data t x
 | v=>v
def ZYk:Nat→List (Nat×Operand)→Bool
 | _,[]=>true
 | k,p :: r=>match Nat.beq p.1 k with
  | true=>ZYk (k+1) r
  | false=>false
def ZHh:Option Int→Int→Int
 | some h,_=>h
 | none,n=>n
def cutE (P:Program) (o:Oper) (t:TypeId) (v:V) (lo hi:Option Int):Ev Unit:=match v with
 | .data (.slice s) l=>match ZYi P t with
  | some q=>match Nat.beq q.2 s.n with
   | true=>.bind (ZNa l (ZHh lo 0) (ZHh hi (l.length:Int))) λy=>ret o (.data (.slice s) y)
   | false=>.fail
  | none=>.fail
 | .data .str (l:List UInt8)=>match P.underlying t with
  | some .string=>.bind (ZNa l (ZHh lo 0) (ZHh hi (l.length:Int))) λy=>ret o (.data .str y)
  | _=>.fail
 | _=>.fail
def optI {ρ:Type} (x:Option Operand) (k:Option Int→Ev ρ):Ev ρ:=match x with
 | none=>k none
 | some x=>opd x λv=>Z6a v λ_ i=>k (some i)
def insE (nid:Nat) (o:Oper) (c:ConI):V→Ev Unit
 | .cons a (.cons (.data (.int .i64) (i:Int)) (.cons (.own u2) .nl))=>.rdL u2 λ_ L2=>match L2 with
  | .own ty2 s2 l2 false=>match Nat.beq ty2 c.ty,Ztc s2 c.t l2 with
   | true,some [x]=>.del u2 (match a with
    | .own u=>.rdL u λ_ L=>match L with
     | .own ty s l false=>match Nat.beq ty c.ty,Ztc s c.t l with
      | true,some l'=>.bind (c.F l' i x) λz=>.del u (.new nid (.own c.ty c.t z false) (ret o (.own nid)))
      | _,_=>.fail
     | _=>.fail
    | .nilS=>.bind (c.F [] i x) λz=>.new nid (.own c.ty c.t z false) (ret o (.own nid))
    | _=>.fail)
   | _,_=>.fail
  | _=>.fail
 | _=>.fail
def arrE (C:Cf) (o:Oper) (t:TypeId) (s u off:Nat) (lo hi:Option Int):Ev Unit:=match Nat.beq off 0,lo,hi,C.P.underlying t with
 | true,none,none,some (.array n e)=>match Zbd C FU e,szA C.P e,Nat.blt 0 n,Nat.ble n 1000 with
  | some a,some q,true,true=>match Nat.beq q.1 a.n with
   | true=>.rdL u λ_ L=>match L with
    | .box _ c=>conv FU (Zsa a n) c λx=>.rdL u λ_ L2=>match L2 with
     | .box _ _=>.del u (.wrS s (.vp (Zsa a n) x 0) (ret o (.data (.slice a) (Z8a a n x))))
     | _=>.fail
    | _=>.fail
   | false=>.fail
  | _,_,_,_=>.fail
 | _,_,_,_=>.fail
def delE (nid:Nat) (o:Oper) (c:ConD):V→Ev Unit
 | .cons (.own u) (.cons (.data (.int .i64) (i:Int)) (.cons (.data (.int .i64) (j:Int)) .nl))=>.rdL u λ_ L=>match L with
  | .own ty s l false=>match Nat.beq ty c.ty,Ztc s c.t l with
   | true,some l'=>.bind (c.F l' i j) λz=>.del u (.new nid (.own c.ty c.t z false) (ret o (.own nid)))
   | _,_=>.fail
  | _=>.fail
 | _=>.fail
def Zyk (C:Cf) (nid:Nat) (o:Oper) (f:FuncId) (args:V):Ev Unit:=match ZT C.cons f with
 | some c=>ZRe c.args args λp=>.bind (c.F p) λz=>ret o (ZUd (Z4c c.res z))
 | none=>match ZT C.owns f with
  | some c=>ZRe c.args args λp=>.bind (c.F p) λz=>.new nid (.own c.ty c.t z false) (ret o (.own nid))
  | none=>match ZT C.ins f with
   | some c=>insE nid o c args
   | none=>match ZT C.omats f with
    | some c=>ZRe c.args args λp=>.bind (c.F p) λz=>.new nid (.mat c.ty c.ty2 c.t z nid) (ret o (.own nid))
    | none=>match ZT C.dels f with
     | some c=>delE nid o c args
     | none=>match ZT C.pows f with
      | some c=>ZRe c.args args λp=>.bind (c.F p) λz=>.new nid (.own c.ty c.t z.1 false) (ret o (.tup (.cons (.own nid) (Z4c c.res z.2))))
      | none=>.fail
def ZXp:Operand→Bool
 | .const (.pointer none)=>true
 | _=>false
def Z3 (C:Cf) (nid:Nat) (o:Oper):Ev Unit:=match o.op with
  | .move x=>opd x (ret o)
  | .assign x=>match ZXp x with
    | true=>.new nid (.box 0 .undef) (.del nid (ret o (.ptr nid 0)))
    | false=>opd x (ret o)
  | .nilCheck x=>opd x λv=>match v with
    | .data (.ptr a) y=>ret o (.vp a y 0)
    | v=>live v (ret o v)
  | .pick (.tmp c) a b=>.test c (opd a (ret o)) (opd b (ret o))
  | .extract x i=>opd x λv=>match v with
    | .tup c=>match nthV c i with
      | some z=>ret o z
      | none=>.fail
    | _=>.fail
  | .alloc t=>match ZGj C t with
    | some z=>.new nid (.box t z) (ret o (.ptr nid 0))
    | none=>.fail
  | .box t x=>opd x λv=>match v.fit with
    | true=>.new nid (.box t v) (ret o (.ptr nid 0))
    | false=>.fail
  | .load t x=>opd x λp=>match onT C o with
    | true=>takeE C.P o nid t p
    | false=>ldE C.P t p (ret o)
  | .store t x y=>match o.dst with
    | none=>opd x λp=>opd y λv=>stE C.P nid t p v
    | some _=>.fail
  | .fieldAddr s x f=>opd x λv=>fldE C.P s f v (ret o)
  | .field s x f=>opd x λv=>match fldT C.P s f,v.isAgg with
    | some h,true=>match szA C.P h.type with
      | some q=>match Zna FU v h.offset q.1 q.2 with
        | some z=>ret o z
        | none=>.fail
      | none=>.fail
    | _,_=>.fail
  | .indexAddr t x i=>opd x λv=>opd i λw=>Z6a w λ_ j=>match onA C o,onQ C o with
    | true,_=>altE C.P o t v j
    | false,true=>ixQ C o t v j
    | false,false=>ixE C.P o t v j
  | .index t x i=>opd x λv=>opd i λw=>Z6a w λ_ j=>match v with
    | .data .str (l:List UInt8)=>match C.P.underlying t with
      | some .string=>.bind (idx l j) λ(y:UInt8)=>ret o (.data (.int .u8) ((y.toNat:Nat):Int))
      | _=>.fail
    | v=>match onA C o,onQ C o with
      | true,_=>altvE C o t v j
      | false,true=>ixW C o t v j
      | false,false=>ixV C o t v j
  | .binOp op t x y _=>opd x λv=>opd y λw=>binE C.P op t v w (ret o)
  | .unOp .not _ x=>opd x λv=>Z2m v λb=>ret o (.data .bool (!b))
  | .unOp .neg _ x=>opd x λv=>Z6a v λκ i=>ret o (.data (.int κ) (κ.wrap (-i)))
  | .convert s d x=>opd x λv=>match v,C.P.underlying s,C.P.underlying d with
    | .data (.int κ) i,some _,some (.int κ')=>match kEq κ κ' with
      | true=>ret o (.data (.int κ) i)
      | false=>ret o (.data (.int κ') (κ'.wrap i))
    | .data .str (l:List UInt8),some .string,some .string=>ret o (.data .str l)
    | _,_,_=>.fail
  | .makeFunc (.func f) first cap=>match first.toList with
    | []=>Zue cap.toList λc=>ret o (.fn f c)
    | _=>.fail
  | .makeInterface t x=>opd x λv=>match v.fit with
    | true=>match C.P.underlying t with
      | some (.interface _)=>.fail
      | some _=>ret o (.ifc t v)
      | none=>.fail
    | false=>.fail
  | .makeSlice t l c=>opd l λv=>opd c λw=>Z6a v λ_ i=>Z6a w λ_ j=>match Zag C.P t,o.dst with
    | some q,some d=>.bind (mk q.by_ i j) λ_=>match ZDa C.mats d with
      | true=>match Zag C.P q.e,zSl q.z.cells.toList,Nat.beq q.sz 1 with
        | some q2,some _,true=>match Zbd C FU q2.e with
          | some s=>match Nat.beq q2.sz s.n with
            | true=>.new nid (.mat q.e q2.e s (List.replicate i.toNat []) nid) (ret o (.own nid))
            | false=>.fail
          | none=>.fail
        | _,_,_=>.fail
      | false=>match Zbd C FU q.e with
        | some s=>match Zfg s,zOK s q.z.cells.toList,Nat.beq q.sz s.n with
          | some z,some _,true=>.new nid (.own q.e s (List.replicate i.toNat z) false) (ret o (.own nid))
          | _,_,_=>.fail
        | none=>.fail
    | _,_=>.fail
  | .buildSlice t n ps=>match Zag C.P t with
    | some q=>match onM C o with
     | true=>match n,ps.toList with
      | 1,[(0,x)]=>opd x λv=>match v,Zag C.P q.e,zSl q.z.cells.toList with
        | .own u2,some q2,some _=>.rdL u2 λ_ L=>match L with
          | .own ty2 s l false=>match Nat.beq q2.e ty2,Nat.beq q2.sz s.n,Nat.beq q.sz 1 with
            | true,true,true=>.del u2 (.new nid (.mat q.e ty2 s [l] nid) (ret o (.own nid)))
            | _,_,_=>.fail
          | _=>.fail
        | _,_,_=>.fail
      | _,_=>.fail
     | false=>match Zbd C FU q.e,ZYk 0 ps.toList,Nat.beq ps.toList.length n,Nat.ble (n*q.sz) 16777216 with
      | some s,true,true,true=>match Nat.beq q.sz s.n with
        | true=>Zue (ps.toList.map (·.2)) λc=>convS s c λl=>.new nid (.own q.e s l false) (ret o (.own nid))
        | false=>.fail
      | _,_,_,_=>.fail
    | none=>.fail
  | .build t ps=>match ZGj C t,C.P.underlying t with
    | some z,some (.struct fs)=>match Zxl C.P fs.toList,(Zog z).isAgg,z.isAgg with
      | true,true,true=>match ps.toList with
        | []=>ret o z
        | l=>Zue (l.map (·.2)) λc=>match putF C.P t (Zog z) (zipV l c) with
          | some z'=>ret o z'
          | none=>.fail
      | _,_,_=>.fail
    | some z,some (.array n e)=>match C.P.info? e,(Zog z).isAgg,z.isAgg with
      | some i,true,true=>Zue (ps.toList.map (·.2)) λc=>match putA n i.size (Zog z) (zipV ps.toList c) with
        | some z'=>ret o z'
        | none=>.fail
      | _,_,_=>.fail
    | _,_=>.fail
  | .slice t x lo hi none=>optI lo λi=>optI hi λj=>opd x λv=>match v with
    | .own u=>.rdL u λ_ L=>match L with
      | .own _ s _ _=>conv FU (.slice s) v λl=>cutE C.P o t (.data (.slice s) l) i j
      | _=>.fail
    | .data (.leaf 0) (n:Nat)=>cutE C.P o t (.data (.slice (.int .u64)) (Zc 18446744073709551616 n)) i j
    | .data (.leaf 1) (n:Nat)=>cutE C.P o t (.data (.slice (.int .u32)) (Zc 4294967296 n)) i j
    | .ptr u off=>match x with
      | .tmp s=>arrE C o t s u off i j
      | _=>.fail
    | v=>cutE C.P o t v i j
  | .call c=>match c.callee with
    | .builtin .len=>match c.args.toList,c.argTypes.toList with
      | [x],[t]=>opd x λv=>lenE C.P t v λn=>ret o (.data (.int .i64) (n:Int))
      | _,_=>.fail
    | .builtin .append=>match c.args.toList,c.argTypes.toList with
      | [x,y],[t,t']=>match Nat.beq t t' with
        | true=>opd x λv=>opd y λw=>appE C o nid t v w
        | false=>.fail
      | _,_=>.fail
    | .builtin .max=>match c.args.toList with
      | [x,y]=>opd x λv=>opd y λw=>Z6a v λκ i=>Z6a w λκ' j=>match kEq κ κ' with
        | true=>ret o (.data (.int κ) (max i j:Int))
        | false=>.fail
      | [x,y,z]=>opd x λv=>opd y λw=>opd z λu=>Z6a v λκ i=>Z6a w λκ' j=>Z6a u λκ'' k=>match kEq κ κ',kEq κ κ'' with
        | true,true=>ret o (.data (.int κ) (max (max i j) k:Int))
        | _,_=>.fail
      | [x1,x2,x3,x4,x5,x6]=>opd x1 λv1=>opd x2 λv2=>opd x3 λv3=>opd x4 λv4=>opd x5 λv5=>opd x6 λv6=>Z6a v1 λκ i1=>Z6a v2 λκ2 i2=>Z6a v3 λκ3 i3=>Z6a v4 λκ4 i4=>Z6a v5 λκ5 i5=>Z6a v6 λκ6 i6=>match kEq κ κ2,kEq κ κ3,kEq κ κ4,kEq κ κ5,kEq κ κ6 with
        | true,true,true,true,true=>ret o (.data (.int κ) (max (max (max (max (max i1 i2) i3) i4) i5) i6:Int))
        | _,_,_,_,_=>.fail
      | _=>.fail
    | .builtin .min=>match c.args.toList with
      | [x,y]=>opd x λv=>opd y λw=>Z6a v λκ i=>Z6a w λκ' j=>match kEq κ κ' with
        | true=>ret o (.data (.int κ) (min i j:Int))
        | false=>.fail
      | _=>.fail
    | .value x=>opd x λfv=>Zue c.args.toList λags=>match fv with
      | .fn f .nl=>Zyk C nid o f ags
      | _=>.fail
    | .invoke x m=>opd x λr=>Zue c.args.toList λags=>match r with
      | .ifc t v=>match lkM C.meths t m with
        | some f=>Zyk C nid o f (.cons v ags)
        | none=>.fail
      | _=>.fail
    | _=>.fail
  | _=>.fail
def Zph (o:Oper):Ev Unit:=match o.dst with
 | some d=>.wrS d .undef (.done ())
 | none=>.done ()
def gop (C:Cf) (ops:List Oper) (nid:Nat) (o:Oper):Ev Unit:=match o.guard with
 | none=>Z3 C nid o
 | some (j,w)=>match ops[j]? with
  | some q=>match q.dst with
   | some t=>.rdS t λx=>match x with
    | .undef=>Zph o
    | .data .bool _=>match w with
     | true=>.test t (Z3 C nid o) (Zph o)
     | false=>.test t (Zph o) (Z3 C nid o)
    | _=>.fail
   | none=>.fail
  | none=>.fail
structure Fp where
 rs:Nat
 ws:Nat
 rl:Nat
 wl:Nat
def Fp.no:Fp:=⟨0,0,0,0⟩
def bit (m k:Nat):Nat:=Nat.lor m (Nat.pow 2 k)
def ZHb {ρ α:Type} (n:Nat):Ev ρ→Fr→Lo→Fp→(ρ→Fr→Lo→Fp→Option α)→Option α
 | .fail,_,_,_,_=>none
 | .done r,f,l,p,K=>K r f l p
 | .rdS t k,f,l,p,K=>match lkE f t with
  | some x=>ZHb n (k x.x) f l ⟨bit p.rs t,p.ws,p.rl,p.wl⟩ K
  | none=>none
 | .rdL u k,f,l,p,K=>match lkE l u with
  | some x=>ZHb n (k x.st x.x) f l ⟨p.rs,p.ws,bit p.rl u,p.wl⟩ K
  | none=>none
 | .wrS t x e,f,l,p,K=>ZHb n e (⟨t,n,x⟩ :: f) l ⟨p.rs,bit p.ws t,p.rl,p.wl⟩ K
 | .wrL u L e,f,l,p,K=>ZHb n e f (⟨u,n,L⟩ :: era l u) ⟨p.rs,p.ws,p.rl,bit p.wl u⟩ K
 | .new u L e,f,l,p,K=>match lkE l u with
  | none=>ZHb n e f (⟨u,n,L⟩ :: l) ⟨p.rs,p.ws,bit p.rl u,bit p.wl u⟩ K
  | some _=>none
 | .del u e,f,l,p,K=>ZHb n e f (era l u) ⟨p.rs,p.ws,p.rl,bit p.wl u⟩ K
 | .bind x k,f,l,p,K=>bnd x λy=>ZHb n (k y) f l p K
 | .test t e1 e2,f,l,p,K=>match lkE f t with
  | some ⟨_,s,.data .bool b⟩=>ifb b (ZHb n e1 (⟨t,s,.data .bool true⟩ :: f) l ⟨bit p.rs t,p.ws,p.rl,p.wl⟩ K) (ZHb n e2 (⟨t,s,.data .bool false⟩ :: f) l ⟨bit p.rs t,p.ws,p.rl,p.wl⟩ K)
  | _=>none
 | .alt b e1 e2,f,l,p,K=>ifb b (ZHb n e1 f l p K) (ZHb n e2 f l p K)
def Fp.free (p q:Fp):Bool:=Nat.beq (Nat.lor (Nat.lor (Nat.land p.ws (Nat.lor q.rs q.ws)) (Nat.land p.rs q.ws)) (Nat.lor (Nat.land p.wl (Nat.lor q.rl q.wl)) (Nat.land p.rl q.wl))) 0
def ZWc (done:List Nat):List Edge→Nat→Nat
 | [],m=>m
 | e :: r,m=>match Region.binds .any e with
  | true=>ZWc done r (Nat.lor (bit m e.on) (done.getD e.on 0))
  | false=>ZWc done r m
def Zbb:List Oper→List Nat→List Nat
 | [],done=>done
 | o :: r,done=>Zbb r (done++[ZWc done o.after.toList 0])
def chk1 (m:Nat) (q:Fp):List Fp→Nat→Bool
 | [],_=>true
 | p :: r,i=>match Nat.testBit m i with
  | true=>chk1 m q r (i+1)
  | false=>match p.free q with
   | true=>chk1 m q r (i+1)
   | false=>false
def Zie:List Fp→List Nat→List Fp→Bool
 | _,_,[]=>true
 | bef,m :: ms,q :: qs=>match chk1 m q bef 0 with
  | true=>Zie (bef++[q]) ms qs
  | false=>false
 | _,[],_ :: _=>false
def ZZh (i:Nat):List Edge→Bool
 | []=>true
 | e :: r=>match Region.binds .any e with
  | true=>match Nat.blt e.on i with
   | true=>ZZh i r
   | false=>false
  | false=>ZZh i r
def ZVe:Nat→List Oper→Bool
 | _,[]=>true
 | i,o :: r=>match ZZh i o.after.toList with
  | true=>ZVe (i+1) r
  | false=>false
def sm:Nat→(Nat→Rat)→Rat
 | 0,_=>0
 | n+1,f=>sm n f+f n
theorem ZR {n:Nat} {f g:Nat→Rat} (h:∀ j,j<n→f j=g j):sm n f=sm n g:=by
 induction n with
 | zero=>rfl
 | succ n ih=>simp only[sm];rw[ih λj hj=>h j (by omega),h n (by omega)]
theorem ZUf (n:Nat) (f g:Nat→Rat):sm n (λj=>f j+g j)=sm n f+sm n g:=by
 induction n with
 | zero=>show (0:Rat)=0+0;grind
 | succ n ih=>simp only[sm];rw[ih];grind
theorem ZFb (n:Nat) (c:Rat) (f:Nat→Rat):sm n (λj=>c*f j)=c*sm n f:=by
 induction n with
 | zero=>show (0:Rat)=c*0;grind
 | succ n ih=>simp only[sm];rw[ih];grind
theorem Zvc {n:Nat} {f:Nat→Rat} (h:∀ j,j<n→f j=0):sm n f=0:=by
 induction n with
 | zero=>rfl
 | succ n ih=>simp only[sm];rw[ih λj hj=>h j (by omega),h n (by omega)];grind
theorem Z3e {n k:Nat} {f:Nat→Rat} (hk:k<n) (h:∀ j,j<n→j≠k→f j=0):sm n f=f k:=by
 induction n with
 | zero=>omega
 | succ n ih =>
  simp only[sm];by_cases e:k=n
  ·subst e;rw[Zvc λj hj=>h j (by omega) (by omega)];grind
  ·rw[ih (by omega) λj hj hne=>h j (by omega) hne,h n (by omega) (by omega)];grind
theorem Zqh (n:Nat) (f g:Nat→Rat):sm n (λj=>f j-g j)=sm n f-sm n g:=by
 induction n with
 | zero=>show (0:Rat)=0-0;grind
 | succ n ih=>simp only[sm];rw[ih];grind
theorem Zcj (n m:Nat) (f:Nat→Nat→Rat):sm n (λi=>sm m (f i))=sm m (λj=>sm n λi=>f i j):=by
 induction n with
 | zero=>exact (Zvc λj hj=>rfl).symm
 | succ n ih =>
  simp only[sm];rw[ih,← ZUf]
abbrev Mx:=Nat→Nat→Rat
def Ker (R n:Nat) (M:Mx) (v:Nat→Rat):Prop:=∀ i,i<R→sm n (λj=>M i j*v j)=0
structure StepR (R n:Nat) (M M':Mx) (c top p:Nat):Prop where
 tp:top≤p
 pR:p<R
 cn:c<n
 nz:M p c≠0
 tr:∀ j,j<n→M' top j=M p j / M p c
 pr:p≠top→∀ j,j<n→M' p j=M top j-M top c*(M p j / M p c)
 ot:∀ i,i<R→i≠top→i≠p→∀ j,j<n→M' i j=M i j-M i c*(M p j / M p c)
theorem StepR.ker {R n:Nat} {M M':Mx} {c top p:Nat} (h:StepR R n M M' c top p) (v:Nat→Rat):Ker R n M' v↔Ker R n M v:=by
 have htR:top<R:=by have:=h.tp;have:=h.pR;omega
 have hf:=h.nz;have st:sm n (λj=>M' top j*v j)=sm n (λj=>M p j*v j) / M p c:=by
  rw[ZR (g:=λj=>(1 / M p c)*(M p j*v j)) λj hj=>by rw[h.tr j hj];grind];rw[ZFb];grind
 have so:∀ (r:Nat→Rat) (r':Nat→Rat) (q:Rat),(∀ j,j<n→r' j=r j-q*(M p j / M p c))→sm n (λj=>r' j*v j)=sm n (λj=>r j*v j)-q*(sm n (λj=>M p j*v j) / M p c):=λr r' q hr=>by
  rw[ZR (g:=λj=>r j*v j-(q / M p c)*(M p j*v j)) λj hj=>by rw[hr j hj];grind];rw[Zqh,ZFb];grind
 constructor
 ·intro k;have k0:=k top htR;rw[st]at k0;have hp0:sm n (λj=>M p j*v j)=0:=by grind
  intro i hi;by_cases hip:i=p
  ·subst hip;exact hp0
  ·by_cases hit:i=top
   ·subst hit;have:=k p h.pR;rw[so _ _ _ (h.pr (λe=>hip e.symm)),hp0]at this;grind
   ·have:=k i hi;rw[so _ _ _ (h.ot i hi hit hip),hp0]at this;grind
 ·intro k;have hp0:=k p h.pR;intro i hi;by_cases hit:i=top
  ·subst hit;rw[st,hp0];grind
  ·by_cases hip:i=p
   ·subst hip;rw[so _ _ _ (h.pr hit),k top htR,hp0];grind
   ·rw[so _ _ _ (h.ot i hi hit hip),k i hi,hp0];grind
structure Eli (R n:Nat) (M0 M:Mx) (piv:List Nat) (k:Nat):Prop where
 le:piv.length≤R
 lt:∀ c,c ∈ piv→c<k
 inc:piv.Pairwise (· < ·)
 one:∀ j c,piv[j]? = some c→∀ i,i<R→M i c=if i=j then 1 else 0
 low:∀ i,piv.length≤i→i<R→∀ c,c<k→M i c=0
 left:∀ j c,piv[j]? = some c→∀ d,d<c→M j d=0
 ker:∀ v,Ker R n M v↔Ker R n M0 v
 rsp:∃ E:Mx,∀ i,i<R→∀ j,j<n→M i j=sm R λk=>E i k*M0 k j
theorem Eli.start (R n:Nat) (M:Mx):Eli R n M M [] 0 :=
 ⟨Nat.zero_le _,λc h=>by simp at h,List.Pairwise.nil,λj c h=>by simp at h,λi _ _ c h=>by omega,λj c h=>by simp at h,λv=>Iff.rfl,λi k=>if k=i then 1 else 0,λi hi j hj=>by
  rw[Z3e hi λk hk hne=>by show (if k=i then (1:Rat) else 0)*M k j=0;rw[iN hne];exact Rat.zero_mul _]
  show M i j=(if i=i then (1:Rat) else 0)*M i j
  rw[iP rfl];exact (Rat.one_mul _).symm⟩
theorem Eli.skip {R n k:Nat} {M0 M:Mx} {piv:List Nat} (h:Eli R n M0 M piv k) (hz:∀ i,piv.length≤i→i<R→M i k=0):Eli R n M0 M piv (k+1) :=
 ⟨h.le,λc hc=>by have:=h.lt c hc;omega,h.inc,h.one,λi h1 h2 c hc=>by
  rcases Nat.lt_or_ge c k with h3 | h3
  ·exact h.low i h1 h2 c h3
  ·rw[show c=k by omega];exact hz i h1 h2,h.left,h.ker,h.rsp⟩
theorem alg1 (a b c:Rat):a / c*b=1 / c*(a*b):=by grind
theorem alg2 (x y b c q:Rat):(x-q*(y / c))*b=x*b-q / c*(y*b):=by grind
theorem alg3 (x s c q:Rat):x-q / c*s=x-q*(s / c):=by grind
theorem alg4 (s c:Rat):s / c=1 / c*s:=by grind
theorem Eli.step {R n k p:Nat} {M0 M M':Mx} {piv:List Nat} (h:Eli R n M0 M piv k) (s:StepR R n M M' k piv.length p):Eli R n M0 M' (piv++[k]) (k+1):=by
 have tp:=s.tp;have pR:=s.pR;have cn:=s.cn;have hf:=s.nz;have top:∀ d,d<k→M p d=0:=λd hd=>h.low p tp pR d hd;have get:∀ j c,(piv++[k])[j]? = some c→(j<piv.length∧piv[j]? = some c∧c<k)∨(j=piv.length∧c=k):=λj c hj=>by
  rcases Nat.lt_or_ge j piv.length with h1 | h1
  ·rw[List.getElem?_append_left h1]at hj;exact .inl ⟨h1,hj,h.lt c (mG hj)⟩
  ·rw[List.getElem?_append_right h1]at hj;obtain⟨h2,h3⟩:=List.getElem?_eq_some_iff.1 hj;simp at h2 h3;exact .inr ⟨by omega,by first | exact h3.symm | exact h3⟩
 have row:∀ i,i<R→i≠piv.length→∀ d,d<n→M p d=0→M' i d=if i=p then M piv.length d else M i d:=λi hi hit d hd hz=>by
  by_cases hip:i=p
  ·subst hip;rw[iP rfl,s.pr hit d hd,hz];grind
  ·rw[iN hip,s.ot i hi hit hip d hd,hz];grind
 refine⟨by simp;omega,λc hc=>?_,?_,λj c hj i hi=>?_,λi h1 h2 d hd=>?_,λj c hj d hd=>?_,λv=>(s.ker v).trans (h.ker v),?_⟩
 ·rcases List.mem_append.1 hc with h1 | h1
  ·have:=h.lt c h1;omega
  ·rw[List.mem_singleton.1 h1];omega
 ·refine List.pairwise_append.2 ⟨h.inc,List.pairwise_singleton _ _,λa ha b hb=>?_⟩;rw[List.mem_singleton.1 hb];exact h.lt a ha
 ·rcases get j c hj with ⟨g1,g2,g3⟩ | ⟨rfl,rfl⟩
  ·have hp:M p c=0:=top c g3;by_cases hit:i=piv.length
   ·subst hit;rw[s.tr c (by omega),hp,iN (by omega)];grind
   ·rw[row i hi hit c (by omega) hp];by_cases hip:i=p
    ·subst hip;rw[iP rfl,h.one j c g2 piv.length (by omega),iN (by omega),iN (by omega)]
    ·rw[iN hip,h.one j c g2 i hi]
  ·by_cases hit:i=piv.length
   ·subst hit;rw[iP rfl,s.tr c cn];grind
   ·rw[iN hit];by_cases hip:i=p
    ·subst hip;rw[s.pr hit c cn];grind
    ·rw[s.ot i hi hit hip c cn];grind
 ·simp at h1;by_cases hdk:d=k
  ·subst hdk;by_cases hip:i=p
   ·subst hip;rw[s.pr (by omega) d cn];grind
   ·rw[s.ot i h2 (by omega) hip d cn];grind
  ·have hd:d<k:=by omega
   rw[row i h2 (by omega) d (by omega) (top d hd)];split
   ·exact h.low _ (Nat.le_refl _) (by omega) d hd
   ·exact h.low i (by omega) h2 d hd
 ·rcases get j c hj with ⟨g1,g2,g3⟩ | ⟨rfl,rfl⟩
  ·rw[row j (by omega) (by omega) d (by omega) (top d (by omega)),iN (by omega)];exact h.left j c g2 d hd
  ·rw[s.tr d (by omega),top d hd];grind
 ·obtain⟨E,hE⟩:=h.rsp;have htR:piv.length<R:=by omega
  have cmb:∀ (x y:Nat→Rat) (q:Rat) (j:Nat),sm R (λl=>(x l-q*(y l / M p k))*M0 l j)=sm R (λl=>x l*M0 l j)-q*(sm R (λl=>y l*M0 l j) / M p k):=λx y q j=>by
   rw[ZR (g:=λl=>x l*M0 l j-(q / M p k)*(y l*M0 l j)) λl hl=>alg2 _ _ _ _ _,Zqh,ZFb,alg3]
  refine⟨λi l=>if i=piv.length then E p l / M p k else (if i=p then E piv.length l else E i l)-(if i=p then M piv.length k else M i k)*(E p l / M p k),λi hi j hj=>?_⟩;by_cases hit:i=piv.length
  ·subst hit;simp only[if_true];rw[s.tr j hj,hE p pR j hj,ZR (g:=λl=>(1 / M p k)*(E p l*M0 l j)) λl hl=>alg1 _ _ _,ZFb,alg4]
  ·simp only[iN hit];by_cases hip:i=p
   ·subst hip;simp only[if_true];rw[s.pr hit j hj,cmb,← hE i pR j hj,← hE piv.length htR j hj]
   ·simp only[iN hip];rw[s.ot i hi hit hip j hj,cmb,← hE p pR j hj,← hE i hi j hj]
theorem Zwi {l:List Nat} (h:l.Pairwise (· < ·)) {i j:Nat} {a b:Nat} (hi:l[i]? = some a) (hj:l[j]? = some b) (hij:i<j):a<b:=by
 obtain⟨h1,h2⟩:=List.getElem?_eq_some_iff.1 hi;obtain⟨h3,h4⟩:=List.getElem?_eq_some_iff.1 hj;have:=List.pairwise_iff_getElem.1 h i j h1 h3 hij;rw[h2,h4]at this;exact this
theorem Zkr {l:List Nat} (h:l.Pairwise (· < ·)) {i j:Nat} {a:Nat} (hi:l[i]? = some a) (hj:l[j]? = some a):i=j:=by
 rcases Nat.lt_trichotomy i j with h1 | h1 | h1
 ·have:=Zwi h hi hj h1;omega
 ·exact h1
 ·have:=Zwi h hj hi h1;omega
theorem ZVq {l:List Nat} (h:l.Pairwise (· < ·)):∀ {i a:Nat},l[i]? = some a→i≤a
 | 0,_,_=>Nat.zero_le _
 | i+1,a,hi=>by
  have hlt:=(List.getElem?_eq_some_iff.1 hi).1
  have h1:l[i]? = some l[i]:=List.getElem?_eq_getElem (by omega)
  have:=ZVq h h1
  have:=Zwi h h1 hi (by omega)
  omega
theorem Zch {l:List Nat} {n:Nat} (h:l.Pairwise (· < ·)) (hn:∀ c,c ∈ l→c<n):l.length≤n:=by
 rcases Nat.eq_zero_or_pos l.length with h0 | h0
 ·omega
 ·have h1:l[l.length-1]? = some l[l.length-1]:=List.getElem?_eq_getElem (by omega);have:=ZVq h h1;have:=hn _ (mG h1);omega
theorem inc_gap {l:List Nat} {n:Nat} (h:l.Pairwise (· < ·)) (hn:∀ c,c ∈ l→c<n) (hl:l.length<n):∃ j,j<n∧j ∉ l:=by
 refine Classical.byContradiction λhc=>?_;have hall:∀ j,j<n→j ∈ l:=λj hj=>Classical.byContradiction λhm=>hc ⟨j,hj,hm⟩;have key:∀ j,j<n→∀ i,l[i]? = some j→j≤i:=λj=>by
  induction j with
  | zero=>intro _ i _;omega
  | succ j ih =>
   intro hj i hi;obtain⟨i',hi'⟩:=List.getElem?_of_mem (hall j (by omega));have h1:=ih (by omega) i' hi';rcases Nat.lt_trichotomy i' i with h2 | h2 | h2
   ·omega
   ·subst h2;rw[hi]at hi';cases hi'
   ·have:=Zwi h hi hi' h2;omega
 rcases Nat.eq_zero_or_pos n with h0 | h0
 ·omega
 ·obtain⟨i,hi⟩:=List.getElem?_of_mem (hall (n-1) (by omega));have h1:=key (n-1) (by omega) i hi;have h2:=(List.getElem?_eq_some_iff.1 hi).1;omega
section
variable {R n:Nat} {M0 M:Mx} {piv:List Nat}
theorem Eli.row (h:Eli R n M0 M piv n) {i c:Nat} (hc:piv[i]? = some c) (v:Nat→Rat):sm n (λj=>M i j*v j)=v c+sm n (λj=>if j ∈ piv then 0 else M i j*v j):=by
 have hi:i<R:=by have:=(List.getElem?_eq_some_iff.1 hc).1;have:=h.le;omega
 have hcn:c<n:=h.lt c (mG hc);have e:sm n (λj=>M i j*v j)=sm n (λj=>(if j ∈ piv then M i j*v j else 0)+(if j ∈ piv then 0 else M i j*v j)):=ZR λj hj=>by split <;> grind
 rw[e,ZUf];congr 1;rw[Z3e hcn λj hj hne=>?_]
 ·rw[iP (mG hc),h.one i c hc i hi,iP rfl];grind
 ·split
  ·rename_i hm;obtain⟨k,hk⟩:=List.getElem?_of_mem hm;rw[h.one k j hk i hi,iN (λe=>by subst e;rw[hc]at hk;cases hk;exact hne rfl)];grind
  ·rfl
theorem Eli.ker_iff (h:Eli R n M0 M piv n) (v:Nat→Rat):Ker R n M0 v ↔ ∀ i c,piv[i]? = some c→v c+sm n (λj=>if j ∈ piv then 0 else M i j*v j)=0:=by
 rw[← h.ker v];constructor
 ·intro k i c hc;rw[← h.row hc];have:=(List.getElem?_eq_some_iff.1 hc).1;exact k i (by have:=h.le;omega)
 ·intro k i hi;rcases Nat.lt_or_ge i piv.length with h1 | h1
  ·have hc:piv[i]? = some piv[i]:=List.getElem?_eq_getElem h1;rw[h.row hc];exact k i _ hc
  ·exact Zvc λj hj=>by rw[h.low i h1 hi j hj];grind
def kv (M:Mx) (piv:List Nat) (j:Nat):Nat→Rat:=λd=>if d=j then 1 else match piv.idxOf? d with
 | some i=>- M i j
 | none=>0
theorem ZCh {l:List Nat} (h:l.Pairwise (· < ·)) {i c:Nat} (hc:l[i]? = some c):l.idxOf? c=some i:=by
 cases hx:l.idxOf? c with
 | none=>exact absurd (mG hc) (by simpa using hx)
 | some k =>
  have h1:l[k]? = some c:=by
   unfold List.idxOf? at hx;obtain⟨h2,h3,_⟩:=List.findIdx?_eq_some_iff_getElem.1 hx;rw[List.getElem?_eq_getElem h2];simpa using h3
  rw[Zkr h h1 hc]
theorem ZFl (h:piv.Pairwise (· < ·)) {j:Nat} (hj:j ∉ piv) {i c:Nat} (hc:piv[i]? = some c):kv M piv j c = - M i j:=by
 unfold kv;rw[iN (λe=>by subst e;exact hj (mG hc)),ZCh h hc]
theorem Z2h {j:Nat}:kv M piv j j=1:=iP rfl
theorem Zzj {j d:Nat} (hd:d ∉ piv) (hne:d≠j):kv M piv j d=0:=by
 unfold kv;rw[iN hne]
 cases hx:piv.idxOf? d with
 | none=>rfl
 | some k =>
  unfold List.idxOf? at hx;obtain⟨h2,h3,_⟩:=List.findIdx?_eq_some_iff_getElem.1 hx;exact absurd (List.getElem_mem h2) (by simp at h3;rw[h3];exact hd)
theorem Eli.kv_ker (h:Eli R n M0 M piv n) {j:Nat} (hj:j<n) (hp:j ∉ piv):Ker R n M0 (kv M piv j):=by
 refine (h.ker_iff _).2 λi c hc=>?_;rw[ZFl h.inc hp hc,Z3e hj λd hd hne=>?_,iN hp,Z2h]
 ·grind
 ·split
  ·rfl
  ·rename_i hm;rw[Zzj hm hne];grind
theorem Eli.span (h:Eli R n M0 M piv n) {v:Nat→Rat} (hv:Ker R n M0 v):∀ d,d<n→v d=sm n (λj=>if j ∈ piv then 0 else v j*kv M piv j d):=by
 intro d hd;by_cases hm:d ∈ piv
 ·obtain⟨i,hi⟩:=List.getElem?_of_mem hm;have:=(h.ker_iff v).1 hv i d hi;have e:sm n (λj=>if j ∈ piv then 0 else v j*kv M piv j d)=(-1)*sm n (λj=>if j ∈ piv then 0 else M i j*v j):=by
   rw[← ZFb];refine ZR λj hj=>?_;split
   ·grind
   ·rename_i hp;rw[ZFl h.inc hp hi];grind
  rw[e];grind
 ·rw[Z3e hd λj hj hne=>?_,iN hm,Z2h]
  ·grind
  ·split
   ·rfl
   ·rename_i hp;rw[Zzj hm (λe=>hne e.symm)];grind
theorem Eli.more (h:Eli R n M0 M piv n) (hl:piv.length<n):∃ v j,j<n∧v j≠0∧Ker R n M0 v:=by
 obtain⟨j,hj,hp⟩:=inc_gap h.inc h.lt hl;exact⟨_,j,hj,by rw[Z2h];decide,h.kv_ker hj hp⟩
end
def Sol (R n:Nat) (M:Mx) (b x:Nat→Rat):Prop:=∀ i,i<R→sm n (λj=>M i j*x j)=b i
def aug (n:Nat) (M:Mx) (b:Nat→Rat):Mx:=λi j=>if j=n then b i else M i j
theorem Zdp {R n:Nat} {M:Mx} {b x:Nat→Rat}:Ker R (n+1) (aug n M b) (λj=>if j=n then -1 else x j)↔Sol R n M b x:=by
 refine forall_congr' λi=>forall_congr' λhi=>?_;simp only[sm,aug,if_true];rw[ZR (g:=λj=>M i j*x j) λj hj=>by rw[iN (by omega),iN (by omega)]];constructor <;> intro h <;> grind
section
variable {R n:Nat} {N M:Mx} {b:Nat→Rat} {piv:List Nat}
theorem Eli.none (h:Eli R (n+1) (aug n N b) M piv (n+1)) (hn:n ∈ piv) (x:Nat→Rat):¬ Sol R n N b x:=λhs=>by
 obtain⟨i,hi⟩:=List.getElem?_of_mem hn
 have:=(h.ker_iff _).1 (Zdp.2 hs) i n hi
 rw[Zvc λj hj=>?_,iP rfl]at this
 ·grind
 ·split
  ·rfl
  ·rename_i hp
   rw[h.left i n hi j (by have:j≠n:=λe=>hp (e ▸ hn);omega)];grind
def pv (M:Mx) (piv:List Nat) (n:Nat):Nat→Rat:=λd=>match piv.idxOf? d with
 | some i=>M i n
 | none=>0
theorem Eli.pv_sol (h:Eli R (n+1) (aug n N b) M piv (n+1)) (hn:n ∉ piv):Sol R n N b (pv M piv n):=by
 refine Zdp.1 ((h.ker_iff _).2 λi c hc=>?_);have hcn:c≠n:=λe=>hn (e ▸ mG hc);rw[iN hcn];have e1:pv M piv n c=M i n:=by unfold pv;rw[ZCh h.inc hc]
 rw[e1,Z3e (k:=n) (by omega) λj hj hne=>?_,iN hn,iP rfl]
 ·grind
 ·split
  ·rfl
  ·rename_i hp;have:pv M piv n j=0:=by
    unfold pv
    cases hx:piv.idxOf? j with
    | none=>rfl
    | some k =>
     unfold List.idxOf? at hx;obtain⟨h2,h3,_⟩:=List.findIdx?_eq_some_iff_getElem.1 hx;exact absurd (List.getElem_mem h2) (by simp at h3;rw[h3];exact hp)
   rw[this];grind
end
noncomputable def ZZp (a:(List Int)):Option (Bool) :=
 bnd (ifb (((a.length:Int))==(1:Int))
 (bnd (idx a (0:Int)) λb =>
 some (b==(1:Int)))
 (some false))
 (λ(c:Bool) =>
 (some c))
noncomputable def cut_m (a:(List Int)):Option ((List Int)) :=
 bnd (bnd (Zh (λs:(List Int)=>match s with
| b =>
 (bnd (ifb (decide ((0:Int)<(b.length:Int)))
 (bnd (chk .i64 (((b.length:Int))-(1:Int))) λc =>
 bnd (idx b c) λd =>
 some (d==(0:Int)))
 (some false))
 (λ(e:Bool) =>
 (ifb (e)
 (bnd (chk .i64 (((b.length:Int))-(1:Int))) λf =>
 bnd (ZNa b (0:Int) f) λg =>
 some (.inl g))
 (some (.inr b)))))) Zj a)
 (λ(h:(List Int)) =>
 (some h)))
 (λ(i:(List Int)) =>
 (some i))
noncomputable def cmp_m (a:(List Int)) (b:(List Int)):Option (Int) :=
 ifb (((a.length:Int)) != ((b.length:Int)))
 (ifb (decide ((a.length:Int)<(b.length:Int)))
 (some (-1:Int))
 (some (1:Int)))
 (bnd (chk .i64 (((a.length:Int))-(1:Int))) λd =>
 bnd (bnd (Zh (λs:Int=>match s with
| c =>
 (ifb (decide ((0:Int)≤c))
 (bnd (idx a c) λe =>
 bnd (idx b c) λf =>
 ifb (decide (e<f))
 (some (.inr ((.inl (-1:Int)))))
 (bnd (idx a c) λg =>
 bnd (idx b c) λh =>
 ifb (decide (h<g))
 (some (.inr ((.inl (1:Int)))))
 (bnd (chk .i64 (c-(1:Int))) λi =>
 some (.inl i))))
 (some (.inr ((.inr (()))))))) Zj d)
 (λ(p:(Int) ⊕ (Unit))=>match p with
| .inl j =>
 (some ((.inr j)))
| .inr (()) =>
 (some ((.inl (()))))))
 (λ(p:(Unit) ⊕ (Int))=>match p with
| .inl (()) =>
 (some (0:Int))
| .inr k =>
 (some k)))
noncomputable def ZHm (a:Nat) (b:Nat):Option (Int) :=
 bnd (ifb (decide ((0:Int)<(((Zc 18446744073709551616 a)).length:Int)))
 (bnd (idx ((Zc 18446744073709551616 a)) (0:Int)) λe =>
 some e)
 (some (0:Int)))
 (λ(f:Int) =>
 (bnd (idx ((Zc 18446744073709551616 b)) (0:Int)) λg =>
 bnd (bnd (Zh (λs:Int×Int=>match s with
| (d,c) =>
 (ifb (decide ((0:Int)<c))
 (bnd (rem .u64 d c) λh =>
 some (.inl ((c,h))))
 (some (.inr d)))) Zj ((f,g)))
 (λ(i:Int) =>
 (some i)))
 (λ(j:Int) =>
 (some j))))
theorem ZKx {n:Nat}:ZZp (Zc 18446744073709551616 n)=some (decide (n=1)):=by
 unfold ZZp;by_cases h:n=1
 ·subst h;rw[Zhl (by omega) (by decide)];rfl
 ·by_cases h0:n=0
  ·subst h0;rw[Z7];rfl
  ·rw[Zqc (by decide) h0];by_cases h2:n / 18446744073709551616=0
   ·rw[h2,Z7];have:n%18446744073709551616=n:=Nat.mod_eq_of_lt (by have:=Nat.mod_add_div n 18446744073709551616;rw[h2]at this;have:=Nat.mod_lt n (show 0<18446744073709551616 by decide);omega);simp[ifb,bnd,idx,this,h];omega
   ·have h3:Zc 18446744073709551616 (n / 18446744073709551616)≠[]:=λe=>h2 ((ZFh (by decide)).1 e);have h4:0<(Zc 18446744073709551616 (n / 18446744073709551616)).length:=List.length_pos_iff.2 h3;have h5:((((n%18446744073709551616:Nat):Int) :: Zc 18446744073709551616 (n / 18446744073709551616)).length:Int)==1↔False:=by
     simp only[List.length_cons,beq_iff_eq,iff_false];omega
    have h6:(((((n%18446744073709551616:Nat):Int) :: Zc 18446744073709551616 (n / 18446744073709551616)).length:Int)==1)=false:=by simpa using h5
    rw[h6];simp[ifb,bnd,h]
theorem cut_eq {a:List Int} (ha:Dig 18446744073709551616 a) (hl:a.length≤9223372036854775807):cut_m a=some (Zc 18446744073709551616 (val 18446744073709551616 a)):=by
 unfold cut_m;rw[Zkk (r:=Zc 18446744073709551616 (val 18446744073709551616 a)) (λs=>Dig 18446744073709551616 s∧s.length≤9223372036854775807∧val 18446744073709551616 s=val 18446744073709551616 a) List.length ⟨ha,hl,rfl⟩ (ZX (by omega)) ?_]
 ·rfl
 ·rintro s ⟨h1,h2,h3⟩;by_cases h0:s=[]
  ·subst h0;right;rw[← h3];show some (Sum.inr [])=_;rw[show val 18446744073709551616 []=0 from rfl,Z7]
  ·have hp:0<s.length:=List.length_pos_iff.2 h0;have e1:decide ((0:Int)<(s.length:Int))=true:=dTq (by omega);have e2:chk .i64 ((s.length:Int)-1)=some ((s.length-1:Nat):Int):=by
    rw[Zi (by omega) (by omega)];congr 1;omega
   have e3:idx s ((s.length-1:Nat):Int)=some (s[s.length-1]'(by omega)):=Zu (by omega);simp only[e1,Ze,e2,Za,e3];by_cases hz:s[s.length-1]'(by omega)=0
   ·left;have e4:((s[s.length-1]'(by omega))==0)=true:=by simp[hz]
    simp only[e4,Ze];have e5:ZNa s 0 ((s.length-1:Nat):Int)=some (s.take (s.length-1)):=by
     unfold ZNa;rw[iP ⟨by omega,by omega,by omega⟩];simp
    rw[e5];refine⟨_,rfl,⟨h1.take _,by simp;omega,?_⟩,by simp;omega⟩;have:=Z5a (B:=18446744073709551616) (l:=s) (i:=s.length-1) (by omega);rw[hz]at this;have h4:s.length-1+1=s.length:=by omega
    rw[h4,List.take_length]at this;simp at this;omega
   ·right;have e4:((s[s.length-1]'(by omega))==0)=false:=by simp[hz]
    simp only[e4,Zd];have hc:Cut s:=by
     intro x hx;rw[List.getLast?_eq_getElem?,List.getElem?_eq_getElem (by omega)]at hx
     cases hx;exact hz
    rw[← h3,ZSf (by decide) h1 hc]
theorem Zfc {B n:Nat} (hB:2≤B):(Zc B n)≠[]↔n≠0:=not_congr (ZFh hB)
theorem ZGk {B n m:Nat} (hB:2≤B) (h:(Zc B n).length<(Zc B m).length):n<m:=by
 have h1:=Zrc hB n;have hm:m≠0:=by rintro rfl;rw[Z7]at h;simp at h
 have h2:=Zbj hB hm;have h3:B^(Zc B n).length≤B^((Zc B m).length-1):=Nat.pow_le_pow_right (by omega) (by omega);omega
theorem ZTl {B:Nat} {a b:List Int} (ha:Dig B a) (hb:Dig B b) {i:Nat} (hl:a.length=b.length) (hi:i<a.length) (he:a.drop (i+1)=b.drop (i+1)) (h:a[i]<b[i]'(by omega)):val B a<val B b:=by
 rw[Zid B a (i+1) (by omega),Zid B b (i+1) (by omega),he,Z5a hi,Z5a (by omega:i<b.length)];have h1:=Zjd (ha.take i);rw[List.length_take,Nat.min_eq_left (by omega)]at h1;have h2:=ha.get hi;have h3:=hb.get (i:=i) (by omega);have h4:B^i*(a[i].toNat+1)≤B^i*(b[i]'(by omega)).toNat:=Nat.mul_le_mul_left _ (by omega);rw[Nat.mul_add]at h4;omega
theorem cmp_eq {n m:Nat} (h1:(Zc 18446744073709551616 n).length≤9223372036854775807) (h2:(Zc 18446744073709551616 m).length≤9223372036854775807):cmp_m (Zc 18446744073709551616 n) (Zc 18446744073709551616 m)=some (Zma n m):=by
 unfold cmp_m;by_cases hl:(Zc 18446744073709551616 n).length=(Zc 18446744073709551616 m).length
 ·have e0:(((Zc 18446744073709551616 n).length:Int) != ((Zc 18446744073709551616 m).length:Int))=false:=by simp[hl]
  rw[e0,Zd];rw[Zi (by omega) (by omega),Za];have hd:=Zya (B:=18446744073709551616) (by decide) n;have hd':=Zya (B:=18446744073709551616) (by decide) m;have hvn:=Zca (B:=18446744073709551616) (by decide) n;have hvm:=Zca (B:=18446744073709551616) (by decide) m;generalize Zc 18446744073709551616 n=a at *;generalize Zc 18446744073709551616 m=b at *;rw[Zkk (r:=if n<m then .inl (-1) else if m<n then .inl 1 else .inr ()) (λs:Int=>-1≤s∧s<a.length∧a.drop (s+1).toNat=b.drop (s+1).toNat) (λs=>(s+1).toNat) ⟨by omega,by omega,?_⟩ (ZX (by omega)) ?_]
  ·rw[Za];unfold Zma;by_cases hlt:n<m
   ·simp only[iP hlt];rfl
   ·by_cases hgt:m<n
    ·simp only[iN hlt,iP hgt];rfl
    ·simp only[iN hlt,iN hgt];rfl
  ·rw[List.drop_eq_nil_of_le (by omega),List.drop_eq_nil_of_le (by omega)]
  ·rintro s ⟨h3,h4,h5⟩;by_cases hs:0≤s
   ·obtain⟨i,rfl⟩:=oZ hs;have hi:i<a.length:=by omega
    have hi':i<b.length:=by omega
    have e1:decide ((0:Int)≤(i:Int))=true:=dTq hs;simp only[e1,Ze,Zu hi,Zu hi',Za];have ei:((i:Int)+1).toNat=i+1:=by omega
    rw[ei]at h5;by_cases hlt:a[i]<b[i]
    ·right;have:=ZTl hd hd' hl hi h5 hlt;rw[dTq hlt,Ze,iP (by omega)]
    ·by_cases hgt:b[i]<a[i]
     ·right;have:=ZTl hd' hd hl.symm hi' h5.symm hgt;rw[dFq hlt,Zd,dTq hgt,Ze,iN (by omega),iP (by omega)]
     ·left;rw[dFq hlt,Zd,dFq hgt,Zd,Zi (by omega) (by omega),Za];refine⟨_,rfl,⟨by omega,by omega,?_⟩,by simp⟩;have e2:((i:Int)-1+1).toNat=i:=by omega
      rw[e2,List.drop_eq_getElem_cons hi,List.drop_eq_getElem_cons hi',h5];congr 1;omega
   ·right;have:s = -1:=by omega
    subst this;simp at h5;have:n=m:=by rw[← hvn,← hvm,h5]
    subst this;simp[ifb]
 ·have e0:(((Zc 18446744073709551616 n).length:Int) != ((Zc 18446744073709551616 m).length:Int))=true:=by simp;omega
  rw[e0,Ze];by_cases hlt:(Zc 18446744073709551616 n).length<(Zc 18446744073709551616 m).length
  ·have:=ZGk (by decide) hlt;rw[dTq (by omega),Ze];simp[Zma,this]
  ·have:=ZGk (B:=18446744073709551616) (n:=m) (m:=n) (by decide) (by omega);rw[dFq (by omega),Zd];have h5:¬ n<m:=by omega
   simp[Zma,this,h5]
theorem Zco {B n:Nat} (hB:2≤B) (h0:n≠0) (h:n<B):idx (Zc B n) 0=some (n:Int):=by rw[Zhl h0 h];rfl
theorem ZTz {n m:Nat} (hn:n<18446744073709551616) (hm:m<18446744073709551616) (h0:m≠0):ZHm n m=some ((Nat.gcd n m:Nat):Int):=by
 unfold ZHm;have e1:ifb (decide ((0:Int)<((Zc 18446744073709551616 n).length:Int))) (bnd (idx (Zc 18446744073709551616 n) 0) λy80=>some y80) (some 0)=some (n:Int):=by
  by_cases h:n=0
  ·subst h;rw[Z7];rfl
  ·rw[Zhl h hn];rfl
 rw[e1,Za,Zco (by decide) h0 hm,Za];rw[Zkk (r:=((Nat.gcd n m:Nat):Int)) (λs:Int×Int=>0≤s.1∧0≤s.2∧s.2<18446744073709551616∧Nat.gcd s.1.toNat s.2.toNat=Nat.gcd n m) (λs=>s.2.toNat) ⟨by simp,by simp,by simp;omega,by simp⟩ (ZX (by simp;omega)) ?_]
 ·rfl
 ·rintro⟨x,y⟩ ⟨h1,h2,h3,h4⟩;simp only at h1 h2 h3 h4 ⊢;by_cases hy:y=0
  ·right;subst hy;simp at h4;simp[ifb];omega
  ·left;rw[dTq (by omega),Ze];have e2:rem .u64 x y=some (x.tmod y):=by unfold rem;rw[iN hy]
   rw[e2,Za];obtain⟨X,rfl⟩:=oZ h1;obtain⟨Y,rfl⟩:=oZ h2;have e3:(X:Int).tmod (Y:Int)=((X%Y:Nat):Int):=by simp[Int.tmod_eq_emod_of_nonneg]
   rw[e3];have hY:0<Y:=by omega
   have:=Nat.mod_lt X hY;refine⟨_,rfl,⟨by omega,by omega,by simp;omega,?_⟩,by simp;omega⟩;simp only[tN]at h4 ⊢;rw[← h4]
   conv=>rhs;rw[Nat.gcd_comm,Nat.gcd_rec,Nat.gcd_comm]
noncomputable def Zbn (a:Nat) (b:Nat):Option (Nat) :=
 bnd (ifb (decide ((((Zc 18446744073709551616 a)).length:Int)<(((Zc 18446744073709551616 b)).length:Int)))
 (some ((b,a)))
 (some ((a,b))))
 (λ(p:Nat×Nat)=>match p with
| (d,h) =>
 (bnd (chk .i64 (((((Zc 18446744073709551616 d)).length:Int))+(1:Int))) λk =>
 bnd (mk 8 ((((Zc 18446744073709551616 d)).length:Int)) k) λv =>
 bnd (bnd (Zh (λs:(List Int)×Int×Int=>match s with
| (e,i,c) =>
 (ifb (decide (c<(((Zc 18446744073709551616 d)).length:Int)))
 (bnd (idx ((Zc 18446744073709551616 d)) c) λl =>
 bnd (ifb (decide (c<(((Zc 18446744073709551616 h)).length:Int)))
 (bnd (idx ((Zc 18446744073709551616 h)) c) λm =>
 some m)
 (some (0:Int)))
 (λ(n:Int) =>
 (bnd (ZMb l n i) λj =>
 bnd (idx e c) λw =>
 bnd (chk .i64 (c+(1:Int))) λo =>
 some (.inl (((e.set (c).toNat j.1),j.2,o))))))
 (some (.inr ((e,i)))))) Zj (((List.replicate ((((Zc 18446744073709551616 d)).length:Int)).toNat (0:Int)),(0:Int),(0:Int))))
 (λ(p:(List Int)×Int)=>match p with
| (q,r) =>
 (some ((q,r)))))
 (λ(p:(List Int)×Int)=>match p with
| (f,g) =>
 (bnd (ifb (decide ((0:Int)<g))
 (bnd (Zy 8 (f++[g])) λx =>
 some ((f++[g])))
 (some f))
 (λ(t:(List Int)) =>
 (bnd (clo t) λu =>
 some u))))))
noncomputable def Zmn (a:Nat) (b:Nat):Option (Nat) :=
 bnd (mk 8 ((((Zc 18446744073709551616 a)).length:Int)) ((((Zc 18446744073709551616 a)).length:Int))) λn =>
 bnd (bnd (Zh (λs:(List Int)×Int×Int=>match s with
| (d,f,c) =>
 (ifb (decide (c<(((Zc 18446744073709551616 a)).length:Int)))
 (bnd (idx ((Zc 18446744073709551616 a)) c) λg =>
 bnd (ifb (decide (c<(((Zc 18446744073709551616 b)).length:Int)))
 (bnd (idx ((Zc 18446744073709551616 b)) c) λh =>
 some h)
 (some (0:Int)))
 (λ(i:Int) =>
 (bnd (Zxd g i f) λe =>
 bnd (idx d c) λo =>
 bnd (chk .i64 (c+(1:Int))) λj =>
 some (.inl (((d.set (c).toNat e.1),e.2,j))))))
 (some (.inr d)))) Zj (((List.replicate ((((Zc 18446744073709551616 a)).length:Int)).toNat (0:Int)),(0:Int),(0:Int))))
 (λ(k:(List Int)) =>
 (some k)))
 (λ(l:(List Int)) =>
 (bnd (ZRa l) λm =>
 some m))
theorem Z8q {P V Va Vb lo hi x y c B:Nat} (h:V+P*c=Va+Vb) (e:lo+B*hi=x+y+c):V+P*lo+P*B*hi=Va+P*x+(Vb+P*y):=by
 grind
theorem Zxn {P V Va Vb lo hi x y c B:Nat} (h:V+Vb=Va+P*c) (e:lo+y+c=x+B*hi):V+P*lo+(Vb+P*y)=Va+P*x+P*B*hi:=by
 grind
theorem Zbt {l:List Int} {B k:Nat} (hd:Dig B l) (hB:0<B):∃ y:Int,bnd (ifb (decide ((k:Int)<(l.length:Int))) (bnd (idx l (k:Int)) λy=>some y) (some 0)) (λx=>some x)=some y∧0≤y∧y<B∧val B (l.take (k+1))=val B (l.take k)+B^k*y.toNat ∧
  ∀ {α:Type} (f:Int→Option α),bnd (ifb (decide ((k:Int)<(l.length:Int))) (bnd (idx l (k:Int)) λy=>some y) (some 0)) f=f y:=by
 by_cases h:k<l.length
 ·have e:decide ((k:Int)<(l.length:Int))=true:=dTq (by omega);refine⟨l[k],?_,(hd.get h).1,(hd.get h).2,Z5a h,λf=>?_⟩
  ·rw[e,Ze,Zu h];rfl
  ·rw[e,Ze,Zu h];rfl
 ·have e:decide ((k:Int)<(l.length:Int))=false:=dFq (by omega);refine⟨0,?_,by omega,by omega,?_,λf=>?_⟩
  ·rw[e];rfl
  ·rw[List.take_of_length_le (by omega),List.take_of_length_le (by omega)];simp
  ·rw[e];rfl
theorem Zuv {l:List Int} {k:Nat} {x:Int} (h:k<l.length):(l.set k x).take (k+1)=l.take k++[x]:=by
 rw[List.take_set,List.take_succ_eq_append_getElem h,List.set_append_right _ _ (by simp;omega)];simp[List.length_take,Nat.min_eq_left (Nat.le_of_lt h)]
theorem Zmh {B:Nat} {l:List Int} {k:Nat} {x:Int} (h:k<l.length):val B ((l.set k x).take (k+1))=val B (l.take k)+B^k*x.toNat:=by
 rw[Zuv h,ZMc,List.length_take,Nat.min_eq_left (by omega)];simp[val]
theorem ZWh {x y c:Int} (hx:0≤x) (hy:0≤y) (hc:0≤c) (hc':c≤1):ZMb x y c=some ((x+y+c)%18446744073709551616,(x+y+c) / 18446744073709551616):=by
 unfold ZMb;rw[iP ⟨hx,hy,hc,hc'⟩]
theorem Ztq {x y c:Int} (hx:0≤x) (hy:0≤y) (hc:0≤c) (hc':c≤1):Zxd x y c=some ((x-y-c)%18446744073709551616,if x<y+c then 1 else 0):=by
 unfold Zxd;rw[iP ⟨hx,hy,hc,hc'⟩]
theorem ZSc {b:Nat} {l c:Int} (h0:0≤l) (h1:l≤c) (h2:(b:Int)*c≤281474976710656) (h3:c≤9223372036854775807):∃ u,mk b l c=some u:=by
 unfold mk;rw[iP ⟨h0,h1,h2,h3⟩];exact⟨_,rfl⟩
theorem plus_eq {n m:Nat} (hn:okN n) (hm:okN m):Zbn n m=some (n+m):=by
 unfold Zbn;obtain⟨x,y,e,hx,hy,hxy,hl⟩:∃ x y:Nat,ifb (decide ((((Zc 18446744073709551616 n)).length:Int)<(((Zc 18446744073709551616 m)).length:Int))) (some (m,n)) (some (n,m))=some (x,y)∧okN x∧okN y∧x+y=n+m ∧
   (Zc 18446744073709551616 y).length≤(Zc 18446744073709551616 x).length:=by
  by_cases h:(Zc 18446744073709551616 n).length<(Zc 18446744073709551616 m).length
  ·exact⟨m,n,by rw[dTq (by omega)];rfl,hm,hn,by omega,by omega⟩
  ·exact⟨n,m,by rw[dFq (by omega)];rfl,hn,hm,rfl,by omega⟩
 rw[e,Za,← hxy];simp only;have hdx:=Zya (B:=18446744073709551616) (by decide) x;have hdy:=Zya (B:=18446744073709551616) (by decide) y;have hvx:=Zca (B:=18446744073709551616) (by decide) x;have hvy:=Zca (B:=18446744073709551616) (by decide) y;have hcx:=ZZk (B:=18446744073709551616) (by decide) x;have hcy:=ZZk (B:=18446744073709551616) (by decide) y;unfold okN at hx hy;generalize Zc 18446744073709551616 x=a at *;generalize Zc 18446744073709551616 y=b at *;rw[Zi (by omega) (by omega),Za];obtain⟨u,hu⟩:=ZSc (b:=8) (l:=(a.length:Int)) (c:=(a.length:Int)+1) (by omega) (by omega) (by omega) (by omega);rw[hu,Za,Z5];refine Zta (λs:(List Int)×Int×Int=>∃ k:Nat,s.2.2=(k:Int)∧k≤a.length∧s.1.length=a.length∧Dig 18446744073709551616 s.1∧0≤s.2.1∧s.2.1≤1 ∧
  val 18446744073709551616 (s.1.take k)+18446744073709551616^k*s.2.1.toNat=val 18446744073709551616 (a.take k)+val 18446744073709551616 (b.take k)) (λs=>a.length-s.2.2.toNat)
  (λr:List Int×Int=>r.1.length=a.length∧Dig 18446744073709551616 r.1∧0≤r.2∧r.2≤1∧val 18446744073709551616 r.1+18446744073709551616^a.length*r.2.toNat=x+y)
  ⟨0,rfl,by omega,by simp,Dig.replicate _ (by omega),Int.le_refl _,(by show (0:Int)≤1;omega),by simp[val]⟩ (ZX (by simp;omega)) ?_ ?_
 ·rintro⟨out,c,i⟩ ⟨k,rfl,hk,ho,hd,hc,hc',hv⟩;simp only at ho hd hc hc' hv ⊢;by_cases hlt:k<a.length
  ·left;rw[dTq (by omega),Ze,Zu hlt,Za];obtain⟨y,_,hy,hy',hvb,hf⟩:=Zbt (k:=k) hdy (by decide);rw[hf,ZWh (hdx.get hlt).1 hy hc hc',Za,Zu (by omega),Za,Zi (by omega) (by omega),Za];have hx:=hdx.get hlt;refine⟨_,rfl,⟨k+1,by simp,by omega,by simp[ho],?_,by simp;omega,by simp;omega,?_⟩,by simp;omega⟩
   ·exact hd.set _ (by omega)
   ·simp only[tN];rw[Zmh (by omega),Z5a hlt,hvb,Nat.pow_succ];exact Z8q hv (by omega)
  ·right;rw[dFq (by omega),Zd];refine⟨_,rfl,ho,hd,hc,hc',?_⟩;have hk':k=a.length:=by omega
   subst hk';rw[← hvx,← hvy]
   simpa [List.take_of_length_le,ho,hl] using hv
 ·rintro⟨out,c⟩ ⟨ho,hd,hc,hc',hv⟩;simp only at ho hd hc hc' hv ⊢;rw[Za];simp only;rw[← hv];by_cases h0:0<c
  ·have hc1:c=1:=by omega
   subst hc1;rw[dTq (by omega),Ze];have hr:Zy 8 (out++[(1:Int)])=some ():=by unfold Zy;rw[iP (by simp;omega)]
   rw[hr,Za,Za,ZWq (Dig.append.2 ⟨hd,Dig.cons.2 ⟨by omega,Dig.nil⟩⟩) (by intro x hx;simp at hx;omega),Za,ZMc,ho];simp[val]
  ·have hc1:c=0:=by omega
   subst hc1;rw[dFq (by omega),Zd,Za];have hcut:Cut out:=by
    intro z hz h0;subst h0;have hne:out≠[]:=by rintro rfl;cases hz
    have hpos:0<out.length:=List.length_pos_iff.2 hne;have h1:val 18446744073709551616 out<18446744073709551616^(a.length-1):=by
     rw[List.getLast?_eq_getElem?,List.getElem?_eq_getElem (by omega)]at hz;have h2:=Z5a (B:=18446744073709551616) (l:=out) (i:=out.length-1) (by omega);rw[Option.some.inj hz]at h2;have h3:out.length-1+1=out.length:=by omega
     rw[h3,List.take_length]at h2;have h4:=Zjd (hd.take (out.length-1));rw[List.length_take,Nat.min_eq_left (by omega),ho]at h4;simp at h2;rw[h2,ho];exact h4
    have h5:x≠0:=by
     rintro rfl;rw[← ZSf (by decide) hdx hcx,hvx,Z7]at ho;simp at ho;exact hne ho
    have h6:=Zbj (B:=18446744073709551616) (by decide) h5;rw[← hvx,ZSf (by decide) hdx hcx,hvx]at h6;simp at hv;omega
   rw[ZWq hd hcut,Za];simp
theorem ZYc {B n m:Nat} (hB:2≤B) (h:n≤m):(Zc B n).length≤(Zc B m).length:=by
 apply ZZf hB;exact Nat.lt_of_le_of_lt h (Zrc hB m)
theorem ZNw {n m:Nat} (hn:okN n) (hm:m≤n):Zmn n m=some (n-m):=by
 unfold Zmn;have hl:=ZYc (B:=18446744073709551616) (by decide) hm;have hdx:=Zya (B:=18446744073709551616) (by decide) n;have hdy:=Zya (B:=18446744073709551616) (by decide) m;have hvx:=Zca (B:=18446744073709551616) (by decide) n;have hvy:=Zca (B:=18446744073709551616) (by decide) m;unfold okN at hn;generalize Zc 18446744073709551616 n=a at *;generalize Zc 18446744073709551616 m=b at *;obtain⟨u,hu⟩:=ZSc (b:=8) (l:=(a.length:Int)) (c:=(a.length:Int)) (by omega) (by omega) (by omega) (by omega);rw[hu,Za,Z5];refine Zta (λs:(List Int)×Int×Int=>∃ k:Nat,s.2.2=(k:Int)∧k≤a.length∧s.1.length=a.length∧Dig 18446744073709551616 s.1∧0≤s.2.1∧s.2.1≤1 ∧
  val 18446744073709551616 (s.1.take k)+val 18446744073709551616 (b.take k)=val 18446744073709551616 (a.take k)+18446744073709551616^k*s.2.1.toNat) (λs=>a.length-s.2.2.toNat)
  (λr:List Int=>r.length=a.length∧Dig 18446744073709551616 r∧val 18446744073709551616 r=n-m)
  ⟨0,rfl,by omega,by simp,Dig.replicate _ (by omega),Int.le_refl _,(by show (0:Int)≤1;omega),by simp[val]⟩ (ZX (by simp;omega)) ?_ ?_
 ·rintro⟨out,c,i⟩ ⟨k,rfl,hk,ho,hd,hc,hc',hv⟩;simp only at ho hd hc hc' hv ⊢;by_cases hlt:k<a.length
  ·left;rw[dTq (by omega),Ze,Zu hlt,Za];obtain⟨y,_,hy,hy',hvb,hf⟩:=Zbt (k:=k) hdy (by decide);have hx:=hdx.get hlt;rw[hf,Ztq (hdx.get hlt).1 hy hc hc',Za,Zu (by omega),Za,Zi (by omega) (by omega),Za];refine⟨_,rfl,⟨k+1,by simp,by omega,by simp[ho],?_,by simp only;split <;> omega,by simp only;split <;> omega,?_⟩,by simp;omega⟩
   ·exact hd.set _ (by omega)
   ·simp only[tN];rw[Zmh (by omega),Z5a hlt,hvb,Nat.pow_succ];refine Zxn hv ?_;split <;> omega
  ·right;rw[dFq (by omega),Zd];refine⟨_,rfl,ho,hd,?_⟩;have hk':k=a.length:=by omega
   subst hk';simp[List.take_of_length_le,ho,hl,hvx,hvy]at hv;have hlt2:=Zjd hd;rw[ho]at hlt2;have:c.toNat=0:=by
    have h1:c=0∨c=1:=by omega
    rcases h1 with rfl | rfl
    ·rfl
    ·simp at hv;omega
   rw[this]at hv;omega
 ·rintro out ⟨ho,hd,hv⟩;rw[Za];unfold ZRa;rw[hv,Za]
theorem Zwv {n m z:Nat} (h:Zrg n m=some z):Zbn n m=some z:=by
 unfold Zrg at h;split at h
 ·rename_i hh;rw[plus_eq hh.1 hh.2,h]
 ·cases h
theorem ZvA {n m z:Nat} (h:ZSg n m=some z):Zmn n m=some z:=by
 unfold ZSg at h;split at h
 ·rename_i hh;rw[ZNw hh.1 hh.2,h]
 ·cases h
theorem Z8w {n m:Nat} {z:Int} (h:Zxh n m=some z):ZHm n m=some z:=by
 unfold Zxh at h;split at h
 ·rename_i hh;rw[ZTz hh.1 hh.2.1 hh.2.2,h]
 ·cases h
noncomputable def ZYm (x:Int) (y:Int):Option (Int×Int) :=
 bnd (ZN .u64 x (32:Int)) λa =>
 bnd (ZN .u64 y (32:Int)) λb =>
 bnd (ZN .u64 (IntKind.u64.wrap ((Z8 .u64 x (4294967295:Int))*(Z8 .u64 y (4294967295:Int)))) (32:Int)) λc =>
 bnd (ZN .u64 (IntKind.u64.wrap ((IntKind.u64.wrap (a*(Z8 .u64 y (4294967295:Int))))+c)) (32:Int)) λd =>
 bnd (ZN .u64 (IntKind.u64.wrap ((Z8 .u64 (IntKind.u64.wrap ((IntKind.u64.wrap (a*(Z8 .u64 y (4294967295:Int))))+c)) (4294967295:Int))+(IntKind.u64.wrap ((Z8 .u64 x (4294967295:Int))*b)))) (32:Int)) λe =>
 some ((IntKind.u64.wrap ((IntKind.u64.wrap ((IntKind.u64.wrap (a*b))+d))+e),IntKind.u64.wrap (x*y)))
theorem wrap_u64 (z:Int):IntKind.u64.wrap z=z%18446744073709551616:=by
 simp[IntKind.wrap,IntKind.signed,IntKind.bits]
theorem Zum {x:Int} {k:Nat} (hx:0≤x) (hk:k≤64):ZN .u64 x (k:Int)=some (x / 2^k):=by
 unfold ZN;rw[iN (by omega)];have:min ((k:Int).toNat) IntKind.u64.bits=k:=by simp[IntKind.bits];omega
 rw[this,Int.fdiv_eq_ediv_of_nonneg];exact Int.pow_nonneg (by omega)
theorem ZRf (x:Nat) (h:x<18446744073709551616):Z8 .u64 (x:Int) 4294967295=((x%4294967296:Nat):Int):=by
 unfold Z8;rw[wrap_u64];have h1:(BitVec.ofInt IntKind.u64.bits (x:Int) &&& BitVec.ofInt IntKind.u64.bits 4294967295).toNat=x%4294967296:=by
  rw[BitVec.toNat_and];have e1:(BitVec.ofInt IntKind.u64.bits (x:Int)).toNat=x:=by
   show (BitVec.ofInt 64 (x:Int)).toNat=x;rw[BitVec.toNat_ofInt];simp;omega
  have e2:(BitVec.ofInt IntKind.u64.bits 4294967295).toNat=2^32-1:=by decide
  rw[e1,e2,Nat.and_two_pow_sub_one_eq_mod]
 rw[h1];omega
theorem Z4z {x y:Int} (hx:0≤x) (hy:0≤y) (hx':x<18446744073709551616) (hy':y<18446744073709551616):ZYm x y=some (x*y / 18446744073709551616,x*y%18446744073709551616):=by
 obtain⟨X,rfl⟩:=oZ hx;obtain⟨Y,rfl⟩:=oZ hy;obtain⟨h1,h2,h3,h4⟩:=Go.Lib.mul64_hi X Y (by omega) (by omega);have p1:X / 4294967296*(Y%4294967296)≤18446744065119617025:=Go.Lib.half_mul_le (by omega) (by omega);have p2:X%4294967296*(Y / 4294967296)≤18446744065119617025:=Go.Lib.half_mul_le (by omega) (by omega);have p3:X / 4294967296*(Y / 4294967296)≤18446744065119617025:=Go.Lib.half_mul_le (by omega) (by omega);unfold ZYm;have s32:∀ n:Nat,ZN .u64 (n:Int) ((32:Int))=some ((n / 4294967296:Nat):Int):=λn=>by
  have:=Zum (x:=(n:Int)) (k:=32) (by omega) (by omega);exact this
 have wr:∀ n:Nat,n<18446744073709551616→IntKind.u64.wrap (n:Int)=(n:Int):=λn h=>by rw[wrap_u64];omega
 have w1:IntKind.u64.wrap ((Z8 .u64 (X:Int) ((4294967295:Int)))*(Z8 .u64 (Y:Int) ((4294967295:Int))))=((X%4294967296*(Y%4294967296):Nat):Int):=by
  rw[ZRf X (by omega),ZRf Y (by omega),← Int.natCast_mul,wr _ h1]
 have w2:IntKind.u64.wrap (((X / 4294967296:Nat):Int)*(Z8 .u64 (Y:Int) ((4294967295:Int))))=((X / 4294967296*(Y%4294967296):Nat):Int):=by
  rw[ZRf Y (by omega),← Int.natCast_mul,wr _ (by omega)]
 have w3:IntKind.u64.wrap ((Z8 .u64 (X:Int) ((4294967295:Int)))*((Y / 4294967296:Nat):Int))=((X%4294967296*(Y / 4294967296):Nat):Int):=by
  rw[ZRf X (by omega),← Int.natCast_mul,wr _ (by omega)]
 have w4:IntKind.u64.wrap (((X / 4294967296:Nat):Int)*((Y / 4294967296:Nat):Int))=((X / 4294967296*(Y / 4294967296):Nat):Int):=by
  rw[← Int.natCast_mul,wr _ (by omega)]
 rw[s32,Za,s32,Za,w1,s32,Za,w2,w3,w4,← Int.natCast_add,wr _ h2,s32,Za,ZRf _ h2,← Int.natCast_add,wr _ h3,s32,Za,← Int.natCast_add];have hlt:X*Y / 18446744073709551616<18446744073709551616:=by
  rw[Nat.div_lt_iff_lt_mul (by omega)];exact Nat.mul_lt_mul'' (by omega) (by omega)
 rw[wr _ (by omega),← Int.natCast_add,wr _ (by omega),h4,wrap_u64];simp
theorem Z0v {x y:Int} {z:Int×Int} (h:Zyc x y=some z):ZYm x y=some z:=by
 unfold Zyc at h;split at h
 ·rename_i hh;rw[Z4z hh.1 hh.2.1 hh.2.2.1 hh.2.2.2,h]
 ·cases h
noncomputable def Zzo (a:Nat) (b:Nat):Option (Nat) :=
 bnd (Zjg a) λo =>
 ifb (o)
 (some b)
 (bnd (Zjg b) λq =>
 ifb (q)
 (some a)
 (bnd (chk .i64 (((((Zc 18446744073709551616 a)).length:Int))+((((Zc 18446744073709551616 b)).length:Int)))) λf =>
 bnd (mk 8 f f) λE =>
 bnd (bnd (Zh (λs:(List Int)×Int=>match s with
| (g,c) =>
 (ifb (decide (c<(((Zc 18446744073709551616 a)).length:Int)))
 (bnd (idx ((Zc 18446744073709551616 a)) c) λr =>
 bnd (bnd (Zh (λs:(List Int)×Int×Int=>match s with
| (e,h,d) =>
 (ifb (decide (d<(((Zc 18446744073709551616 b)).length:Int)))
 (bnd (idx ((Zc 18446744073709551616 b)) d) λt =>
 bnd (Zyc r t) λi =>
 bnd (chk .i64 (c+d)) λu =>
 bnd (idx e u) λv =>
 bnd (ZMb i.2 v (0:Int)) λj =>
 bnd (ZMb j.1 h (0:Int)) λk =>
 bnd (chk .i64 (c+d)) λl =>
 bnd (idx e l) λF =>
 bnd (chk .i64 (d+(1:Int))) λw =>
 some (.inl (((e.set (l).toNat k.1),IntKind.u64.wrap ((IntKind.u64.wrap (i.1+j.2))+k.2),w))))
 (some (.inr ((e,h)))))) Zj ((g,(0:Int),(0:Int))))
 (λ(p:(List Int)×Int)=>match p with
| (x,y) =>
 (some ((x,y)))))
 (λ(p:(List Int)×Int)=>match p with
| (m,z) =>
 (bnd (chk .i64 (c+((((Zc 18446744073709551616 b)).length:Int)))) λn =>
 bnd (idx m n) λG =>
 bnd (chk .i64 (c+(1:Int))) λA =>
 some (.inl (((m.set (n).toNat z),A))))))
 (some (.inr g)))) Zj (((List.replicate (f).toNat (0:Int)),(0:Int))))
 (λ(B:(List Int)) =>
 (some B)))
 (λ(C:(List Int)) =>
 (bnd (ZRa C) λD =>
 some D))))
noncomputable def ZOm (x:Int):Option (Int) :=
 bnd (ifb (decide ((4294967296:Int)≤x))
 (bnd (ZN .u64 x (32:Int)) λe =>
 some ((e,(32:Int))))
 (some ((x,(0:Int)))))
 (λ(p:Int×Int)=>match p with
| (a,c) =>
 (bnd (ifb (decide ((65536:Int)≤a))
 (bnd (ZN .u64 a (16:Int)) λf =>
 bnd (chk .i64 (c+(16:Int))) λg =>
 some ((f,g)))
 (some ((a,c))))
 (λ(p:Int×Int)=>match p with
| (b,d) =>
 (bnd (ifb (decide ((256:Int)≤b))
 (bnd (ZN .u64 b (8:Int)) λh =>
 bnd (chk .i64 (d+(8:Int))) λi =>
 some ((h,i)))
 (some ((b,d))))
 (λ(p:Int×Int)=>match p with
| (j,k) =>
 (bnd (idx (([0,1,2,2,3,3,3,3,4,4,4,4,4,4,4,4,5,5,5,5,5,5,5,5,5,5,5,5,5,5,5,5,6,6,6,6,6,6,6,6,6,6,6,6,6,6,6,6,6,6,6,6,6,6,6,6,6,6,6,6,6,6,6,6,7,7,7,7,7,7,7,7,7,7,7,7,7,7,7,7,7,7,7,7,7,7,7,7,7,7,7,7,7,7,7,7,7,7,7,7,7,7,7,7,7,7,7,7,7,7,7,7,7,7,7,7,7,7,7,7,7,7,7,7,7,7,7,7,8,8,8,8,8,8,8,8,8,8,8,8,8,8,8,8,8,8,8,8,8,8,8,8,8,8,8,8,8,8,8,8,8,8,8,8,8,8,8,8,8,8,8,8,8,8,8,8,8,8,8,8,8,8,8,8,8,8,8,8,8,8,8,8,8,8,8,8,8,8,8,8,8,8,8,8,8,8,8,8,8,8,8,8,8,8,8,8,8,8,8,8,8,8,8,8,8,8,8,8,8,8,8,8,8,8,8,8,8,8,8,8,8,8,8,8,8,8,8,8,8,8,8,8,8,8,8,8]:List UInt8)) (IntKind.u8.wrap j)) λl =>
 bnd (chk .i64 (k+(IntKind.i64.wrap ((l.toNat:Int))))) λm =>
 some m))))))
theorem Z4q {V' V t d c c' Q P R S x y vm B:Nat} (h:V+Q*c=P+R*x*vm) (hs:V'+Q*t=V+Q*d) (e:d+B*c'=x*y+t+c) (hQ:Q=R*S):V'+Q*B*c'=P+R*x*(vm+S*y):=by
 have:Q*(d+B*c')=Q*(x*y+t+c):=by rw[e]
 subst hQ;grind
theorem Zhx {x y t c B1:Nat} (hx:x≤18446744073709551615) (hy:y≤18446744073709551615) (ht:t≤18446744073709551615) (hc:c≤18446744073709551615):x*y+t+c≤340282366920938463463374607431768211455:=by
 have:=Nat.mul_le_mul hx hy;omega
theorem Z6l {x y:Nat} (hx:x<18446744073709551616) (hy:y<18446744073709551616):Zyc (x:Int) (y:Int)=some (((x*y / 18446744073709551616:Nat):Int),((x*y%18446744073709551616:Nat):Int)):=by
 unfold Zyc;rw[iP ⟨by omega,by omega,by omega,by omega⟩];simp
theorem Zsy {n m:Nat} (hn:okN n) (hm:okN m):Zzo n m=some (n*m):=by
 unfold Zzo;unfold Zjg;rw[Za];by_cases h1:n=1
 ·rw[dTq h1,Ze,h1,Nat.one_mul]
 rw[dFq h1,Zd,Za];by_cases h2:m=1
 ·rw[dTq h2,Ze,h2,Nat.mul_one]
 rw[dFq h2,Zd];have hdx:=Zya (B:=18446744073709551616) (by decide) n;have hdy:=Zya (B:=18446744073709551616) (by decide) m;have hvx:=Zca (B:=18446744073709551616) (by decide) n;have hvy:=Zca (B:=18446744073709551616) (by decide) m;unfold okN at hn hm;generalize Zc 18446744073709551616 n=a at *;generalize Zc 18446744073709551616 m=b at *;rw[Zi (by omega) (by omega),Za];obtain⟨u,hu⟩:=ZSc (b:=8) (l:=(a.length:Int)+b.length) (c:=(a.length:Int)+b.length) (by omega) (by omega) (by omega) (by omega);rw[hu,Za,Z5];have e0:((a.length:Int)+b.length).toNat=a.length+b.length:=by omega
 rw[e0];refine Zta (λs:(List Int)×Int=>∃ k:Nat,s.2=(k:Int)∧k≤a.length∧s.1.length=a.length+b.length∧Dig 18446744073709551616 s.1 ∧
  val 18446744073709551616 s.1=val 18446744073709551616 (a.take k)*val 18446744073709551616 b∧∀ j (h:j<s.1.length),k+b.length≤j→s.1[j]=0) (λs=>a.length-s.2.toNat)
  (λr:List Int=>r.length=a.length+b.length∧val 18446744073709551616 r=n*m) ⟨0,rfl,by omega,by simp,Dig.replicate _ (by omega),by simp[val,ZQl],by simp⟩ (ZX (by simp;omega)) ?_ ?_
 ·rintro⟨out,i⟩ ⟨k,rfl,hk,ho,hd,hv,hz⟩;simp only at ho hd hv hz ⊢;by_cases hlt:k<a.length
  ·left;have hx:=hdx.get hlt;rw[dTq (by omega),Ze,Zu hlt,Za];obtain⟨X,hX⟩:=oZ hx.1;have hX':X<18446744073709551616:=by omega
   obtain⟨⟨o,c⟩,er,ho2,hd2,hc,hv2,hz2⟩:=Zbk (body:=λs:(List Int)×Int×Int=>match s with
    | (x204,x212,x214) =>
    (ifb (decide (x214<(b.length:Int)))
    (bnd (idx b x214) λy245 =>
    bnd (Zyc a[k] y245) λy261 =>
    bnd (chk .i64 ((k:Int)+x214)) λy281 =>
    bnd (idx x204 y281) λy283 =>
    bnd (ZMb y261.2 y283 ((0:Int))) λy290 =>
    bnd (ZMb y290.1 x212 ((0:Int))) λy301 =>
    bnd (chk .i64 ((k:Int)+x214)) λy303 =>
    bnd (idx x204 y303) λy305 =>
    bnd (chk .i64 (x214+((1:Int)))) λy321 =>
    some (.inl (((x204.set (y303).toNat y301.1),IntKind.u64.wrap ((IntKind.u64.wrap (y261.1+y290.2))+y301.2),y321))))
    (some (.inr ((x204,x212)))))) (λs:(List Int)×Int×Int=>∃ q:Nat,s.2.2=(q:Int)∧q≤b.length∧s.1.length=a.length+b.length∧Dig 18446744073709551616 s.1∧(0≤s.2.1∧s.2.1<18446744073709551616) ∧
     val 18446744073709551616 s.1+18446744073709551616^(k+q)*s.2.1.toNat=val 18446744073709551616 (a.take k)*val 18446744073709551616 b+18446744073709551616^k*X*val 18446744073709551616 (b.take q)∧∀ j (h:j<s.1.length),k+b.length≤j→s.1[j]=0)
    (λs=>b.length-s.2.2.toNat)
    (λr:List Int×Int=>r.1.length=a.length+b.length∧Dig 18446744073709551616 r.1∧(0≤r.2∧r.2<18446744073709551616) ∧
     val 18446744073709551616 r.1+18446744073709551616^(k+b.length)*r.2.toNat=val 18446744073709551616 (a.take k)*val 18446744073709551616 b+18446744073709551616^k*X*val 18446744073709551616 b∧∀ j (h:j<r.1.length),k+b.length≤j→r.1[j]=0)
    (by
     rintro⟨o,c,i⟩ ⟨q,rfl,hq,ho2,hd2,hc,hv2,hz2⟩;simp only at ho2 hd2 hc hv2 hz2 ⊢;by_cases hqlt:q<b.length
     ·left;have hy:=hdy.get hqlt;obtain⟨Y,hY⟩:=oZ hy.1;have hY':Y<18446744073709551616:=by omega
      have hkq:k+q<o.length:=by omega
      have ht:=hd2.get hkq;obtain⟨T,hT⟩:=oZ ht.1;obtain⟨C,rfl⟩:=oZ hc.1;have eck:chk .i64 ((k:Int)+(q:Int))=some ((k+q:Nat):Int):=by rw[Zi (by omega) (by omega)];simp
      rw[dTq (by omega),Ze,Zu hqlt,Za,hX,hY,Z6l hX' hY',Za,eck,Za,Zu hkq,Za,hT];rw[ZWh (by omega) (by omega) (by omega) (by omega),Za,ZWh (by omega) (by omega) (by omega) (by omega),Za,Za,Zu hkq,Za,Zi (by omega) (by omega),Za];have hb:=Zhx (x:=X) (y:=Y) (t:=T) (c:=C) (B1:=0) (by omega) (by omega) (by omega) (by omega);have hxy:X*Y≤340282366920938463426481119284349108225:=Nat.mul_le_mul (show X≤18446744073709551615 by omega) (show Y≤18446744073709551615 by omega);generalize hp:X*Y=p at *;have ecar:IntKind.u64.wrap (IntKind.u64.wrap (((p / 18446744073709551616:Nat):Int)+(((p%18446744073709551616:Nat):Int)+(T:Int)+0) / 18446744073709551616)+((((p%18446744073709551616:Nat):Int)+(T:Int)+0)%18446744073709551616+(C:Int)+0) / 18446744073709551616) =
        (((p+T+C) / 18446744073709551616:Nat):Int):=by
       rw[wrap_u64,wrap_u64];omega
      have edig:((((p%18446744073709551616:Nat):Int)+(T:Int)+0)%18446744073709551616+(C:Int)+0)%18446744073709551616=(((p+T+C)%18446744073709551616:Nat):Int):=by omega
      simp only[ecar,edig];refine⟨_,rfl,⟨q+1,by simp,by omega,by simp[ho2],hd2.set _ (by omega),by simp only;omega,?_,?_⟩,by simp;omega⟩
      ·simp only[tN];have hs:=ZVg (B:=18446744073709551616) (l:=o) (i:=k+q) (x:=(((p+T+C)%18446744073709551616:Nat):Int)) hkq;rw[hT]at hs;simp only[tN]at hs hv2;rw[Z5a hqlt,hY];simp only[tN];rw[show k+(q+1)=k+q+1 by omega,Nat.pow_succ];exact Z4q hv2 hs (by rw[hp];omega) (Nat.pow_add _ _ _)
      ·intro j hj hj2;simp only[tN]at hj ⊢;rw[List.getElem_set_ne (by omega)];exact hz2 j (by simpa using hj) hj2
     ·right;rw[dFq (by omega),Zd];have hq':q=b.length:=by omega
      subst hq';rw[List.take_length]at hv2;exact⟨_,rfl,ho2,hd2,hc,hv2,hz2⟩) Zj (out,(0:Int),(0:Int)) ⟨0,rfl,by omega,ho,hd,⟨Int.le_refl _,by show (0:Int)<18446744073709551616;omega⟩,by simp[val,hv],hz⟩ (ZX (by simp;omega))
   rw[er,Za,Za];simp only at ho2 hd2 hc hv2 hz2 ⊢;have eck:chk .i64 ((k:Int)+(b.length:Int))=some ((k+b.length:Nat):Int):=by rw[Zi (by omega) (by omega)];simp
   have hkb:k+b.length<o.length:=by omega
   rw[eck,Za,Zu hkb,Za,Zi (by omega) (by omega),Za];refine⟨_,rfl,⟨k+1,by simp,by omega,by simp[ho2],hd2.set _ hc,?_,?_⟩,by simp;omega⟩
   ·have hs:=ZVg (B:=18446744073709551616) (l:=o) (i:=k+b.length) (x:=c) hkb;rw[hz2 _ hkb (by omega)]at hs;simp only[tN]at hs ⊢;rw[Z5a hlt,hX];simp only[tN];simp at hs;rw[hs,hv2];grind
   ·intro j hj hj2;simp only[tN]at hj ⊢;rw[List.getElem_set_ne (by omega)];exact hz2 j (by simpa using hj) (by omega)
  ·right;rw[dFq (by omega),Zd];have hk':k=a.length:=by omega
   subst hk';rw[List.take_length,hvx,hvy]at hv;exact⟨_,rfl,ho,hv⟩
 ·rintro out ⟨ho,hv⟩;rw[Za];unfold ZRa;rw[hv,Za]
theorem ZDy {n m z:Nat} (h:ZDc n m=some z):Zzo n m=some z:=by
 unfold ZDc at h;split at h
 ·rename_i hh;rw[Zsy hh.1 hh.2,h]
 ·cases h
theorem Zwf {n k:Nat} (h:n≠0):bl n=k+1↔2^k≤n∧n<2^(k+1):=by
 unfold bl;rw[iN h,← Nat.log2_eq_iff h];omega
theorem Zng {n:Nat} (h:n≠0):∃ k,bl n=k+1:=⟨Nat.log2 n,by unfold bl;rw[iN h]⟩
theorem Z0d (n:Nat):n<2^bl n:=by
 by_cases h:n=0
 ·subst h;simp[bl]
 ·obtain⟨k,hk⟩:=Zng h;rw[hk];exact ((Zwf h).1 hk).2
theorem ZCb {n k:Nat} (h:n<2^k):bl n≤k:=by
 by_cases h0:n=0
 ·subst h0;simp[bl]
 ·obtain⟨q,hq⟩:=Zng h0;have:=((Zwf h0).1 hq).1;rw[hq];have h2:2^q<2^k:=by omega
  exact (Nat.pow_lt_pow_iff_right (by omega)).1 h2
theorem ZGi {n k:Nat} (h:2^k≤n):bl n=bl (n / 2^k)+k:=by
 have hp:0<2^k:=Nat.pow_pos (by omega);have h0:n / 2^k≠0:=by
  have:=(Nat.le_div_iff_mul_le hp (x:=1) (y:=n)).2 (by omega);omega
 obtain⟨q,hq⟩:=Zng h0;have h1:=(Zwf h0).1 hq;have hn:n≠0:=by omega
 rw[hq,show q+1+k=(q+k)+1 by omega,Zwf hn];constructor
 ·have:=mR (2^k) h1.1;rw[← Nat.pow_add]at this;exact Nat.le_trans this (Nat.div_mul_le_self _ _)
 ·have:=(Nat.div_lt_iff_lt_mul hp).1 h1.2;rw[← Nat.pow_add]at this;rw[show q+k+1=q+1+k by omega];exact this
set_option maxRecDepth 10000 in
theorem ZEA:∀ i:Fin 256,([0,1,2,2,3,3,3,3,4,4,4,4,4,4,4,4,5,5,5,5,5,5,5,5,5,5,5,5,5,5,5,5,6,6,6,6,6,6,6,6,6,6,6,6,6,6,6,6,6,6,6,6,6,6,6,6,6,6,6,6,6,6,6,6,7,7,7,7,7,7,7,7,7,7,7,7,7,7,7,7,7,7,7,7,7,7,7,7,7,7,7,7,7,7,7,7,7,7,7,7,7,7,7,7,7,7,7,7,7,7,7,7,7,7,7,7,7,7,7,7,7,7,7,7,7,7,7,7,8,8,8,8,8,8,8,8,8,8,8,8,8,8,8,8,8,8,8,8,8,8,8,8,8,8,8,8,8,8,8,8,8,8,8,8,8,8,8,8,8,8,8,8,8,8,8,8,8,8,8,8,8,8,8,8,8,8,8,8,8,8,8,8,8,8,8,8,8,8,8,8,8,8,8,8,8,8,8,8,8,8,8,8,8,8,8,8,8,8,8,8,8,8,8,8,8,8,8,8,8,8,8,8,8,8,8,8,8,8,8,8,8,8,8,8,8,8,8,8,8,8,8,8,8,8,8,8]:List UInt8)[i.val]?.map (λy=>y.toNat)=some (bl i.val):=by decide +kernel
set_option maxRecDepth 10000 in
theorem bl_idx {n:Nat} (h:n<256):∃ y,idx ([0,1,2,2,3,3,3,3,4,4,4,4,4,4,4,4,5,5,5,5,5,5,5,5,5,5,5,5,5,5,5,5,6,6,6,6,6,6,6,6,6,6,6,6,6,6,6,6,6,6,6,6,6,6,6,6,6,6,6,6,6,6,6,6,7,7,7,7,7,7,7,7,7,7,7,7,7,7,7,7,7,7,7,7,7,7,7,7,7,7,7,7,7,7,7,7,7,7,7,7,7,7,7,7,7,7,7,7,7,7,7,7,7,7,7,7,7,7,7,7,7,7,7,7,7,7,7,7,8,8,8,8,8,8,8,8,8,8,8,8,8,8,8,8,8,8,8,8,8,8,8,8,8,8,8,8,8,8,8,8,8,8,8,8,8,8,8,8,8,8,8,8,8,8,8,8,8,8,8,8,8,8,8,8,8,8,8,8,8,8,8,8,8,8,8,8,8,8,8,8,8,8,8,8,8,8,8,8,8,8,8,8,8,8,8,8,8,8,8,8,8,8,8,8,8,8,8,8,8,8,8,8,8,8,8,8,8,8,8,8,8,8,8,8,8,8,8,8,8,8,8,8,8,8,8,8]:List UInt8) (n:Int)=some y∧y.toNat=bl n:=by
 have:=ZEA ⟨n,h⟩;obtain⟨y,e,h2⟩:=Option.map_eq_some_iff.1 this;exact⟨y,by simp only[idx,tN];rw[iP (by omega)];exact e,h2⟩
set_option maxRecDepth 10000 in
theorem Zxz {n:Nat} (hn:n<18446744073709551616):ZOm (n:Int)=some (bl n:Int):=by
 unfold ZOm;have sh:∀ (n k:Nat),k≤64→ZN .u64 (n:Int) (k:Int)=some ((n / 2^k:Nat):Int):=λn k h=>by rw[Zum (by omega) h];simp
 have s32:∀ n:Nat,ZN .u64 (n:Int) 32=some ((n / 4294967296:Nat):Int):=λn=>sh n 32 (by omega);have s16:∀ n:Nat,ZN .u64 (n:Int) 16=some ((n / 65536:Nat):Int):=λn=>sh n 16 (by omega);have s8:∀ n:Nat,ZN .u64 (n:Int) 8=some ((n / 256:Nat):Int):=λn=>sh n 8 (by omega);obtain⟨n1,k1,e1,h1,b1,l1⟩:∃ n1 k1:Nat,ifb (decide ((4294967296:Int)≤(n:Int))) (bnd (ZN .u64 (n:Int) 32) λy=>some (y,(32:Int))) (some ((n:Int),0))=some ((n1:Int),(k1:Int))∧n1<4294967296∧bl n=bl n1+k1∧k1≤32:=by
  by_cases h:4294967296≤n
  ·exact⟨n / 4294967296,32,by rw[dTq (by omega),Ze,s32];rfl,by omega,ZGi (k:=32) h,by omega⟩
  ·exact⟨n,0,by rw[dFq (by omega)];rfl,by omega,rfl,by omega⟩
 rw[e1,Za];simp only;obtain⟨n2,k2,e2,h2,b2,l2⟩:∃ n2 k2:Nat,ifb (decide ((65536:Int)≤(n1:Int))) (bnd (ZN .u64 (n1:Int) 16) λy=>bnd (chk .i64 ((k1:Int)+16)) λz=>some (y,z)) (some ((n1:Int),(k1:Int)))=some ((n2:Int),(k2:Int))∧n2<65536∧bl n=bl n2+k2∧k2≤48:=by
  by_cases h:65536≤n1
  ·exact⟨n1 / 65536,k1+16,by rw[dTq (by omega),Ze,s16,Za,Zi (by omega) (by omega)];rfl,by omega,by rw[b1,ZGi (k:=16) h];simp;omega,by omega⟩
  ·exact⟨n1,k1,by rw[dFq (by omega)];rfl,by omega,b1,by omega⟩
 rw[e2,Za];simp only;obtain⟨n3,k3,e3,h3,b3,l3⟩:∃ n3 k3:Nat,ifb (decide ((256:Int)≤(n2:Int))) (bnd (ZN .u64 (n2:Int) 8) λy=>bnd (chk .i64 ((k2:Int)+8)) λz=>some (y,z)) (some ((n2:Int),(k2:Int)))=some ((n3:Int),(k3:Int))∧n3<256∧bl n=bl n3+k3∧k3≤56:=by
  by_cases h:256≤n2
  ·exact⟨n2 / 256,k2+8,by rw[dTq (by omega),Ze,s8,Za,Zi (by omega) (by omega)];rfl,by omega,by rw[b2,ZGi (k:=8) h];simp;omega,by omega⟩
  ·exact⟨n2,k2,by rw[dFq (by omega)];rfl,by omega,b2,by omega⟩
 rw[e3,Za];simp only;have hw:IntKind.u8.wrap (n3:Int)=(n3:Int):=by
  simp[IntKind.wrap,IntKind.signed,IntKind.bits];omega
 rw[hw];obtain⟨y,ey,hy⟩:=bl_idx h3;have hb:bl n3≤8:=ZCb h3;rw[ey,Za,Zhe (ZXa.2 ⟨by omega,by omega⟩),Zi (by omega) (by omega),Za,b3,hy];congr 1;omega
theorem ZVA {x z:Int} (h:Zoi x=some z):ZOm x=some z:=by
 unfold Zoi at h;split at h
 ·rename_i hh;obtain⟨n,rfl⟩:=oZ hh.1;rw[Zxz (by omega),← h];simp
 ·cases h
noncomputable def ZWt (x:Int):Option (Int) :=
 bnd (Zoi x) λa =>
 bnd (chk .i64 ((64:Int)-a)) λb =>
 some b
theorem Ziy {x z:Int} (h:ZNd x=some z):ZWt x=some z:=by
 unfold ZNd at h;split at h
 ·rename_i hh;have hb:bl x.toNat≤64:=ZCb (by omega);unfold ZWt Zoi;rw[iP hh,Za,Zi (by omega) (by omega),Za,h]
 ·cases h
noncomputable def Z7m (hi:Int) (lo:Int) (y:Int):Option (Int×Int) :=
 ifb (y==(0:Int))
  (none)
 (ifb (decide (y≤hi))
  (none)
 (ifb (hi==(0:Int))
 (bnd (quo .u64 lo y) λp =>
 bnd (rem .u64 lo y) λq =>
 some ((p,q)))
 (bnd (ZNd y) λc =>
 bnd (ZVa .u64 y (IntKind.u64.wrap c)) λb =>
 bnd (ZN .u64 b (32:Int)) λa =>
 bnd (ZVa .u64 hi (IntKind.u64.wrap c)) λd =>
 bnd (ZN .u64 lo (IntKind.u64.wrap ((64:Int)-(IntKind.u64.wrap c)))) λe =>
 bnd (ZVa .u64 lo (IntKind.u64.wrap c)) λj =>
 bnd (ZN .u64 j (32:Int)) λh =>
 bnd (quo .u64 (orI .u64 d e) a) λm =>
 bnd (bnd (Zh (λs:Int×Int=>match s with
| (f,k) =>
 (bnd (ifb (decide ((4294967296:Int)≤f))
 (some true)
 (some (decide (IntKind.u64.wrap ((IntKind.u64.wrap ((4294967296:Int)*k))+h)<IntKind.u64.wrap (f*(Z8 .u64 b (4294967295:Int)))))))
 (λ(r:Bool) =>
 (ifb (r)
 (ifb (decide ((4294967296:Int)≤IntKind.u64.wrap (k+a)))
 (some (.inr (IntKind.u64.wrap (f-(1:Int)))))
 (some (.inl ((IntKind.u64.wrap (f-(1:Int)),IntKind.u64.wrap (k+a))))))
 (some (.inr f)))))) Zj ((m,IntKind.u64.wrap ((orI .u64 d e)-(IntKind.u64.wrap (m*a))))))
 (λ(t:Int) =>
 (some t)))
 (λ(i:Int) =>
 (bnd (quo .u64 (IntKind.u64.wrap ((IntKind.u64.wrap ((IntKind.u64.wrap ((orI .u64 d e)*(4294967296:Int)))+h))-(IntKind.u64.wrap (i*b)))) a) λn =>
 bnd (bnd (Zh (λs:Int×Int=>match s with
| (l,g) =>
 (bnd (ifb (decide ((4294967296:Int)≤g))
 (some true)
 (some (decide (IntKind.u64.wrap ((IntKind.u64.wrap ((4294967296:Int)*l))+(Z8 .u64 j (4294967295:Int)))<IntKind.u64.wrap (g*(Z8 .u64 b (4294967295:Int)))))))
 (λ(u:Bool) =>
 (ifb (u)
 (ifb (decide ((4294967296:Int)≤IntKind.u64.wrap (l+a)))
 (some (.inr (IntKind.u64.wrap (g-(1:Int)))))
 (some (.inl ((IntKind.u64.wrap (l+a),IntKind.u64.wrap (g-(1:Int)))))))
 (some (.inr g)))))) Zj ((IntKind.u64.wrap ((IntKind.u64.wrap ((IntKind.u64.wrap ((IntKind.u64.wrap ((orI .u64 d e)*(4294967296:Int)))+h))-(IntKind.u64.wrap (i*b))))-(IntKind.u64.wrap (n*a))),n)))
 (λ(v:Int) =>
 (some v)))
 (λ(o:Int) =>
 (bnd (ZN .u64 (IntKind.u64.wrap ((IntKind.u64.wrap ((IntKind.u64.wrap ((IntKind.u64.wrap ((IntKind.u64.wrap ((IntKind.u64.wrap ((orI .u64 d e)*(4294967296:Int)))+h))-(IntKind.u64.wrap (i*b))))*(4294967296:Int)))+(Z8 .u64 j (4294967295:Int))))-(IntKind.u64.wrap (o*b)))) (IntKind.u64.wrap c)) λw =>
 some ((IntKind.u64.wrap ((IntKind.u64.wrap (i*(4294967296:Int)))+o),w)))))))))
theorem Zde {x k:Nat} (hk:k≤64):ZVa .u64 (x:Int) (k:Int)=some ((x*2^k%18446744073709551616:Nat):Int):=by
 unfold ZVa;rw[iN (by omega)];have:min ((k:Int).toNat) IntKind.u64.bits=k:=by simp[IntKind.bits];omega
 rw[this,wrap_u64];simp
theorem Zud {x k:Nat} (hk:k≤64):ZN .u64 (x:Int) (k:Int)=some ((x / 2^k:Nat):Int):=by
 rw[Zum (by omega) hk];simp
theorem ZTf {a c k:Nat} (hc:c<2^k) (ha:a*2^k+c<18446744073709551616):orI .u64 ((a*2^k:Nat):Int) (c:Int)=((a*2^k+c:Nat):Int):=by
 unfold orI;have h1:(BitVec.ofInt IntKind.u64.bits ((a*2^k:Nat):Int) ||| BitVec.ofInt IntKind.u64.bits (c:Int)).toNat=a*2^k+c:=by
  rw[BitVec.toNat_or];have e1:(BitVec.ofInt IntKind.u64.bits ((a*2^k:Nat):Int)).toNat=a*2^k:=by
   show (BitVec.ofInt 64 ((a*2^k:Nat):Int)).toNat=a*2^k;rw[BitVec.toNat_ofInt];generalize a*2^k=z at *;simp;omega
  have e2:(BitVec.ofInt IntKind.u64.bits (c:Int)).toNat=c:=by
   show (BitVec.ofInt 64 (c:Int)).toNat=c;rw[BitVec.toNat_ofInt];generalize a*2^k=z at *;simp;omega
  rw[e1,e2,Nat.mul_comm a,← Nat.two_pow_add_eq_or_of_lt hc]
 rw[h1,wrap_u64];generalize a*2^k+c=z at *;omega
theorem Z1r {u d q r y1 y0 Y:Nat} (hY:Y=y1*4294967296+y0) (hu:u=q*y1+r) (h:q*y0≤4294967296*r+d):q*Y≤u*4294967296+d:=by
 subst hY hu;grind
theorem Ziv {u d q r y1 y0 Y:Nat} (hY:Y=y1*4294967296+y0) (hu:u=q*y1+r) (h:4294967296*r+d<q*y0):u*4294967296+d<q*Y:=by
 subst hY hu;grind
theorem Zfz {u d y1 y0 Y q:Nat} (hY:Y=y1*4294967296+y0) (hy:2147483648≤y1) (hy0:y0<4294967296) (huY:u<Y) (hq:q*y1≤u):q≤4294967297:=by
 rcases Nat.lt_or_ge 4294967297 q with h | h
 ·have h1:4294967298*y1≤q*y1:=mR _ h;omega
 ·exact h
theorem Z9g {n:Nat} (h:n<18446744073709551616):IntKind.u64.wrap (n:Int)=(n:Int):=by rw[wrap_u64];omega
structure Half (u d y1 y0 Y:Nat):Prop where
 eY:Y=y1*4294967296+y0
 h1:2147483648≤y1
 h1':y1<4294967296
 h0:y0<4294967296
 hd:d<4294967296
 hu:u<Y
theorem Z7p {u d y1 y0 Y q r:Nat} (H:Half u d y1 y0 Y) (e:u=q*y1+r) (hr:r<4294967296) (hQ:(u*4294967296+d) / Y≤q) :
  (q<4294967296∧q*y0≤4294967296*r+d∧q=(u*4294967296+d) / Y) ∨
  ((4294967296≤q∨q<4294967296∧4294967296*r+d<q*y0)∧0<q∧(u*4294967296+d) / Y≤q-1∧u=(q-1)*y1+(r+y1)∧(4294967296≤r+y1→q-1=(u*4294967296+d) / Y)):=by
 obtain⟨eY,h1,h1',h0,hd,hu⟩:=H;have hY:0<Y:=by omega
 have hQ1:∀ q,q*Y≤u*4294967296+d→q≤(u*4294967296+d) / Y:=λq h=>(Nat.le_div_iff_mul_le hY).2 h;have hQ2:∀ q,u*4294967296+d<q*Y→(u*4294967296+d) / Y<q:=λq h=>(Nat.div_lt_iff_lt_mul hY).2 h;have hQb:(u*4294967296+d) / Y<4294967296:=by
  apply hQ2;have:(u+1)*4294967296≤Y*4294967296:=mR _ hu;rw[Nat.mul_comm 4294967296 Y];omega
 generalize (u*4294967296+d) / Y=Q at *;by_cases hc:q<4294967296∧q*y0≤4294967296*r+d
 ·left;refine⟨hc.1,hc.2,?_⟩;have:=hQ1 q (Z1r eY e hc.2);omega
 ·right;have hlt:Q<q:=by
   by_cases hq:q<4294967296
   ·exact hQ2 q (Ziv eY e (by omega))
   ·omega
  have hq1:q*y1≤u:=by omega
  have hqb:=Zfz (d:=d) eY h1 h0 hu hq1;have e2:u=(q-1)*y1+(r+y1):=by
   obtain⟨p,rfl⟩:∃ p,q=p+1:=⟨q-1,by omega⟩;rw[e,Nat.succ_mul];simp;omega
  refine⟨by omega,by omega,by omega,e2,λh=>?_⟩;have h3:(q-1)*y0≤4294967296*4294967295:=Nat.mul_le_mul (by omega) (by omega);have:=hQ1 _ (Z1r (d:=d) eY e2 (by omega));omega
theorem Zkp {u d q Y:Nat} (hq:q=(u*4294967296+d) / Y) (hY:Y<18446744073709551616) (hY0:0<Y) :
  IntKind.u64.wrap (IntKind.u64.wrap (IntKind.u64.wrap ((u:Int)*4294967296)+(d:Int))-IntKind.u64.wrap ((q:Int)*(Y:Int)))=(((u*4294967296+d)%Y:Nat):Int):=by
 have h1:=Nat.div_add_mod (u*4294967296+d) Y;have h2:=Nat.mod_lt (u*4294967296+d) hY0;rw[← hq,Nat.mul_comm]at h1;rw[← Int.natCast_mul q Y];generalize q*Y=p at *;generalize (u*4294967296+d)%Y=m at *;simp only[wrap_u64];omega
theorem Zlh {p q:Nat} (hq:0<q) (hp:p<18446744073709551616):quo .u64 (p:Int) (q:Int)=some ((p / q:Nat):Int):=by
 unfold quo;rw[iN (by omega)];have e:(p:Int).tdiv (q:Int)=((p / q:Nat):Int):=by simp[Int.tdiv_eq_ediv_of_nonneg]
 have h:p / q≤p:=Nat.div_le_self _ _;generalize p / q=r at *;rw[e,Zcm (Zcd.2 ⟨by omega,by omega⟩)]
theorem Z7e {k:IntKind} {p q:Nat} (hq:0<q):rem k (p:Int) (q:Int)=some ((p%q:Nat):Int):=by
 unfold rem;rw[iN (by omega)];simp[Int.tmod_eq_emod_of_nonneg]
theorem Zny {H L y s Y:Nat} (hH:H<y) (hL:L<18446744073709551616) (hs:s≤63) (hY:Y=y*2^s) (hY':Y<18446744073709551616) :
  H*2^s%18446744073709551616=H*2^s∧L / 2^(64-s)<2^s∧H*2^s+L / 2^(64-s)<Y∧(H*2^s+L / 2^(64-s))*18446744073709551616+L*2^s%18446744073709551616=(H*18446744073709551616+L)*2^s:=by
 have e64:2^(64-s)*2^s=18446744073709551616:=by rw[← Nat.pow_add,show 64-s+s=64 by omega]
 have hp:0<2^s:=Nat.pow_pos (by omega);have hp2:0<2^(64-s):=Nat.pow_pos (by omega);have h1:(H+1)*2^s≤Y:=by rw[hY];exact mR _ hH
 rw[Nat.add_mul,Nat.one_mul]at h1;have h2:L / 2^(64-s)<2^s:=by rw[Nat.div_lt_iff_lt_mul hp2,Nat.mul_comm,e64];exact hL
 have h3:L*2^s / 18446744073709551616=L / 2^(64-s):=by
  rw[← e64,Nat.mul_div_mul_right _ _ hp]
 have h4:=Nat.div_add_mod (L*2^s) 18446744073709551616;rw[h3]at h4;refine⟨Nat.mod_eq_of_lt (by omega),h2,by omega,?_⟩;rw[Nat.add_mul (H*18446744073709551616),Nat.mul_right_comm H];omega
theorem Zbu {q r y0 d Y:Nat} (y1:Nat) (hY:Y%4294967296=y0) (hY':Y<18446744073709551616) (hr:r<4294967296) (hd:d<4294967296) :
  ifb (decide ((4294967296:Int)≤(q:Int))) (some true) (some (decide (IntKind.u64.wrap ((IntKind.u64.wrap (((4294967296:Int))*(r:Int)))+(d:Int))<IntKind.u64.wrap ((q:Int)*(Z8 .u64 (Y:Int) ((4294967295:Int))))))) =
  some (decide (4294967296≤q∨q<4294967296∧4294967296*r+d<q*y0)):=by
 by_cases h:4294967296≤q
 ·rw[dTq (by omega),Ze,dTq (.inl h)]
 ·rw[dFq (by omega),Zd];have h1:q*y0≤4294967295*4294967295:=Nat.mul_le_mul (by omega) (by omega);have e1:((4294967296:Int))*(r:Int)=((4294967296*r:Nat):Int):=by simp
  rw[ZRf _ hY',hY,← Int.natCast_mul q y0,Z9g (by omega),e1,Z9g (by omega),← Int.natCast_add,Z9g (by omega)];congr 1;apply decide_eq_decide.2;omega
theorem ZeA {H L y:Nat} (hL:L<18446744073709551616) (hH:H<y) (hy:y<18446744073709551616) :
  Z7m (H:Int) (L:Int) (y:Int)=some ((((H*18446744073709551616+L) / y:Nat):Int),(((H*18446744073709551616+L)%y:Nat):Int)):=by
 unfold Z7m;have e1:((y:Int)==0)=false:=by simp;omega
 rw[e1,Zd,dFq (by omega),Zd];by_cases hH0:H=0
 ·subst hH0;rw[show (((0:Nat):Int)==0)=true from rfl,Ze,Zlh (by omega) hL,Za,Z7e (by omega),Za];simp
 have e2:((H:Int)==0)=false:=by simp;omega
 have hy0:y≠0:=by omega
 obtain⟨k,hk⟩:=Zng hy0;have hbl:bl y≤64:=ZCb (by omega);obtain⟨hy1,hy2⟩:=(Zwf hy0).1 hk;have hz:ZNd (y:Int)=some ((64-bl y:Nat):Int):=by
  unfold ZNd;rw[iP ⟨by omega,by omega⟩];congr 1;simp;omega
 rw[e2,Zd,hz,Za];obtain⟨s,hs⟩:∃ s,s=64-bl y:=⟨_,rfl⟩;rw[← hs,Z9g (n:=s) (by omega)];have e64s:IntKind.u64.wrap (((64:Int))-(s:Int))=((64-s:Nat):Int):=by rw[wrap_u64];omega
 rw[e64s];have eY:y*2^s<18446744073709551616:=by
  have:=Nat.mul_lt_mul_of_pos_right hy2 (Nat.pow_pos (n:=s) (show 0<2 by omega));rw[← Nat.pow_add,show k+1+s=64 by omega]at this;exact this
 have eY2:9223372036854775808≤y*2^s:=by
  have:=mR (2^s) hy1;rw[← Nat.pow_add,show k+s=63 by omega]at this;exact this
 obtain⟨p1,p2,p3,p4⟩:=Zny (s:=s) hH hL (by omega) rfl eY;rw[Zde (by omega),Za,Nat.mod_eq_of_lt eY];have sh32:∀ n:Nat,ZN .u64 (n:Int) 32=some ((n / 4294967296:Nat):Int):=λn=>Zud (x:=n) (k:=32) (by omega);rw[sh32,Za,Zde (by omega),Za,p1,Zud (by omega),Za,Zde (by omega),Za,sh32,Za,ZTf p2 (by omega)];obtain⟨Y,hY⟩:∃ Y,Y=y*2^s:=⟨_,rfl⟩;obtain⟨u,hu⟩:∃ u,u=H*2^s+L / 2^(64-s):=⟨_,rfl⟩;obtain⟨t,ht⟩:∃ t,t=L*2^s%18446744073709551616:=⟨_,rfl⟩;have ht':t<18446744073709551616:=by rw[ht];exact Nat.mod_lt _ (by omega)
 rw[← hY]at eY eY2 p3 ⊢;rw[← hu]at p3 p4 ⊢;rw[← ht]at p4 ⊢;have H1:Half u (t / 4294967296) (Y / 4294967296) (Y%4294967296) Y:=⟨by omega,by omega,by omega,by omega,by omega,p3⟩;have hY0:0<Y:=by omega
 have hy10:0<Y / 4294967296:=by omega
 rw[Zlh (by omega) (by omega),Za,Z5];have eU:∀ u:Nat,u<Y→IntKind.u64.wrap ((u:Int)-IntKind.u64.wrap (((u / (Y / 4294967296):Nat):Int)*((Y / 4294967296:Nat):Int)))=((u%(Y / 4294967296):Nat):Int):=by
  intro u hu;have h1:=Nat.div_add_mod u (Y / 4294967296);rw[Nat.mul_comm]at h1;rw[← Int.natCast_mul];generalize u / (Y / 4294967296)*(Y / 4294967296)=g at *;generalize u%(Y / 4294967296)=m at *;rw[Z9g (n:=g) (by omega),wrap_u64];omega
 have eDiv:∀ u d:Nat,u<Y→d<4294967296→(u*4294967296+d) / Y≤u / (Y / 4294967296):=by
  intro u d hu hd;have h1:=Nat.div_add_mod Y 4294967296;apply (Nat.le_div_iff_mul_le hy10).2;have h2:=Nat.div_mul_le_self (u*4294967296+d) Y;generalize (u*4294967296+d) / Y=Q at *;have h3:Q*(Y / 4294967296*4294967296)≤Q*Y:=Nat.mul_le_mul_left _ (by omega);rw[← Nat.mul_assoc]at h3;generalize Q*(Y / 4294967296)=g at *;omega
 have eW:∀ q:Nat,0<q→q<18446744073709551616→IntKind.u64.wrap ((q:Int)-1)=((q-1:Nat):Int):=by
  intro q h1 h2;rw[wrap_u64];omega
 have eR:∀ r:Nat,r<4294967296→IntKind.u64.wrap ((r:Int)+((Y / 4294967296:Nat):Int))=((r+Y / 4294967296:Nat):Int):=by
  intro r h1;rw[← Int.natCast_add,Z9g (by omega)]
 rw[eU u p3];refine Zta (λs:Int×Int=>∃ q r:Nat,s=((q:Int),(r:Int))∧u=q*(Y / 4294967296)+r∧r<4294967296∧(u*4294967296+t / 4294967296) / Y≤q∧q<18446744073709551616) (λs=>s.1.toNat)
  (λr:Int=>r=(((u*4294967296+t / 4294967296) / Y:Nat):Int))
  ⟨u / (Y / 4294967296),u%(Y / 4294967296),rfl,by rw[Nat.mul_comm];exact (Nat.div_add_mod _ _).symm,Nat.lt_trans (Nat.mod_lt _ hy10) (by omega),eDiv u _ p3 (by omega),Nat.lt_of_le_of_lt (Nat.div_le_self _ _) (by omega)⟩
  (ZX (by simp only[tN];exact Nat.lt_of_le_of_lt (Nat.div_le_self _ _) (by omega))) ?_ ?_
 ·rintro _ ⟨q,r,rfl,e,hr,hQ,hq64⟩;simp only;rw[Zbu (y0:=Y%4294967296) 0 rfl eY hr (by omega),Za];rcases Z7p H1 e hr hQ with ⟨h1,h2,h3⟩ | ⟨h1,h2,h3,h4,h5⟩
  ·right;rw[dFq (by omega),Zd];exact⟨_,rfl,by rw[h3]⟩
  ·rw[dTq h1,Ze,eR r hr,eW q h2 hq64];by_cases hb:4294967296≤r+Y / 4294967296
   ·right;rw[dTq (by omega),Ze];exact⟨_,rfl,by rw[h5 hb]⟩
   ·left;rw[dFq (by omega),Zd];exact⟨_,rfl,⟨q-1,r+Y / 4294967296,rfl,h4,by omega,h3,by omega⟩,by simp;omega⟩
 rintro _ rfl;rw[Za];obtain⟨Q1,hQ1⟩:∃ Q,Q=(u*4294967296+t / 4294967296) / Y:=⟨_,rfl⟩;have hQ1b:Q1<4294967296:=by
  rw[hQ1,Nat.div_lt_iff_lt_mul hY0];have:(u+1)*4294967296≤Y*4294967296:=mR _ p3;rw[Nat.mul_comm 4294967296 Y];omega
 have er1:=Zkp hQ1 eY hY0;rw[← hQ1];have ecm:∀ z:Int,z*((4294967296:Int))=z*4294967296:=λ_=>rfl;rw[er1];obtain⟨v,hv⟩:∃ v,v=(u*4294967296+t / 4294967296)%Y:=⟨_,rfl⟩;have hvY:v<Y:=by rw[hv];exact Nat.mod_lt _ hY0
 rw[← hv];have H2:Half v (t%4294967296) (Y / 4294967296) (Y%4294967296) Y:=⟨by omega,by omega,by omega,by omega,by omega,hvY⟩;rw[Zlh (by omega) (by omega),Za,Z5,eU v hvY,ZRf t ht'];refine Zta (λs:Int×Int=>∃ q r:Nat,s=((r:Int),(q:Int))∧v=q*(Y / 4294967296)+r∧r<4294967296∧(v*4294967296+t%4294967296) / Y≤q∧q<18446744073709551616) (λs=>s.2.toNat)
  (λr:Int=>r=(((v*4294967296+t%4294967296) / Y:Nat):Int))
  ⟨v / (Y / 4294967296),v%(Y / 4294967296),rfl,by rw[Nat.mul_comm];exact (Nat.div_add_mod _ _).symm,Nat.lt_trans (Nat.mod_lt _ hy10) (by omega),eDiv v _ hvY (by omega),Nat.lt_of_le_of_lt (Nat.div_le_self _ _) (by omega)⟩
  (ZX (by simp only[tN];exact Nat.lt_of_le_of_lt (Nat.div_le_self _ _) (by omega))) ?_ ?_
 ·rintro _ ⟨q,r,rfl,e,hr,hQ,hq64⟩;simp only;rw[Zbu (y0:=Y%4294967296) 0 rfl eY hr (by omega),Za];rcases Z7p H2 e hr hQ with ⟨h1,h2,h3⟩ | ⟨h1,h2,h3,h4,h5⟩
  ·right;rw[dFq (by omega),Zd];exact⟨_,rfl,by rw[h3]⟩
  ·rw[dTq h1,Ze,eR r hr,eW q h2 hq64];by_cases hb:4294967296≤r+Y / 4294967296
   ·right;rw[dTq (by omega),Ze];exact⟨_,rfl,by rw[h5 hb]⟩
   ·left;rw[dFq (by omega),Zd];exact⟨_,rfl,⟨q-1,r+Y / 4294967296,rfl,h4,by omega,h3,by omega⟩,by simp;omega⟩
 rintro _ rfl;rw[Za];obtain⟨Q0,hQ0⟩:∃ Q,Q=(v*4294967296+t%4294967296) / Y:=⟨_,rfl⟩;have hQ0b:Q0<4294967296:=by
  rw[hQ0,Nat.div_lt_iff_lt_mul hY0];have:(v+1)*4294967296≤Y*4294967296:=mR _ hvY;rw[Nat.mul_comm 4294967296 Y];omega
 have er2:=Zkp hQ0 eY hY0;rw[← hQ0,er2,Zud (by omega),Za];have hd1:=Nat.div_add_mod (u*4294967296+t / 4294967296) Y;have hd2:=Nat.div_add_mod (v*4294967296+t%4294967296) Y;have hm2:=Nat.mod_lt (v*4294967296+t%4294967296) hY0;rw[← hQ1,← hv]at hd1;rw[← hQ0]at hd2;obtain⟨w,hw⟩:∃ w,w=(v*4294967296+t%4294967296)%Y:=⟨_,rfl⟩;rw[← hw]at hd2 hm2 ⊢;have hN:(H*18446744073709551616+L)*2^s=Y*(Q1*4294967296+Q0)+w:=by
  rw[← p4,Nat.mul_add,← Nat.mul_assoc];generalize Y*Q1=g at *;generalize Y*Q0=g' at *;omega
 have hp:0<2^s:=Nat.pow_pos (by omega);have hMy:(H*18446744073709551616+L) / y=Q1*4294967296+Q0:=by
  have h1:=Nat.mul_div_mul_right (H*18446744073709551616+L) y hp;rw[← hY,hN,Nat.mul_add_div hY0,Nat.div_eq_of_lt hm2,Nat.add_zero]at h1;exact h1.symm
 have hMm:(H*18446744073709551616+L)%y*2^s=w:=by
  have h1:=Nat.mul_mod_mul_right (2^s) (H*18446744073709551616+L) y;rw[← hY,hN,Nat.mul_add_mod,Nat.mod_eq_of_lt hm2]at h1;exact h1.symm
 rw[hMy,← hMm,Nat.mul_div_cancel _ hp];have:IntKind.u64.wrap (IntKind.u64.wrap ((Q1:Int)*4294967296)+(Q0:Int))=((Q1*4294967296+Q0:Nat):Int):=by
  simp only[wrap_u64];omega
 rw[this]
theorem ZGA {hi lo y:Int} {z:Int×Int} (h:Z9c hi lo y=some z):Z7m hi lo y=some z:=by
 unfold Z9c at h;split at h
 ·rename_i hh;obtain⟨h1,h2,h3,h4,h5⟩:=hh;obtain⟨H,rfl⟩:=oZ h1;obtain⟨L,rfl⟩:=oZ h2;obtain⟨Y,rfl⟩:=oZ (show 0≤y by omega);rw[ZeA (by omega) (by omega) (by omega),← h];simp
 ·cases h
noncomputable def ZFn (a:Nat) (n:Int):Option (Nat×Int) :=
 bnd (mk 8 ((((Zc 18446744073709551616 a)).length:Int)) ((((Zc 18446744073709551616 a)).length:Int))) λo =>
 bnd (chk .i64 (((((Zc 18446744073709551616 a)).length:Int))-(1:Int))) λf =>
 bnd (bnd (Zh (λs:(List Int)×Int×Int=>match s with
| (c,d,b) =>
 (ifb (decide ((0:Int)≤b))
 (bnd (idx ((Zc 18446744073709551616 a)) b) λg =>
 bnd (Z9c d g n) λe =>
 bnd (idx c b) λq =>
 bnd (chk .i64 (b-(1:Int))) λh =>
 some (.inl (((c.set (b).toNat e.1),e.2,h))))
 (some (.inr ((c,d)))))) Zj (((List.replicate ((((Zc 18446744073709551616 a)).length:Int)).toNat (0:Int)),(0:Int),f)))
 (λ(p:(List Int)×Int)=>match p with
| (i,j) =>
 (some ((i,j)))))
 (λ(p:(List Int)×Int)=>match p with
| (k,l) =>
 (bnd (ZRa k) λm =>
 some ((m,l))))
noncomputable def Zdn (a:Nat) (n:Int):Option (Nat) :=
 bnd (ifb (((((Zc 18446744073709551616 a)).length:Int))==(0:Int))
 (some true)
 (some (n==(0:Int))))
 (λ(j:Bool) =>
 (ifb (j)
 (some a)
 (bnd (quo .i64 n (64:Int)) λk =>
 bnd (chk .i64 (((((Zc 18446744073709551616 a)).length:Int))+k)) λl =>
 bnd (chk .i64 (l+(1:Int))) λe =>
 bnd (mk 8 e e) λz =>
 bnd (bnd (Zh (λs:(List Int)×Int=>match s with
| (b,c) =>
 (ifb (decide (c<(((Zc 18446744073709551616 a)).length:Int)))
 (bnd (idx ((Zc 18446744073709551616 a)) c) λf =>
 bnd (quo .i64 n (64:Int)) λm =>
 bnd (chk .i64 (c+m)) λd =>
 bnd (idx b d) λg =>
 bnd (rem .i64 n (64:Int)) λo =>
 bnd (ZVa .u64 f o) λh =>
 bnd (idx b d) λA =>
 bnd (quo .i64 n (64:Int)) λp =>
 bnd (chk .i64 (c+p)) λq =>
 bnd (chk .i64 (q+(1:Int))) λi =>
 bnd (rem .i64 n (64:Int)) λr =>
 bnd (chk .i64 ((64:Int)-r)) λt =>
 bnd (ZN .u64 f t) λu =>
 bnd (idx ((b.set (d).toNat (orI .u64 g h))) i) λB =>
 bnd (chk .i64 (c+(1:Int))) λv =>
 some (.inl (((((b.set (d).toNat (orI .u64 g h))).set (i).toNat u),v))))
 (some (.inr b)))) Zj (((List.replicate (e).toNat (0:Int)),(0:Int))))
 (λ(w:(List Int)) =>
 (some w)))
 (λ(x:(List Int)) =>
 (bnd (ZRa x) λy =>
 some y)))))
noncomputable def Z3l (a:Nat) (n:Int):Option (Nat) :=
 bnd (quo .i64 n (64:Int)) λf =>
 ifb (decide ((((Zc 18446744073709551616 a)).length:Int)≤f))
 (some ((0:Nat)))
 (bnd (quo .i64 n (64:Int)) λg =>
 bnd (chk .i64 (((((Zc 18446744073709551616 a)).length:Int))-g)) λd =>
 bnd (mk 8 d d) λD =>
 bnd (bnd (Zh (λs:(List Int)×Int=>match s with
| (c,b) =>
 (ifb (decide (b<(((List.replicate (d).toNat (0:Int))).length:Int)))
 (bnd (quo .i64 n (64:Int)) λh =>
 bnd (chk .i64 (b+h)) λi =>
 bnd (idx ((Zc 18446744073709551616 a)) i) λj =>
 bnd (rem .i64 n (64:Int)) λk =>
 bnd (ZN .u64 j k) λe =>
 bnd (idx c b) λE =>
 bnd (quo .i64 n (64:Int)) λl =>
 bnd (chk .i64 (b+l)) λm =>
 bnd (chk .i64 (m+(1:Int))) λo =>
 bnd (ifb (decide (o<(((Zc 18446744073709551616 a)).length:Int)))
 (bnd (idx ((c.set (b).toNat e)) b) λp =>
 bnd (quo .i64 n (64:Int)) λq =>
 bnd (chk .i64 (b+q)) λr =>
 bnd (chk .i64 (r+(1:Int))) λt =>
 bnd (idx ((Zc 18446744073709551616 a)) t) λu =>
 bnd (rem .i64 n (64:Int)) λv =>
 bnd (chk .i64 ((64:Int)-v)) λw =>
 bnd (ZVa .u64 u w) λx =>
 bnd (idx ((c.set (b).toNat e)) b) λF =>
 some ((((c.set (b).toNat e)).set (b).toNat (orI .u64 p x))))
 (some ((c.set (b).toNat e))))
 (λ(y:(List Int)) =>
 (bnd (chk .i64 (b+(1:Int))) λz =>
 some (.inl ((y,z))))))
 (some (.inr c)))) Zj (((List.replicate (d).toNat (0:Int)),(0:Int))))
 (λ(A:(List Int)) =>
 (some A)))
 (λ(B:(List Int)) =>
 (bnd (ZRa B) λC =>
 some C)))
theorem Z9A {q r rest x V W B d:Nat} (h:V*d+rest=W) (e:q*d+r=rest*B+x):(q+B*V)*d+r=x+B*W:=by
 subst h;grind
theorem ZHv {n d:Nat} (hn:okN n) (hd:0<d) (hd':d<18446744073709551616):ZFn n (d:Int)=some (n / d,((n%d:Nat):Int)):=by
 unfold ZFn;have hdx:=Zya (B:=18446744073709551616) (by decide) n;have hvx:=Zca (B:=18446744073709551616) (by decide) n;unfold okN at hn;generalize Zc 18446744073709551616 n=a at *;obtain⟨u,hu⟩:=ZSc (b:=8) (l:=(a.length:Int)) (c:=(a.length:Int)) (by omega) (by omega) (by omega) (by omega);rw[hu,Za,Zi (by omega) (by omega),Za,Z5];refine Zta (λs:(List Int)×Int×Int=>∃ k r:Nat,s.2.2=(k:Int)-1∧s.2.1=(r:Int)∧k≤a.length∧s.1.length=a.length∧r<d ∧
  val 18446744073709551616 (s.1.drop k)*d+r=val 18446744073709551616 (a.drop k)) (λs=>(s.2.2+1).toNat)
  (λr:List Int×Int=>val 18446744073709551616 r.1=n / d∧r.2=((n%d:Nat):Int))
  ⟨a.length,0,rfl,rfl,by omega,by simp,hd,by simp[val]⟩ (ZX (by simp;omega)) ?_ ?_
 ·rintro⟨out,c,i⟩ ⟨k,r,e1,e2,hk,ho,hr,hv⟩;simp only at e1 e2 ho hv ⊢;subst e1 e2;by_cases h0:0<k
  ·left;obtain⟨j,rfl⟩:∃ j,k=j+1:=⟨k-1,by omega⟩;have hj:j<a.length:=by omega
   have hx:=hdx.get hj;obtain⟨X,hX⟩:=oZ hx.1;have ej:((j+1:Nat):Int)-1=(j:Int):=by omega
   rw[ej,dTq (by omega),Ze,Zu hj,Za,hX];have hdv:Z9c (r:Int) (X:Int) (d:Int)=some ((((r*18446744073709551616+X) / d:Nat):Int),(((r*18446744073709551616+X)%d:Nat):Int)):=by
    unfold Z9c;rw[iP ⟨by omega,by omega,by omega,by omega,by omega⟩];simp
   rw[hdv,Za,Zu (by omega),Za,Zi (by omega) (by omega),Za];refine⟨_,rfl,⟨j,_,rfl,rfl,by omega,by simp[ho],Nat.mod_lt _ hd,?_⟩,by simp⟩;simp only[tN];rw[Zdc (by simp;omega),List.getElem_set_self,List.drop_set_of_lt (by omega),Zdc hj,hX];simp only[tN];exact Z9A hv (by rw[Nat.mul_comm];exact Nat.div_add_mod _ _)
  ·right;have:k=0:=by omega
   subst this;rw[dFq (by simp),Zd];simp only[List.drop_zero]at hv;rw[hvx]at hv;refine⟨_,rfl,?_,?_⟩
   ·rw[← hv,Nat.mul_comm,Nat.mul_add_div hd,Nat.div_eq_of_lt hr];rfl
   ·rw[← hv,Nat.mul_comm,Nat.mul_add_mod,Nat.mod_eq_of_lt hr]
 ·rintro⟨out,c⟩ ⟨hv,hc⟩;simp only at hv hc ⊢;rw[Za];simp only;unfold ZRa;rw[Za,hv,hc]
theorem ZUz {n:Nat} {d:Int} {z:Nat×Int} (hd:inR .u64 d) (h:ZXd n d=some z):ZFn n d=some z:=by
 unfold ZXd at h;split at h
 ·rename_i hh;obtain⟨h1,h2⟩:=hh;have:=Zcd.1 hd;obtain⟨D,rfl⟩:=oZ (show 0≤d by omega);rw[ZHv h1 (by omega) (by omega),← h];simp
 ·cases h
theorem Z5k {p q:Nat} (hq:0<q) (hp:p≤9223372036854775807):quo .i64 (p:Int) (q:Int)=some ((p / q:Nat):Int):=by
 unfold quo;rw[iN (by omega)];have e:(p:Int).tdiv (q:Int)=((p / q:Nat):Int):=by simp[Int.tdiv_eq_ediv_of_nonneg]
 have h:p / q≤p:=Nat.div_le_self _ _;generalize p / q=r at *;rw[e,Zi (by omega) (by omega)]
theorem Zua {n:Nat} (h:n≤9223372036854775807):chk .i64 (n:Int)=some (n:Int):=Zi (by omega) (by omega)
theorem Zcy {V V1 V2 t1 t2 T x K B Q hi lo R P:Nat} (hv:V=T*K) (h1:V1+Q*t1=V+Q*(t1+lo)) (h2:V2+Q*B*t2=V1+Q*B*hi) (ht2:t2=0) (e:lo+B*hi=x*R) (hQ:Q*R=P*K):V2=(T+P*x)*K:=by
 subst hv ht2;have:Q*(lo+B*hi)=Q*(x*R):=by rw[e]
 grind
theorem left_eq {n k:Nat} (hn:okN n) (hk:k≤1099511627776):Zdn n (k:Int)=some (n*2^k):=by
 unfold Zdn;by_cases hn0:n=0
 ·subst hn0;rw[Z7];show some 0=_;simp
 by_cases hk0:k=0
 ·subst hk0;have:(((Zc 18446744073709551616 n).length:Int)==0)=false:=by
   have:=(Zfc (n:=n) (B:=18446744073709551616) (by decide)).2 hn0;have:=List.length_pos_iff.2 this;simp;omega
  rw[this];show some n=_;simp
 have e1:(((Zc 18446744073709551616 n).length:Int)==0)=false:=by
  have:=(Zfc (n:=n) (B:=18446744073709551616) (by decide)).2 hn0;have:=List.length_pos_iff.2 this;simp;omega
 have e2:((k:Int)==0)=false:=by simp;omega
 rw[e1,Zd,e2,Za,Zd];have hdx:=Zya (B:=18446744073709551616) (by decide) n;have hvx:=Zca (B:=18446744073709551616) (by decide) n;unfold okN at hn;generalize Zc 18446744073709551616 n=a at *;have eq64:quo .i64 (k:Int) 64=some ((k / 64:Nat):Int):=Z5k (q:=64) (by omega) (by omega);have er64:rem .i64 (k:Int) 64=some ((k%64:Nat):Int):=Z7e (q:=64) (by omega);obtain⟨w,hw⟩:∃ w,w=k / 64:=⟨_,rfl⟩;obtain⟨s,hs⟩:∃ s,s=k%64:=⟨_,rfl⟩;have hks:k=64*w+s:=by omega
 rw[← hw]at eq64;rw[← hs]at er64;rw[eq64,Za];have c1:chk .i64 ((a.length:Int)+(w:Int))=some ((a.length+w:Nat):Int):=by rw[← Int.natCast_add,Zua (by omega)]
 have c2:chk .i64 (((a.length+w:Nat):Int)+1)=some ((a.length+w+1:Nat):Int):=by rw[show ((a.length+w:Nat):Int)+1=((a.length+w+1:Nat):Int) by omega,Zua (by omega)]
 obtain⟨u,hu⟩:=ZSc (b:=8) (l:=((a.length+w+1:Nat):Int)) (c:=((a.length+w+1:Nat):Int)) (by omega) (by omega) (by omega) (by omega);rw[c1,Za,c2,Za,hu,Za,Z5,tN];have hp:0<2^s:=Nat.pow_pos (by omega);have hB:2^(64-s)*2^s=18446744073709551616:=by rw[← Nat.pow_add,show 64-s+s=64 by omega]
 have hR:18446744073709551616^w*2^s=2^k:=by
  rw[show (18446744073709551616:Nat)=2^64 from rfl,← Nat.pow_mul,← Nat.pow_add,← hks]
 refine Zta (λst:(List Int)×Int=>∃ i:Nat,st.2=(i:Int)∧i≤a.length∧st.1.length=a.length+w+1∧Dig 18446744073709551616 st.1 ∧
  val 18446744073709551616 st.1=val 18446744073709551616 (a.take i)*2^k∧(∀ j (h:j<st.1.length),j=i+w→st.1[j]<(2^s:Nat))∧∀ j (h:j<st.1.length),i+w<j→st.1[j]=0) (λst=>a.length-st.2.toNat)
  (λr:List Int=>val 18446744073709551616 r=n*2^k) ⟨0,rfl,by omega,by simp,Dig.replicate _ (by omega),by simp[val,ZQl],by intro j h _;simp;exact_mod_cast hp,by simp⟩ (ZX (by simp;omega)) ?_ ?_
 ·rintro⟨out,i⟩ ⟨i,rfl,hi,ho,hd,hv,ht,hz⟩;simp only at ho hd hv ht hz ⊢;by_cases hlt:i<a.length
  ·left;have hx:=hdx.get hlt;obtain⟨X,hX⟩:=oZ hx.1;have hiw:i+w<out.length:=by omega
   have ht':=ht _ hiw rfl;obtain⟨T,hT⟩:=oZ (hd.get hiw).1;have c3:chk .i64 ((i:Int)+(w:Int))=some ((i+w:Nat):Int):=by rw[← Int.natCast_add,Zua (by omega)]
   have c4:chk .i64 (((i+w:Nat):Int)+1)=some ((i+w+1:Nat):Int):=by rw[show ((i+w:Nat):Int)+1=((i+w+1:Nat):Int) by omega,Zua (by omega)]
   have c5:chk .i64 (64-(s:Int))=some ((64-s:Nat):Int):=by rw[show 64-(s:Int)=((64-s:Nat):Int) by omega,Zua (by omega)]
   have c6:decide ((i:Int)<(a.length:Int))=true:=dTq (by omega);have c7:=Zde (x:=X) (k:=s) (by omega);have c8:=Zud (x:=X) (k:=64-s) (by omega);simp only[c6,Ze,Zu hlt,Za,eq64,c3,Zu hiw,er64,hX,c7,c4,c5,c8];have hTs:T<2^s:=by rw[hT]at ht';exact_mod_cast ht'
   have hXlt:X<18446744073709551616:=by omega
   have hdm:=Nat.div_add_mod (X*2^s) 18446744073709551616;have hdiv:X*2^s / 18446744073709551616=X / 2^(64-s):=by rw[← hB,Nat.mul_div_mul_right _ _ hp]
   have hmod:X*2^s%18446744073709551616=X%2^(64-s)*2^s:=by rw[← hB,Nat.mul_mod_mul_right]
   rw[hdiv]at hdm;have hhi:X / 2^(64-s)<2^s:=by
    rw[Nat.div_lt_iff_lt_mul (Nat.pow_pos (by omega)),Nat.mul_comm,hB];exact hXlt
   have hlo:X%2^(64-s)*2^s+T<18446744073709551616:=by
    have h1:X%2^(64-s)+1≤2^(64-s):=Nat.mod_lt _ (Nat.pow_pos (by omega));have h2:=mR (2^s) h1;rw[hB,Nat.add_mul]at h2;omega
   have hor:orI .u64 ((T:Nat):Int) ((X*2^s%18446744073709551616:Nat):Int)=((X*2^s%18446744073709551616+T:Nat):Int):=by
    have hc:orI .u64 (T:Int) ((X*2^s%18446744073709551616:Nat):Int)=orI .u64 ((X*2^s%18446744073709551616:Nat):Int) (T:Int):=by
     unfold orI;rw[BitVec.or_comm]
    rw[hc,hmod,ZTf hTs hlo]
   simp only[tN];rw[hT,hor];have hiw1:i+w+1<(out.set (i+w) ((X*2^s%18446744073709551616+T:Nat):Int)).length:=by simp;omega
   rw[Zu hiw1,Za,Zi (by omega) (by omega),Za];have h2s:2^s≤18446744073709551616:=by rw[← hB];exact Nat.le_mul_of_pos_left _ (Nat.pow_pos (by omega))
   refine⟨_,rfl,⟨i+1,by simp,by omega,by simp[ho],?_,?_,?_,?_⟩,by simp;omega⟩
   ·refine (hd.set _ ?_).set _ ?_
    ·rw[hmod];omega
    ·omega
   ·have h1:=ZVg (B:=18446744073709551616) (l:=out) (i:=i+w) (x:=((X*2^s%18446744073709551616+T:Nat):Int)) hiw;have h2:=ZVg (B:=18446744073709551616) (x:=((X / 2^(64-s):Nat):Int)) hiw1;rw[List.getElem_set_ne (by omega),hz _ (by omega) (by omega)]at h2;rw[hT]at h1;simp only[tN]at h1 h2;rw[Z5a hlt,hX];simp only[tN];rw[Nat.pow_succ]at h2;rw[Nat.add_comm (X*2^s%18446744073709551616) T]at h1 h2 ⊢;exact Zcy (R:=2^s) hv h1 h2 rfl (by omega) (by rw[Nat.pow_add,Nat.mul_assoc,hR])
   ·intro j hj hj2;have hj3:j=i+w+1:=by omega
    subst hj3;rw[List.getElem_set_self]
    exact_mod_cast hhi
   ·intro j hj hj2;rw[List.getElem_set_ne (by omega),List.getElem_set_ne (by omega)];exact hz j (by simpa using hj) (by omega)
  ·right;rw[dFq (by omega),Zd];have hi':i=a.length:=by omega
   subst hi';rw[List.take_length,hvx]at hv;exact⟨_,rfl,hv⟩
 ·rintro out hv;rw[Za];unfold ZRa;rw[hv,Za]
theorem Z5A {n:Nat} {k:Int} {z:Nat} (h:ZUb n k=some z):Zdn n k=some z:=by
 unfold ZUb at h;split at h
 ·rename_i hh;obtain⟨h1,h2,h3⟩:=hh;obtain⟨K,rfl⟩:=oZ h2;rw[left_eq h1 (by omega),← h];simp
 ·cases h
theorem Z4y {V T x xs x' xs' ph P B R D lo0:Nat} (h:V*R+lo0=T+P*xs) (e:D*R+xs=x+B*xs'):(V+P*D)*R+lo0=T+P*x+P*B*xs':=by
 have:P*(D*R+xs)=P*(x+B*xs'):=by rw[e]
 grind
theorem ZQv {n k:Nat} (hn:okN n) (hk:k≤9223372036854775807):Z3l n (k:Int)=some (n / 2^k):=by
 unfold Z3l;have hdx:=Zya (B:=18446744073709551616) (by decide) n;have hvx:=Zca (B:=18446744073709551616) (by decide) n;unfold okN at hn;generalize Zc 18446744073709551616 n=a at *;have eq64:quo .i64 (k:Int) 64=some ((k / 64:Nat):Int):=Z5k (q:=64) (by omega) (by omega);have er64:rem .i64 (k:Int) 64=some ((k%64:Nat):Int):=Z7e (q:=64) (by omega);obtain⟨w,hw⟩:∃ w,w=k / 64:=⟨_,rfl⟩;obtain⟨s,hs⟩:∃ s,s=k%64:=⟨_,rfl⟩;have hks:k=64*w+s:=by omega
 rw[← hw]at eq64;rw[← hs]at er64;have hR:18446744073709551616^w*2^s=2^k:=by
  rw[show (18446744073709551616:Nat)=2^64 from rfl,← Nat.pow_mul,← Nat.pow_add,← hks]
 rw[eq64,Za];by_cases hwl:a.length≤w
 ·rw[dTq (by omega),Ze];congr 1;symm;apply Nat.div_eq_of_lt;have h1:=Zjd hdx;rw[hvx]at h1;have h2:18446744073709551616^a.length≤18446744073709551616^w:=Nat.pow_le_pow_right (by omega) hwl;have h3:18446744073709551616^w*1≤18446744073709551616^w*2^s:=Nat.mul_le_mul_left _ (Nat.pow_pos (by omega));omega
 rw[dFq (by omega),Zd,Za];have c1:chk .i64 ((a.length:Int)-(w:Int))=some ((a.length-w:Nat):Int):=by rw[Zi (by omega) (by omega)];congr 1;omega
 obtain⟨u,hu⟩:=ZSc (b:=8) (l:=((a.length-w:Nat):Int)) (c:=((a.length-w:Nat):Int)) (by omega) (by omega) (by omega) (by omega);rw[c1,Za,hu,Za,Z5,tN];have hp:0<2^s:=Nat.pow_pos (by omega);have hB:2^(64-s)*2^s=18446744073709551616:=by rw[← Nat.pow_add,show 64-s+s=64 by omega]
 have hB':2^s*2^(64-s)=18446744073709551616:=by rw[Nat.mul_comm];exact hB
 have h2s:2^s≤18446744073709551616:=by rw[← hB];exact Nat.le_mul_of_pos_left _ (Nat.pow_pos (by omega))
 obtain⟨A,hA⟩:∃ A,A=a.drop w:=⟨_,rfl⟩;have hAl:A.length=a.length-w:=by rw[hA,List.length_drop]
 have hdA:Dig 18446744073709551616 A:=by rw[hA];exact hdx.drop w
 have hAg:∀ j (h:j<A.length),A[j]=a[j+w]'(by omega):=by intro j h;subst hA;simp[Nat.add_comm]
 have low:∀ j,∃ q:Nat,(∀ (h:j<A.length),A[j]=(q:Int))∧(A.length≤j→q=0)∧q<18446744073709551616:=by
  intro j;by_cases h:j<A.length
  ·obtain⟨X,hX⟩:=oZ (hdA.get h).1;have:=(hdA.get h).2;exact⟨X,λ_=>hX,λh'=>by omega,by omega⟩
  ·exact⟨0,λh'=>by omega,λ_=>rfl,by omega⟩
 have hrep:(List.replicate (a.length-w) (0:Int)).length=A.length:=by simp[hAl]
 rw[hrep];obtain⟨q0,hq0⟩:=low 0;refine Zta (λst:(List Int)×Int=>∃ i q:Nat,st.2=(i:Int)∧i≤A.length∧st.1.length=A.length∧Dig 18446744073709551616 st.1 ∧
  ((∀ (h:i<A.length),A[i]=(q:Int))∧(A.length≤i→q=0)∧q<18446744073709551616) ∧
  val 18446744073709551616 (st.1.take i)*2^s+q0%2^s=val 18446744073709551616 (A.take i)+18446744073709551616^i*(q%2^s)) (λst=>A.length-st.2.toNat)
  (λr:List Int=>r.length=A.length∧val 18446744073709551616 r*2^s+q0%2^s=val 18446744073709551616 A) ⟨0,q0,rfl,by omega,by simp[hAl],Dig.replicate _ (by omega),hq0,by simp[val]⟩ (ZX (by simp;omega)) ?_ ?_
 ·rintro⟨out,i⟩ ⟨i,q,rfl,hi,ho,hd,⟨hq1,hq2,hq3⟩,hv⟩;simp only at ho hd hv ⊢;by_cases hlt:i<A.length
  ·left;have hq:=hq1 hlt;obtain⟨q',hq'1,hq'2,hq'3⟩:=low (i+1);have hio:i<out.length:=by omega
   have hia:i+w<a.length:=by omega
   have c3:chk .i64 ((i:Int)+(w:Int))=some ((i+w:Nat):Int):=by rw[← Int.natCast_add,Zua (by omega)]
   have c4:chk .i64 (((i+w:Nat):Int)+1)=some ((i+w+1:Nat):Int):=by rw[show ((i+w:Nat):Int)+1=((i+w+1:Nat):Int) by omega,Zua (by omega)]
   have c5:chk .i64 (64-(s:Int))=some ((64-s:Nat):Int):=by rw[show 64-(s:Int)=((64-s:Nat):Int) by omega,Zua (by omega)]
   have c6:decide ((i:Int)<(A.length:Int))=true:=dTq (by omega);have c8:=Zud (x:=q) (k:=s) (by omega);have c9:chk .i64 ((i:Int)+1)=some ((i+1:Nat):Int):=by rw[show (i:Int)+1=((i+1:Nat):Int) by omega,Zua (by omega)]
   have haq:a[i+w]=(q:Int):=by rw[← hAg i hlt];exact hq
   have hqs:q / 2^s<2^(64-s):=by rw[Nat.div_lt_iff_lt_mul hp,hB];exact hq3
   have hqd:=Nat.div_add_mod q (2^s);have hqle:q / 2^s≤q:=Nat.div_le_self _ _;simp only[c6,Ze,Za,eq64,c3,Zu hia,er64,haq,c8,Zu hio,c4];have key:∀ D:Nat,D<18446744073709551616→D*2^s+q%2^s=q+18446744073709551616*(q'%2^s)→val 18446744073709551616 ((out.set i (D:Int)).take (i+1))*2^s+q0%2^s=val 18446744073709551616 (A.take (i+1))+18446744073709551616^(i+1)*(q'%2^s):=by
    intro D hD e;rw[Zmh hio,Z5a hlt,hq,Nat.pow_succ];simp only[tN];exact Z4y (x':=0) (ph:=0) hv e
   by_cases hnext:i+1<A.length
   ·have hia1:i+w+1<a.length:=by omega
    have haq':a[i+w+1]=(q':Int):=by
     have h1:=hAg _ hnext;rw[hq'1 hnext]at h1;have e:i+1+w=i+w+1:=by omega
     simp only[e]at h1;exact h1.symm
    have c10:=Zde (x:=q') (k:=64-s) (by omega);have c11:decide (((i+w+1:Nat):Int)<(a.length:Int))=true:=dTq (by omega);have hmod:q'*2^(64-s)%18446744073709551616=q'%2^s*2^(64-s):=by rw[← hB',Nat.mul_mod_mul_right]
    have hlo:q'%2^s*2^(64-s)+q / 2^s<18446744073709551616:=by
     have h1:q'%2^s+1≤2^s:=Nat.mod_lt _ hp;have h2:=mR (2^(64-s)) h1;rw[hB',Nat.add_mul]at h2;omega
    have hor:orI .u64 ((q / 2^s:Nat):Int) ((q'*2^(64-s)%18446744073709551616:Nat):Int)=((q'%2^s*2^(64-s)+q / 2^s:Nat):Int):=by
     have hc:orI .u64 ((q / 2^s:Nat):Int) ((q'*2^(64-s)%18446744073709551616:Nat):Int)=orI .u64 ((q'*2^(64-s)%18446744073709551616:Nat):Int) ((q / 2^s:Nat):Int):=by
      unfold orI;rw[BitVec.or_comm]
     rw[hc,hmod,ZTf hqs hlo]
    have c12:idx (out.set i ((q / 2^s:Nat):Int)) (i:Int)=some ((q / 2^s:Nat):Int):=by
     rw[Zu (by simp;omega),List.getElem_set_self]
    have c13:i<(out.set i ((q / 2^s:Nat):Int)).length:=by simp;omega
    simp only[c11,Ze,Za,tN,c12,eq64,c3,c4,c5,er64,Zu hia1,haq',c10,hor,c9,List.set_set];refine⟨_,rfl,⟨i+1,q',rfl,by omega,by simp[ho],hd.set _ ⟨Int.natCast_nonneg _,by exact_mod_cast hlo⟩,⟨hq'1,hq'2,hq'3⟩,?_⟩,by simp;omega⟩;refine key _ hlo ?_;rw[Nat.add_mul,Nat.mul_assoc,hB];have:=Nat.mul_comm (2^s) (q / 2^s);omega
   ·have c11:decide (((i+w+1:Nat):Int)<(a.length:Int))=false:=dFq (by omega);simp only[c11,Zd,Za,tN,c9];refine⟨_,rfl,⟨i+1,q',rfl,by omega,by simp[ho],hd.set _ ⟨Int.natCast_nonneg _,by exact_mod_cast (Nat.lt_of_le_of_lt hqle hq3)⟩,⟨hq'1,hq'2,hq'3⟩,?_⟩,by simp;omega⟩;refine key _ (Nat.lt_of_le_of_lt hqle hq3) ?_;rw[hq'2 (by omega)];have:=Nat.mul_comm (2^s) (q / 2^s);simp;omega
  ·right;have c6:decide ((i:Int)<(A.length:Int))=false:=dFq (by omega);simp only[c6,Zd];have hi':i=A.length:=by omega
   subst hi';rw[hq2 (by omega),← ho,List.take_length,ho,List.take_length]at hv;exact⟨_,rfl,ho,by simpa using hv⟩
 ·rintro out ⟨ho,hv⟩;rw[Za];unfold ZRa;rw[Za];congr 1;have h1:n / 2^k=val 18446744073709551616 A / 2^s:=by
   have h2:=Zid 18446744073709551616 a w (by omega);rw[← hA,hvx]at h2;have h3:=Zjd (hdx.take w);rw[List.length_take,Nat.min_eq_left (by omega)]at h3;rw[← hR,← Nat.div_div_eq_div_mul,h2,Nat.add_comm,Nat.mul_add_div (Nat.pow_pos (by omega)),Nat.div_eq_of_lt h3,Nat.add_zero]
  rw[h1,← hv,Nat.mul_comm,Nat.mul_add_div hp,Nat.div_eq_of_lt (Nat.mod_lt _ hp),Nat.add_zero]
theorem ZKA {n:Nat} {k:Int} {z:Nat} (hk:inR .i64 k) (h:Z5f n k=some z):Z3l n k=some z:=by
 unfold Z5f at h;split at h
 ·rename_i hh;obtain⟨h1,h2⟩:=hh;have:=ZXa.1 hk;obtain⟨K,rfl⟩:=oZ h2;rw[ZQv h1 (by omega),← h];simp
 ·cases h
noncomputable def Zxi (u:(List Int)) (v:Nat) (q:Int):Option (Bool×(List Int)) :=
 bnd (chk .i64 (((((Zc 18446744073709551616 v)).length:Int))+(1:Int))) λd =>
 bnd (mk 8 d d) λD =>
 bnd (bnd (Zh (λs:(List Int)×Int×Int=>match s with
| (e,g,b) =>
 (ifb (decide (b<(((Zc 18446744073709551616 v)).length:Int)))
 (bnd (idx ((Zc 18446744073709551616 v)) b) λl =>
 bnd (Zyc l q) λh =>
 bnd (ZMb h.2 g (0:Int)) λi =>
 bnd (idx e b) λE =>
 bnd (chk .i64 (b+(1:Int))) λm =>
 some (.inl (((e.set (b).toNat i.1),IntKind.u64.wrap (h.1+i.2),m))))
 (some (.inr ((e,g)))))) Zj (((List.replicate (d).toNat (0:Int)),(0:Int),(0:Int))))
 (λ(p:(List Int)×Int)=>match p with
| (n,o) =>
 (some ((n,o)))))
 (λ(p:(List Int)×Int)=>match p with
| (f,j) =>
 (bnd (idx f ((((Zc 18446744073709551616 v)).length:Int))) λF =>
 bnd (ZRa u) λr =>
 bnd (ZRa ((f.set ((((Zc 18446744073709551616 v)).length:Int)).toNat j))) λt =>
 bnd (Zsf r t) λw =>
 ifb (decide (w<(0:Int)))
 (some ((false,u)))
 (bnd (bnd (Zh (λs:(List Int)×Int×Int=>match s with
| (c,x,a) =>
 (ifb (decide (a<(u.length:Int)))
 (bnd (idx c a) λy =>
 bnd (idx ((f.set ((((Zc 18446744073709551616 v)).length:Int)).toNat j)) a) λz =>
 bnd (Zxd y z x) λk =>
 bnd (idx c a) λG =>
 bnd (chk .i64 (a+(1:Int))) λA =>
 some (.inl (((c.set (a).toNat k.1),k.2,A))))
 (some (.inr c)))) Zj ((u,(0:Int),(0:Int))))
 (λ(B:(List Int)) =>
 (some B)))
 (λ(C:(List Int)) =>
 (some ((true,C)))))))
noncomputable def ZXu (n:Int):Option (Nat) :=
 bnd (ZRa ([n])) λa =>
 some a
theorem Znz {n:Int} {z:Nat} (h:Zfb n=some z):ZXu n=some z:=by
 unfold Zfb at h;unfold ZXu ZRa;rw[Za,← h];simp[val]
theorem ZQw {V Q P c c' d y q B:Nat} (h:V+Q*c=P*q) (e:d+B*c'=y*q+c):(V+Q*d)+Q*B*c'=(P+Q*y)*q:=by
 have:Q*(d+B*c')=Q*(y*q+c):=by rw[e]
 grind
theorem take_eq {u:List Int} {v q:Nat} (hd:Dig 18446744073709551616 u) (hv:okN v) (hl:u.length=(Zc 18446744073709551616 v).length+1) (hq:q<18446744073709551616) :
  Zxi u v (q:Int)=if val 18446744073709551616 u<v*q then some (false,u) else some (true,ZRb u.length (val 18446744073709551616 u-v*q)):=by
 unfold Zxi;have hdx:=Zya (B:=18446744073709551616) (by decide) v;have hvx:=Zca (B:=18446744073709551616) (by decide) v;unfold okN at hv;generalize Zc 18446744073709551616 v=a at *;have c1:chk .i64 ((a.length:Int)+1)=some ((a.length+1:Nat):Int):=by rw[show (a.length:Int)+1=((a.length+1:Nat):Int) by omega,Zua (by omega)]
 obtain⟨w,hw⟩:=ZSc (b:=8) (l:=((a.length+1:Nat):Int)) (c:=((a.length+1:Nat):Int)) (by omega) (by omega) (by omega) (by omega);rw[c1,Za,hw,Za,Z5,tN];have goal_some:∃ z,(if val 18446744073709551616 u<v*q then some (false,u) else some (true,ZRb u.length (val 18446744073709551616 u-v*q)))=some z:=by split <;> exact⟨_,rfl⟩
 obtain⟨z,hz⟩:=goal_some;rw[hz];refine Zta (λs:(List Int)×Int×Int=>∃ k c:Nat,s.2.2=(k:Int)∧s.2.1=(c:Int)∧k≤a.length∧s.1.length=a.length+1∧Dig 18446744073709551616 s.1∧c<18446744073709551616 ∧
  val 18446744073709551616 (s.1.take k)+18446744073709551616^k*c=val 18446744073709551616 (a.take k)*q) (λs=>a.length-s.2.2.toNat)
  (λr:List Int×Int=>∃ c:Nat,r.2=(c:Int)∧r.1.length=a.length+1∧Dig 18446744073709551616 r.1∧c<18446744073709551616∧val 18446744073709551616 (r.1.take a.length)+18446744073709551616^a.length*c=v*q)
  ⟨0,0,rfl,rfl,by omega,by simp,Dig.replicate _ (by omega),by omega,by simp[val]⟩ (ZX (by simp;omega)) ?_ ?_
 ·rintro⟨p,c,i⟩ ⟨k,c,rfl,rfl,hk,ho,hdp,hc,hv2⟩;simp only at ho hdp hv2 ⊢;by_cases hlt:k<a.length
  ·left;have hx:=hdx.get hlt;obtain⟨X,hX⟩:=oZ hx.1;have hX':X<18446744073709551616:=by omega
   have hxq:X*q≤18446744073709551615*18446744073709551615:=Nat.mul_le_mul (by omega) (by omega);have c2:decide ((k:Int)<(a.length:Int))=true:=dTq (by omega);have c3:chk .i64 ((k:Int)+1)=some ((k+1:Nat):Int):=by rw[show (k:Int)+1=((k+1:Nat):Int) by omega,Zua (by omega)]
   have hkp:k<p.length:=by omega
   have c4:=Z6l hX' hq;have c5:=ZWh (x:=((X*q%18446744073709551616:Nat):Int)) (y:=(c:Int)) (c:=0) (by omega) (by omega) (by omega) (by omega);simp only[c2,Ze,Zu hlt,Za,hX,c4,c5,Zu hkp,c3];generalize hp:X*q=t at *;have e1:IntKind.u64.wrap (((t / 18446744073709551616:Nat):Int)+(((t%18446744073709551616:Nat):Int)+(c:Int)+0) / 18446744073709551616)=(((t+c) / 18446744073709551616:Nat):Int):=by
    rw[wrap_u64];omega
   have e2:(((t%18446744073709551616:Nat):Int)+(c:Int)+0)%18446744073709551616=(((t+c)%18446744073709551616:Nat):Int):=by omega
   rw[e1,e2];refine⟨_,rfl,⟨k+1,_,rfl,rfl,by omega,by simp[ho],hdp.set _ ⟨by omega,by omega⟩,by omega,?_⟩,by simp;omega⟩;simp only[tN];rw[Zmh hkp,Z5a hlt,hX,Nat.pow_succ];simp only[tN];exact ZQw hv2 (by rw[hp];omega)
  ·right;have c2:decide ((k:Int)<(a.length:Int))=false:=dFq (by omega);simp only[c2,Zd];have hk':k=a.length:=by omega
   subst hk';rw[List.take_length,hvx]at hv2;exact⟨_,rfl,c,rfl,ho,hdp,hc,hv2⟩
 ·rintro⟨p,c⟩ ⟨c,hcc,ho,hdp,hc,hv2⟩;simp only at hcc ho hdp hv2;subst hcc;rw[Za];have hlp:a.length<p.length:=by omega
  simp only[Zu hlp,Za,tN];obtain⟨P,hP⟩:∃ P,P=p.set a.length (c:Int):=⟨_,rfl⟩;have hPl:P.length=a.length+1:=by rw[hP];simp[ho]
  have hPd:Dig 18446744073709551616 P:=by rw[hP];exact hdp.set _ ⟨by omega,by omega⟩
  have hPv:val 18446744073709551616 P=v*q:=by
   rw[← hv2];have:=Zmh (B:=18446744073709551616) (l:=p) (x:=(c:Int)) hlp;rw[← hP,← hPl,List.take_length]at this;rw[this];simp
  rw[← hP];have hcut:ZRa u=some (val 18446744073709551616 u):=rfl;have hcut2:ZRa P=some (v*q):=by unfold ZRa;rw[hPv]
  have hcmp:∀ n m,Zsf n m=some (Zma n m):=λ_ _=>rfl;simp only[hcut,hcut2,hcmp,Za];by_cases hlt:val 18446744073709551616 u<v*q
  ·have:Zma (val 18446744073709551616 u) (v*q) = -1:=by unfold Zma;rw[iP hlt]
   rw[this,show decide ((-1:Int)<0)=true from rfl,Ze];rw[iP hlt]at hz;exact hz
  ·have:decide (Zma (val 18446744073709551616 u) (v*q)<0)=false:=by
    unfold Zma;rw[iN hlt];split <;> rfl
   rw[this,Zd,Z5];rw[iN hlt]at hz;rw[← hz];have hle:v*q≤val 18446744073709551616 u:=by omega
   refine Zta (λs:(List Int)×Int×Int=>∃ k c:Nat,s.2.2=(k:Int)∧s.2.1=(c:Int)∧k≤u.length∧s.1.length=u.length∧Dig 18446744073709551616 s.1∧c≤1∧s.1.drop k=u.drop k ∧
    val 18446744073709551616 (s.1.take k)+val 18446744073709551616 (P.take k)=val 18446744073709551616 (u.take k)+18446744073709551616^k*c) (λs=>u.length-s.2.2.toNat)
    (λr:List Int=>r.length=u.length∧Dig 18446744073709551616 r∧val 18446744073709551616 r=val 18446744073709551616 u-v*q)
    ⟨0,0,rfl,rfl,by omega,rfl,hd,by omega,rfl,by simp[val]⟩ (ZX (by simp;omega)) ?_ ?_
   ·rintro⟨o,b,i⟩ ⟨k,b,rfl,rfl,hk,ho2,hdo,hb,hdr,hv3⟩;simp only at ho2 hdo hdr hv3 ⊢;by_cases hlt2:k<u.length
    ·left;have hko:k<o.length:=by omega
     have hkP:k<P.length:=by omega
     have hou:o[k]=u[k]:=by
      rw[List.drop_eq_getElem_cons hko,List.drop_eq_getElem_cons hlt2]at hdr;exact (List.cons.inj hdr).1
     obtain⟨X,hX⟩:=oZ (hd.get hlt2).1;obtain⟨Y,hY⟩:=oZ (hPd.get hkP).1;have hX2:=(hd.get hlt2).2;have hY2:=(hPd.get hkP).2;have c2:decide ((k:Int)<(u.length:Int))=true:=dTq (by omega);have c3:chk .i64 ((k:Int)+1)=some ((k+1:Nat):Int):=by rw[show (k:Int)+1=((k+1:Nat):Int) by omega,Zua (by omega)]
     have c5:=Ztq (x:=(X:Int)) (y:=(Y:Int)) (c:=(b:Int)) (by omega) (by omega) (by omega) (by omega);simp only[c2,Ze,Zu hko,hou,hX,Za,Zu hkP,hY,c5,c3];obtain⟨b',hb'⟩:∃ b':Nat,(if (X:Int)<(Y:Int)+(b:Int) then (1:Int) else 0)=(b':Int):=by
      by_cases hxy:(X:Int)<(Y:Int)+(b:Int)
      ·exact⟨1,iP hxy⟩
      ·exact⟨0,iN hxy⟩
     rw[hb'];have hbb:b'≤1∧((X:Int)-Y-b)%18446744073709551616+Y+b=X+18446744073709551616*b':=by
      split at hb' <;> omega
     refine⟨_,rfl,⟨k+1,b',rfl,rfl,by omega,by simp[ho2],hdo.set _ ⟨by omega,by omega⟩,hbb.1,?_,?_⟩,by simp;omega⟩
     ·simp only[tN];rw[List.drop_set_of_lt (by omega)];rw[List.drop_eq_getElem_cons hko,List.drop_eq_getElem_cons hlt2]at hdr;exact (List.cons.inj hdr).2
     ·simp only[tN];rw[Zmh hko,Z5a hlt2,Z5a hkP,hX,hY,Nat.pow_succ];exact Zxn hv3 (by simp only[tN];omega)
    ·right;have c2:decide ((k:Int)<(u.length:Int))=false:=dFq (by omega);simp only[c2,Zd];have hk':k=u.length:=by omega
     subst hk';have e1:P.take u.length=P:=by rw[hl,← hPl,List.take_length]
     rw[← ho2,List.take_length,ho2,e1,hPv,List.take_length]at hv3;refine⟨_,rfl,ho2,hdo,?_⟩;have h1:=Zjd hdo;rw[ho2]at h1;have h2:b=0∨b=1:=by omega
     rcases h2 with rfl | rfl
     ·omega
     ·rw[Nat.mul_one]at hv3;omega
   ·rintro r ⟨h1,h2,h3⟩;rw[Za,← h3,← h1,Zup h2]
theorem Z4A {u:List Int} {v:Nat} {q:Int} {z:Bool×List Int} (hd:Dig 18446744073709551616 u) (hq:inR .u64 q) (h:ZEh u v q=some z):Zxi u v q=some z:=by
 unfold ZEh at h;split at h
 ·rename_i hh;have:=Zcd.1 hq;obtain⟨Q,rfl⟩:=oZ (show 0≤q by omega);rw[take_eq hd hh.1 hh.2 (by omega),← h];simp
 ·cases h
noncomputable def ZOi (u:(List Int)) (v:Nat):Option (Int×(List Int)) :=
 bnd (idx u ((((Zc 18446744073709551616 v)).length:Int))) λh =>
 bnd (chk .i64 (((((Zc 18446744073709551616 v)).length:Int))-(1:Int))) λi =>
 bnd (idx ((Zc 18446744073709551616 v)) i) λj =>
 bnd (ifb (decide (h<j))
 (bnd (idx u ((((Zc 18446744073709551616 v)).length:Int))) λk =>
 bnd (chk .i64 (((((Zc 18446744073709551616 v)).length:Int))-(1:Int))) λl =>
 bnd (idx u l) λm =>
 bnd (chk .i64 (((((Zc 18446744073709551616 v)).length:Int))-(1:Int))) λn =>
 bnd (idx ((Zc 18446744073709551616 v)) n) λo =>
 bnd (Z9c k m o) λf =>
 bnd (bnd (Zh (λs:Int×Int=>match s with
| (a,b) =>
 (bnd (chk .i64 (((((Zc 18446744073709551616 v)).length:Int))-(2:Int))) λq =>
 bnd (idx ((Zc 18446744073709551616 v)) q) λr =>
 bnd (Zyc a r) λc =>
 bnd (ifb (decide (c.1<b))
 (some true)
 (ifb (c.1==b)
 (bnd (chk .i64 (((((Zc 18446744073709551616 v)).length:Int))-(2:Int))) λt =>
 bnd (idx u t) λw =>
 some (decide (c.2≤w)))
 (some false)))
 (λ(x:Bool) =>
 (ifb (x)
 (some (.inr a))
 (bnd (chk .i64 (((((Zc 18446744073709551616 v)).length:Int))-(1:Int))) λy =>
 bnd (idx ((Zc 18446744073709551616 v)) y) λz =>
 bnd (ZMb b z (0:Int)) λg =>
 ifb (decide ((0:Int)<g.2))
 (some (.inr (IntKind.u64.wrap (a-(1:Int)))))
 (some (.inl ((IntKind.u64.wrap (a-(1:Int)),g.1))))))))) Zj ((f.1,f.2)))
 (λ(A:Int) =>
 (some A)))
 (λ(B:Int) =>
 (some B)))
 (some (18446744073709551615:Int)))
 (λ(C:Int) =>
 (bnd (bnd (Zh (λs:(List Int)×Int=>match s with
| (D,d) =>
 (bnd (ZEh D v d) λe =>
 ifb (!(e.1))
 (some (.inl ((e.2,IntKind.u64.wrap (d-(1:Int))))))
 (some (.inr ((e.2,d)))))) Zj ((u,C)))
 (λ(p:(List Int)×Int)=>match p with
| (E,F) =>
 (some ((E,F)))))
 (λ(p:(List Int)×Int)=>match p with
| (G,H) =>
 (some ((H,G))))))
theorem top2 {B:Nat} {a:List Int} {n:Nat} (hn:a.length=n+2):val B a=val B (a.take n)+B^n*((a[n]'(by omega)).toNat+B*(a[n+1]'(by omega)).toNat):=by
 rw[Zid B a n (by omega),Zdc (by omega),Zdc (by omega),List.drop_of_length_le (by omega)];simp[val]
theorem top3 {B:Nat} {a:List Int} {n:Nat} (hn:a.length=n+3):val B a=val B (a.take n)+B^n*((a[n]'(by omega)).toNat+B*((a[n+1]'(by omega)).toNat+B*(a[n+2]'(by omega)).toNat)):=by
 rw[Zid B a n (by omega),Zdc (by omega),Zdc (by omega),Zdc (by omega),List.drop_of_length_le (by omega)];simp[val]
theorem Zlx {Q v v1 v2 lowv lowu u2 h R U:Nat} (hR:0<R) (hv:v=lowv+R*(v2+18446744073709551616*v1)) (hU:U=lowu+R*(u2+18446744073709551616*h)) (hlow:lowu<R) (hu2:u2<18446744073709551616) (hQ:Q*v≤U):Q*v1≤h:=by
 have h1:R*(Q*(18446744073709551616*v1))≤Q*v:=by
  rw[hv];have:Q*(R*(18446744073709551616*v1))≤Q*(lowv+R*(v2+18446744073709551616*v1)):=by
   apply Nat.mul_le_mul_left;rw[Nat.mul_add R];omega
  rw[Nat.mul_left_comm];exact this
 have h2:R*(Q*(18446744073709551616*v1))<R*(u2+18446744073709551616*h+1):=by rw[Nat.mul_add R _ 1];omega
 have h3:=Nat.lt_of_mul_lt_mul_left h2;rw[Nat.mul_left_comm]at h3;generalize Q*v1=t at *;omega
theorem ZLy {g v v1 v2 lowv lowu u2 h r R U:Nat} (hR:0<R) (hv:v=lowv+R*(v2+18446744073709551616*v1)) (hU:U=lowu+R*(u2+18446744073709551616*h)) (hlow:lowu<R) (hh:h=g*v1+r) (hgt:r*18446744073709551616+u2<g*v2):U<g*v:=by
 rcases Nat.lt_or_ge U (g*v) with hlt | hge
 ·exact hlt
 ·exfalso;have h1:R*(g*(v2+18446744073709551616*v1))≤g*v:=by
   have e:g*v=g*lowv+R*(g*(v2+18446744073709551616*v1)):=by rw[hv,Nat.mul_add,Nat.mul_left_comm g R]
   omega
  have h2:R*(g*(v2+18446744073709551616*v1))<R*(u2+18446744073709551616*h+1):=by rw[Nat.mul_add R _ 1];omega
  have h3:=Nat.lt_of_mul_lt_mul_left h2;rw[Nat.mul_add g,Nat.mul_left_comm]at h3;generalize g*v1=t at *;omega
theorem Zwy {u:List Int} {v:Nat} (hd:Dig 18446744073709551616 u) (hv:okN v) (hl:u.length=(Zc 18446744073709551616 v).length+1) (h2:2≤(Zc 18446744073709551616 v).length) (hlt:val 18446744073709551616 u<v*18446744073709551616) {z:Int×List Int}
  (f:Int→Option (Int×List Int)) (hf:∀ g:Nat,val 18446744073709551616 u / v≤g→g<18446744073709551616→f (g:Int)=some z) :
  (bnd (idx u ((((Zc 18446744073709551616 v)).length:Int))) λy14 =>
 bnd (chk .i64 (((((Zc 18446744073709551616 v)).length:Int))-((1:Int)))) λy20 =>
 bnd (idx ((Zc 18446744073709551616 v)) y20) λy22 =>
 bnd (ifb (decide (y14<y22))
 (bnd (idx u ((((Zc 18446744073709551616 v)).length:Int))) λy121 =>
 bnd (chk .i64 (((((Zc 18446744073709551616 v)).length:Int))-((1:Int)))) λy127 =>
 bnd (idx u y127) λy129 =>
 bnd (chk .i64 (((((Zc 18446744073709551616 v)).length:Int))-((1:Int)))) λy135 =>
 bnd (idx ((Zc 18446744073709551616 v)) y135) λy137 =>
 bnd (Z9c y121 y129 y137) λy143 =>
 bnd (bnd (Zh (λs:Int×Int=>match s with
 | (x183,x185) =>
 (bnd (chk .i64 (((((Zc 18446744073709551616 v)).length:Int))-((2:Int)))) λy201 =>
 bnd (idx ((Zc 18446744073709551616 v)) y201) λy203 =>
 bnd (Zyc x183 y203) λy209 =>
 bnd (ifb (decide (y209.1<x185))
 (some true)
 (ifb (y209.1==x185)
 (bnd (chk .i64 (((((Zc 18446744073709551616 v)).length:Int))-((2:Int)))) λy270 =>
 bnd (idx u y270) λy272 =>
 some (decide (y209.2≤y272)))
 (some false)))
 (λ(x236:Bool) =>
 (ifb (x236)
 (some (.inr x183))
 (bnd (chk .i64 (((((Zc 18446744073709551616 v)).length:Int))-((1:Int)))) λy251 =>
 bnd (idx ((Zc 18446744073709551616 v)) y251) λy253 =>
 bnd (ZMb x185 y253 ((0:Int))) λy259 =>
 ifb (decide ((0:Int)<y259.2))
 (some (.inr (IntKind.u64.wrap (x183-((1:Int))))))
 (some (.inl ((IntKind.u64.wrap (x183-((1:Int))),y259.1))))))))) Zj ((y143.1,y143.2)))
 (λ(x189:Int) =>
 (some x189)))
 (λ(x174:Int) =>
 (some x174)))
 (some ((18446744073709551615:Int)))) f)=some z:=by
 have hdx:=Zya (B:=18446744073709551616) (by decide) v;have hvx:=Zca (B:=18446744073709551616) (by decide) v;have hcx:=ZZk (B:=18446744073709551616) (by decide) v;unfold okN at hv;generalize Zc 18446744073709551616 v=a at *;obtain⟨n,hn⟩:∃ n,a.length=n+2:=⟨a.length-2,by omega⟩;have hu:u.length=n+3:=by omega
 obtain⟨v1,hv1⟩:=oZ (hdx.get (i:=n+1) (by omega)).1;obtain⟨v2,hv2⟩:=oZ (hdx.get (i:=n) (by omega)).1;obtain⟨u0,hu0⟩:=oZ (hd.get (i:=n+2) (by omega)).1;obtain⟨u1,hu1⟩:=oZ (hd.get (i:=n+1) (by omega)).1;obtain⟨u2,hu2⟩:=oZ (hd.get (i:=n) (by omega)).1;have b1:=(hdx.get (i:=n+1) (by omega)).2;have b2:=(hdx.get (i:=n) (by omega)).2;have b3:=(hd.get (i:=n+2) (by omega)).2;have b4:=(hd.get (i:=n+1) (by omega)).2;have b5:=(hd.get (i:=n) (by omega)).2;rw[hv1]at b1;rw[hv2]at b2;rw[hu0]at b3;rw[hu1]at b4;rw[hu2]at b5;have hv10:v1≠0:=by
  have e:a.length-1=n+1:=by omega
  have:=hcx a[n+1] (by rw[List.getLast?_eq_getElem?];simp only[e];exact List.getElem?_eq_getElem _);rw[hv1]at this;omega
 have tv:=top2 (B:=18446744073709551616) hn;have tu:=top3 (B:=18446744073709551616) hu;rw[hvx,hv1,hv2]at tv;rw[hu0,hu1,hu2]at tu;simp only[tN]at tv tu;have hR:0<18446744073709551616^n:=Nat.pow_pos (by omega);have hlow:=Zjd (hd.take n);rw[List.length_take,Nat.min_eq_left (by omega)]at hlow;have hv0:0<v:=by
  rcases Nat.eq_zero_or_pos v with h | h
  ·subst h;omega
  ·exact h
 obtain⟨U,hU⟩:∃ U,U=val 18446744073709551616 u:=⟨_,rfl⟩;rw[← hU]at hf hlt tu;have hQv:U / v*v≤U:=Nat.div_mul_le_self _ _;have hQB:U / v<18446744073709551616:=by rw[Nat.div_lt_iff_lt_mul hv0,Nat.mul_comm];exact hlt
 have hQlt:∀ g,U<g*v→U / v<g:=λg h=>(Nat.div_lt_iff_lt_mul hv0).2 h;generalize U / v=Q at *;have tu':U=val 18446744073709551616 (u.take n)+18446744073709551616^n*(u2+18446744073709551616*(u0*18446744073709551616+u1)):=by
  rw[tu];congr 2;omega
 have c0:chk .i64 ((a.length:Int)-1)=some ((n+1:Nat):Int):=by rw[Zi (by omega) (by omega)];congr 1;omega
 have c00:chk .i64 ((a.length:Int)-2)=some ((n:Nat):Int):=by rw[Zi (by omega) (by omega)];congr 1;omega
 have i0:idx u (a.length:Int)=some (u0:Int):=by rw[hn,Zu (by omega),hu0]
 have i1:idx u ((n+1:Nat):Int)=some (u1:Int):=by rw[Zu (by omega),hu1]
 have i2:idx u ((n:Nat):Int)=some (u2:Int):=by rw[Zu (by omega),hu2]
 have i3:idx a ((n+1:Nat):Int)=some (v1:Int):=by rw[Zu (by omega),hv1]
 have i4:idx a ((n:Nat):Int)=some (v2:Int):=by rw[Zu (by omega),hv2]
 simp only[i0,Za,c0,i3,i1,c00,i4,i2];by_cases hc:u0<v1
 ·have e1:decide ((u0:Int)<(v1:Int))=true:=dTq (by omega);have e2:Z9c (u0:Int) (u1:Int) (v1:Int)=some ((((u0*18446744073709551616+u1) / v1:Nat):Int),(((u0*18446744073709551616+u1)%v1:Nat):Int)):=by
   unfold Z9c;rw[iP ⟨by omega,by omega,by omega,by omega,by omega⟩];simp
  simp only[e1,Ze,e2,Za];obtain⟨h,hh⟩:∃ h,h=u0*18446744073709551616+u1:=⟨_,rfl⟩;rw[← hh]at tu' ⊢;have hv1p:0<v1:=by omega
  have hg0:h / v1<18446744073709551616:=by
   rw[Nat.div_lt_iff_lt_mul hv1p,hh];have:(u0+1)*18446744073709551616≤v1*18446744073709551616:=mR _ hc;rw[Nat.mul_comm 18446744073709551616];omega
  rw[Z5,Z5];refine Zta (λs:Int×Int=>∃ g r:Nat,s=((g:Int),(r:Int))∧h=g*v1+r∧r<18446744073709551616∧Q≤g∧g<18446744073709551616) (λs=>s.1.toNat)
   (λr:Int=>∃ g:Nat,r=(g:Int)∧Q≤g∧g<18446744073709551616)
   ⟨h / v1,h%v1,rfl,by rw[Nat.mul_comm];exact (Nat.div_add_mod _ _).symm,Nat.lt_trans (Nat.mod_lt _ hv1p) (by omega),(Nat.le_div_iff_mul_le hv1p).2 (Zlx hR tv tu' hlow (by omega) hQv),hg0⟩
   (ZX (by simp only[tN];omega)) ?_ ?_
  ·rintro _ ⟨g,r,rfl,e,hr,hQ,hg⟩;have m1:=Z6l (x:=g) (y:=v2) hg (by omega);simp only[m1,Za];have cond:ifb (decide (((g*v2 / 18446744073709551616:Nat):Int)<(r:Int))) (some true) (ifb (((g*v2 / 18446744073709551616:Nat):Int)==(r:Int)) (some (decide (((g*v2%18446744073709551616:Nat):Int)≤(u2:Int)))) (some false))=some (decide (g*v2≤r*18446744073709551616+u2)):=by
    generalize g*v2=t;by_cases q1:t / 18446744073709551616<r
    ·rw[dTq (by omega),Ze,dTq (by omega)]
    ·rw[dFq (by omega),Zd];by_cases q2:t / 18446744073709551616=r
     ·have:(((t / 18446744073709551616:Nat):Int)==(r:Int))=true:=by simp;omega
      rw[this,Ze];exact congrArg some (decide_eq_decide.2 (by omega))
     ·have:(((t / 18446744073709551616:Nat):Int)==(r:Int))=false:=by simp;omega
      rw[this,Zd,dFq (by omega)]
   rw[cond,Za];by_cases hcd:g*v2≤r*18446744073709551616+u2
   ·right;rw[dTq hcd,Ze];exact⟨_,rfl,g,rfl,hQ,hg⟩
   ·rw[dFq hcd,Zd];have hdown:=ZLy hR tv tu' hlow e (by omega);have hQg:Q<g:=hQlt g hdown;have a1:=ZWh (x:=(r:Int)) (y:=(v1:Int)) (c:=0) (by omega) (by omega) (by omega) (by omega);simp only[a1,Za];have ew:IntKind.u64.wrap ((g:Int)-1)=((g-1:Nat):Int):=by rw[wrap_u64];omega
    rw[ew];by_cases ho:18446744073709551616≤r+v1
    ·right;rw[dTq (by omega),Ze];exact⟨_,rfl,g-1,rfl,by omega,by omega⟩
    ·left;rw[dFq (by omega),Zd];have er:((r:Int)+v1+0)%18446744073709551616=((r+v1:Nat):Int):=by omega
     rw[er];refine⟨_,rfl,⟨g-1,r+v1,rfl,?_,by omega,by omega,by omega⟩,by simp;omega⟩;obtain⟨g',rfl⟩:∃ g',g=g'+1:=⟨g-1,by omega⟩;rw[e,Nat.succ_mul];simp;omega
  ·rintro _ ⟨g,rfl,h1,h2⟩;simp only[Za];exact hf g h1 h2
 ·have e1:decide ((u0:Int)<(v1:Int))=false:=dFq (by omega);simp only[e1,Zd,Za];exact hf 18446744073709551615 (by omega) (by omega)
theorem Zby {u:List Int} {v:Nat} (hd:Dig 18446744073709551616 u) (hv:okN v) (hl:u.length=(Zc 18446744073709551616 v).length+1) (h2:2≤(Zc 18446744073709551616 v).length) (hlt:val 18446744073709551616 u<v*18446744073709551616) :
  ZOi u v=some (((val 18446744073709551616 u / v:Nat):Int),ZRb u.length (val 18446744073709551616 u%v)):=by
 unfold ZOi;refine Zwy hd hv hl h2 hlt _ λg hg hg2=>?_;have hv0:0<v:=by
  rcases Nat.eq_zero_or_pos v with h | h
  ·subst h;omega
  ·exact h
 obtain⟨U,hU⟩:∃ U,U=val 18446744073709551616 u:=⟨_,rfl⟩;rw[← hU]at hg ⊢;have hdm:=Nat.div_add_mod U v;have hQ1:∀ g,v*g≤U→g≤U / v:=λg h=>(Nat.le_div_iff_mul_le hv0).2 (by rw[Nat.mul_comm];exact h);have hQ2:∀ g,U<v*g→U / v<g:=λg h=>(Nat.div_lt_iff_lt_mul hv0).2 (by rw[Nat.mul_comm];exact h);generalize U / v=Q at *;generalize U%v=M at *;rw[Z5];refine Zta (λs:(List Int)×Int=>∃ g:Nat,s=(u,(g:Int))∧Q≤g∧g<18446744073709551616) (λs=>s.2.toNat) (λr:(List Int)×Int=>r=(ZRb u.length (M),((Q:Nat):Int)))
  ⟨g,rfl,hg,hg2⟩ (ZX (by simp only[tN];omega)) ?_ ?_
 ·rintro _ ⟨g,rfl,hg,hg2⟩;have ht:ZEh u v (g:Int)=if U<v*g then some (false,u) else some (true,ZRb u.length (U-v*g)):=by
   unfold ZEh;rw[iP ⟨hv,hl⟩,← hU];simp
  by_cases hc:U<v*g
  ·left;rw[iP hc]at ht;have hQg:Q<g:=hQ2 g hc;have ew:IntKind.u64.wrap ((g:Int)-1)=((g-1:Nat):Int):=by rw[wrap_u64];omega
   simp only[ht,Za,Bool.not_false,Ze,ew];exact⟨_,rfl,⟨g-1,rfl,by omega,by omega⟩,by simp;omega⟩
  ·right;rw[iN hc]at ht;have hQg:g≤Q:=hQ1 g (by omega);have e:g=Q:=by omega
   simp only[ht,Za,Bool.not_true,Zd];refine⟨_,rfl,?_⟩;subst e;congr 2;omega
 ·rintro _ rfl;simp only[Za]
theorem ZSx {u:List Int} {v:Nat} {z:Int×List Int} (hd:Dig 18446744073709551616 u) (h:Z3g u v=some z):ZOi u v=some z:=by
 unfold Z3g at h;split at h
 ·rename_i hh;rw[Zby hd hh.1 hh.2.1 hh.2.2.1 hh.2.2.2,← h]
 ·cases h
noncomputable def ZRh (a:Nat) (b:Nat):Option (Nat×Nat) :=
 bnd (Zsf a b) λm =>
 ifb (decide (m<(0:Int)))
 (some (((0:Nat),a)))
 (ifb (((((Zc 18446744073709551616 b)).length:Int))==(1:Int))
 (bnd (idx ((Zc 18446744073709551616 b)) (0:Int)) λn =>
 bnd (ZXd a n) λj =>
 bnd (Zfb j.2) λo =>
 some ((j.1,o)))
 (bnd (chk .i64 (((((Zc 18446744073709551616 b)).length:Int))-(1:Int))) λq =>
 bnd (idx ((Zc 18446744073709551616 b)) q) λr =>
 bnd (ZNd r) λg =>
 bnd (ZUb b g) λh =>
 bnd (ZUb a g) λd =>
 bnd (Zy 8 (([]:(List Int))++((Zc 18446744073709551616 d)))) λE =>
 bnd (Zy 8 ((([]:(List Int))++((Zc 18446744073709551616 d)))++[(0:Int)])) λF =>
 bnd (chk .i64 ((((((([]:(List Int))++((Zc 18446744073709551616 d)))++[(0:Int)])).length:Int))-((((Zc 18446744073709551616 h)).length:Int)))) λe =>
 bnd (mk 8 e e) λG =>
 bnd (chk .i64 (((((List.replicate (e).toNat (0:Int))).length:Int))-(1:Int))) λt =>
 bnd (bnd (Zh (λs:(List Int)×(List Int)×Int=>match s with
| (f,i,c) =>
 (ifb (decide ((0:Int)≤c))
 (bnd (chk .i64 (c+((((Zc 18446744073709551616 h)).length:Int)))) λu =>
 bnd (chk .i64 (u+(1:Int))) λk =>
 bnd (cutP f c k) λv =>
 bnd (Z3g v h) λl =>
 bnd (idx i c) λH =>
 bnd (chk .i64 (c-(1:Int))) λw =>
 some (.inl (((List.take (c).toNat f++l.2++List.drop (k).toNat f),(i.set (c).toNat l.1),w))))
 (some (.inr ((f,i)))))) Zj ((((([]:(List Int))++((Zc 18446744073709551616 d)))++[(0:Int)]),(List.replicate (e).toNat (0:Int)),t)))
 (λ(p:(List Int)×(List Int))=>match p with
| (x,y) =>
 (some ((x,y)))))
 (λ(p:(List Int)×(List Int))=>match p with
| (z,A) =>
 (bnd (ZRa A) λB =>
 bnd (ZRa z) λC =>
 bnd (Z5f C g) λD =>
 some ((B,D))))))
theorem ZMj {x:Int} {n:Nat} (h:x=(n:Int)) (hn:n≤9223372036854775807):chk .i64 x=some (n:Int):=by rw[h];exact Zua hn
theorem Z3w {A V U U' q Qd P B seg low:Nat} (h:U+V*(P*B*q)=A) (e1:U=low+P*seg) (e2:U'=low+P*(seg%V)) (e3:Qd=seg / V):U'+V*(P*(Qd+B*q))=A:=by
 have hd:=Nat.div_add_mod seg V;rw[← e3]at hd;have h2:P*seg=P*(V*Qd+seg%V):=by rw[hd]
 subst e1 e2;rw[h2]at h;grind
theorem ZRA {n m:Nat} (hn:okN n) (hm:okN m) (h0:m≠0):ZRh n m=some (n / m,n%m):=by
 unfold ZRh;have hcmp:∀ n m,Zsf n m=some (Zma n m):=λ_ _=>rfl;rw[hcmp,Za];by_cases hlt:n<m
 ·have:Zma n m = -1:=by unfold Zma;rw[iP hlt]
  rw[this,show decide ((-1:Int)<0)=true from rfl,Ze,Nat.div_eq_of_lt hlt,Nat.mod_eq_of_lt hlt]
 have hc:decide (Zma n m<0)=false:=by unfold Zma;rw[iN hlt];split <;> rfl
 rw[hc,Zd];have hne:(Zc 18446744073709551616 m)≠[]:=(Zfc (by decide)).2 h0;have hpos:=List.length_pos_iff.2 hne;by_cases h1:(Zc 18446744073709551616 m).length=1
 ·have e1:(((Zc 18446744073709551616 m).length:Int)==1)=true:=by simp;omega
  rw[e1,Ze];have hmB:m<18446744073709551616:=by have:=Zrc (B:=18446744073709551616) (by decide) m;rw[h1]at this;simpa using this
  rw[Zco (by decide) h0 hmB,Za];have:ZXd n (m:Int)=some (n / m,((n%m:Nat):Int)):=by unfold ZXd;rw[iP ⟨hn,by omega⟩];simp
  rw[this,Za];show bnd (Zfb ((n%m:Nat):Int)) _=_;unfold Zfb;rw[Za];rfl
 have e1:(((Zc 18446744073709551616 m).length:Int)==1)=false:=by simp;omega
 rw[e1,Zd];obtain⟨k,hk⟩:∃ k,(Zc 18446744073709551616 m).length=k+2:=⟨(Zc 18446744073709551616 m).length-2,by omega⟩;have c1:chk .i64 (((Zc 18446744073709551616 m).length:Int)-1)=some ((k+1:Nat):Int):=by
  unfold okN at hm;rw[Zi (by omega) (by omega)];congr 1;omega
 rw[c1,Za];have hdm:=Zya (B:=18446744073709551616) (by decide) m;have hvm:=Zca (B:=18446744073709551616) (by decide) m;have hcm:=ZZk (B:=18446744073709551616) (by decide) m;have hmlt:=Zrc (B:=18446744073709551616) (by decide) m;have hmge:=Zbj (B:=18446744073709551616) (by decide) h0;rw[hk]at hmlt hmge;obtain⟨top,htop⟩:=oZ (hdm.get (i:=k+1) (by omega)).1;have htopB:=(hdm.get (i:=k+1) (by omega)).2;rw[htop]at htopB;have hi:idx (Zc 18446744073709551616 m) ((k+1:Nat):Int)=some (top:Int):=by rw[Zu (by omega),htop]
 rw[hi,Za];have htop0:top≠0:=by
  have e:(Zc 18446744073709551616 m).length-1=k+1:=by omega
  have:=hcm (Zc 18446744073709551616 m)[k+1] (by rw[List.getLast?_eq_getElem?];simp only[e];exact List.getElem?_eq_getElem _);rw[htop]at this;omega
 obtain⟨t,ht⟩:=Zng htop0;have hbl:bl top≤64:=ZCb (by omega);have htl:=Z0d top;have hz:ZNd (top:Int)=some ((64-bl top:Nat):Int):=by
  unfold ZNd;rw[iP ⟨by omega,by omega⟩];congr 1;simp;omega
 rw[hz,Za];obtain⟨s,hs⟩:∃ s,s=64-bl top:=⟨_,rfl⟩;rw[← hs];have hp:0<2^s:=Nat.pow_pos (by omega);have hVlt:m*2^s<18446744073709551616^(k+2):=by
  have h3:=top2 (B:=18446744073709551616) (a:=Zc 18446744073709551616 m) (n:=k) hk;rw[hvm,htop]at h3;simp only[tN]at h3;have h4:=Zjd (hdm.take (k+1));rw[List.length_take,Nat.min_eq_left (by omega)]at h4;have h5:=Zid 18446744073709551616 (Zc 18446744073709551616 m) (k+1) (by omega);rw[hvm,Zdc (by omega),htop,List.drop_of_length_le (by omega)]at h5;simp only[val,tN,Nat.mul_zero,Nat.add_zero]at h5;have h6:m<18446744073709551616^(k+1)*(top+1):=by rw[Nat.mul_add];omega
  have h7:(top+1)*2^s≤18446744073709551616:=by
   have:=mR (2^s) (show top+1≤2^bl top from htl);rw[← Nat.pow_add,show bl top+s=64 by omega]at this;exact this
  have h8:m*2^s<18446744073709551616^(k+1)*(top+1)*2^s:=Nat.mul_lt_mul_of_pos_right h6 hp;have h9:18446744073709551616^(k+1)*((top+1)*2^s)≤18446744073709551616^(k+1)*18446744073709551616:=Nat.mul_le_mul_left _ h7;rw[Nat.pow_succ _ (k+1)];rw[Nat.mul_assoc]at h8;omega
 obtain⟨V,hV⟩:∃ V,V=m*2^s:=⟨_,rfl⟩;rw[← hV]at hVlt;have hmV:m≤V:=by rw[hV];exact Nat.le_mul_of_pos_right _ hp
 have hVl:(Zc 18446744073709551616 V).length=k+2:=by
  have h3:=ZZf (B:=18446744073709551616) (by decide) hVlt;have h4:=ZYc (B:=18446744073709551616) (by decide) hmV;omega
 have hVok:okN V:=by unfold okN at hm ⊢;omega
 have hV0:0<V:=by omega
 obtain⟨A,hA⟩:∃ A,A=n*2^s:=⟨_,rfl⟩;have hAlt:A<18446744073709551616^((Zc 18446744073709551616 n).length+1):=by
  have h3:=Zrc (B:=18446744073709551616) (by decide) n;have h4:2^s≤2^64:=Nat.pow_le_pow_right (by omega) (by omega);rw[hA,Nat.pow_succ];exact Nat.lt_of_le_of_lt (Nat.mul_le_mul_left _ h4) (Nat.mul_lt_mul_of_pos_right h3 (by decide))
 have hAl:=ZZf (B:=18446744073709551616) (by decide) hAlt;have hVA:V≤A:=by rw[hV,hA];exact mR _ (by omega)
 have hAV:=ZYc (B:=18446744073709551616) (by decide) hVA;have l1:ZUb m (s:Int)=some V:=by unfold ZUb;rw[iP ⟨hm,by omega,by omega⟩,hV];simp
 have l2:ZUb n (s:Int)=some A:=by unfold ZUb;rw[iP ⟨hn,by omega,by omega⟩,hA];simp
 unfold okN at hn hm;rw[l1,Za,l2,Za];have hdA:=Zya (B:=18446744073709551616) (by decide) A;have hvA:=Zca (B:=18446744073709551616) (by decide) A;rw[hVl]at hAV ⊢;generalize Zc 18446744073709551616 A=w at *;have r1:Zy 8 (([]:List Int)++w)=some ():=by unfold Zy;rw[iP (by simp;omega)]
 have r2:Zy 8 ((([]:List Int)++w)++[(0:Int)])=some ():=by unfold Zy;rw[iP (by simp;omega)]
 rw[r1,Za,r2,Za,List.nil_append];obtain⟨u,hu⟩:∃ u,u=w++[(0:Int)]:=⟨_,rfl⟩;have hul:u.length=w.length+1:=by rw[hu];simp
 have hud:Dig 18446744073709551616 u:=by rw[hu];exact Dig.append.2 ⟨hdA,Dig.cons.2 ⟨by omega,Dig.nil⟩⟩
 have huv:val 18446744073709551616 u=A:=by rw[hu,ZMc,hvA];simp[val]
 rw[← hu];obtain⟨j0,hj0⟩:∃ j0,w.length+1=k+2+j0+1:=⟨w.length-(k+2),by omega⟩;have c2:chk .i64 ((u.length:Int)-((k+2:Nat):Int))=some ((j0+1:Nat):Int):=ZMj (by omega) (by omega);obtain⟨x,hx⟩:=ZSc (b:=8) (l:=((j0+1:Nat):Int)) (c:=((j0+1:Nat):Int)) (by omega) (by omega) (by omega) (by omega);have c3:chk .i64 ((((List.replicate (j0+1) (0:Int)).length:Nat):Int)-1)=some ((j0:Nat):Int):=by
  rw[List.length_replicate];exact ZMj (by omega) (by omega)
 rw[c2,Za,hx,Za,tN,c3,Za,Z5];refine Zta (λst:(List Int)×(List Int)×Int=>∃ j:Nat,st.2.2=(j:Int)-1∧j≤j0+1∧st.1.length=u.length∧Dig 18446744073709551616 st.1∧st.2.1.length=j0+1 ∧
  val 18446744073709551616 (st.1.drop j)<V∧val 18446744073709551616 st.1+V*(18446744073709551616^j*val 18446744073709551616 (st.2.1.drop j))=A) (λst=>(st.2.2+1).toNat)
  (λr:(List Int)×(List Int)=>Dig 18446744073709551616 r.1∧val 18446744073709551616 r.1<V∧val 18446744073709551616 r.1+V*val 18446744073709551616 r.2=A)
  ⟨j0+1,by simp,by omega,rfl,hud,by simp,?_,by simp[val,huv]⟩ (ZX (by simp;omega)) ?_ ?_
 · -- the greatest words are below the divisor
  have h3:=Zid 18446744073709551616 u (j0+1) (by omega);have h4:u.drop (j0+1)=w.drop (j0+1)++[0]:=by rw[hu,List.drop_append_of_le_length (by omega)]
  have h5:=Zjd (hdA.drop (j0+1));rw[List.length_drop,show w.length-(j0+1)=k+1 by omega]at h5;rw[h4,ZMc];simp[val];have:18446744073709551616^(k+2-1)=18446744073709551616^(k+1):=rfl;omega
 ·rintro⟨o,q,i⟩ ⟨j,e,hj,hol,hod,hql,hltV,hinv⟩;simp only at e hol hod hql hltV hinv ⊢;subst e;by_cases hj0':0<j
  ·left;obtain⟨i,rfl⟩:∃ i,j=i+1:=⟨j-1,by omega⟩;have ei:((i+1:Nat):Int)-1=(i:Int):=by omega
   rw[ei,dTq (by omega),Ze];have d1:chk .i64 ((i:Int)+((k+2:Nat):Int))=some ((i+k+2:Nat):Int):=ZMj (by omega) (by omega);have d2:chk .i64 (((i+k+2:Nat):Int)+1)=some ((i+k+3:Nat):Int):=ZMj (by omega) (by omega);obtain⟨seg,hseg⟩:∃ seg,seg=(o.take (i+k+3)).drop i:=⟨_,rfl⟩;have hsl:seg.length=k+3:=by rw[hseg,List.length_drop,List.length_take,Nat.min_eq_left (by omega)];omega
   have d3:cutP o (i:Int) ((i+k+3:Nat):Int)=some seg:=by
    unfold cutP;rw[iP ⟨by omega,by omega,by omega⟩,hseg];rfl
   have hsd:Dig 18446744073709551616 seg:=by rw[hseg];exact (hod.take _).drop _
   have hdropi:val 18446744073709551616 (o.drop i)<V*18446744073709551616:=by
    rw[Zdc (by omega)];have:=(hod.get (i:=i) (by omega)).2;have h3:18446744073709551616*(val 18446744073709551616 (o.drop (i+1))+1)≤18446744073709551616*V:=Nat.mul_le_mul_left _ hltV;rw[Nat.mul_add]at h3;rw[Nat.mul_comm V];omega
   have hsplit:o.drop i=seg++o.drop (i+k+3):=by
    have h3:=List.take_append_drop (i+k+3) o;have h4:o.drop i=((o.take (i+k+3))++o.drop (i+k+3)).drop i:=by rw[h3]
    rw[h4,List.drop_append_of_le_length (by rw[List.length_take];omega),hseg]
   have hhigh:val 18446744073709551616 (o.drop (i+k+3))=0:=by
    rcases Nat.eq_zero_or_pos (val 18446744073709551616 (o.drop (i+k+3))) with h | h
    ·exact h
    ·exfalso;rw[hsplit,ZMc,hsl]at hdropi;have h3:18446744073709551616^(k+3)*1≤18446744073709551616^(k+3)*val 18446744073709551616 (o.drop (i+k+3)):=Nat.mul_le_mul_left _ h;have h4:V*18446744073709551616≤18446744073709551616^(k+2)*18446744073709551616:=mR _ (by omega);have h5:18446744073709551616^(k+3)=18446744073709551616^(k+2)*18446744073709551616:=Nat.pow_succ ..;generalize 18446744073709551616^(k+3)=g3 at *;generalize 18446744073709551616^(k+2)=g2 at *;omega
   have hsv:val 18446744073709551616 (o.drop i)=val 18446744073709551616 seg:=by rw[hsplit,ZMc,hhigh];simp
   have d4:Z3g seg V=some (((val 18446744073709551616 seg / V:Nat):Int),ZRb seg.length (val 18446744073709551616 seg%V)):=by
    unfold Z3g;rw[iP ⟨hVok,by omega,by omega,by omega⟩]
   have hiq:i<q.length:=by omega
   have d5:chk .i64 ((i:Int)-1)=some ((i:Int)-1):=Zi (by omega) (by omega);simp only[d1,Za,d2,d3,d4,Zu hiq,d5,tN];obtain⟨r,hr⟩:∃ r,r=ZRb seg.length (val 18446744073709551616 seg%V):=⟨_,rfl⟩;have hrl:r.length=k+3:=by rw[hr,Zvu,hsl]
   have hrd:Dig 18446744073709551616 r:=by rw[hr];exact Zou _ _
   have hmodlt:=Nat.mod_lt (val 18446744073709551616 seg) hV0;have hrv:val 18446744073709551616 r=val 18446744073709551616 seg%V:=by
    rw[hr,hsl];apply Zft;have:18446744073709551616^(k+2)≤18446744073709551616^(k+3):=Nat.pow_le_pow_right (by omega) (by omega);omega
   rw[← hr];have htk:(o.take i).length=i:=by rw[List.length_take,Nat.min_eq_left (by omega)]
   have hnew:(o.take i++r++o.drop (i+k+3)).drop i=r++o.drop (i+k+3):=by
    rw[aAq,List.drop_append_of_le_length (by omega),List.drop_of_length_le (by omega),List.nil_append]
   have hnewv:val 18446744073709551616 ((o.take i++r++o.drop (i+k+3)).drop i)=val 18446744073709551616 seg%V:=by
    rw[hnew,ZMc,hhigh,hrv];simp
   refine⟨_,rfl,⟨i,rfl,by omega,?_,?_,by simp[hql],by rw[hnewv];exact hmodlt,?_⟩,by simp⟩
   ·rw[lA,lA,htk,hrl,List.length_drop];omega
   ·exact Dig.append.2 ⟨Dig.append.2 ⟨hod.take _,hrd⟩,hod.drop _⟩
   ·rw[Zdc (by simp;omega),List.getElem_set_self,List.drop_set_of_lt (by omega)];simp only[tN];rw[Nat.pow_succ]at hinv;refine Z3w (seg:=val 18446744073709551616 seg) (low:=val 18446744073709551616 (o.take i)) hinv ?_ ?_ rfl
    ·rw[Zid 18446744073709551616 o i (by omega),hsv]
    ·have h3:=Zid 18446744073709551616 (o.take i++r++o.drop (i+k+3)) i (by rw[lA,lA,htk];omega);rw[hnewv]at h3;have h4:(o.take i++r++o.drop (i+k+3)).take i=o.take i:=by
      rw[aAq,List.take_append_of_le_length (by omega),List.take_of_length_le (by omega)]
     rw[h3,h4]
  ·right;have hjz:j=0:=by omega
   subst hjz;rw[dFq (by simp),Zd];simp only[List.drop_zero,Nat.pow_zero,Nat.one_mul]at hltV hinv;exact⟨_,rfl,hod,hltV,hinv⟩
 ·rintro⟨o,q⟩ ⟨hod,hltV,hinv⟩;simp only at hod hltV hinv;rw[Za];have f1:ZRa q=some (val 18446744073709551616 q):=rfl;have f2:ZRa o=some (val 18446744073709551616 o):=rfl;simp only[f1,f2,Za];have hrok:okN (val 18446744073709551616 o):=by
   have:=ZYc (B:=18446744073709551616) (by decide) (Nat.le_of_lt hltV);unfold okN;omega
  have f3:Z5f (val 18446744073709551616 o) (s:Int)=some (val 18446744073709551616 o / 2^s):=by
   unfold Z5f;rw[iP ⟨hrok,by omega⟩];simp
  rw[f3,Za];have g1:n / m=val 18446744073709551616 q:=by
   have h3:=Nat.mul_div_mul_right n m hp;rw[← hA,← hV,← hinv,Nat.add_comm,Nat.mul_add_div hV0,Nat.div_eq_of_lt hltV,Nat.add_zero]at h3;exact h3.symm
  have g2:n%m*2^s=val 18446744073709551616 o:=by
   have h3:=Nat.mul_mod_mul_right (2^s) n m;rw[← hA,← hV,← hinv,Nat.add_comm,Nat.mul_add_mod,Nat.mod_eq_of_lt hltV]at h3;exact h3.symm
  rw[g1,← g2,Nat.mul_div_cancel _ hp]
theorem Zax {n m:Nat} {z:Nat×Nat} (h:ZEc n m=some z):ZRh n m=some z:=by
 unfold ZEc at h;split at h
 ·rename_i hh;rw[ZRA hh.1 hh.2.1 hh.2.2,← h]
 ·cases h
noncomputable def gcd_m (a:Nat) (b:Nat):Option (Nat) :=
 bnd (bnd (Zh (λs:Nat×Nat=>match s with
| (d,c) =>
 (ifb (decide ((0:Int)<(((Zc 18446744073709551616 c)).length:Int)))
 (bnd (ifb (decide ((((Zc 18446744073709551616 d)).length:Int)≤(1:Int)))
 (some (decide ((((Zc 18446744073709551616 c)).length:Int)≤(1:Int))))
 (some false))
 (λ(e:Bool) =>
 (ifb (e)
 (bnd (Zxh d c) λf =>
 bnd (Zfb f) λg =>
 some (.inr ((.inl g))))
 (bnd (ZEc d c) λh =>
 some (.inl ((c,h.2)))))))
 (some (.inr ((.inr d)))))) Zj ((a,b)))
 (λ(p:(Nat) ⊕ (Nat))=>match p with
| .inl i =>
 (some ((.inr i)))
| .inr j =>
 (some ((.inl j)))))
 (λ(p:(Nat) ⊕ (Nat))=>match p with
| .inl k =>
 (some k)
| .inr l =>
 (some l))
noncomputable def Zvs (s:Bool) (n:Nat):Option (Int) :=
 bnd (ifb (s)
 (some ((decide ((0:Int)<(((Zc 18446744073709551616 n)).length:Int)),n)))
 (some ((false,n))))
 (λ(a:(Bool×Nat)) =>
 (bnd (ZTd a.1 a.2) λb =>
 some b))
theorem ZUc {n m:Nat} (h:n≤m):bl n≤bl m:=ZCb (Nat.lt_of_le_of_lt h (Z0d m))
theorem Zru {a b:Nat} (h:b≤a) (h0:b≠0):bl (a%b)+1≤bl a:=by
 have ha:a≠0:=by omega
 obtain⟨k,hk⟩:=Zng ha;have h1:=(Zwf ha).1 hk;have h2:a%b<b:=Nat.mod_lt _ (by omega);have h3:a%b+b≤a:=by
  have h4:=Nat.div_add_mod a b;have h5:1≤a / b:=(Nat.le_div_iff_mul_le (by omega)).2 (by omega);have h6:b*1≤b*(a / b):=Nat.mul_le_mul_left _ h5;omega
 have h4:a%b<2^k:=by
  rw[Nat.pow_succ]at h1;omega
 have:=ZCb h4;omega
theorem ZMk {n m:Nat} (h:n≤m) (hm:okN m):okN n:=by
 have:=ZYc (B:=18446744073709551616) (by decide) h;unfold okN at *;omega
theorem ZOo {n:Nat} (h:okN n):bl n≤4398046511104:=by
 unfold okN at h;have h1:=Zrc (B:=18446744073709551616) (by decide) n;have h2:18446744073709551616^(Zc 18446744073709551616 n).length=2^(64*(Zc 18446744073709551616 n).length):=by rw[Nat.pow_mul]
 rw[h2]at h1;have:=ZCb h1;omega
theorem ZYs {n:Nat} (h:(Zc 18446744073709551616 n).length≤1):n<18446744073709551616:=by
 have h1:=Zrc (B:=18446744073709551616) (by decide) n;have h2:18446744073709551616^(Zc 18446744073709551616 n).length≤18446744073709551616^1:=Nat.pow_le_pow_right (by omega) h;rw[Nat.pow_one]at h2;omega
theorem gcd_eq {n m:Nat} (hn:okN n) (hm:okN m):gcd_m n m=some (Nat.gcd n m):=by
 unfold gcd_m;rw[Z5];refine Zta (λs:Nat×Nat=>okN s.1∧okN s.2∧Nat.gcd s.1 s.2=Nat.gcd n m) (λs=>2*(bl s.1+bl s.2)+if s.1<s.2 then 1 else 0) (λr:Nat ⊕ Nat=>r = .inl (Nat.gcd n m)∨r = .inr (Nat.gcd n m)) ⟨hn,hm,rfl⟩
  (ZX (by have:=ZOo hn;have:=ZOo hm;simp only;split <;> omega)) ?_ ?_
 ·rintro⟨a,b⟩ ⟨ha,hb,hg⟩;simp only at ha hb hg ⊢;by_cases h0:b=0
  ·right;subst h0;rw[Z7];refine⟨_,rfl,.inr ?_⟩;rw[← hg,Nat.gcd_zero_right]
  ·have hpos:=List.length_pos_iff.2 ((Zfc (n:=b) (B:=18446744073709551616) (by decide)).2 h0);rw[dTq (show (0:Int)<((Zc 18446744073709551616 b).length:Int) by omega),Ze];have cond:ifb (decide (((Zc 18446744073709551616 a).length:Int)≤1)) (some (decide (((Zc 18446744073709551616 b).length:Int)≤1))) (some false)=some (decide ((Zc 18446744073709551616 a).length≤1∧(Zc 18446744073709551616 b).length≤1)):=by
    by_cases q:(Zc 18446744073709551616 a).length≤1
    ·rw[dTq (by omega),Ze];exact congrArg some (decide_eq_decide.2 (by omega))
    ·rw[dFq (by omega),Zd,dFq (by omega)]
   rw[cond,Za];by_cases hc:(Zc 18446744073709551616 a).length≤1∧(Zc 18446744073709551616 b).length≤1
   ·right;rw[dTq hc,Ze];have h1:Zxh a b=some ((Nat.gcd a b:Nat):Int):=by unfold Zxh;rw[iP ⟨ZYs hc.1,ZYs hc.2,h0⟩]
    rw[h1,Za];have h2:Zfb ((Nat.gcd a b:Nat):Int)=some (Nat.gcd a b):=rfl;rw[h2,Za,hg];exact⟨_,rfl,.inl rfl⟩
   ·left;rw[dFq hc,Zd];have h1:ZEc a b=some (a / b,a%b):=by unfold ZEc;rw[iP ⟨ha,hb,h0⟩]
    rw[h1,Za];have hlt:a%b<b:=Nat.mod_lt _ (by omega);refine⟨_,rfl,⟨hb,ZMk (Nat.le_of_lt hlt) hb,?_⟩,?_⟩
    ·rw[← hg];simp only;rw[Nat.gcd_comm b,← Nat.gcd_rec,Nat.gcd_comm]
    ·simp only;rw[iN (by omega)];by_cases hab:a<b
     ·rw[iP hab,Nat.mod_eq_of_lt hab];omega
     ·have:=Zru (a:=a) (b:=b) (by omega) h0;rw[iN hab];omega
 ·rintro r (rfl | rfl)
  ·rfl
  ·rfl
theorem gcdF_eq {n m z:Nat} (h:gcdF n m=some z):gcd_m n m=some z:=by
 unfold gcdF at h;split at h
 ·rename_i hh;rw[gcd_eq hh.1 hh.2,← h]
 ·cases h
noncomputable def of_m (n:Int):Option (Int) :=
 ifb (decide (n<(0:Int)))
 (bnd (Zfb (IntKind.u64.wrap (-(IntKind.u64.wrap n)))) λa =>
 bnd (ZTd true a) λb =>
 some b)
 (bnd (Zfb (IntKind.u64.wrap n)) λc =>
 bnd (ZTd false c) λd =>
 some d)
noncomputable def Zgr (d:Nat):Option (Nat) :=
 ifb (((((Zc 18446744073709551616 d)).length:Int))==(0:Int))
 (bnd (Zfb (1:Int)) λa =>
 some a)
 (some d)
noncomputable def ZWr (x:Int):Option (Int) :=
 ifb (decide (x<0))
 (some (-1:Int))
 (ifb (decide ((0:Int)<(((Zc 18446744073709551616 x.natAbs)).length:Int)))
 (some (1:Int))
 (some (0:Int)))
theorem Zus {n:Nat}:0<(Zc 18446744073709551616 n).length↔n≠0:=List.length_pos_iff.trans (Zfc (by decide))
theorem ZJq {n:Nat}:decide ((0:Int)<((Zc 18446744073709551616 n).length:Int))=decide (n≠0) :=
 decide_eq_decide.2 (Int.natCast_pos.trans Zus)
theorem Zgt {n:Nat}:(((Zc 18446744073709551616 n).length:Int)==0)=decide (n=0):=by
 by_cases h:n=0
 ·subst h;rw[Z7];rfl
 ·rw[dFq h];have:=Zus.2 h;exact beq_eq_false_iff_ne.2 (by omega)
theorem Z8f {s:Bool} {n:Nat} (h:s=true→n≠0):ZTd s n=some (if s then -(n:Int) else n):=by
 unfold ZTd;rw[iN (λhh=>h hh.1 hh.2)]
theorem Zix {s:Bool} {n:Nat} {z:Int} (h:ZKa s n=some z):Zvs s n=some z:=by
 unfold ZKa at h;unfold Zvs
 cases s
 ·rw[Zd,Za,Z8f (by simp),Za,← h]
 ·rw[Ze,Za,ZJq];by_cases h0:n=0
  ·subst h0;rw[Z8f (by simp),Za,← h];simp
  ·rw[dTq h0,Z8f (by simpa using h0),Za,← h]
theorem ofF_eq {n z:Int} (hn:inR .i64 n) (h:ofF n=some z):of_m n=some z:=by
 have hr:=ZXa.1 hn;unfold ofF at h
 cases h
 unfold of_m Zfb;rw[wrap_u64,wrap_u64];by_cases hc:n<0
 ·rw[dTq hc,Ze,Za,Z8f (by omega),Za];simp only[if_true];congr 1;omega
 ·rw[dFq hc,Zd,Za,Z8f (by simp),Za];have:((n%18446744073709551616).toNat:Int)=n:=by omega
  simp[this]
theorem Ztw {d z:Nat} (h:Zmc d=some z):Zgr d=some z:=by
 unfold Zmc ZXe at h;unfold Zgr;rw[Zgt];by_cases h0:d=0
 ·subst h0;rw[dTq rfl,Ze,← h];rfl
 ·rw[dFq h0,Zd,← h,iN h0]
theorem ZPA {x z:Int} (h:Zvj x=some z):ZWr x=some z:=by
 unfold Zvj at h
 cases h
 unfold ZWr;rw[ZJq];by_cases h1:x<0
 ·rw[dTq h1,Ze,Int.sign_eq_neg_one_of_neg h1]
 ·rw[dFq h1,Zd];by_cases h2:x=0
  ·subst h2;rfl
  ·rw[dTq (by omega),Ze,Int.sign_eq_one_of_pos (by omega)]
noncomputable def ZUr (x:Int) (y:Int):Option (Int) :=
 ifb ((decide (x<0))==(decide (y<0)))
 (bnd (Zrg x.natAbs y.natAbs) λa =>
 bnd (ZKa (decide (x<0)) a) λb =>
 some b)
 (bnd (Zsf x.natAbs y.natAbs) λc =>
 ifb (decide ((0:Int)≤c))
 (bnd (ZSg x.natAbs y.natAbs) λd =>
 bnd (ZKa (decide (x<0)) d) λe =>
 some e)
 (bnd (ZSg y.natAbs x.natAbs) λf =>
 bnd (ZKa (decide (y<0)) f) λg =>
 some g))
noncomputable def Zut (x:Int) (y:Int):Option (Int) :=
 bnd (ZDc x.natAbs y.natAbs) λa =>
 bnd (ZKa ((decide (x<0)) != (decide (y<0))) a) λb =>
 some b
noncomputable def ZWs (x:Int) (n:Nat):Option (Int) :=
 bnd (ZDc x.natAbs n) λa =>
 bnd (ZKa (decide (x<0)) a) λb =>
 some b
noncomputable def Zap (x:Int):Option (Int) :=
 bnd (ZKa (!(decide (x<0))) x.natAbs) λa =>
 some a
noncomputable def ZVt (n:Int):Option (Rat) :=
 bnd (ofF n) λa =>
 bnd (Z7d a ((0:Nat))) λb =>
 some b
noncomputable def ZQs (n:Int) (d:Nat):Option (Rat) :=
 bnd (gcdF n.natAbs d) λa =>
 bnd (Zjg a) λe =>
 bnd (ifb (!(e))
 (bnd (ZEc n.natAbs a) λf =>
 bnd (ZEc d a) λg =>
 some ((g.1,(decide (n<0),f.1))))
 (some ((d,(decide (n<0),n.natAbs)))))
 (λ(p:Nat×(Bool×Nat))=>match p with
| (b,c) =>
 (bnd (Zjg b) λh =>
 bnd (ifb (h)
 (some ((0:Nat)))
 (some b))
 (λ(i:Nat) =>
 (bnd (ZTd c.1 c.2) λj =>
 bnd (Z7d j i) λk =>
 some k))))
noncomputable def ZAq (x:Rat):Option (Bool) :=
 some (((((Zc 18446744073709551616 ((x.num).natAbs))).length:Int))==(0:Int))
theorem ZOx {x y z:Int} (h:Znj x y=some z):ZUr x y=some z:=by
 unfold Znj at h;split at h
 ·rename_i hh;obtain⟨hx,hy⟩:=hh
  cases h
  unfold ZUr ZKa Zrg ZSg Zsf;by_cases hs:decide (x<0)=decide (y<0)
  ·rw[hs,show (decide (y<0)==decide (y<0))=true by simp,Ze,iP ⟨hx,hy⟩,Za,Za];by_cases h0:y<0
   ·rw[dTq h0]at hs ⊢;have hx0:=of_decide_eq_true hs;rw[iP rfl];congr 1;omega
   ·rw[dFq h0]at hs ⊢;have hx0:=of_decide_eq_false hs;rw[iN (by simp)];congr 1;omega
  ·have e:(decide (x<0)==decide (y<0))=false:=by simpa using hs
   rw[e,Zd,Za];have hxy:(x<0∧¬ y<0)∨(¬ x<0∧y<0):=by
    by_cases h1:x<0 <;> by_cases h2:y<0 <;> simp[h1,h2]at hs ⊢
   by_cases hc:y.natAbs≤x.natAbs
   ·have:decide (0≤Zma x.natAbs y.natAbs)=true:=by
     unfold Zma;rw[iN (by omega)];split <;> rfl
    rw[this,Ze,iP ⟨hx,hc⟩,Za,Za];rcases hxy with ⟨h1,h2⟩ | ⟨h1,h2⟩
    ·rw[dTq h1,iP rfl];congr 1;omega
    ·rw[dFq h1,iN (by simp)];congr 1;omega
   ·have:decide (0≤Zma x.natAbs y.natAbs)=false:=by
     unfold Zma;rw[iP (by omega)];rfl
    rw[this,Zd,iP ⟨hy,by omega⟩,Za,Za];rcases hxy with ⟨h1,h2⟩ | ⟨h1,h2⟩
    ·rw[dFq h2,iN (by simp)];congr 1;omega
    ·rw[dTq h2,iP rfl];congr 1;omega
 ·cases h
theorem Zpq {x y:Int}:(if (decide (x<0) != decide (y<0))=true then -((x.natAbs*y.natAbs:Nat):Int) else ((x.natAbs*y.natAbs:Nat):Int))=x*y:=by
 rw[Int.natCast_mul];by_cases h1:x<0 <;> by_cases h2:y<0
 ·simp only[h1,h2,decide_true,bne_self_eq_false,Bool.false_eq_true,if_false];rw[Int.ofNat_natAbs_of_nonpos (by omega),Int.ofNat_natAbs_of_nonpos (by omega),Int.neg_mul_neg]
 ·simp only[h1,h2,decide_true,decide_false];rw[Int.ofNat_natAbs_of_nonpos (by omega),Int.natAbs_of_nonneg (by omega)];simp[Int.neg_mul]
 ·simp only[h1,h2,decide_true,decide_false];rw[Int.natAbs_of_nonneg (by omega),Int.ofNat_natAbs_of_nonpos (by omega)];simp[Int.mul_neg]
 ·simp only[h1,h2,decide_false,bne_self_eq_false,Bool.false_eq_true,if_false];rw[Int.natAbs_of_nonneg (by omega),Int.natAbs_of_nonneg (by omega)]
theorem Zqv {x y z:Int} (h:ZPi x y=some z):Zut x y=some z:=by
 unfold ZPi at h;split at h
 ·rename_i hh
  cases h
  unfold Zut ZKa ZDc;rw[iP hh,Za,Za,Zpq]
 ·cases h
theorem Z8v {x z:Int} {n:Nat} (h:Zef x n=some z):ZWs x n=some z:=by
 unfold Zef at h;split at h
 ·rename_i hh
  cases h
  unfold ZWs ZKa ZDc;rw[iP hh,Za,Za];have:=Zpq (x:=x) (y:=(n:Int));have h0:decide ((n:Int)<0)=false:=dFq (by omega);rw[h0]at this;simp only[Int.natAbs_natCast,Bool.bne_false]at this;rw[this]
 ·cases h
theorem ZQA {x z:Int} (h:ZQh x=some z):Zap x=some z:=by
 unfold ZQh at h
 cases h
 unfold Zap ZKa;rw[Za];by_cases h1:x<0
 ·rw[dTq h1];simp;omega
 ·rw[dFq h1];simp;omega
theorem Z7y {n:Int} {z:Rat} (h:Z1c n=some z):ZVt n=some z:=by
 unfold Z1c at h
 cases h
 unfold ZVt ofF;rw[Za];have:=ZPj (n:Rat);have e:Zwa (n:Rat).den=0:=by simp[Zwa]
 rw[e]at this;have e2:(n:Rat).num=n:=by simp
 rw[e2]at this;rw[this,Za]
theorem ZFy {x:Rat} {z:Bool} (h:ZUa x=some z):ZAq x=some z:=by
 unfold ZUa at h;unfold ZAq;rw[Zgt,← h];congr 1;apply decide_eq_decide.2;rw[Int.natAbs_eq_zero,Rat.num_eq_zero]
theorem Z1w {n:Int} {d:Nat} {z:Rat} (h:Zgc n d=some z):ZQs n d=some z:=by
 unfold Zgc at h;split at h
 ·rename_i hh;obtain⟨hn,hd,h0⟩:=hh
  cases h
  unfold ZQs gcdF Zjg ZEc;rw[iP ⟨hn,hd⟩,Za,Za];obtain⟨g,hg⟩:∃ g,g=Nat.gcd n.natAbs d:=⟨_,rfl⟩;have hg0:g≠0:=by rw[hg];exact λe=>h0 (Nat.gcd_eq_zero_iff.1 e).2
  have hgd:g∣d:=by rw[hg];exact Nat.gcd_dvd_right _ _
  have hgn:g∣n.natAbs:=by rw[hg];exact Nat.gcd_dvd_left _ _
  have hgok:okN g:=ZMk (Nat.le_of_dvd (by omega) hgd) hd;rw[← hg];have both:ifb (!decide (g=1)) (bnd (if okN n.natAbs∧okN g∧g≠0 then some (n.natAbs / g,n.natAbs%g) else none) λy107=>bnd (if okN d∧okN g∧g≠0 then some (d / g,d%g) else none) λy135=>some (y135.1,(decide (n<0),y107.1)))
    (some (d,(decide (n<0),n.natAbs)))=some (d / g,(decide (n<0),n.natAbs / g)):=by
   by_cases h1:g=1
   ·rw[dTq h1,h1];simp[ifb]
   ·rw[dFq h1,iP ⟨hn,hgok,hg0⟩,iP ⟨hd,hgok,hg0⟩];rfl
  rw[both,Za];simp only;rw[Za];have hden:ifb (decide (d / g=1)) (some 0) (some (d / g))=some (Zwa (d / g)):=by
   unfold Zwa;by_cases h1:d / g=1
   ·rw[dTq h1,Ze,iP h1]
   ·rw[dFq h1,Zd,iN h1]
  rw[hden,Za];have hq:mkRat n d=mkRat n d:=rfl;have e1:(mkRat n d).num=n / (g:Int):=by rw[Rat.num_mkRat,iN h0,Nat.gcd_comm,← hg]
  have e2:(mkRat n d).den=d / g:=by rw[Rat.den_mkRat,iN h0,Nat.gcd_comm,← hg]
  have hgpos:0<g:=by omega
  obtain⟨c,hc⟩:=hgn;have hcd:n.natAbs / g=c:=by rw[hc,Nat.mul_div_cancel_left _ hgpos]
  have e3:ZTd (decide (n<0)) (n.natAbs / g)=some (n / (g:Int)):=by
   rw[hcd];by_cases hneg:n<0
   ·rw[dTq hneg,Z8f (λ_ e=>by rw[e]at hc;omega),iP rfl];have:n=(g:Int)*(-(c:Int)):=by
     have h1:(n.natAbs:Int)=(g:Int)*c:=by rw[hc];simp
     rw[Int.mul_neg,← h1];omega
    rw[this,Int.mul_ediv_cancel_left _ (by omega)]
   ·rw[dFq hneg,Z8f (by simp)];have:n=(g:Int)*(c:Int):=by
     have h1:(n.natAbs:Int)=(g:Int)*c:=by rw[hc];simp
     rw[← h1];omega
    rw[this,Int.mul_ediv_cancel_left _ (by omega)];simp
  rw[e3,Za,← e1,← e2,ZPj,Za]
 ·cases h
noncomputable def Znt (x:Rat) (y:Rat):Option (Rat) :=
 bnd (Zmc ((Zwa x.den))) λa =>
 bnd (Zmc ((Zwa y.den))) λb =>
 bnd (Zef x.num b) λc =>
 bnd (Zef y.num a) λd =>
 bnd (Znj c d) λe =>
 bnd (ZDc a b) λf =>
 bnd (Zgc e f) λg =>
 some g
noncomputable def ZNr (x:Rat) (y:Rat):Option (Rat) :=
 bnd (ZPi x.num y.num) λa =>
 bnd (Zmc ((Zwa x.den))) λb =>
 bnd (Zmc ((Zwa y.den))) λc =>
 bnd (ZDc b c) λd =>
 bnd (Zgc a d) λe =>
 some e
noncomputable def Zau (x:Rat):Option (Rat) :=
 bnd (ZQh x.num) λa =>
 bnd (Z7d a ((Zwa x.den))) λb =>
 some b
noncomputable def ZTs (x:Rat):Option (Int) :=
 bnd (Zvj x.num) λa =>
 some a
theorem ZMf (q:Rat):ZXe (Zwa q.den)=q.den:=Zar q.den q.den_nz
theorem okN_of {n k:Nat} (h:bl n≤64*k) (hk:k≤68719476736):okN n:=by
 unfold okN;refine Nat.le_trans (ZZf (B:=18446744073709551616) (k:=k) (by decide) ?_) hk;have h1:=Z0d n;have h2:18446744073709551616^k=2^(64*k):=by rw[Nat.pow_mul]
 rw[h2];exact Nat.lt_of_lt_of_le h1 (Nat.pow_le_pow_right (by omega) h)
theorem Z9 {n:Nat} (h:bl n≤4398046511104):okN n:=okN_of (k:=(bl n+63) / 64) (by omega) (by omega)
theorem ZZa (a b:Nat):bl (a*b)≤bl a+bl b:=by
 apply ZCb;rw[Nat.pow_add];exact Nat.mul_lt_mul'' (Z0d a) (Z0d b)
theorem Znk (a b:Nat):bl (a+b)≤max (bl a) (bl b)+1:=by
 apply ZCb;have h1:=Z0d a;have h2:=Z0d b;have h3:2^bl a≤2^max (bl a) (bl b):=Nat.pow_le_pow_right (by omega) (Nat.le_max_left ..);have h4:2^bl b≤2^max (bl a) (bl b):=Nat.pow_le_pow_right (by omega) (Nat.le_max_right ..);rw[Nat.pow_succ];omega
theorem Zvw {x y z:Rat} (h:Z3b x y=some z):Znt x y=some z:=by
 unfold Z3b at h;split at h
 ·rename_i hh;obtain⟨⟨h1,h2⟩,h3,h4⟩:=hh
  cases h
  unfold Znt Zmc Zef Znj ZDc Zgc;rw[ZMf,ZMf,Za,Za];have p1:=ZZa x.num.natAbs y.den;have p2:=ZZa y.num.natAbs x.den;have p3:=ZZa x.den y.den;have e1:(x.num*(y.den:Int)).natAbs=x.num.natAbs*y.den:=by rw[Int.natAbs_mul];simp
  have e2:(y.num*(x.den:Int)).natAbs=y.num.natAbs*x.den:=by rw[Int.natAbs_mul];simp
  have p4:bl (x.num*(y.den:Int)+y.num*(x.den:Int)).natAbs≤4398046511104:=by
   have h5:=Int.natAbs_add_le (x.num*(y.den:Int)) (y.num*(x.den:Int));have h6:=ZUc h5;have h7:=Znk (x.num*(y.den:Int)).natAbs (y.num*(x.den:Int)).natAbs;rw[e1,e2]at h7;rw[e1,e2]at h6;omega
  rw[iP ⟨Z9 (by omega),Z9 (by omega)⟩,Za,iP ⟨Z9 (by omega),Z9 (by omega)⟩,Za,iP ⟨by rw[e1];exact Z9 (by omega),by rw[e2];exact Z9 (by omega)⟩,Za,
   iP ⟨Z9 (by omega),Z9 (by omega)⟩,Za,iP ⟨Z9 p4,Z9 (by omega),Nat.mul_ne_zero x.den_nz y.den_nz⟩,Za,← Rat.add_def']
 ·cases h
theorem ZRy {x y z:Rat} (h:Zvb x y=some z):ZNr x y=some z:=by
 unfold Zvb at h;split at h
 ·rename_i hh;obtain⟨⟨h1,h2⟩,h3,h4⟩:=hh
  cases h
  unfold ZNr Zmc ZPi ZDc Zgc;rw[ZMf,ZMf];have p1:=ZZa x.num.natAbs y.num.natAbs;have p3:=ZZa x.den y.den;have e1:(x.num*y.num).natAbs=x.num.natAbs*y.num.natAbs:=Int.natAbs_mul ..;rw[iP ⟨Z9 (by omega),Z9 (by omega)⟩,Za,Za,Za,iP ⟨Z9 (by omega),Z9 (by omega)⟩,Za,iP ⟨by rw[e1];exact Z9 (by omega),Z9 (by omega),Nat.mul_ne_zero x.den_nz y.den_nz⟩,Za,← Rat.mul_def']
 ·cases h
theorem ZaB {x:Rat} {z:Int} (h:Zzf x=some z):ZTs x=some z:=by
 unfold Zzf at h;unfold ZTs Zvj;rw[Za,h]
theorem ZAw {x z:Rat} (h:Zae x=some z):Zau x=some z:=by
 unfold Zae at h
 cases h
 unfold Zau ZQh;rw[Za];have:=ZPj (-x);have e1:(-x).num = -x.num:=rfl;have e2:(-x).den=x.den:=rfl;rw[e1,e2]at this;rw[this,Za]
noncomputable def ZHp (x:Rat) (y:Rat):Option (Rat×Int) :=
 bnd (ZUa y) λb =>
 ifb (b)
 (some (((0:Rat),(3:Int))))
 (bnd (bnd (Zmc ((Zwa y.den))) λc =>
 bnd (Zef x.num c) λd =>
 some d)
 (λ(a:Int) =>
 (bnd (ZKa ((decide (a<0)) != (decide (y.num<0))) a.natAbs) λe =>
 bnd (Zmc ((Zwa x.den))) λf =>
 bnd (ZDc f ((y.num).natAbs)) λg =>
 bnd (Zgc e g) λh =>
 some ((h,(0:Int))))))
noncomputable def Z8t (n:Int) (d:Int):Option (Rat×Int) :=
 ifb (d==(0:Int))
 (some (((0:Rat),(3:Int))))
 (bnd (ofF n) λa =>
 bnd (ofF d) λb =>
 bnd (ZKa ((decide (a<0)) != (decide (b<0))) a.natAbs) λc =>
 bnd (Zgc c b.natAbs) λe =>
 some ((e,(0:Int))))
noncomputable def ZBr (x:Rat) (y:Rat):Option (Rat) :=
 bnd (Zae y) λa =>
 bnd (Z3b x a) λb =>
 some b
theorem Zjj (n d:Int):Rat.divInt n d=mkRat (if d<0 then -n else n) d.natAbs:=by
 cases d with
 | ofNat d=>rw[iN (by simp)];rfl
 | negSucc d =>
  rw[iP (Int.negSucc_lt_zero d)];show Rat.normalize (-n) (d+1) (Nat.succ_ne_zero d)=mkRat (-n) (d+1);rw[Rat.normalize_eq_mkRat]
theorem inv_mk {y:Rat} (h:y≠0):y⁻¹=mkRat (if y.num<0 then -(y.den:Int) else y.den) y.num.natAbs:=by
 rw[Rat.inv_def,Zjj]
theorem Zfm {x y:Rat} (h:y≠0):x / y=mkRat (if y.num<0 then -(x.num*(y.den:Int)) else x.num*(y.den:Int)) (x.den*y.num.natAbs):=by
 rw[Rat.div_def,inv_mk h]
 conv=>lhs;rw[← Rat.mkRat_self x]
 rw[Rat.mkRat_mul_mkRat]
 ·congr 1;split <;> grind
theorem okQ_neg {x:Rat} (h:okQ x):okQ (-x):=by
 unfold okQ at *;have e1:(-x).num = -x.num:=rfl;have e2:(-x).den=x.den:=rfl;rw[e1,e2,Int.natAbs_neg];exact h
theorem ZYw {x y z:Rat} (h:Z8b x y=some z):ZBr x y=some z:=by
 unfold Z8b at h;split at h
 ·rename_i hh;unfold ZBr Zae Z3b;rw[Za,iP ⟨hh.1,okQ_neg hh.2⟩,Za,← Rat.sub_eq_add_neg];exact h
 ·cases h
theorem Z0m {y:Rat} (h:y≠0):y.num≠0:=λe=>h (by rwa [Rat.num_eq_zero]at e)
theorem ZMn (n m:Int):ZKa (decide (n<0) != decide (m<0)) n.natAbs=some (if m<0 then -n else n):=by
 unfold ZKa;by_cases h1:n<0 <;> by_cases h2:m<0 <;> simp[h1,h2] <;> omega
theorem ZYy {x y:Rat} {z:Rat×Int} (h:Zfd x y=some z):ZHp x y=some z:=by
 unfold Zfd at h;split at h
 ·rename_i hh;obtain⟨⟨h1,h2⟩,h3,h4⟩:=hh
  cases h
  unfold ZHp ZUa;rw[Za];by_cases h0:y=0
  ·subst h0;rfl
  ·rw[dFq h0,Zd,iN h0];unfold Zef Zmc ZDc Zgc;rw[ZMf,ZMf];have p1:=ZZa x.num.natAbs y.den;have p3:=ZZa x.den y.num.natAbs;have e1:(x.num*(y.den:Int)).natAbs=x.num.natAbs*y.den:=by rw[Int.natAbs_mul];simp
   have e2:(if y.num<0 then -(x.num*(y.den:Int)) else x.num*(y.den:Int)).natAbs=x.num.natAbs*y.den:=by
    split
    ·rw[Int.natAbs_neg];exact e1
    ·exact e1
   have hn:=Z0m h0;rw[Za,iP ⟨Z9 (by omega),Z9 (by omega)⟩,Za,Za,ZMn,Za,Za,iP ⟨Z9 (by omega),Z9 (by omega)⟩,Za,
    iP ⟨by rw[e2];exact Z9 (by omega),Z9 (by omega),Nat.mul_ne_zero x.den_nz (by omega)⟩,Za,← Zfm h0]
 ·cases h
theorem ZCw {n d:Int} {z:Rat×Int} (hn:inR .i64 n) (hd:inR .i64 d) (h:Zdi n d=some z):Z8t n d=some z:=by
 unfold Zdi at h
 cases h
 have hn:=ZXa.1 hn;have hd:=ZXa.1 hd;have ok:∀ k:Nat,k<2^64→okN k:=λk hk=>Z9 (Nat.le_trans (ZCb hk) (by decide));unfold Z8t;by_cases h0:d=0
 ·subst h0;rfl
 ·have e0:(d==0)=false:=by simp[h0]
  rw[e0,Zd,iN h0];unfold ofF Zgc;rw[Za,Za,ZMn,Za,iP ⟨ok _ (by split <;> omega),ok _ (by omega),by omega⟩,Za,← Zjj]
noncomputable def ZFs (x:Rat) (y:Rat):Option (Int) :=
 bnd (Z8b x y) λa =>
 bnd (Zzf a) λb =>
 some b
noncomputable def ZMq (r:(Int×Int)):Option (Rat) :=
 ifb (r.2==(0:Int))
 (bnd (Z1c r.1) λa =>
 some a)
 (bnd (Zdi r.1 r.2) λb =>
 some b.1)
theorem Z2x {x y:Rat} {z:Int} (h:Zgf x y=some z):ZFs x y=some z:=by
 unfold Zgf at h;split at h
 ·rename_i hh
  cases h
  unfold ZFs Z8b Zzf;rw[iP hh,Za,Za]
 ·cases h
theorem ZMy {r:Int×Int} {z:Rat} (h:Zqd r=some z):ZMq r=some z:=by
 unfold Zqd at h
 cases h
 unfold ZMq ZMa Z1c Zdi;by_cases h0:r.2=0
 ·rw[iP h0,h0];rfl
 ·have:(r.2==0)=false:=by simp[h0]
  rw[this,Zd,Za,iN h0,iN h0]
noncomputable def ZYj (n:Int):Option ((List UInt8)) :=
 bnd (bnd (Zh (λs:(List Int)×Int×Int=>match s with
| (a,b,e) =>
 (ifb (decide ((0:Int)<b))
 (bnd (chk .i64 (e-(1:Int))) λc =>
 bnd (rem .u64 b (10:Int)) λg =>
 bnd (idx a c) λk =>
 bnd (quo .u64 b (10:Int)) λh =>
 some (.inl (((a.set (c).toNat (IntKind.u8.wrap (IntKind.u64.wrap ((48:Int)+g)))),h,c))))
 (some (.inr ((a,e)))))) Zj (((List.replicate 20 (0:Int)),n,(20:Int))))
 (λ(p:(List Int)×Int)=>match p with
| (i,j) =>
 (some ((i,j)))))
 (λ(p:(List Int)×Int)=>match p with
| (d,f) =>
 (bnd (ZNa d f (d.length:Int)) λl =>
 some ((ZWd (d.drop ((f).toNat))))))
theorem ZYA {n:Nat} (h:n<10):UInt8.ofNat (IntKind.u8.wrap (IntKind.u64.wrap (48+((n:Nat):Int)))).toNat=UInt8.ofNat (48+n):=by
 have:n=0∨n=1∨n=2∨n=3∨n=4∨n=5∨n=6∨n=7∨n=8∨n=9:=by omega
 rcases this with rfl | rfl | rfl | rfl | rfl | rfl | rfl | rfl | rfl | rfl <;> rfl
theorem ZGf {n:Nat} (h:n≠0):ZP n=ZP (n / 10)++[UInt8.ofNat (48+n%10)]:=by rw[ZP,dif_neg h]
theorem ZIc:ZP 0=[]:=by rw[ZP];rfl
theorem Zrv {n:Int} {z:List UInt8} (hn:inR .u64 n) (h:Z4g n=some z):ZYj n=some z:=by
 unfold Z4g at h
 cases h
 have hn:=Zcd.1 hn;obtain⟨N,rfl⟩:=oZ hn.1;unfold ZYj;rw[Z5];refine Zta (λs:(List Int)×Int×Int=>∃ m k:Nat,s.2.1=(m:Int)∧s.2.2=(k:Int)∧k≤20∧m<10^k∧m<18446744073709551616∧s.1.length=20∧ZP m++ZWd (s.1.drop k)=ZP N) (λs=>s.2.1.toNat)
  (λr:List Int×Int=>∃ k:Nat,r.2=(k:Int)∧k≤20∧r.1.length=20∧ZWd (r.1.drop k)=ZP N) ⟨N,20,rfl,rfl,by omega,by omega,by omega,by simp,by simp[ZWd]⟩ (ZX (by simp;omega)) ?_ ?_
 ·rintro⟨l,m,k⟩ ⟨m,k,rfl,rfl,hk,hm,hm2,hl,hd⟩;simp only at hm hm2 hl hd ⊢;by_cases h0:m=0
  ·right;subst h0;rw[dFq (by omega),Zd];rw[ZIc,List.nil_append]at hd;exact⟨_,rfl,k,rfl,hk,hl,hd⟩
  ·left;rw[dTq (by omega),Ze];have hk0:k≠0:=by rintro rfl;omega
   obtain⟨j,rfl⟩:∃ j,k=j+1:=⟨k-1,by omega⟩;have c1:chk .i64 (((j+1:Nat):Int)-1)=some (j:Int):=by rw[show ((j+1:Nat):Int)-1=(j:Int) by omega,Zua (by omega)]
   have c2:rem .u64 (m:Int) 10=some ((m%10:Nat):Int):=Z7e (q:=10) (by omega);have c3:quo .u64 (m:Int) 10=some ((m / 10:Nat):Int):=Zlh (q:=10) (by omega) hm2;rw[c1,Za,c2,Za,Zu (by omega),Za,c3,Za];have hm10:m / 10<10^j:=by
    rw[Nat.pow_succ]at hm;omega
   refine⟨_,rfl,⟨m / 10,j,rfl,rfl,by omega,hm10,by omega,by simp[hl],?_⟩,by simp only[tN];omega⟩;simp only[tN];have hj:j<l.length:=by omega
   rw[← hd,ZGf h0,aAq];congr 1;have e:(l.set j (IntKind.u8.wrap (IntKind.u64.wrap (48+((m%10:Nat):Int))))).drop j=IntKind.u8.wrap (IntKind.u64.wrap (48+((m%10:Nat):Int))) :: l.drop (j+1):=by
    rw[List.drop_eq_getElem_cons (by simpa using hj),List.getElem_set_self,List.drop_set_of_lt (by omega)]
   rw[e];show UInt8.ofNat _ :: ZWd _=_;rw[ZYA (Nat.mod_lt _ (by omega))];rfl
 ·rintro⟨l,k⟩ ⟨k,rfl,hk,hl,hd⟩;simp only at hl hd ⊢;rw[Za];simp only;have:ZNa l (k:Int) (l.length:Int)=some (l.drop k):=by
   unfold ZNa;rw[iP ⟨by omega,by omega,by omega⟩];simp
  rw[this,Za,tN,hd,tN]
end Go.Eng
namespace Go.Eng
open Go.RowKit
theorem ZSn {v:Zb} {c:List Value} {a:List Int} (h:(ZB (Zf .u64)).rel v c a):Dig 18446744073709551616 a∧a.length≤9223372036854775807:=by
 have hl:=ZAh h;rw[ZXa]at hl;refine⟨?_,by omega⟩;obtain⟨q,cap,rfl,h1,h2,h3⟩:=h;rcases h3 with rfl | ⟨b,off,cc,T,fr,rfl,hb,hr⟩
 ·exact Dig.nil
 ·intro x hx;obtain⟨i,hi⟩:=List.getElem?_of_mem hx;have hg:=ZJa hr hi;obtain⟨_,h4⟩:=hg;have:=Zcd.1 h4;omega
theorem ZLu {v:Zb} {c:List Value} {n:Nat} (h:Zt.rel v c n):(Zc 18446744073709551616 n).length≤9223372036854775807:=(ZSn (a:=Zc 18446744073709551616 n) h).2
theorem Zrm {v:Zb}:∀ {cs:List Value} {u:List Int},Rep.rels (Zf .u64) v cs u→Dig 18446744073709551616 u
 | _,[],_=>Dig.nil
 | _,x :: u,h=>by
  obtain⟨c1,c2,rfl,⟨_,h1⟩,h2⟩:=h
  have:=Zcd.1 h1
  exact Dig.cons.2 ⟨by omega,Zrm h2⟩
noncomputable def ZIr (a:(List Int)):Option ((List Int)) :=
 bnd (bnd (Zh (λs:Int=>match s with
| b =>
 (bnd (ifb (decide ((0:Int)<b))
 (bnd (chk .i64 (b-(1:Int))) λc =>
 bnd (idx a c) λd =>
 some (d==(0:Int)))
 (some false))
 (λ(e:Bool) =>
 (ifb (e)
 (bnd (chk .i64 (b-(1:Int))) λf =>
 some (.inl f))
 (some (.inr b)))))) Zj ((a.length:Int)))
 (λ(g:Int) =>
 (some g)))
 (λ(h:Int) =>
 (bnd (ZNa a (0:Int) h) λi =>
 some i))
noncomputable def ZTu (a:Nat) (b:Nat):Option (Int) :=
 ifb (decide ((((Zc 4294967296 a)).length:Int)<(((Zc 4294967296 b)).length:Int)))
 (some (-1:Int))
 (ifb (decide ((((Zc 4294967296 b)).length:Int)<(((Zc 4294967296 a)).length:Int)))
 (some (1:Int))
 (bnd (chk .i64 (((((Zc 4294967296 a)).length:Int))-(1:Int))) λd =>
 bnd (bnd (Zh (λs:Int=>match s with
| c =>
 (ifb (decide ((0:Int)≤c))
 (bnd (idx ((Zc 4294967296 a)) c) λe =>
 bnd (idx ((Zc 4294967296 b)) c) λf =>
 ifb (decide (e<f))
 (some (.inr ((.inl (-1:Int)))))
 (bnd (idx ((Zc 4294967296 a)) c) λg =>
 bnd (idx ((Zc 4294967296 b)) c) λh =>
 ifb (decide (h<g))
 (some (.inr ((.inl (1:Int)))))
 (bnd (chk .i64 (c-(1:Int))) λi =>
 some (.inl i))))
 (some (.inr ((.inr (()))))))) Zj d)
 (λ(p:(Int) ⊕ (Unit))=>match p with
| .inl j =>
 (some ((.inr j)))
| .inr (()) =>
 (some ((.inl (()))))))
 (λ(p:(Unit) ⊕ (Int))=>match p with
| .inl (()) =>
 (some (0:Int))
| .inr k =>
 (some k))))
noncomputable def ZUm (a:Nat):Option (Int) :=
 ifb (((((Zc 4294967296 a)).length:Int))==(0:Int))
 (some (0:Int))
 (bnd (chk .i64 (((((Zc 4294967296 a)).length:Int))-(1:Int))) λd =>
 bnd (chk .i64 ((32:Int)*d)) λe =>
 bnd (chk .i64 (((((Zc 4294967296 a)).length:Int))-(1:Int))) λf =>
 bnd (idx ((Zc 4294967296 a)) f) λg =>
 bnd (bnd (Zh (λs:Int×Int=>match s with
| (b,c) =>
 (ifb (decide ((0:Int)<c))
 (bnd (chk .i64 (b+(1:Int))) λh =>
 bnd (ZN .u32 c (1:Int)) λi =>
 some (.inl ((h,i))))
 (some (.inr b)))) Zj ((e,g)))
 (λ(j:Int) =>
 (some j)))
 (λ(k:Int) =>
 (some k)))
noncomputable def Zat (x:Rat):Option (Nat) :=
 ifb (((((Zc 4294967296 x.den)).length:Int))==(0:Int))
 (bnd (Z0b ([(1:Int)])) λa =>
 some a)
 (some x.den)
noncomputable def ZZt (x:Rat):Option (Bool) :=
 some (((((Zc 4294967296 x.num.natAbs)).length:Int))==(0:Int))
theorem Z7n {v:Zb} {c:List Value} {a:List Int} (h:(ZB (Zf .u32)).rel v c a):Dig 4294967296 a∧a.length≤9223372036854775807:=by
 have hl:=ZAh h;rw[ZXa]at hl;refine⟨?_,by omega⟩;obtain⟨q,cap,rfl,h1,h2,h3⟩:=h;rcases h3 with rfl | ⟨b,off,cc,T,fr,rfl,hb,hr⟩
 ·exact Dig.nil
 ·intro x hx;obtain⟨i,hi⟩:=List.getElem?_of_mem hx;have hg:=ZJa hr hi;obtain⟨_,h4⟩:=hg;have h5:0≤x∧x≤4294967295:=h4;omega
theorem Zmq {v:Zb} {c:List Value} {n:Nat} (h:Zab.rel v c n):(Zc 4294967296 n).length≤9223372036854775807:=(Z7n (a:=Zc 4294967296 n) h).2
theorem rcut_eq {a:List Int} (ha:Dig 4294967296 a) (hl:a.length≤9223372036854775807):ZIr a=some (Zc 4294967296 (val 4294967296 a)):=by
 unfold ZIr;rw[Z5];refine Zta (λs:Int=>∃ k:Nat,s=(k:Int)∧k≤a.length∧val 4294967296 (a.take k)=val 4294967296 a) (λs=>s.toNat)
  (λr:Int=>∃ k:Nat,r=(k:Int)∧k≤a.length∧val 4294967296 (a.take k)=val 4294967296 a∧Cut (a.take k)) ⟨a.length,rfl,by omega,by rw[List.take_length]⟩ (ZX (by omega)) ?_ ?_
 ·rintro s ⟨k,rfl,hk,hv⟩;simp only;by_cases h0:k=0
  ·right;subst h0;rw[show decide ((0:Int)<((0:Nat):Int))=false from rfl,Zd,Za,Zd];exact⟨_,rfl,0,rfl,by omega,hv,by intro x hx;simp at hx⟩
  ·obtain⟨j,rfl⟩:∃ j,k=j+1:=⟨k-1,by omega⟩;have c1:chk .i64 (((j+1:Nat):Int)-1)=some (j:Int):=by rw[show ((j+1:Nat):Int)-1=(j:Int) by omega,Zua (by omega)]
   rw[dTq (by omega),Ze,c1,Za,Zu (by omega),Za,Za];by_cases hz:a[j]'(by omega)=0
   ·left;rw[show (a[j]'(by omega)==0)=true by simp[hz],Ze,Za];refine⟨_,rfl,⟨j,rfl,by omega,?_⟩,by simp⟩;rw[← hv,Z5a (by omega),hz];simp
   ·right;rw[show (a[j]'(by omega)==0)=false by simp[hz],Zd];refine⟨_,rfl,j+1,rfl,hk,hv,?_⟩;intro x hx;rw[List.getLast?_eq_getElem?,List.length_take,Nat.min_eq_left (by omega),Nat.add_sub_cancel,List.getElem?_take_of_lt (by omega),List.getElem?_eq_getElem (by omega)]at hx
    cases hx;exact hz
 ·rintro r ⟨k,rfl,hk,hv,hc⟩;rw[Za];have e:ZNa a 0 (k:Int)=some (a.take k):=by
   unfold ZNa;rw[iP ⟨by omega,by omega,by omega⟩];simp
  rw[e,Za,← hv,ZSf (by decide) (ha.take k) hc]
theorem ZIA {n m:Nat} (h1:(Zc 4294967296 n).length≤9223372036854775807) (h2:(Zc 4294967296 m).length≤9223372036854775807):ZTu n m=Zod n m:=by
 unfold ZTu Zod Zma;by_cases hlt:(Zc 4294967296 n).length<(Zc 4294967296 m).length
 ·have:=ZGk (by decide) hlt;rw[dTq (by omega),Ze,iP this]
 ·by_cases hgt:(Zc 4294967296 m).length<(Zc 4294967296 n).length
  ·have:=ZGk (by decide) hgt;rw[dFq (by omega),Zd,dTq (by omega),Ze,iN (by omega),iP this]
  ·have hl:(Zc 4294967296 n).length=(Zc 4294967296 m).length:=by omega
   rw[dFq (by omega),Zd,dFq (by omega),Zd,Zi (by omega) (by omega),Za];have hd:=Zya (B:=4294967296) (by decide) n;have hd':=Zya (B:=4294967296) (by decide) m;have hvn:=Zca (B:=4294967296) (by decide) n;have hvm:=Zca (B:=4294967296) (by decide) m;generalize Zc 4294967296 n=a at *;generalize Zc 4294967296 m=b at *;rw[Z5,Zkk (r:=if n<m then .inl (-1) else if m<n then .inl 1 else .inr ()) (λs:Int=>-1≤s∧s<a.length∧a.drop (s+1).toNat=b.drop (s+1).toNat) (λs=>(s+1).toNat) ⟨by omega,by omega,?_⟩ (ZX (by omega)) ?_]
   ·rw[Za];by_cases hlt:n<m
    ·simp only[iP hlt];rfl
    ·by_cases hgt:m<n
     ·simp only[iN hlt,iP hgt];rfl
     ·simp only[iN hlt,iN hgt];rfl
   ·rw[List.drop_eq_nil_of_le (by omega),List.drop_eq_nil_of_le (by omega)]
   ·rintro s ⟨h3,h4,h5⟩;by_cases hs:0≤s
    ·obtain⟨i,rfl⟩:=oZ hs;have hi:i<a.length:=by omega
     have hi':i<b.length:=by omega
     have e1:decide ((0:Int)≤(i:Int))=true:=dTq hs;simp only[e1,Ze,Zu hi,Zu hi',Za];have ei:((i:Int)+1).toNat=i+1:=by omega
     rw[ei]at h5;by_cases hlt:a[i]<b[i]
     ·right;have:=ZTl hd hd' hl hi h5 hlt;rw[dTq hlt,Ze,iP (by omega)]
     ·by_cases hgt:b[i]<a[i]
      ·right;have:=ZTl hd' hd hl.symm hi' h5.symm hgt;rw[dFq hlt,Zd,dTq hgt,Ze,iN (by omega),iP (by omega)]
      ·left;rw[dFq hlt,Zd,dFq hgt,Zd,Zi (by omega) (by omega),Za];refine⟨_,rfl,⟨by omega,by omega,?_⟩,by simp⟩;have e2:((i:Int)-1+1).toNat=i:=by omega
       rw[e2,List.drop_eq_getElem_cons hi,List.drop_eq_getElem_cons hi',h5];congr 1;omega
    ·right;have:s = -1:=by omega
     subst this;simp at h5;have:n=m:=by rw[← hvn,← hvm,h5]
     subst this;simp[ifb]
theorem ZOy {B n k:Nat} (hB:2≤B) (h0:n≠0) (hk:(Zc B n).length=k+1):(Zc B n)[k]? = some ((n / B^k:Nat):Int):=by
 induction k generalizing n with
 | zero =>
  rw[Zqc hB h0]at hk ⊢;have h2:n / B=0:=by
   rw[List.length_cons]at hk;exact (ZFh hB).1 (List.eq_nil_of_length_eq_zero (by omega))
  have:=Nat.mod_add_div n B;rw[h2]at this;simp at this;simp[this]
 | succ k ih =>
  rw[Zqc hB h0]at hk ⊢;rw[List.length_cons]at hk;have h2:n / B≠0:=by
   intro h2;rw[h2,Z7]at hk;simp at hk
  rw[List.getElem?_cons_succ,ih h2 (by omega),Nat.div_div_eq_div_mul,Nat.pow_succ,Nat.mul_comm B]
theorem shr_u32 {x k:Nat} (hk:k≤32):ZN .u32 (x:Int) (k:Int)=some ((x / 2^k:Nat):Int):=by
 unfold ZN;rw[iN (by omega)];have:min ((k:Int).toNat) IntKind.u32.bits=k:=by simp[IntKind.bits];omega
 rw[this,Int.fdiv_eq_ediv_of_nonneg _ (Int.pow_nonneg (by omega))];simp
theorem Z7k {n:Nat} (h:n≠0):bl n=bl (n / 2)+1:=by
 by_cases h1:n=1
 ·subst h1;decide
 ·have:=ZGi (n:=n) (k:=1) (by omega)
  simpa using this
theorem ZZv {n:Nat} (hn:ZU n):ZUm n=some (bl n:Int):=by
 unfold ZUm;by_cases h0:n=0
 ·subst h0;rw[Z7];rfl
 ·obtain⟨k,hk⟩:∃ k,(Zc 4294967296 n).length=k+1:=by
   have:=List.length_pos_iff.2 ((Zfc (n:=n) (B:=4294967296) (by decide)).2 h0);exact⟨(Zc 4294967296 n).length-1,by omega⟩
  have htop:=ZOy (by decide) h0 hk;unfold ZU at hn;rw[hk]at hn ⊢;have e0:((((k+1:Nat):Int))==(0:Int))=false:=by simp;omega
  have c1:chk .i64 (((k+1:Nat):Int)-1)=some (k:Int):=by rw[show ((k+1:Nat):Int)-1=(k:Int) by omega,Zua (by omega)]
  have c2:chk .i64 (32*(k:Int))=some ((32*k:Nat):Int):=by rw[show (32*(k:Int))=((32*k:Nat):Int) by omega,Zua (by omega)]
  have c3:idx (Zc 4294967296 n) (k:Int)=some ((n / 4294967296^k:Nat):Int):=by
   simp only[idx,tN];rw[iP (by omega)];exact htop
  rw[e0,Zd,c1,Za,c2,Za,Za,c3,Za,Z5];have hB:n=n:=rfl;have hge:4294967296^k≤n:=by
   have:=Zbj (B:=4294967296) (by decide) h0;rw[hk]at this;simpa using this
  have hlt:n / 4294967296^k<4294967296:=by
   have:=Zrc (B:=4294967296) (by decide) n;rw[hk,Nat.pow_succ]at this;exact Nat.div_lt_of_lt_mul this
  have h2:(4294967296:Nat)^k=2^(32*k):=by rw[Nat.pow_mul]
  have hbl:bl n=bl (n / 4294967296^k)+32*k:=by rw[h2];exact ZGi (by rw[← h2];exact hge)
  rw[hbl];generalize n / 4294967296^k=t at *;refine Zta (λs:Int×Int=>∃ c t':Nat,s.1=(c:Int)∧s.2=(t':Int)∧t'<4294967296∧bl t'+c=bl t+32*k∧c≤4398046511104+bl t-bl t'∧bl t'≤bl t) (λs=>s.2.toNat)
   (λr:Int=>r=((bl t+32*k:Nat):Int)) ⟨32*k,t,rfl,rfl,hlt,by omega,by omega,by omega⟩ (ZX (by simp;omega)) ?_ ?_
  ·rintro⟨c,t'⟩ ⟨c,t',rfl,rfl,h3,h4,h5,h6⟩;simp only;by_cases ht:t'=0
   ·right;subst ht;rw[show decide ((0:Int)<((0:Nat):Int))=false from rfl,Zd];exact⟨_,rfl,by rw[← h4];simp[bl]⟩
   ·left;have hb:=Z7k ht;have hbt:bl t≤32:=ZCb (by omega);have c4:chk .i64 ((c:Int)+1)=some ((c+1:Nat):Int):=by rw[show (c:Int)+1=((c+1:Nat):Int) by omega,Zua (by omega)]
    have c5:=shr_u32 (x:=t') (k:=1) (by omega);rw[dTq (by omega),Ze,c4,Za];have c6:ZN .u32 (t':Int) 1=some ((t' / 2:Nat):Int):=by simpa using c5
    rw[c6,Za];exact⟨_,rfl,⟨c+1,t' / 2,rfl,rfl,by omega,by omega,by omega,by omega⟩,by simp;omega⟩
  ·rintro r rfl;rw[Za]
theorem ZRz {n:Nat} {z:Int} (h:Zoh n=some z):ZUm n=some z:=by
 unfold Zoh at h;split at h
 ·rename_i hh;rw[ZZv hh,h]
 ·cases h
theorem Zpo:Z0b [(1:Int)]=some 1:=by
 have:=ZCu 1
 rwa [Zhl (by omega) (by decide)]at this
theorem ZAj {n:Nat}:(((Zc 4294967296 n).length:Int)==0)=decide (n=0):=by
 by_cases h:n=0
 ·subst h;rw[Z7];rfl
 ·have:=List.length_pos_iff.2 ((Zfc (n:=n) (B:=4294967296) (by decide)).2 h);rw[dFq h];exact beq_false_of_ne (by omega)
theorem Z7o {n:Nat}:decide ((0:Int)<((Zc 4294967296 n).length:Int))=decide (n≠0):=by
 by_cases h:n=0
 ·subst h;rw[Z7];rfl
 ·have:=List.length_pos_iff.2 ((Zfc (n:=n) (B:=4294967296) (by decide)).2 h);rw[dTq h,dTq (by omega)]
theorem ZVx {x:Rat} {z:Nat} (h:ZSb x=some z):Zat x=some z:=by
 unfold ZSb at h;unfold Zat;rw[ZAj,dFq x.den_nz,Zd,h]
theorem ZPz {x:Rat} {z:Bool} (h:ZHc x=some z):ZZt x=some z:=by
 unfold ZHc at h;unfold ZZt;rw[ZAj,← h];congr 1;apply decide_eq_decide.2;rw[← Rat.num_eq_zero];omega
noncomputable def Zdv (n:Int):Option (Nat) :=
 bnd (ZN .u64 n (32:Int)) λa =>
 bnd (Zlb ([IntKind.u32.wrap n,IntKind.u32.wrap a])) λb =>
 some b
noncomputable def Zcn (a:Nat) (b:Nat):Option (Nat) :=
 bnd (bnd (Zh (λs:(List Int)×Int×Int=>match s with
| (d,h,c) =>
 (ifb (decide (c<(((Zc 4294967296 a)).length:Int)))
 (bnd (idx ((Zc 4294967296 a)) c) λi =>
 bnd (chk .i64 ((IntKind.i64.wrap i)-h)) λf =>
 bnd (ifb (decide (c<(((Zc 4294967296 b)).length:Int)))
 (bnd (idx ((Zc 4294967296 b)) c) λj =>
 bnd (chk .i64 (f-(IntKind.i64.wrap j))) λk =>
 some k)
 (some f))
 (λ(e:Int) =>
 (bnd (ifb (decide (e<(0:Int)))
 (bnd (chk .i64 (e+(4294967296:Int))) λl =>
 some (((1:Int),l)))
 (some (((0:Int),e))))
 (λ(p:Int×Int)=>match p with
| (m,g) =>
 (bnd (Zy 4 (d++[IntKind.u32.wrap g])) λt =>
 bnd (chk .i64 (c+(1:Int))) λn =>
 some (.inl (((d++[IntKind.u32.wrap g]),m,n))))))))
 (some (.inr d)))) Zj ((([]:(List Int)),(0:Int),(0:Int))))
 (λ(o:(List Int)) =>
 (some o)))
 (λ(q:(List Int)) =>
 (bnd (Zlb q) λr =>
 some r))
noncomputable def ZZn (a:Nat) (b:Nat):Option (Nat) :=
 bnd (chk .i64 (((((Zc 4294967296 a)).length:Int))+((((Zc 4294967296 b)).length:Int)))) λf =>
 bnd (mk 4 f f) λA =>
 bnd (bnd (Zh (λs:(List Int)×Int=>match s with
| (h,c) =>
 (ifb (decide (c<(((Zc 4294967296 a)).length:Int)))
 (bnd (bnd (Zh (λs:(List Int)×Int×Int=>match s with
| (e,g,d) =>
 (ifb (decide (d<(((Zc 4294967296 b)).length:Int)))
 (bnd (idx ((Zc 4294967296 a)) c) λi =>
 bnd (idx ((Zc 4294967296 b)) d) λj =>
 bnd (chk .i64 (c+d)) λo =>
 bnd (idx e o) λk =>
 bnd (chk .i64 (c+d)) λl =>
 bnd (idx e l) λB =>
 bnd (ZN .u64 (IntKind.u64.wrap ((IntKind.u64.wrap (g+(IntKind.u64.wrap ((IntKind.u64.wrap i)*(IntKind.u64.wrap j)))))+(IntKind.u64.wrap k))) (32:Int)) λq =>
 bnd (chk .i64 (d+(1:Int))) λr =>
 some (.inl (((e.set (l).toNat (IntKind.u32.wrap (IntKind.u64.wrap ((IntKind.u64.wrap (g+(IntKind.u64.wrap ((IntKind.u64.wrap i)*(IntKind.u64.wrap j)))))+(IntKind.u64.wrap k))))),q,r))))
 (some (.inr ((e,g)))))) Zj ((h,(0:Int),(0:Int))))
 (λ(p:(List Int)×Int)=>match p with
| (t,u) =>
 (some ((t,u)))))
 (λ(p:(List Int)×Int)=>match p with
| (m,v) =>
 (bnd (chk .i64 (c+((((Zc 4294967296 b)).length:Int)))) λn =>
 bnd (idx m n) λC =>
 bnd (chk .i64 (c+(1:Int))) λw =>
 some (.inl (((m.set (n).toNat (IntKind.u32.wrap v)),w))))))
 (some (.inr h)))) Zj (((List.replicate (f).toNat (0:Int)),(0:Int))))
 (λ(x:(List Int)) =>
 (some x)))
 (λ(y:(List Int)) =>
 (bnd (Zlb y) λz =>
 some z))
noncomputable def ZMm (a:Nat) (n:Int):Option (Nat) :=
 ifb (((((Zc 4294967296 a)).length:Int))==(0:Int))
 (some ((0:Nat)))
 (bnd (quo .i64 n (32:Int)) λc =>
 bnd (mk 4 c c) λr =>
 bnd (bnd (Zh (λs:(List Int)×Int×Int=>match s with
| (d,b,e) =>
 (ifb (decide (e<(((Zc 4294967296 a)).length:Int)))
 (bnd (idx ((Zc 4294967296 a)) e) λi =>
 bnd (rem .i64 n (32:Int)) λj =>
 bnd (ZVa .u64 (IntKind.u64.wrap i) (IntKind.u64.wrap j)) λf =>
 bnd (Zy 4 (d++[IntKind.u32.wrap (orI .u64 f b)])) λt =>
 bnd (ZN .u64 (orI .u64 f b) (32:Int)) λk =>
 bnd (chk .i64 (e+(1:Int))) λl =>
 some (.inl (((d++[IntKind.u32.wrap (orI .u64 f b)]),k,l))))
 (some (.inr ((d,b)))))) Zj (((List.replicate (c).toNat (0:Int)),(0:Int),(0:Int))))
 (λ(p:(List Int)×Int)=>match p with
| (m,o) =>
 (some ((m,o)))))
 (λ(p:(List Int)×Int)=>match p with
| (g,h) =>
 (bnd (Zy 4 (g++[IntKind.u32.wrap h])) λu =>
 bnd (Zlb ((g++[IntKind.u32.wrap h]))) λq =>
 some q)))
noncomputable def ZUo (a:Nat) (n:Int):Option (Nat) :=
 bnd (quo .i64 n (32:Int)) λf =>
 bnd (bnd (Zh (λs:(List Int)×Int=>match s with
| (c,b) =>
 (ifb (decide (b<(((Zc 4294967296 a)).length:Int)))
 (bnd (idx ((Zc 4294967296 a)) b) λd =>
 bnd (chk .i64 (b+(1:Int))) λg =>
 bnd (ifb (decide (g<(((Zc 4294967296 a)).length:Int)))
 (bnd (chk .i64 (b+(1:Int))) λh =>
 bnd (idx ((Zc 4294967296 a)) h) λi =>
 bnd (ZVa .u64 (IntKind.u64.wrap i) (32:Int)) λj =>
 some (orI .u64 (IntKind.u64.wrap d) j))
 (some (IntKind.u64.wrap d)))
 (λ(k:Int) =>
 (bnd (rem .i64 n (32:Int)) λl =>
 bnd (ZN .u64 k (IntKind.u64.wrap l)) λe =>
 bnd (Zy 4 (c++[IntKind.u32.wrap e])) λr =>
 bnd (chk .i64 (b+(1:Int))) λm =>
 some (.inl (((c++[IntKind.u32.wrap e]),m))))))
 (some (.inr c)))) Zj ((([]:(List Int)),f)))
 (λ(o:(List Int)) =>
 (some o)))
 (λ(p:(List Int)) =>
 (bnd (Zlb p) λq =>
 some q))
noncomputable def ZDm (a:Nat) (b:Int):Option (Nat×Int) :=
 bnd (mk 4 ((((Zc 4294967296 a)).length:Int)) ((((Zc 4294967296 a)).length:Int))) λr =>
 bnd (chk .i64 (((((Zc 4294967296 a)).length:Int))-(1:Int))) λh =>
 bnd (bnd (Zh (λs:(List Int)×Int×Int=>match s with
| (d,e,c) =>
 (ifb (decide ((0:Int)≤c))
 (bnd (ZVa .u64 e (32:Int)) λf =>
 bnd (idx ((Zc 4294967296 a)) c) λg =>
 bnd (quo .u64 (orI .u64 f (IntKind.u64.wrap g)) (IntKind.u64.wrap b)) λi =>
 bnd (idx d c) λt =>
 bnd (rem .u64 (orI .u64 f (IntKind.u64.wrap g)) (IntKind.u64.wrap b)) λj =>
 bnd (chk .i64 (c-(1:Int))) λk =>
 some (.inl (((d.set (c).toNat (IntKind.u32.wrap i)),j,k))))
 (some (.inr ((d,e)))))) Zj (((List.replicate ((((Zc 4294967296 a)).length:Int)).toNat (0:Int)),(0:Int),h)))
 (λ(p:(List Int)×Int)=>match p with
| (l,m) =>
 (some ((l,m)))))
 (λ(p:(List Int)×Int)=>match p with
| (n,o) =>
 (bnd (Zlb n) λq =>
 some ((q,IntKind.u32.wrap o))))
theorem wrap_u32 (z:Int):IntKind.u32.wrap z=z%4294967296:=by
 simp[IntKind.wrap,IntKind.signed,IntKind.bits]
theorem Z3a {n:Nat} (h:n<18446744073709551616):IntKind.u64.wrap (n:Int)=(n:Int):=by rw[wrap_u64];omega
theorem ZUt {n:Nat} (h:n≤9223372036854775807):IntKind.i64.wrap (n:Int)=(n:Int):=Zhe (ZXa.2 ⟨by omega,by omega⟩)
theorem Zex {n:Int} {z:Nat} (hn:inR .u64 n) (h:Zmd n=some z):Zdv n=some z:=by
 unfold Zmd at h;have hn:=Zcd.1 hn;obtain⟨N,rfl⟩:=oZ hn.1;unfold Zdv Zlb;have c1:ZN .u64 (N:Int) 32=some ((N / 4294967296:Nat):Int):=by
  have:=Zud (x:=N) (k:=32) (by omega);exact this
 rw[c1,Za,Za,← h,wrap_u32,wrap_u32];simp only[val];congr 1;omega
theorem Z6 {α:Type} {b:Nat} {l:List α} (h:l.length*b≤140737488355328):Zy b l=some ():=by unfold Zy;rw[iP h]
theorem Zuh {B:Nat} (l:List Int) (x:Int):val B (l++[x])=val B l+B^l.length*x.toNat:=by rw[ZMc];simp[val]
theorem Dig.snoc {B:Nat} {l:List Int} (h:Dig B l) {x:Int} (hx:0≤x∧x<B):Dig B (l++[x]):=Dig.append.2 ⟨h,Dig.cons.2 ⟨hx,Dig.nil⟩⟩
theorem ZOd {B:Nat} {l:List Int} (h:Dig B l) {i:Nat} (hi:i<l.length):∃ x:Nat,l[i]=(x:Int)∧x<B:=by
 obtain⟨X,hX⟩:=oZ (h.get hi).1;have:=(h.get hi).2;exact⟨X,hX,by omega⟩
theorem ZDo {σ ρ τ γ:Type} {body:σ→Option (σ ⊕ ρ)} {f:ρ→Option (τ ⊕ γ)} {n:Nat} {s:σ} {J:τ→Prop} (I:σ→Prop) (μ:σ→Nat) (Q:ρ→Prop) (hs:I s) (hn:μ s<n)
  (h:∀ s,I s→(∃ s',body s=some (.inl s')∧I s'∧μ s'<μ s) ∨ ∃ r,body s=some (.inr r)∧Q r) (hf:∀ r,Q r→∃ t,f r=some (.inl t)∧J t):∃ t,bnd (Zh body n s) f=some (.inl t)∧J t:=by
 obtain⟨r,e,hq⟩:=Zbk I μ Q h n s hs hn;rw[e];exact hf r hq
theorem rdif_eq {n m:Nat} (hn:ZU n) (hm:m≤n):Zcn n m=some (n-m):=by
 unfold Zcn;have hl:=ZYc (B:=4294967296) (by decide) hm;have hdx:=Zya (B:=4294967296) (by decide) n;have hdy:=Zya (B:=4294967296) (by decide) m;have hvx:=Zca (B:=4294967296) (by decide) n;have hvy:=Zca (B:=4294967296) (by decide) m;unfold ZU at hn;generalize Zc 4294967296 n=a at *;generalize Zc 4294967296 m=b at *;rw[Z5];refine Zta (λs:(List Int)×Int×Int=>∃ k c:Nat,s.2.2=(k:Int)∧s.2.1=(c:Int)∧k≤a.length∧s.1.length=k∧Dig 4294967296 s.1∧c≤1 ∧
  val 4294967296 s.1+val 4294967296 (b.take k)=val 4294967296 (a.take k)+4294967296^k*c) (λs=>a.length-s.2.2.toNat)
  (λr:List Int=>val 4294967296 r=n-m)
  ⟨0,0,rfl,rfl,by omega,rfl,Dig.nil,by omega,by simp[val]⟩ (ZX (by simp;omega)) ?_ ?_
 ·rintro⟨out,c,i⟩ ⟨k,c,rfl,rfl,hk,ho,hd,hc,hv⟩;simp only at ho hd hc hv ⊢;by_cases hlt:k<a.length
  ·left;obtain⟨x,hx,hx'⟩:=ZOd hdx hlt;rw[dTq (by omega),Ze,Zu hlt,Za,hx,ZUt (by omega),Zi (by omega) (by omega),Za];obtain⟨y,hy',hvb,hf⟩:∃ y:Nat,y<4294967296∧val 4294967296 (b.take (k+1))=val 4294967296 (b.take k)+4294967296^k*y ∧
     ifb (decide ((k:Int)<(b.length:Int))) (bnd (idx b (k:Int)) λy178=>bnd (chk .i64 ((x:Int)-(c:Int)-(IntKind.i64.wrap y178))) λy186=>some y186) (some ((x:Int)-(c:Int)))=some ((x:Int)-(c:Int)-(y:Int)):=by
    by_cases hb:k<b.length
    ·obtain⟨y,hy,hy'⟩:=ZOd hdy hb;refine⟨y,hy',?_,?_⟩
     ·rw[Z5a hb,hy];rfl
     ·rw[dTq (by omega),Ze,Zu hb,Za,hy,ZUt (by omega),Zi (by omega) (by omega),Za]
    ·refine⟨0,by omega,?_,?_⟩
     ·rw[List.take_of_length_le (by omega),List.take_of_length_le (by omega)];simp
     ·rw[dFq (by omega),Zd];simp
   rw[hf,Za];obtain⟨d,c',hd',hc',e,hg⟩:∃ d c':Nat,d<4294967296∧c'≤1∧d+y+c=x+4294967296*c' ∧
     ifb (decide ((x:Int)-(c:Int)-(y:Int)<0)) (bnd (chk .i64 ((x:Int)-(c:Int)-(y:Int)+4294967296)) λy175=>some ((1:Int),y175)) (some ((0:Int),(x:Int)-(c:Int)-(y:Int)))=some ((c':Int),(d:Int)):=by
    by_cases h:(x:Int)-c-y<0
    ·refine⟨x+4294967296-c-y,1,by omega,by omega,by omega,?_⟩;rw[dTq h,Ze,Zi (by omega) (by omega),Za];congr 2;omega
    ·refine⟨x-c-y,0,by omega,by omega,by omega,?_⟩;rw[dFq h,Zd];congr 2;omega
   rw[hg,Za];simp only;have ew:IntKind.u32.wrap (d:Int)=(d:Int):=by rw[wrap_u32];omega
   rw[ew,Z6 (by simp;omega),Za,Zi (by omega) (by omega),Za];refine⟨_,rfl,⟨k+1,c',by simp,rfl,by omega,by simp[ho],hd.snoc (by omega),hc',?_⟩,by simp;omega⟩;simp only[Zuh,ho,tN];rw[Z5a hlt,hx,hvb,Nat.pow_succ];simp only[tN];exact Zxn hv e
  ·right;rw[dFq (by omega),Zd];refine⟨_,rfl,?_⟩;have hk':k=a.length:=by omega
   subst hk';rw[List.take_length,List.take_of_length_le hl,hvx,hvy]at hv;have hlt2:=Zjd hd;rw[ho]at hlt2;have:c=0:=by
    have h1:c=0∨c=1:=by omega
    rcases h1 with rfl | rfl
    ·rfl
    ·omega
   subst this;omega
 ·rintro out hv;rw[Za];unfold Zlb;rw[hv,Za]
theorem Zqx {n m z:Nat} (h:Zcc n m=some z):Zcn n m=some z:=by
 unfold Zcc at h;split at h
 ·rename_i hh;rw[rdif_eq hh.1 hh.2,h]
 ·cases h
theorem ZHz {n m:Nat} (hn:ZU n) (hm:ZU m):ZZn n m=some (n*m):=by
 unfold ZZn;have hdx:=Zya (B:=4294967296) (by decide) n;have hdy:=Zya (B:=4294967296) (by decide) m;have hvx:=Zca (B:=4294967296) (by decide) n;have hvy:=Zca (B:=4294967296) (by decide) m;unfold ZU at hn hm;generalize Zc 4294967296 n=a at *;generalize Zc 4294967296 m=b at *;rw[Zi (by omega) (by omega),Za];obtain⟨u,hu⟩:=ZSc (b:=4) (l:=(a.length:Int)+b.length) (c:=(a.length:Int)+b.length) (by omega) (by omega) (by omega) (by omega);rw[hu,Za,Z5];have e0:((a.length:Int)+b.length).toNat=a.length+b.length:=by omega
 rw[e0];refine Zta (λs:(List Int)×Int=>∃ k:Nat,s.2=(k:Int)∧k≤a.length∧s.1.length=a.length+b.length∧Dig 4294967296 s.1 ∧
  val 4294967296 s.1=val 4294967296 (a.take k)*val 4294967296 b∧∀ j (h:j<s.1.length),k+b.length≤j→s.1[j]=0) (λs=>a.length-s.2.toNat)
  (λr:List Int=>val 4294967296 r=n*m) ⟨0,rfl,by omega,by simp,Dig.replicate _ (by omega),by simp[val,ZQl],by simp⟩ (ZX (by simp;omega)) ?_ ?_
 ·rintro⟨out,i⟩ ⟨k,rfl,hk,ho,hd,hv,hz⟩;simp only at ho hd hv hz ⊢;by_cases hlt:k<a.length
  ·left;obtain⟨X,hX,hX'⟩:=ZOd hdx hlt;rw[dTq (by omega),Ze,Z5];refine ZDo (s:=(out,(0:Int),(0:Int))) (λs:(List Int)×Int×Int=>∃ q c:Nat,s.2.2=(q:Int)∧s.2.1=(c:Int)∧q≤b.length∧s.1.length=a.length+b.length∧Dig 4294967296 s.1∧c<4294967296 ∧
     val 4294967296 s.1+4294967296^(k+q)*c=val 4294967296 (a.take k)*val 4294967296 b+4294967296^k*X*val 4294967296 (b.take q)∧∀ j (h:j<s.1.length),k+b.length≤j→s.1[j]=0)
    (λs=>b.length-s.2.2.toNat)
    (λr:List Int×Int=>∃ c:Nat,r.2=(c:Int)∧r.1.length=a.length+b.length∧Dig 4294967296 r.1∧c<4294967296 ∧
     val 4294967296 r.1+4294967296^(k+b.length)*c=val 4294967296 (a.take k)*val 4294967296 b+4294967296^k*X*val 4294967296 b∧∀ j (h:j<r.1.length),k+b.length≤j→r.1[j]=0)
    ⟨0,0,rfl,rfl,by omega,ho,hd,by omega,(show val 4294967296 out+4294967296^(k+0)*0=val 4294967296 (a.take k)*val 4294967296 b+4294967296^k*X*val 4294967296 (b.take 0) by simp[val,hv]),hz⟩ (ZX (by simp;omega)) ?_ ?_
   ·rintro⟨o,c,i⟩ ⟨q,c,rfl,rfl,hq,ho2,hd2,hc,hv2,hz2⟩;simp only at ho2 hd2 hc hv2 hz2 ⊢;by_cases hqlt:q<b.length
    ·left;obtain⟨Y,hY,hY'⟩:=ZOd hdy hqlt;have hkq:k+q<o.length:=by omega
     obtain⟨T,hT,hT'⟩:=ZOd hd2 hkq;have eck:chk .i64 ((k:Int)+(q:Int))=some ((k+q:Nat):Int):=by rw[← Int.natCast_add,Zua (by omega)]
     have hxy:X*Y≤18446744065119617025:=Nat.mul_le_mul (show X≤4294967295 by omega) (show Y≤4294967295 by omega);have e1:IntKind.u64.wrap ((X:Int)*(Y:Int))=((X*Y:Nat):Int):=by rw[← Int.natCast_mul,Z3a (by omega)]
     have e2:IntKind.u64.wrap ((c:Int)+((X*Y:Nat):Int))=((c+X*Y:Nat):Int):=by rw[← Int.natCast_add,Z3a (by omega)]
     have e3:IntKind.u64.wrap (((c+X*Y:Nat):Int)+(T:Int))=((c+X*Y+T:Nat):Int):=by rw[← Int.natCast_add,Z3a (by omega)]
     have e4:ZN .u64 ((c+X*Y+T:Nat):Int) 32=some (((c+X*Y+T) / 4294967296:Nat):Int):=Zud (x:=c+X*Y+T) (k:=32) (by omega);have e5:IntKind.u32.wrap ((c+X*Y+T:Nat):Int)=(((c+X*Y+T)%4294967296:Nat):Int):=by rw[wrap_u32];omega
     rw[dTq (by omega),Ze,Zu hlt,Za,Zu hqlt,Za,eck,Za,Zu hkq,Za,Za,Zu hkq,Za,hX,hY,hT,Z3a (by omega),Z3a (by omega),Z3a (by omega),e1,e2,e3,e4,Za,Zi (by omega) (by omega),Za,e5];refine⟨_,rfl,⟨q+1,(c+X*Y+T) / 4294967296,by simp,rfl,by omega,by simp[ho2],hd2.set _ (by omega),by omega,?_,?_⟩,by simp;omega⟩
     ·simp only[tN];have hs:=ZVg (B:=4294967296) (l:=o) (i:=k+q) (x:=(((c+X*Y+T)%4294967296:Nat):Int)) hkq;rw[hT]at hs;simp only[tN]at hs;rw[Z5a hqlt,hY];simp only[tN];rw[show k+(q+1)=k+q+1 by omega,Nat.pow_succ];exact Z4q hv2 hs (by omega) (Nat.pow_add _ _ _)
     ·intro j hj hj2;simp only[tN]at hj ⊢;rw[List.getElem_set_ne (by omega)];exact hz2 j (by simpa using hj) hj2
    ·right;rw[dFq (by omega),Zd];have hq':q=b.length:=by omega
     subst hq';rw[List.take_length]at hv2;exact⟨_,rfl,c,rfl,ho2,hd2,hc,hv2,hz2⟩
   ·rintro⟨o,c⟩ ⟨c,rfl,ho2,hd2,hc,hv2,hz2⟩;simp only at ho2 hd2 hc hv2 hz2 ⊢;rw[Za];simp only;have eck:chk .i64 ((k:Int)+(b.length:Int))=some ((k+b.length:Nat):Int):=by rw[← Int.natCast_add,Zua (by omega)]
    have hkb:k+b.length<o.length:=by omega
    have ew:IntKind.u32.wrap (c:Int)=(c:Int):=by rw[wrap_u32];omega
    rw[eck,Za,Zu hkb,Za,Zi (by omega) (by omega),Za,ew];refine⟨_,rfl,⟨k+1,by simp,by omega,by simp[ho2],hd2.set _ (by omega),?_,?_⟩,by simp;omega⟩
    ·have hs:=ZVg (B:=4294967296) (l:=o) (i:=k+b.length) (x:=(c:Int)) hkb;rw[hz2 _ hkb (by omega)]at hs;simp only[tN]at hs ⊢;rw[Z5a hlt,hX];simp only[tN];simp at hs;rw[hs,hv2];grind
    ·intro j hj hj2;simp only[tN]at hj ⊢;rw[List.getElem_set_ne (by omega)];exact hz2 j (by simpa using hj) (by omega)
  ·right;rw[dFq (by omega),Zd];have hk':k=a.length:=by omega
   subst hk';rw[List.take_length,hvx,hvy]at hv;exact⟨_,rfl,hv⟩
 ·rintro out hv;rw[Za];unfold Zlb;rw[hv,Za]
theorem ZQx {n m z:Nat} (h:Zoa n m=some z):ZZn n m=some z:=by
 unfold Zoa at h;split at h
 ·rename_i hh;rw[ZHz hh.1 hh.2,h]
 ·cases h
noncomputable def Zem (a:Nat) (b:Nat):Option (Nat) :=
 bnd (bnd (Zh (λs:(List Int)×Int×Int=>match s with
| (d,e,c) =>
 (bnd (ifb (decide (c<(((Zc 4294967296 a)).length:Int)))
 (some true)
 (some (decide (c<(((Zc 4294967296 b)).length:Int)))))
 (λ(j:Bool) =>
 (ifb (j)
 (bnd (ifb (decide (c<(((Zc 4294967296 a)).length:Int)))
 (bnd (idx ((Zc 4294967296 a)) c) λk =>
 some (IntKind.u64.wrap (e+(IntKind.u64.wrap k))))
 (some e))
 (λ(g:Int) =>
 (bnd (ifb (decide (c<(((Zc 4294967296 b)).length:Int)))
 (bnd (idx ((Zc 4294967296 b)) c) λl =>
 some (IntKind.u64.wrap (g+(IntKind.u64.wrap l))))
 (some g))
 (λ(f:Int) =>
 (bnd (Zy 4 (d++[IntKind.u32.wrap f])) λt =>
 bnd (ZN .u64 f (32:Int)) λm =>
 bnd (chk .i64 (c+(1:Int))) λn =>
 some (.inl (((d++[IntKind.u32.wrap f]),m,n))))))))
 (some (.inr ((d,e)))))))) Zj ((([]:(List Int)),(0:Int),(0:Int))))
 (λ(p:(List Int)×Int)=>match p with
| (o,q) =>
 (some ((o,q)))))
 (λ(p:(List Int)×Int)=>match p with
| (h,i) =>
 (bnd (Zy 4 (h++[IntKind.u32.wrap i])) λu =>
 bnd (Zlb ((h++[IntKind.u32.wrap i]))) λr =>
 some r))
end Go.Eng
