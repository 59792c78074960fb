/- Lemmas towards the statement: the engine of the walks, the functions' models, laws and walks, part 2. Conditions: as each states. -/
import Derived.LoopN
import Derived.Test.YtlobnbckbknhgaaGreatLoA
set_option linter.all false
set_option maxRecDepth 100000
namespace Go.Eng
open Go.RowKit
structure Con where
 args:List T
 res:List T
 F:Zw args→Option (Zw res)
structure ConO where
 args:List T
 ty:TypeId
 t:T
 F:Zw args→Option (List t.den)
structure ConM where
 args:List T
 ty:TypeId
 ty2:TypeId
 t:T
 F:Zw args→Option (List (List t.den))
structure ConI where
 ty:TypeId
 t:T
 F:List t.den→Int→t.den→Option (List t.den)
inductive CT where
 | dat (t:T)
 | own (ty:TypeId) (t:T)
 | mat (ty ty2:TypeId) (t:T)
 | nl
 | one (a:CT)
 | cons (a b:CT)
 | agg (c:CT)
 | box (ty:TypeId) (c:CT)
def CT.den:CT→Type
 | .dat t=>t.den
 | .own _ t=>List t.den
 | .mat _ _ t=>List (List t.den)
 | .nl=>Unit
 | .one a=>a.den
 | .cons a b=>a.den×b.den
 | .agg c=>c.den
 | .box _ c=>c.den
structure ConB where
 ty:TypeId
 c:CT
 args:List T
 res:List T
 F:c.den→Zw args→Option (c.den×Zw res)
structure ConD where
 ty:TypeId
 t:T
 F:List t.den→Int→Int→Option (List t.den)
structure ConP where
 args:List T
 ty:TypeId
 t:T
 res:List T
 F:Zw args→Option (List t.den×Zw res)
structure Ex where
 pows:List (FuncId×ConP):=[]
 omats:List (FuncId×ConM):=[]
 boxs:List (FuncId×ConB):=[]
 dels:List (FuncId×ConD):=[]
structure Cf where
 P:Program
 leafs:List (TypeId×Nat)
 cons:List (FuncId×Con)
 mats:List Nat
 owns:List (FuncId×ConO)
 ins:List (FuncId×ConI)
 meths:List ((TypeId×String)×FuncId)
 ex:Ex:={}
abbrev Cf.omats (C:Cf):=C.ex.omats
abbrev Cf.boxs (C:Cf):=C.ex.boxs
abbrev Cf.dels (C:Cf):=C.ex.dels
abbrev Cf.pows (C:Cf):=C.ex.pows
def lkM:List ((TypeId×String)×FuncId)→TypeId→String→Option FuncId
 | [],_,_=>none
 | p :: r,t,m=>match Nat.beq p.1.1 t,p.1.2==m with
  | true,true=>some p.2
  | _,_=>lkM r t m
def codeF (f:TypeId→Option T):TypeId→List Field→Option T
 | t,[]=>f t
 | t,h :: r=>match f t,codeF f h.type r with
  | some a,some b=>some (.pair a b)
  | _,_=>none
def Zfa (a:T):Nat→T
 | 0=>.one a
 | 1=>.one a
 | 2=>.pair a a
 | k+3=>.pair a (Zfa a (k+2))
def ZUa (a:T):(n:Nat)→(Zfa a n).den→List a.den
 | 0,_=>[]
 | 1,x=>[x]
 | 2,x=>[x.1,x.2]
 | k+3,x=>x.1 :: ZUa a (k+2) x.2
def Z2c (C:Cf):Nat→TypeId→Option T
 | 0,_=>none
 | g+1,t=>match ZP C.leafs t with
  | some i=>some (.leaf i)
  | none=>match C.P.underlying t with
   | some (.int k)=>some (.int k)
   | some .bool=>some .bool
   | some (.float k)=>some (.flt k)
   | some .string=>some .str
   | some (.slice e)=>match Z2c C g e with
    | some a=>some (.slice a)
    | none=>none
   | some (.array n e)=>match Z2c C g e,Nat.blt 0 n with
    | some a,true=>some (Zfa a n)
    | _,_=>none
   | some (.struct fs)=>match fs.toList with
    | []=>none
    | [f]=>match Z2c C g f.type with
     | some a=>some (.one a)
     | none=>none
    | f :: h :: r=>codeF (Z2c C g) f.type (h :: r)
   | _=>none
def zeroLf:(i:Nat)→Option (Zlm i)
 | 0=>some (0:Nat)
 | 1=>some (0:Nat)
 | 2=>some (0:Int)
 | 3=>some (0:Rat)
 | _=>none
def arrS (a:T):(n:Nat)→(Zfa a n).den→Nat→a.den→(Zfa a n).den
 | 0,x,_,_=>x
 | 1,x,i,y=>match i with
  | 0=>y
  | _+1=>x
 | 2,x,i,y=>match i with
  | 0=>(y,x.2)
  | 1=>(x.1,y)
  | _+2=>x
 | k+3,x,i,y=>match i with
  | 0=>(y,x.2)
  | i+1=>(x.1,arrS a (k+2) x.2 i y)
def Z0f:(t:T)→Option t.den
 | .int _=>some (0:Int)
 | .bool=>some false
 | .flt _=>some (0:Nat)
 | .str=>some ([]:List UInt8)
 | .one a=>Z0f a
 | .pair a b=>match Z0f a,Z0f b with
  | some x,some y=>some (x,y)
  | _,_=>none
 | .slice _=>some []
 | .leaf i=>zeroLf i
 | .ptr _=>none
def zSl:List Value→Option (List Value)
 | .slice none 0 0 :: r=>some r
 | _=>none
def zOK:T→List Value→Option (List Value)
 | .int k,.int k' n :: r=>match kEq k k',n with
  | true,.ofNat 0=>some r
  | _,_=>none
 | .bool,.bool false :: r=>some r
 | .flt k,.float k' 0 :: r=>match fEqK k k' with
  | true=>some r
  | false=>none
 | .str,.string s :: r=>match s.data.toList with
  | []=>some r
  | _=>none
 | .one a,cs=>zOK a cs
 | .pair a b,cs=>match zOK a cs with
  | some r=>zOK b r
  | none=>none
 | .slice _,cs=>zSl cs
 | .leaf 0,cs=>zSl cs
 | .leaf 1,cs=>zSl cs
 | .leaf 2,.bool false :: cs=>zSl cs
 | .leaf 3,.bool false :: cs=>match zSl cs with
  | some r=>zSl r
  | none=>none
 | _,_=>none
def Znf (t:T) (cs:List Value):Option (V×List Value):=match Z0f t,zOK t cs with
 | some x,some r=>some (.data t x,r)
 | _,_=>none
def ZYk (f:TypeId→List Value→Option (V×List Value)):List Field→List Value→Option (V×List Value)
 | [],cs=>some (.nl,cs)
 | h :: r,cs=>match f h.type cs with
  | some (v,cs)=>match ZYk f r cs with
   | some (c,cs)=>some (.cons v c,cs)
   | none=>none
  | none=>none
def zRep (f:List Value→Option (V×List Value)):Nat→List Value→Option (V×List Value)
 | 0,cs=>some (.nl,cs)
 | k+1,cs=>match f cs with
  | some (v,cs)=>match zRep f k cs with
   | some (c,cs)=>some (.cons v c,cs)
   | none=>none
  | none=>none
def ZBi (C:Cf):Nat→TypeId→List Value→Option (V×List Value)
 | 0,_,_=>none
 | g+1,t,cs=>match ZP C.leafs t with
  | some 4=>match cs with
   | .bool false :: .slice none 0 0 :: .slice none 0 0 :: r=>some (.agg (.cons (.data .bool false) (.cons (.data (.leaf 1) (0:Nat)) (.cons (.data (.leaf 1) (0:Nat)) .nl))),r)
   | _=>none
  | some i=>Znf (.leaf i) cs
  | none=>match C.P.underlying t with
   | some (.int k)=>Znf (.int k) cs
   | some .bool=>Znf .bool cs
   | some (.float k)=>Znf (.flt k) cs
   | some .string=>Znf .str cs
   | some (.slice _)=>match zSl cs with
    | some r=>some (.nilS,r)
    | none=>none
   | some (.struct fs)=>match ZYk (ZBi C g) fs.toList cs with
    | some (c,r)=>some (.agg c,r)
    | none=>none
   | some (.array n e)=>match zRep (ZBi C g e) n cs with
    | some (c,r)=>some (.agg c,r)
    | none=>none
   | _=>none
def Z1j (C:Cf) (t:TypeId):Option V:=match C.P.info? t with
 | some i=>match i.zero with
  | some z=>match ZBi C FU t z.cells.toList with
   | some (v,[])=>some v
   | _=>none
  | none=>none
 | none=>none
def aggD:TypeDesc→Bool
 | .struct _=>true
 | .array _ _=>true
 | _=>false
def szA (P:Program) (t:TypeId):Option (Nat×Bool):=match P.info? t,P.underlying t with
 | some i,some d=>some (i.size,aggD d)
 | _,_=>none
def fldA (P:Program) (s:TypeId) (f:Nat):Option Nat:=match P.underlying s with
 | some (.struct fs)=>match fs.toList[f]? with
  | some h=>match P.info? h.type with
   | some i=>match Nat.blt 0 i.size with
    | true=>some h.offset
    | false=>none
   | none=>none
  | none=>none
 | _=>none
def fldT (P:Program) (s:TypeId) (f:Nat):Option Field:=match P.underlying s with
 | some (.struct fs)=>fs.toList[f]?
 | _=>none
def ZEh (P:Program) (t:TypeId):Option (TypeId×Nat):=match P.underlying t with
 | some (.slice e)=>match P.info? e with
  | some i=>some (e,i.size)
  | none=>none
 | _=>none
structure EI where
 e:TypeId
 sz:Nat
 by_:Nat
 z:Value
def ZPf (P:Program) (t:TypeId):Option EI:=match P.underlying t with
 | some (.slice e)=>match P.info? e with
  | some i=>match i.zero with
   | some z=>match Nat.beq z.cells.toList.length i.size,Nat.blt 0 i.size,Nat.blt 0 i.bytes with
    | true,true,true=>some ⟨e,i.size,i.bytes,z⟩
    | _,_,_=>none
   | none=>none
  | none=>none
 | _=>none
def Zjk:Value→Option V
 | .bool b=>some (.data .bool b)
 | .int k n=>if inR k n then some (.data (.int k) n) else none
 | .float k n=>if n<18446744073709551616 then some (.data (.flt k) n) else none
 | .string s=>if s.data.toList.length≤maxLen then some (.data .str s.data.toList) else none
 | .slice none 0 0=>some .nilS
 | _=>none
def opd {ρ:Type} (x:Operand) (k:V→Ev ρ):Ev ρ:=match x with
 | .tmp t=>.rdS t k
 | .const c=>match Zjk c with
  | some v=>k v
  | none=>.fail
 | .func f=>k (.fn f .nl)
 | .global _=>.fail
def ret (o:Oper) (v:V):Ev Unit:=match o.dst with
 | some d=>.wrS d v (.done ())
 | none=>.fail
def ZMa {ρ:Type} (v:V) (k:IntKind→Int→Ev ρ):Ev ρ:=match v with
 | .data (.int κ) x=>k κ x
 | _=>.fail
def Zjm {ρ:Type} (v:V) (k:Bool→Ev ρ):Ev ρ:=match v with
 | .data .bool x=>k x
 | _=>.fail
def nthV:V→Nat→Option V
 | .cons a _,0=>some a
 | .cons _ b,n+1=>nthV b n
 | _,_=>none
def appV:V→V→V
 | .cons a b,c=>.cons a (appV b c)
 | _,c=>c
def binI {ρ:Type} (op:BinOp) (κ:IntKind) (x y:Int) (k:V→Ev ρ):Ev ρ:=match op with
 | .add=>match κ.signed with
  | true=>.bind (chk κ (x+y)) λz=>k (.data (.int κ) z)
  | false=>k (.data (.int κ) (κ.wrap (x+y)))
 | .sub=>match κ.signed with
  | true=>.bind (chk κ (x-y)) λz=>k (.data (.int κ) z)
  | false=>k (.data (.int κ) (κ.wrap (x-y)))
 | .mul=>match κ.signed with
  | true=>.bind (chk κ (x*y)) λz=>k (.data (.int κ) z)
  | false=>k (.data (.int κ) (κ.wrap (x*y)))
 | .quo=>.bind (quo κ x y) λz=>k (.data (.int κ) z)
 | .rem=>.bind (rem κ x y) λz=>k (.data (.int κ) z)
 | .and=>k (.data (.int κ) (ZTa κ x y))
 | .or=>k (.data (.int κ) (orI κ x y))
 | .xor=>k (.data (.int κ) (xorI κ x y))
 | .lss=>k (.data .bool (decide (x<y)))
 | .leq=>k (.data .bool (decide (x≤y)))
 | .gtr=>k (.data .bool (decide (y<x)))
 | .geq=>k (.data .bool (decide (y≤x)))
 | .eql=>k (.data .bool (x==y))
 | .neq=>k (.data .bool (x != y))
 | _=>.fail
def binE {ρ:Type} (P:Program) (op:BinOp) (t:TypeId) (v v':V) (k:V→Ev ρ):Ev ρ:=match v,v' with
 | .data (.int κ) x,.data (.int κ') y=>match op with
  | .shl=>.bind (ZLa κ x y) λz=>k (.data (.int κ) z)
  | .shr=>.bind (ZH κ x y) λz=>k (.data (.int κ) z)
  | op=>match kEq κ κ' with
   | true=>binI op κ x y k
   | false=>.fail
 | .data .bool (x:Bool),.data .bool (y:Bool)=>match P.underlying t with
  | some .bool=>match op with
   | .eql=>k (.data .bool (x==y))
   | .neq=>k (.data .bool (x != y))
   | _=>.fail
  | _=>.fail
 | .data .str (x:List UInt8),.data .str (y:List UInt8)=>match op with
  | .add=>.bind (ZJ (x++y)) λ_=>k (.data .str (x++y))
  | .eql=>k (.data .bool (x==y))
  | .neq=>k (.data .bool (x != y))
  | _=>.fail
 | _,_=>.fail
def ldE {ρ:Type} (P:Program) (t:TypeId) (p:V) (k:V→Ev ρ):Ev ρ:=match szA P t with
 | none=>.fail
 | some s=>match p with
  | .ptr u off=>.rdL u λ_ L=>match L with
   | .box _ c=>match Zca FU c off s.1 s.2 with
    | some z=>k z
    | none=>.fail
   | _=>.fail
  | .el u i cv e x off=>.rdL u λcv' L=>match L with
   | .own _ _ _ _=>match Nat.beq cv' cv with
    | true=>match Zca FU (.data e x) off s.1 s.2 with
     | some z=>k z
     | none=>.fail
    | false=>.fail
   | .box ty (.data t' w')=>match P.underlying ty with
    | some (.array m _)=>match T.cast t' (Zfa e m) w',Nat.beq off 0,Nat.blt 0 m with
     | some w2,true,true=>.bind (idx (ZUa e m w2) (i:Int)) λy=>match Zca FU (.data e y) 0 s.1 s.2 with
      | some z=>k z
      | none=>.fail
     | _,_,_=>.fail
    | _=>.fail
   | _=>.fail
  | .vp e x off=>match Zca FU (.data e x) off s.1 s.2 with
   | some z=>k z
   | none=>.fail
  | .rp u i hv cv e r=>.rdL u λcv' L=>match L with
   | .mat _ _ _ _ hv'=>match Nat.beq hv' hv,Nat.beq cv' cv,s.2 with
    | true,true,false=>k (.row u i hv cv e r)
    | _,_,_=>.fail
   | _=>.fail
  | .rel u _ _ hv cv e _ x off=>.rdL u λcv' L=>match L with
   | .mat _ _ _ _ hv'=>match Nat.beq hv' hv,Nat.beq cv' cv with
    | true,true=>match Zca FU (.data e x) off s.1 s.2 with
     | some z=>k z
     | none=>.fail
    | _,_=>.fail
   | _=>.fail
  | _=>.fail
def V.plain:V→Bool
 | .undef | .tup _=>false
 | .cons a b=>match a.plain with
  | true=>b.plain
  | false=>false
 | .agg c=>c.plain
 | _=>true
def V.fit (v:V):Bool:=match v.plain,v.isAgg with
 | true,true=>true
 | true,false=>Nat.beq v.size 1
 | false,_=>false
def ZUb (s t:T) (l:List s.den):Option (List t.den):=T.cast (.slice s) (.slice t) l
def Zrb (s t:T) (m:List (List s.den)):Option (List (List t.den)):=T.cast (.slice (.slice s)) (.slice (.slice t)) m
def eqN (i j:Nat):Option Unit:=if i=j then some () else none
def ZWc {α:Type} (m:List (List α)) (i j:Nat):List (List α):=(m.set i (m.getD j [])).set j (m.getD i [])
def stE (P:Program) (nid:Nat) (t:TypeId) (p v:V):Ev Unit:=match szA P t with
 | none=>.fail
 | some q=>match Nat.beq v.size q.1,eqB v.isAgg q.2,v.fit with
  | true,true,true=>match p with
   | .ptr u off=>.rdL u λ_ L=>match L with
    | .box ty c=>match ZVa FU c off v with
     | some c'=>.wrL u (.box ty c') (.done ())
     | none=>.fail
    | _=>.fail
   | .el u i cv s x off=>match ZVa FU (.data s x) off v with
    | some z=>conv FU s z λy=>.rdL u λcv' L=>match L with
     | .own ty s' l false=>match Nat.beq off 0,Nat.beq v.size s.n,Nat.beq cv' cv with
      | true,true,_=>match T.cast s s' y with
       | some y'=>.wrL u (.own ty s' (l.set i y') false) (.done ())
       | none=>.fail
      | _,_,true=>match T.cast s s' y with
       | some y'=>.wrL u (.own ty s' (l.set i y') false) (.done ())
       | none=>.fail
      | _,_,_=>.fail
     | .box ty (.data t' w')=>match P.underlying ty with
      | some (.array m _)=>match Nat.beq off 0,Nat.beq v.size s.n,T.cast t' (Zfa s m) w',Nat.blt 0 m with
       | true,true,some w2,true=>.bind (inN i m) λ_=>match T.cast (Zfa s m) t' (arrS s m w2 i y) with
        | some w3=>.wrL u (.box ty (.data t' w3)) (.done ())
        | none=>.fail
       | _,_,_,_=>.fail
      | _=>.fail
     | _=>.fail
    | none=>.fail
   | .rp u i _ _ _ _=>match v with
    | .own u2=>.rdL u λ_ L=>match L with
     | .mat ty ty2 s m _=>.rdL u2 λ_ L2=>match L2 with
      | .own ty3 s' l false=>match Nat.beq ty3 ty2,ZUb s' s l with
       | true,some l'=>.del u2 (.wrL u (.mat ty ty2 s (m.set i l') nid) (.done ()))
       | _,_=>.fail
      | _=>.fail
     | .mid ty ty2 s m _ (.hol j)=>.bind (eqN i j) λ_=>.rdL u2 λ_ L2=>match L2 with
      | .own ty3 s' l false=>match Nat.beq ty3 ty2,ZUb s' s l with
       | true,some l'=>.del u2 (.wrL u (.mat ty ty2 s (m.set i l') nid) (.done ()))
       | _,_=>.fail
      | _=>.fail
     | _=>.fail
    | .row u2 j hv2 _ _ _=>.rdL u λ_ L=>match L with
     | .mat ty ty2 s m hv=>match Nat.beq u2 u,Nat.beq hv hv2 with
      | true,true=>.wrL u (.mid ty ty2 s m hv (.swp i j)) (.done ())
      | _,_=>.fail
     | .mid ty ty2 s m hv (.swp i0 j0)=>match Nat.beq u2 u,Nat.beq hv hv2 with
      | true,true=>.bind (eqN i j0) λ_=>.bind (eqN j i0) λ_=>.wrL u (.mat ty ty2 s (ZWc m i0 j0) nid) (.done ())
      | _,_=>.fail
     | _=>.fail
    | _=>.fail
   | .rel u i j hv cv s r x off=>match ZVa FU (.data s x) off v with
    | some z=>.rdL u λ_ L0=>match L0 with
     | .mat _ _ _ _ _=>conv FU s z λy=>.rdL u λcv' L=>match L with
      | .mat ty ty2 s' m hv'=>match Nat.beq hv' hv,Nat.beq cv' cv with
       | true,true=>match ZUb s s' (r.set j y) with
        | some r'=>.wrL u (.mat ty ty2 s' (m.set i r') hv') (.done ())
        | none=>.fail
       | _,_=>.fail
      | _=>.fail
     | _=>.fail
    | none=>.fail
   | _=>.fail
  | _,_,_=>.fail
def onM (C:Cf) (o:Oper):Bool:=match o.dst with
 | some d=>Zia C.mats d
 | none=>false
def onT (C:Cf) (o:Oper):Bool:=match o.dst with
 | some d=>Zia C.mats (d+100000)
 | none=>false
def takeE (P:Program) (o:Oper) (nid:Nat) (t:TypeId) (p:V):Ev Unit:=match szA P t with
 | none=>.fail
 | some s=>match p,s.2 with
  | .rp u i hv cv e r,false=>.rdL u λcv' L=>match L with
   | .mat ty ty2 s' m hv'=>match Nat.beq hv' hv,Nat.beq cv' cv,ZUb e s' r with
    | true,true,some z=>.wrL u (.mid ty ty2 s' m hv' (.hol i)) (.new nid (.own ty2 s' z false) (ret o (.own nid)))
    | _,_,_=>.fail
   | _=>.fail
  | _,_=>.fail
def shift:V→Nat→Option V
 | .ptr u off,k=>some (.ptr u (off+k))
 | .vp t x off,k=>some (.vp t x (off+k))
 | .el u i cv t x off,k=>some (.el u i cv t x (off+k))
 | .rel u i j hv cv t r x off,k=>some (.rel u i j hv cv t r x (off+k))
 | _,_=>none
def live {ρ:Type} (v:V) (k:Ev ρ):Ev ρ:=match v with
 | .ptr u _=>.rdL u λ_ L=>match L with
  | .box _ _=>k
  | _=>.fail
 | .vp _ _ _=>k
 | .el u _ _ _ _ _=>.rdL u λ_ L=>match L with
  | .own _ _ _ _=>k
  | _=>.fail
 | .rel u _ _ hv _ _ _ _ _=>.rdL u λ_ L=>match L with
  | .mat _ _ _ _ hv'=>match Nat.beq hv' hv with
   | true=>k
   | false=>.fail
  | _=>.fail
 | _=>.fail
def ixA (P:Program) (o:Oper) (t:TypeId) (v:V) (j:Int):Ev Unit:=match P.underlying t with
 | some (.array n e)=>match P.info? e,decide (0≤j),decide (j<n) with
  | some i,true,true=>match shift v (j.toNat*i.size) with
   | some z=>live v (ret o z)
   | none=>.fail
  | _,_,_=>.fail
 | _=>.fail
def alts (P:Program) (o:Oper) (t:TypeId) (v:V) (j:Int):Nat→Nat→Ev Unit
 | 0,_=>.fail
 | m+1,k=>.alt (decide (j=(k:Int))) (ixA P o t v (k:Int)) (alts P o t v j m (k+1))
def altE (P:Program) (o:Oper) (t:TypeId) (v:V) (j:Int):Ev Unit:=match P.underlying t with
 | some (.array n _)=>alts P o t v j n 0
 | _=>.fail
def ixQ (C:Cf) (o:Oper) (t:TypeId) (v:V) (j:Int):Ev Unit:=match C.P.underlying t with
 | some (.array m e)=>match Z2c C FU e,szA C.P e,Nat.blt 0 m with
  | some a,some q,true=>match Nat.beq q.1 a.n,v with
   | true,.ptr u 0=>.rdL u λcv L=>match L with
    | .box ty (.data s x)=>match Nat.beq ty t,T.cast s (Zfa a m) x with
     | true,some x'=>.bind (idx (ZUa a m x') j) λy=>ret o (.el u j.toNat cv a y 0)
     | _,_=>.fail
    | _=>.fail
   | _,_=>.fail
  | _,_,_=>.fail
 | _=>.fail
def ixW (C:Cf) (o:Oper) (t:TypeId) (v:V) (j:Int):Ev Unit:=match C.P.underlying t with
 | some (.array m e)=>match Z2c C FU e,szA C.P e,v,Nat.blt 0 m with
  | some a,some q,.data s x,true=>match Nat.beq q.1 a.n,eqB q.2 a.agg,T.cast s (Zfa a m) x with
   | true,true,some x'=>.bind (idx (ZUa a m x') j) λy=>ret o (.data a y)
   | _,_,_=>.fail
  | _,_,_,_=>.fail
 | _=>.fail
def onQ (C:Cf) (o:Oper):Bool:=match o.dst with
 | some d=>Zia C.mats (d+400000)
 | none=>false
def onA (C:Cf) (o:Oper):Bool:=match o.dst with
 | some d=>Zia C.mats (d+200000)
 | none=>false
def ixV (C:Cf) (o:Oper) (t:TypeId) (v:V) (j:Int):Ev Unit:=match C.P.underlying t with
 | some (.array n e)=>match szA C.P e,v.isAgg,decide (0≤j),decide (j<n) with
  | some q,true,true,true=>match Zca FU v (j.toNat*q.1) q.1 q.2 with
   | some z=>ret o z
   | none=>.fail
  | _,_,_,_=>.fail
 | _=>.fail
def altsV (C:Cf) (o:Oper) (t:TypeId) (v:V) (j:Int):Nat→Nat→Ev Unit
 | 0,_=>.fail
 | m+1,k=>.alt (decide (j=(k:Int))) (ixV C o t v (k:Int)) (altsV C o t v j m (k+1))
def altvE (C:Cf) (o:Oper) (t:TypeId) (v:V) (j:Int):Ev Unit:=match C.P.underlying t with
 | some (.array n _)=>altsV C o t v j n 0
 | _=>.fail
def ixE (P:Program) (o:Oper) (t:TypeId) (v:V) (j:Int):Ev Unit:=match ZEh P t with
 | none=>ixA P o t v j
 | some q=>match v with
  | .own u=>.rdL u λcv L=>match L with
   | .own _ s l _=>match Nat.beq q.2 s.n with
    | true=>.bind (idx l j) λy=>ret o (.el u j.toNat cv s y 0)
    | false=>.fail
   | .mat _ _ s m hv=>match Nat.beq q.2 1 with
    | true=>.bind (idx m j) λr=>ret o (.rp u j.toNat hv cv s r)
    | false=>.fail
   | .mid _ _ s m hv _=>match Nat.beq q.2 1 with
    | true=>.bind (idx m j) λr=>ret o (.rp u j.toNat hv cv s r)
    | false=>.fail
   | _=>.fail
  | .data (.slice s) l=>match Nat.beq q.2 s.n with
   | true=>.bind (idx l j) λy=>ret o (.vp s y 0)
   | false=>.fail
  | .data (.leaf 0) (n:Nat)=>match Nat.beq q.2 1 with
   | true=>.bind (idx (Zc 18446744073709551616 n) j) λy=>ret o (.vp (.int .u64) y 0)
   | false=>.fail
  | .data (.leaf 1) (n:Nat)=>match Nat.beq q.2 1 with
   | true=>.bind (idx (Zc 4294967296 n) j) λy=>ret o (.vp (.int .u32) y 0)
   | false=>.fail
  | .row u i hv cv s r=>.rdL u λcv' L=>match L with
   | .mat _ _ s' m hv'=>match Nat.beq hv' hv,Nat.beq cv' cv,Nat.beq q.2 s.n with
    | true,true,true=>.bind (idx r j) λy=>ret o (.rel u i j.toNat hv cv s r y 0)
    | true,false,true=>match Zrb s' s m with
     | some m'=>.bind (idx m' (i:Int)) λr'=>.bind (idx r' j) λy=>ret o (.rel u i j.toNat hv cv' s r' y 0)
     | none=>.fail
    | _,_,_=>.fail
   | _=>.fail
  | _=>.fail
def lenE {ρ:Type} (P:Program) (t:TypeId) (v:V) (k:Nat→Ev ρ):Ev ρ:=match v with
 | .data .str (s:List UInt8)=>match P.underlying t with
  | some .string=>k s.length
  | _=>.fail
 | v=>match ZEh P t with
  | none=>.fail
  | some _=>match v with
   | .own u=>.rdL u λ_ L=>match L with
    | .own _ _ l _=>k l.length
    | .mat _ _ _ m _=>k m.length
    | _=>.fail
   | .data (.slice _) l=>k l.length
   | .data (.leaf 0) (n:Nat)=>k (Zc 18446744073709551616 n).length
   | .data (.leaf 1) (n:Nat)=>k (Zc 4294967296 n).length
   | .row u _ hv _ _ r=>.rdL u λ_ L=>match L with
    | .mat _ _ _ _ hv'=>match Nat.beq hv' hv with
     | true=>k r.length
     | _=>.fail
    | _=>.fail
   | _=>.fail
def fldE {ρ:Type} (P:Program) (s:TypeId) (f:Nat) (v:V) (k:V→Ev ρ):Ev ρ:=match fldA P s f with
 | some h=>match shift v h with
  | some z=>live v (k z)
  | none=>.fail
 | none=>.fail
def ZNd {ρ:Type}:List Operand→(V→Ev ρ)→Ev ρ
 | [],k=>k .nl
 | x :: r,k=>opd x λv=>match v with
  | .tup _=>.fail
  | v=>ZNd r λc=>k (.cons v c)
def ZId {ρ:Type}:(ts:List T)→V→(Zw ts→Ev ρ)→Ev ρ
 | [],.nl,k=>k ()
 | [t],.cons v .nl,k=>conv FU t v k
 | t :: u :: r,.cons v c,k=>conv FU t v λx=>ZId (u :: r) c λy=>k (x,y)
 | _,_,_=>.fail
def convS {ρ:Type} (t:T):V→(List t.den→Ev ρ)→Ev ρ
 | .nl,k=>k []
 | .cons v c,k=>conv FU t v λx=>convS t c λl=>k (x :: l)
 | _,_=>.fail
def ZJc:(ts:List T)→Zw ts→V
 | [],_=>.nl
 | [t],x=>.cons (.data t x) .nl
 | t :: u :: r,x=>.cons (.data t x.1) (ZJc (u :: r) x.2)
def Zmd:V→V
 | .cons v .nl=>v
 | c=>.tup c
def appM (o:Oper) (nid:Nat) (q:EI) (p:Option Nat) (v':V):Ev Unit:=match v' with
 | .own u2=>.rdL u2 λ_ L2=>match L2 with
  | .mat ty' ty2' s' m' _=>match p with
   | none=>match Nat.beq q.e ty',Nat.beq q.sz 1 with
    | true,true=>.bind (ZC q.by_ ([]++m')) λ_=>.del u2 (.new nid (.mat ty' ty2' s' ([]++m') nid) (ret o (.own nid)))
    | _,_=>.fail
   | some u=>match Nat.beq u u2 with
    | true=>.fail
    | false=>.rdL u λ_ L=>match L with
     | .mat ty ty2 s m _=>match Zrb s' s m',Nat.beq ty ty',Nat.beq ty2 ty2',Nat.beq q.e ty,Nat.beq q.sz 1 with
      | some m2,true,true,true,true=>.bind (ZC q.by_ (m++m2)) λ_=>.del u2 (.del u (.new nid (.mat ty ty2 s (m++m2) nid) (ret o (.own nid))))
      | _,_,_,_,_=>.fail
     | _=>.fail
  | _=>.fail
 | _=>.fail
def appE (C:Cf) (o:Oper) (nid:Nat) (t:TypeId) (v v':V):Ev Unit:=match ZPf C.P t with
  | none=>.fail
  | some q=>match v with
    | .own u=>.rdL u λ_ L=>match L with
      | .own _ s _ _=>conv FU (.slice s) v' λy=>.rdL u λ_ L=>match L with
        | .own ty s' l false=>match ZUb s s' y,Nat.beq q.e ty,Nat.beq q.sz s'.n with
          | some y',true,true=>.bind (ZC q.by_ (l++y')) λ_=>.del u (.new nid (.own ty s' (l++y') false) (ret o (.own nid)))
          | _,_,_=>.fail
        | _=>.fail
      | .mat _ _ _ _ _=>appM o nid q (some u) v'
      | _=>.fail
    | .row u i hv cv s r=>conv FU (.slice s) v' λ(y:List s.den)=>.rdL u λcv' L=>match L with
      | .mat ty ty2 s' m hv'=>match Nat.beq hv' hv,Nat.beq cv' cv,ZUb s s' (r++y),Nat.beq q.e ty2,Nat.beq q.sz s'.n with
        | true,true,some z,true,true=>.bind (ZC q.by_ z) λ_=>.wrL u (.mid ty ty2 s' m hv' (.hol i)) (.new nid (.own ty2 s' z false) (ret o (.own nid)))
        | _,_,_,_,_=>.fail
      | _=>.fail
    | .nilS=>match onM C o with
     | true=>appM o nid q none v'
     | false=>match Z2c C FU q.e with
      | some s=>match Nat.beq q.sz s.n with
        | true=>conv FU (.slice s) v' λ(y:List s.den)=>.bind (ZC q.by_ ([]++y)) λ_=>.new nid (.own q.e s ([]++y) false) (ret o (.own nid))
        | false=>.fail
      | none=>.fail
    | _=>.fail
def putF (P:Program) (s:TypeId):V→List (Nat×V)→Option V
 | z,[]=>some z
 | z,p :: r=>match fldT P s p.1 with
  | some h=>match szA P h.type with
   | some q=>match Nat.beq p.2.size q.1,p.2.fit,ZVa FU z h.offset p.2 with
    | true,true,some z'=>putF P s z' r
    | _,_,_=>none
   | none=>none
  | none=>none
def putA (n sz:Nat):V→List (Nat×V)→Option V
 | z,[]=>some z
 | z,p :: r=>match Nat.blt p.1 n,Nat.beq p.2.size sz,p.2.fit,ZVa FU z (p.1*sz) p.2 with
  | true,true,true,some z'=>putA n sz z' r
  | _,_,_,_=>none
def Zvk (P:Program):List Field→Bool
 | []=>true
 | h :: r=>match P.info? h.type with
  | some _=>Zvk P r
  | none=>false
def zipV:List (Nat×Operand)→V→List (Nat×V)
 | p :: r,.cons v c=>(p.1,v) :: zipV r c
 | _,_=>[]
def Z3f:V→V
 | .data t x=>match Zje t x with
  | some c=>.agg c
  | none=>.data t x
 | v=>v
def Z0k:Nat→List (Nat×Operand)→Bool
 | _,[]=>true
 | k,p :: r=>match Nat.beq p.1 k with
  | true=>Z0k (k+1) r
  | false=>false
def Z4g:Option Int→Int→Int
 | some h,_=>h
 | none,n=>n
def cutE (P:Program) (o:Oper) (t:TypeId) (v:V) (lo hi:Option Int):Ev Unit:=match v with
 | .data (.slice s) l=>match ZEh P t with
  | some q=>match Nat.beq q.2 s.n with
   | true=>.bind (Zxa l (Z4g lo 0) (Z4g hi (l.length:Int))) λy=>ret o (.data (.slice s) y)
   | false=>.fail
  | none=>.fail
 | .data .str (l:List UInt8)=>match P.underlying t with
  | some .string=>.bind (Zxa l (Z4g lo 0) (Z4g hi (l.length:Int))) λy=>ret o (.data .str y)
  | _=>.fail
 | _=>.fail
def optI {ρ:Type} (x:Option Operand) (k:Option Int→Ev ρ):Ev ρ:=match x with
 | none=>k none
 | some x=>opd x λv=>ZMa v λ_ i=>k (some i)
def insE (nid:Nat) (o:Oper) (c:ConI):V→Ev Unit
 | .cons a (.cons (.data (.int .i64) (i:Int)) (.cons (.own u2) .nl))=>.rdL u2 λ_ L2=>match L2 with
  | .own ty2 s2 l2 false=>match Nat.beq ty2 c.ty,ZUb s2 c.t l2 with
   | true,some [x]=>.del u2 (match a with
    | .own u=>.rdL u λ_ L=>match L with
     | .own ty s l false=>match Nat.beq ty c.ty,ZUb s c.t l with
      | true,some l'=>.bind (c.F l' i x) λz=>.del u (.new nid (.own c.ty c.t z false) (ret o (.own nid)))
      | _,_=>.fail
     | _=>.fail
    | .nilS=>.bind (c.F [] i x) λz=>.new nid (.own c.ty c.t z false) (ret o (.own nid))
    | _=>.fail)
   | _,_=>.fail
  | _=>.fail
 | _=>.fail
def arrE (C:Cf) (o:Oper) (t:TypeId) (s u off:Nat) (lo hi:Option Int):Ev Unit:=match Nat.beq off 0,lo,hi,C.P.underlying t with
 | true,none,none,some (.array n e)=>match Z2c C FU e,szA C.P e,Nat.blt 0 n,Nat.ble n 1000 with
  | some a,some q,true,true=>match Nat.beq q.1 a.n with
   | true=>.rdL u λ_ L=>match L with
    | .box _ c=>conv FU (Zfa a n) c λx=>.rdL u λ_ L2=>match L2 with
     | .box _ _=>.del u (.wrS s (.vp (Zfa a n) x 0) (ret o (.data (.slice a) (ZUa a n x))))
     | _=>.fail
    | _=>.fail
   | false=>.fail
  | _,_,_,_=>.fail
 | _,_,_,_=>.fail
def delE (nid:Nat) (o:Oper) (c:ConD):V→Ev Unit
 | .cons (.own u) (.cons (.data (.int .i64) (i:Int)) (.cons (.data (.int .i64) (j:Int)) .nl))=>.rdL u λ_ L=>match L with
  | .own ty s l false=>match Nat.beq ty c.ty,ZUb s c.t l with
   | true,some l'=>.bind (c.F l' i j) λz=>.del u (.new nid (.own c.ty c.t z false) (ret o (.own nid)))
   | _,_=>.fail
  | _=>.fail
 | _=>.fail
def ZSi (C:Cf) (nid:Nat) (o:Oper) (f:FuncId) (args:V):Ev Unit:=match ZP C.cons f with
 | some c=>ZId c.args args λp=>.bind (c.F p) λz=>ret o (Zmd (ZJc c.res z))
 | none=>match ZP C.owns f with
  | some c=>ZId c.args args λp=>.bind (c.F p) λz=>.new nid (.own c.ty c.t z false) (ret o (.own nid))
  | none=>match ZP C.ins f with
   | some c=>insE nid o c args
   | none=>match ZP C.omats f with
    | some c=>ZId c.args args λp=>.bind (c.F p) λz=>.new nid (.mat c.ty c.ty2 c.t z nid) (ret o (.own nid))
    | none=>match ZP C.dels f with
     | some c=>delE nid o c args
     | none=>match ZP C.pows f with
      | some c=>ZId c.args args λp=>.bind (c.F p) λz=>.new nid (.own c.ty c.t z.1 false) (ret o (.tup (.cons (.own nid) (ZJc c.res z.2))))
      | none=>.fail
def Zgq:Operand→Bool
 | .const (.pointer none)=>true
 | _=>false
def ZW (C:Cf) (nid:Nat) (o:Oper):Ev Unit:=match o.op with
  | .move x=>opd x (ret o)
  | .assign x=>match Zgq x with
    | true=>.new nid (.box 0 .undef) (.del nid (ret o (.ptr nid 0)))
    | false=>opd x (ret o)
  | .nilCheck x=>opd x λv=>match v with
    | .data (.ptr a) y=>ret o (.vp a y 0)
    | v=>live v (ret o v)
  | .pick (.tmp c) a b=>.test c (opd a (ret o)) (opd b (ret o))
  | .extract x i=>opd x λv=>match v with
    | .tup c=>match nthV c i with
      | some z=>ret o z
      | none=>.fail
    | _=>.fail
  | .alloc t=>match Z1j C t with
    | some z=>.new nid (.box t z) (ret o (.ptr nid 0))
    | none=>.fail
  | .box t x=>opd x λv=>match v.fit with
    | true=>.new nid (.box t v) (ret o (.ptr nid 0))
    | false=>.fail
  | .load t x=>opd x λp=>match onT C o with
    | true=>takeE C.P o nid t p
    | false=>ldE C.P t p (ret o)
  | .store t x y=>match o.dst with
    | none=>opd x λp=>opd y λv=>stE C.P nid t p v
    | some _=>.fail
  | .fieldAddr s x f=>opd x λv=>fldE C.P s f v (ret o)
  | .field s x f=>opd x λv=>match fldT C.P s f,v.isAgg with
    | some h,true=>match szA C.P h.type with
      | some q=>match Zca FU v h.offset q.1 q.2 with
        | some z=>ret o z
        | none=>.fail
      | none=>.fail
    | _,_=>.fail
  | .indexAddr t x i=>opd x λv=>opd i λw=>ZMa w λ_ j=>match onA C o,onQ C o with
    | true,_=>altE C.P o t v j
    | false,true=>ixQ C o t v j
    | false,false=>ixE C.P o t v j
  | .index t x i=>opd x λv=>opd i λw=>ZMa w λ_ j=>match v with
    | .data .str (l:List UInt8)=>match C.P.underlying t with
      | some .string=>.bind (idx l j) λ(y:UInt8)=>ret o (.data (.int .u8) ((y.toNat:Nat):Int))
      | _=>.fail
    | v=>match onA C o,onQ C o with
      | true,_=>altvE C o t v j
      | false,true=>ixW C o t v j
      | false,false=>ixV C o t v j
  | .binOp op t x y _=>opd x λv=>opd y λw=>binE C.P op t v w (ret o)
  | .unOp .not _ x=>opd x λv=>Zjm v λb=>ret o (.data .bool (!b))
  | .unOp .neg _ x=>opd x λv=>ZMa v λκ i=>ret o (.data (.int κ) (κ.wrap (-i)))
  | .convert s d x=>opd x λv=>match v,C.P.underlying s,C.P.underlying d with
    | .data (.int κ) i,some _,some (.int κ')=>match kEq κ κ' with
      | true=>ret o (.data (.int κ) i)
      | false=>ret o (.data (.int κ') (κ'.wrap i))
    | .data .str (l:List UInt8),some .string,some .string=>ret o (.data .str l)
    | _,_,_=>.fail
  | .makeFunc (.func f) first cap=>match first.toList with
    | []=>ZNd cap.toList λc=>ret o (.fn f c)
    | _=>.fail
  | .makeInterface t x=>opd x λv=>match v.fit with
    | true=>match C.P.underlying t with
      | some (.interface _)=>.fail
      | some _=>ret o (.ifc t v)
      | none=>.fail
    | false=>.fail
  | .makeSlice t l c=>opd l λv=>opd c λw=>ZMa v λ_ i=>ZMa w λ_ j=>match ZPf C.P t,o.dst with
    | some q,some d=>.bind (mk q.by_ i j) λ_=>match Zia C.mats d with
      | true=>match ZPf C.P q.e,zSl q.z.cells.toList,Nat.beq q.sz 1 with
        | some q2,some _,true=>match Z2c C FU q2.e with
          | some s=>match Nat.beq q2.sz s.n with
            | true=>.new nid (.mat q.e q2.e s (List.replicate i.toNat []) nid) (ret o (.own nid))
            | false=>.fail
          | none=>.fail
        | _,_,_=>.fail
      | false=>match Z2c C FU q.e with
        | some s=>match Z0f s,zOK s q.z.cells.toList,Nat.beq q.sz s.n with
          | some z,some _,true=>.new nid (.own q.e s (List.replicate i.toNat z) false) (ret o (.own nid))
          | _,_,_=>.fail
        | none=>.fail
    | _,_=>.fail
  | .buildSlice t n ps=>match ZPf C.P t with
    | some q=>match onM C o with
     | true=>match n,ps.toList with
      | 1,[(0,x)]=>opd x λv=>match v,ZPf C.P q.e,zSl q.z.cells.toList with
        | .own u2,some q2,some _=>.rdL u2 λ_ L=>match L with
          | .own ty2 s l false=>match Nat.beq q2.e ty2,Nat.beq q2.sz s.n,Nat.beq q.sz 1 with
            | true,true,true=>.del u2 (.new nid (.mat q.e ty2 s [l] nid) (ret o (.own nid)))
            | _,_,_=>.fail
          | _=>.fail
        | _,_,_=>.fail
      | _,_=>.fail
     | false=>match Z2c C FU q.e,Z0k 0 ps.toList,Nat.beq ps.toList.length n,Nat.ble (n*q.sz) 16777216 with
      | some s,true,true,true=>match Nat.beq q.sz s.n with
        | true=>ZNd (ps.toList.map (·.2)) λc=>convS s c λl=>.new nid (.own q.e s l false) (ret o (.own nid))
        | false=>.fail
      | _,_,_,_=>.fail
    | none=>.fail
  | .build t ps=>match Z1j C t,C.P.underlying t with
    | some z,some (.struct fs)=>match Zvk C.P fs.toList,(Z3f z).isAgg,z.isAgg with
      | true,true,true=>match ps.toList with
        | []=>ret o z
        | l=>ZNd (l.map (·.2)) λc=>match putF C.P t (Z3f z) (zipV l c) with
          | some z'=>ret o z'
          | none=>.fail
      | _,_,_=>.fail
    | some z,some (.array n e)=>match C.P.info? e,(Z3f z).isAgg,z.isAgg with
      | some i,true,true=>ZNd (ps.toList.map (·.2)) λc=>match putA n i.size (Z3f z) (zipV ps.toList c) with
        | some z'=>ret o z'
        | none=>.fail
      | _,_,_=>.fail
    | _,_=>.fail
  | .slice t x lo hi none=>optI lo λi=>optI hi λj=>opd x λv=>match v with
    | .own u=>.rdL u λ_ L=>match L with
      | .own _ s _ _=>conv FU (.slice s) v λl=>cutE C.P o t (.data (.slice s) l) i j
      | _=>.fail
    | .data (.leaf 0) (n:Nat)=>cutE C.P o t (.data (.slice (.int .u64)) (Zc 18446744073709551616 n)) i j
    | .data (.leaf 1) (n:Nat)=>cutE C.P o t (.data (.slice (.int .u32)) (Zc 4294967296 n)) i j
    | .ptr u off=>match x with
      | .tmp s=>arrE C o t s u off i j
      | _=>.fail
    | v=>cutE C.P o t v i j
  | .call c=>match c.callee with
    | .builtin .len=>match c.args.toList,c.argTypes.toList with
      | [x],[t]=>opd x λv=>lenE C.P t v λn=>ret o (.data (.int .i64) (n:Int))
      | _,_=>.fail
    | .builtin .append=>match c.args.toList,c.argTypes.toList with
      | [x,y],[t,t']=>match Nat.beq t t' with
        | true=>opd x λv=>opd y λw=>appE C o nid t v w
        | false=>.fail
      | _,_=>.fail
    | .builtin .max=>match c.args.toList with
      | [x,y]=>opd x λv=>opd y λw=>ZMa v λκ i=>ZMa w λκ' j=>match kEq κ κ' with
        | true=>ret o (.data (.int κ) (max i j:Int))
        | false=>.fail
      | [x,y,z]=>opd x λv=>opd y λw=>opd z λu=>ZMa v λκ i=>ZMa w λκ' j=>ZMa u λκ'' k=>match kEq κ κ',kEq κ κ'' with
        | true,true=>ret o (.data (.int κ) (max (max i j) k:Int))
        | _,_=>.fail
      | [x1,x2,x3,x4,x5,x6]=>opd x1 λv1=>opd x2 λv2=>opd x3 λv3=>opd x4 λv4=>opd x5 λv5=>opd x6 λv6=>ZMa v1 λκ i1=>ZMa v2 λκ2 i2=>ZMa v3 λκ3 i3=>ZMa v4 λκ4 i4=>ZMa v5 λκ5 i5=>ZMa v6 λκ6 i6=>match kEq κ κ2,kEq κ κ3,kEq κ κ4,kEq κ κ5,kEq κ κ6 with
        | true,true,true,true,true=>ret o (.data (.int κ) (max (max (max (max (max i1 i2) i3) i4) i5) i6:Int))
        | _,_,_,_,_=>.fail
      | _=>.fail
    | .builtin .min=>match c.args.toList with
      | [x,y]=>opd x λv=>opd y λw=>ZMa v λκ i=>ZMa w λκ' j=>match kEq κ κ' with
        | true=>ret o (.data (.int κ) (min i j:Int))
        | false=>.fail
      | _=>.fail
    | .value x=>opd x λfv=>ZNd c.args.toList λags=>match fv with
      | .fn f .nl=>ZSi C nid o f ags
      | _=>.fail
    | .invoke x m=>opd x λr=>ZNd c.args.toList λags=>match r with
      | .ifc t v=>match lkM C.meths t m with
        | some f=>ZSi C nid o f (.cons v ags)
        | none=>.fail
      | _=>.fail
    | _=>.fail
  | _=>.fail
def ZKg (o:Oper):Ev Unit:=match o.dst with
 | some d=>.wrS d .undef (.done ())
 | none=>.done ()
def gop (C:Cf) (ops:List Oper) (nid:Nat) (o:Oper):Ev Unit:=match o.guard with
 | none=>ZW C nid o
 | some (j,w)=>match ops[j]? with
  | some q=>match q.dst with
   | some t=>.rdS t λx=>match x with
    | .undef=>ZKg o
    | .data .bool _=>match w with
     | true=>.test t (ZW C nid o) (ZKg o)
     | false=>.test t (ZKg o) (ZW C nid o)
    | _=>.fail
   | none=>.fail
  | none=>.fail
structure Fp where
 rs:Nat
 ws:Nat
 rl:Nat
 wl:Nat
def Fp.no:Fp:=⟨0,0,0,0⟩
def bit (m k:Nat):Nat:=Nat.lor m (Nat.pow 2 k)
def Znb {ρ α:Type} (n:Nat):Ev ρ→Fr→Lo→Fp→(ρ→Fr→Lo→Fp→Option α)→Option α
 | .fail,_,_,_,_=>none
 | .done r,f,l,p,K=>K r f l p
 | .rdS t k,f,l,p,K=>match lkE f t with
  | some x=>Znb n (k x.x) f l ⟨bit p.rs t,p.ws,p.rl,p.wl⟩ K
  | none=>none
 | .rdL u k,f,l,p,K=>match lkE l u with
  | some x=>Znb n (k x.st x.x) f l ⟨p.rs,p.ws,bit p.rl u,p.wl⟩ K
  | none=>none
 | .wrS t x e,f,l,p,K=>Znb n e (⟨t,n,x⟩ :: f) l ⟨p.rs,bit p.ws t,p.rl,p.wl⟩ K
 | .wrL u L e,f,l,p,K=>Znb n e f (⟨u,n,L⟩ :: era l u) ⟨p.rs,p.ws,p.rl,bit p.wl u⟩ K
 | .new u L e,f,l,p,K=>match lkE l u with
  | none=>Znb n e f (⟨u,n,L⟩ :: l) ⟨p.rs,p.ws,bit p.rl u,bit p.wl u⟩ K
  | some _=>none
 | .del u e,f,l,p,K=>Znb n e f (era l u) ⟨p.rs,p.ws,p.rl,bit p.wl u⟩ K
 | .bind x k,f,l,p,K=>bnd x λy=>Znb n (k y) f l p K
 | .test t e1 e2,f,l,p,K=>match lkE f t with
  | some ⟨_,s,.data .bool b⟩=>ifb b (Znb n e1 (⟨t,s,.data .bool true⟩ :: f) l ⟨bit p.rs t,p.ws,p.rl,p.wl⟩ K) (Znb n e2 (⟨t,s,.data .bool false⟩ :: f) l ⟨bit p.rs t,p.ws,p.rl,p.wl⟩ K)
  | _=>none
 | .alt b e1 e2,f,l,p,K=>ifb b (Znb n e1 f l p K) (Znb n e2 f l p K)
def Fp.free (p q:Fp):Bool:=Nat.beq (Nat.lor (Nat.lor (Nat.land p.ws (Nat.lor q.rs q.ws)) (Nat.land p.rs q.ws)) (Nat.lor (Nat.land p.wl (Nat.lor q.rl q.wl)) (Nat.land p.rl q.wl))) 0
def ZHc (done:List Nat):List Edge→Nat→Nat
 | [],m=>m
 | e :: r,m=>match Region.binds .any e with
  | true=>ZHc done r (Nat.lor (bit m e.on) (done.getD e.on 0))
  | false=>ZHc done r m
def ZWa:List Oper→List Nat→List Nat
 | [],done=>done
 | o :: r,done=>ZWa r (done++[ZHc done o.after.toList 0])
def chk1 (m:Nat) (q:Fp):List Fp→Nat→Bool
 | [],_=>true
 | p :: r,i=>match Nat.testBit m i with
  | true=>chk1 m q r (i+1)
  | false=>match p.free q with
   | true=>chk1 m q r (i+1)
   | false=>false
def Z0d:List Fp→List Nat→List Fp→Bool
 | _,_,[]=>true
 | bef,m :: ms,q :: qs=>match chk1 m q bef 0 with
  | true=>Z0d (bef++[q]) ms qs
  | false=>false
 | _,[],_ :: _=>false
def Zji (i:Nat):List Edge→Bool
 | []=>true
 | e :: r=>match Region.binds .any e with
  | true=>match Nat.blt e.on i with
   | true=>Zji i r
   | false=>false
  | false=>Zji i r
def ZVd:Nat→List Oper→Bool
 | _,[]=>true
 | i,o :: r=>match Zji i o.after.toList with
  | true=>ZVd (i+1) r
  | false=>false
inductive Pl where
 | sl (s:Nat)
 | fld (p:Pl) (off:Nat)
inductive Vr where
 | s (t:Nat) (c:CT)
 | l (p:Pl) (c:CT)
def Vr.ct:Vr→CT
 | .s _ c=>c
 | .l _ c=>c
def ctL:List CT→CT
 | []=>.nl
 | [v]=>.one v
 | v :: w :: r=>.cons v (ctL (w :: r))
inductive Kd where
 | norm | exit (id:Nat) | ret
structure Js where
 keep:List Nat
 drop:List Pl
 vs:List Vr
structure Jn where
 head:Js
 outs:List (Kd×Js)
inductive Ann where
 | no
 | two (a b:Ann)
 | cut (c:Jn) (a:Ann)
 | unroll (k:Nat) (a:Ann)
 | sel (i:Nat) (a b:Ann)
 | lend (us:List Nat) (bs:List (Nat×T)) (nb fl keep:List Nat) (a:Ann)
structure Kt (α:Type) where
 norm:Fr→Lo→Nat→Option α
 exit:Nat→Fr→Lo→Nat→Option α
 ret:V→Lo→Nat→Option α
def Ann.fst:Ann→Ann
 | .two a _=>a
 | _=>.no
def Ann.snd:Ann→Ann
 | .two _ b=>b
 | _=>.no
def idV:V→Option Nat
 | .own u=>some u
 | .ptr u 0=>some u
 | _=>none
def Z5b (f:Fr) (l:Lo):Pl→Option Nat
 | .sl s=>match lkE f s with
  | some v=>idV v.x
  | none=>none
 | .fld p off=>match Z5b f l p with
  | some u=>match lkE l u with
   | some ⟨_,_,.box _ c⟩=>match Zca FU c off 1 false with
    | some v=>idV v
    | none=>none
   | _=>none
  | none=>none
def idsOf (f:Fr) (l:Lo):List Pl→Option (List Nat)
 | []=>some []
 | p :: r=>match Z5b f l p,idsOf f l r with
  | some u,some us=>some (u :: us)
  | _,_=>none
def Z2 {ρ:Type}:Nat→(c:CT)→V→(c.den→Ev ρ)→Ev ρ
 | 0,_,_,_=>.fail
 | g+1,c,v,K=>match c,K with
  | .dat t,K=>conv FU t v K
  | .own ty t,K=>match v with
   | .own u=>.rdL u λ_ L=>match L with
    | .own ty' t' xs false=>match Nat.beq ty ty',ZUb t' t xs with
     | true,some ys=>.del u (K ys)
     | _,_=>.fail
    | _=>.fail
   | .nilS=>K []
   | _=>.fail
  | .mat ty ty2 t,K=>match v with
   | .own u=>.rdL u λ_ L=>match L with
    | .mat ty' ty2' t' m _=>match Nat.beq ty ty',Nat.beq ty2 ty2',T.cast (.slice (.slice t')) (.slice (.slice t)) m with
     | true,true,some m'=>.del u (K m')
     | _,_,_=>.fail
    | _=>.fail
   | .nilS=>K []
   | _=>.fail
  | .nl,K=>match v with
   | .nl=>K ()
   | _=>.fail
  | .one a,K=>match v with
   | .cons x .nl=>Z2 g a x K
   | _=>.fail
  | .cons a b,K=>match v with
   | .cons x y=>Z2 g a x λp=>Z2 g b y λq=>K (p,q)
   | _=>.fail
  | .agg c,K=>match v with
   | .agg x=>Z2 g c x K
   | _=>.fail
  | .box ty c,K=>match v with
   | .ptr u 0=>.rdL u λ_ L=>match L with
    | .box ty' x=>match Nat.beq ty ty' with
     | true=>.del u (Z2 g c x K)
     | false=>.fail
    | _=>.fail
   | _=>.fail
def Zk:(c:CT)→c.den→Nat→V×Lo×Nat
 | .dat t,x,n=>(.data t x,[],n)
 | .own ty t,x,n=>(.own n,[⟨n,n,.own ty t x false⟩],n+1)
 | .mat ty ty2 t,x,n=>(.own n,[⟨n,n,.mat ty ty2 t x n⟩],n+1)
 | .nl,_,n=>(.nl,[],n)
 | .one a,x,n=>match Zk a x n with
  | (v,l,m)=>(.cons v .nl,l,m)
 | .cons a b,x,n=>match Zk a x.1 n with
  | (v,l,m)=>match Zk b x.2 m with
   | (v',l',m')=>(.cons v v',l++l',m')
 | .agg c,x,n=>match Zk c x n with
  | (v,l,m)=>(.agg v,l,m)
 | .box ty c,x,n=>match Zk c x (n+1) with
  | (v,l,m)=>(.ptr n 0,⟨n,n,.box ty v⟩ :: l,m)
def ZKa (l:Lo) (u:Nat):Nat:=match lkE l u with
 | some ⟨_,_,.mat _ _ _ _ hv⟩=>hv
 | _=>0
def ZFc {ρ:Type} (h:Nat) (c:CT) (u:Nat) (K:c.den→Ev ρ):Ev ρ:=match c,K with
 | .agg (.mat ty ty2 t),K=>.rdL u λ_ L=>match L with
  | .mat ty' ty2' t' m hv=>match Nat.beq ty ty',Nat.beq ty2 ty2',T.cast (.slice (.slice t')) (.slice (.slice t)) m,Nat.beq hv h with
   | true,true,some m',true=>.del u (K m')
   | _,_,_,_=>.fail
  | _=>.fail
 | .own ty t,K=>.rdL u λ_ L=>match L with
  | .own ty' t' xs false=>match Nat.beq ty ty',ZUb t' t xs with
   | true,some ys=>.del u (K ys)
   | _,_=>.fail
  | _=>.fail
 | .mat ty ty2 t,K=>.rdL u λ_ L=>match L with
  | .mat ty' ty2' t' m _=>match Nat.beq ty ty',Nat.beq ty2 ty2',T.cast (.slice (.slice t')) (.slice (.slice t)) m with
   | true,true,some m'=>.del u (K m')
   | _,_,_=>.fail
  | _=>.fail
 | .box ty c,K=>.rdL u λ_ L=>match L with
  | .box ty' x=>match Nat.beq ty ty' with
   | true=>.del u (Z2 FU c x K)
   | false=>.fail
  | _=>.fail
 | _,_=>.fail
def Zne {ρ:Type} (f0:Fr) (l0:Lo):(vs:List Vr)→((ctL (vs.map Vr.ct)).den→Ev ρ)→Ev ρ
 | [],K=>K ()
 | [.s t c],K=>.rdS t λv=>Z2 FU c v K
 | [.l p c],K=>match Z5b f0 l0 p with
  | some u=>ZFc (ZKa l0 u) c u K
  | none=>.fail
 | .s t c :: w :: r,K=>.rdS t λv=>Z2 FU c v λx=>Zne f0 l0 (w :: r) λy=>K (x,y)
 | .l p c :: w :: r,K=>match Z5b f0 l0 p with
  | some u=>ZFc (ZKa l0 u) c u λx=>Zne f0 l0 (w :: r) λy=>K (x,y)
  | none=>.fail
def ZRa (f:Fr):List Nat→Fr
 | []=>[]
 | s :: r=>match lkE f s with
  | some e=>e :: ZRa f r
  | none=>ZRa f r
def Z1 (h:Nat) (c:CT) (x:c.den) (u n:Nat):Lo×Nat:=match c,x with
 | .agg (.mat ty ty2 t),x=>([⟨u,n,.mat ty ty2 t x h⟩],n+1)
 | .own ty t,x=>([⟨u,n,.own ty t x false⟩],n+1)
 | .mat ty ty2 t,x=>([⟨u,n,.mat ty ty2 t x n⟩],n+1)
 | .box ty c,x=>match Zk c x (n+1) with
  | (v,l,m)=>(⟨u,n,.box ty v⟩ :: l,m)
 | _,_=>([],n)
def ZEb (f0:Fr) (l0:Lo):(vs:List Vr)→(ctL (vs.map Vr.ct)).den→Nat→Fr×Lo×Nat
 | [],_,n=>([],[],n)
 | [.s t c],x,n=>match Zk c x (n+1) with
  | (v,l,m)=>([⟨t,n,v⟩],l,m)
 | [.l p c],x,n=>match Z5b f0 l0 p with
  | some u=>match Z1 (ZKa l0 u) c x u n with
   | (l,m)=>([],l,m)
  | none=>([],[],n)
 | .s t c :: w :: r,x,n=>match Zk c x.1 (n+1) with
  | (v,l,m)=>match ZEb f0 l0 (w :: r) x.2 m with
   | (f',l',m')=>(⟨t,n,v⟩ :: f',l++l',m')
 | .l p c :: w :: r,x,n=>match Z5b f0 l0 p with
  | some u=>match Z1 (ZKa l0 u) c x.1 u n with
   | (l,m)=>match ZEb f0 l0 (w :: r) x.2 m with
    | (f',l',m')=>(f',l++l',m')
  | none=>([],[],n)
def goneP (f0:Fr) (l0:Lo):List Pl→List Nat
 | p :: r=>match Z5b f0 l0 p with
  | some u=>u :: goneP f0 l0 r
  | none=>goneP f0 l0 r
 | []=>[]
def Z5c (f0:Fr) (l0:Lo):List Vr→List Nat
 | .s t _ :: r=>match Z5b f0 l0 (.sl t) with
  | some u=>u :: Z5c f0 l0 r
  | none=>Z5c f0 l0 r
 | .l p _ :: r=>match Z5b f0 l0 p with
  | some u=>u :: Z5c f0 l0 r
  | none=>Z5c f0 l0 r
 | []=>[]
def gone (f0:Fr) (l0:Lo) (ps:List Pl) (vs:List Vr):List Nat:=goneP f0 l0 ps++Z5c f0 l0 vs
def idsV:V→List Nat→List Nat
 | .own u,r=>u :: r
 | .row u _ _ _ _ _,r=>u :: r
 | .ptr u _,r=>u :: r
 | .el u _ _ _ _ _,r=>u :: r
 | .rp u _ _ _ _ _,r=>u :: r
 | .rel u _ _ _ _ _ _ _ _,r=>u :: r
 | .cons a b,r=>idsV a (idsV b r)
 | .agg c,r=>idsV c r
 | .tup c,r=>idsV c r
 | .fn _ c,r=>idsV c r
 | _,r=>r
def idsF:Fr→List Nat
 | []=>[]
 | e :: r=>idsV e.x (idsF r)
def Zwi (l:Lo):Nat→List Nat→List Nat→List Nat
 | 0,_,a=>a
 | _,[],a=>a
 | g+1,u :: r,a=>match Zia a u with
  | true=>Zwi l g r a
  | false=>match lkE l u with
   | some ⟨_,_,.box _ c⟩=>Zwi l g (idsV c r) (u :: a)
   | _=>Zwi l g r (u :: a)
def Zvd (b:Nat) (rs us:List Nat):Lo→Lo
 | []=>[]
 | e :: r=>match Zia us e.k with
  | true=>Zvd b rs us r
  | false=>match Nat.ble b e.k with
   | false=>e :: Zvd b rs us r
   | true=>match Zia rs e.k with
    | true=>e :: Zvd b rs us r
    | false=>Zvd b rs us r
def stayL (b:Nat) (f0:Fr) (l0:Lo) (j:Js) (vs:List Vr):Lo:=Zvd b (Zwi l0 50 (idsF (ZRa f0 j.keep)) []) (gone f0 l0 j.drop vs) l0
def ZOh (n:Nat) (f:Fr):List Nat→Bool
 | []=>true
 | s :: r=>match lkE f s with
  | some e=>match Nat.ble n e.st with
   | true=>false
   | false=>ZOh n f r
  | none=>false
def Zzh (n:Nat) (l:Lo):Lo→Bool
 | []=>true
 | e :: r=>match lkE l e.k with
  | some e'=>match Nat.ble n e'.st with
   | true=>false
   | false=>Zzh n l r
  | none=>false
def build {α:Type} (b:Nat) (f0:Fr) (l0:Lo) (j:Js) (x:(ctL (j.vs.map Vr.ct)).den) (n:Nat) (K:Fr→Lo→Nat→α):α:=match ZEb f0 l0 j.vs x n with
 | (f',l',m)=>K (f'++ZRa f0 j.keep) (l'++stayL b f0 l0 j j.vs) m
def kdEq:Kd→Kd→Bool
 | .norm,.norm=>true
 | .ret,.ret=>true
 | .exit i,.exit j=>Nat.beq i j
 | _,_=>false
abbrev jT (j:Js):Type:=(ctL (j.vs.map Vr.ct)).den
def sumT:List (Kd×Js)→Type
 | []=>Empty
 | [o]=>jT o.2
 | o :: p :: r=>jT o.2 ⊕ sumT (p :: r)
def ZYd {α:Type} (b n0 n:Nat) (f0:Fr) (l0:Lo) (f:Fr) (l:Lo) (j:Js) (K:jT j→Option α):Option α :=
 ZEa n (Zne f0 l0 j.vs λx=>.done x) f l λx _ l'=>match ZOh n0 f j.keep,Zzh n0 l' (stayL b f0 l0 j j.vs) with
  | true,true=>K x
  | _,_=>none
def Zyb (n:Nat):Nat→V→Fr
 | k,.cons v c=>⟨k,n,v⟩ :: Zyb n (k+1) c
 | _,_=>[]
def lenV:V→Nat
 | .cons _ c=>lenV c+1
 | _=>0
def ordS:Nat→List Vr→Option Nat
 | k,[]=>some k
 | k,.s t _ :: r=>match Nat.beq t k with
  | true=>ordS (k+1) r
  | false=>none
 | k,.l _ _ :: r=>ordS k r
def Zgi {α:Type} (b n0 n:Nat) (f0:Fr) (l0:Lo) (c:V) (l:Lo) (j:Js) (K:jT j→Option α):Option α:=match j.keep,ordS 1000 j.vs with
 | [],some k=>match Nat.beq (1000+lenV c) k with
  | true=>ZYd b n0 (n+1) f0 l0 (Zyb n 1000 c) l j K
  | false=>none
 | _,_=>none
def ZDj (f:Fr):Nat→Nat→Option V
 | 0,_=>some .nl
 | g+1,t=>match lkE f t,ZDj f g (t+1) with
  | some ⟨_,_,.tup _⟩,_=>none
  | some e,some c=>some (.cons e.x c)
  | _,_=>none
def Zqc {α:Type} (b n0 n:Nat) (f0:Fr) (l0:Lo) (kd:Kd) (c:V) (f:Fr) (l:Lo):(os:List (Kd×Js))→(sumT os→Option α)→Option α
 | [],_=>none
 | [o],K=>match kdEq o.1 kd with
  | true=>match kd with
   | .ret=>Zgi b n0 n f0 l0 c l o.2 K
   | _=>ZYd b n0 n f0 l0 f l o.2 K
  | false=>none
 | o :: p :: r,K=>match kdEq o.1 kd with
  | true=>match kd with
   | .ret=>Zgi b n0 n f0 l0 c l o.2 λx=>K (.inl x)
   | _=>ZYd b n0 n f0 l0 f l o.2 λx=>K (.inl x)
  | false=>Zqc b n0 n f0 l0 kd c f l (p :: r) λx=>K (.inr x)
def retK {α:Type} (vs:List Vr) (K:V→Lo→Nat→Option α) (f:Fr) (l:Lo) (m:Nat):Option α:=match ordS 1000 vs with
 | some k=>match ZDj f (k-1000) 1000 with
  | some c=>K c l m
  | none=>none
 | none=>none
def Z5g {α:Type} (b:Nat) (f0:Fr) (l0:Lo) (n:Nat) (K:Kt α) (o:Kd×Js) (x:jT o.2):Option α:=match o.1 with
 | .norm=>build b f0 l0 o.2 x n K.norm
 | .exit i=>build b f0 l0 o.2 x n (K.exit i)
 | .ret=>build b f0 l0 o.2 x n (retK o.2.vs K.ret)
def arms {α:Type} (b:Nat) (f0:Fr) (l0:Lo) (n:Nat) (K:Kt α):(os:List (Kd×Js))→sumT os→Option α
 | [],_=>none
 | [o],x=>Z5g b f0 l0 n K o x
 | o :: p :: r,x=>match x with
  | .inl y=>Z5g b f0 l0 n K o y
  | .inr y=>arms b f0 l0 n K (p :: r) y
abbrev Go (α:Type):=Ann→Fr→Lo→Nat→Kt α→Option α
def ZLg:T→Bool
 | .int _ | .bool | .flt _ | .str=>true
 | .one a=>ZLg a
 | .pair a b=>match ZLg a with
  | true=>ZLg b
  | false=>false
 | _=>false
def Z9b:V→Bool
 | .data t _=>ZLg t
 | .undef | .nilS | .nl=>true
 | .cons a b=>match Z9b a with
  | true=>Z9b b
  | false=>false
 | .agg c=>Z9b c
 | .tup c=>Z9b c
 | _=>false
def Zsh {ρ:Type} (e:Ev ρ):List Nat→Ev ρ
 | []=>e
 | u :: r=>.rdL u λ_ L=>match L with
  | .own ty t xs false=>.wrL u (.own ty t xs true) (Zsh e r)
  | .own _ _ _ true=>Zsh e r
  | _=>.fail
def Z6k {ρ:Type} (e:Ev ρ):List (Nat×T)→Ev ρ
 | []=>e
 | p :: r=>.rdS p.1 λv=>match v with
  | .ptr u off=>conv FU (.ptr p.2) (.ptr u off) λy=>.wrS p.1 (.vp p.2 y 0) (Z6k e r)
  | _=>.fail
def ZDg (d:Nat):Nat→V
 | 0=>.nl
 | k+1=>.cons (.own d) (ZDg d k)
def nbL (n n':Nat) (f':Fr) (l' l:Lo):List Nat→Option (Fr×Lo×Nat)
 | []=>some ([],l,n')
 | [s]=>match lkE f' s with
  | some ⟨_,_,.ptr u 0⟩=>match lkE l' u,lkE l u,Nat.blt n u with
   | some ⟨_,_,.box ty c⟩,none,true=>match c.isAgg with
    | true=>some ([⟨s,n',.ptr u 0⟩],⟨u,n',.box ty (.agg (ZDg n c.size))⟩ :: l,n'+1)
    | false=>none
   | _,_,_=>none
  | _=>none
 | _=>none
def Z0a (us:List Nat):Lo→Lo
 | []=>[]
 | e :: r=>match Zia us e.k with
  | true=>e :: Z0a us r
  | false=>Z0a us r
def ZYb (f:Fr) (r:Fr):List Nat→Fr
 | []=>r
 | s :: ss=>match lkE f s with
  | some e=>match Z9b e.x with
   | true=>e :: ZYb f r ss
   | false=>ZYb f r ss
  | none=>ZYb f r ss
def Zgk {α:Type} (b:Nat) (ks:List Nat) (ann:Ann) (f:Fr) (l:Lo) (n:Nat) (K:Kt α) (g:List Nat→(β:Type)→Go β):Option α:=match ann with
 | .cut j a=>bnd (g ks (sumT j.outs) a f l n
   {
    norm:=λf' l' n'=>Zqc b n n' f l .norm .nl f' l' j.outs some,
    exit:=λi f' l' n'=>Zqc b n n' f l (.exit i) .nl f' l' j.outs some,
    ret:=λc l' n'=>Zqc b n n' f l .ret c [] l' j.outs some }) λx=>arms b f l n K j.outs x
 | a=>g ks α a f l n K
def ZVg {α:Type} (b:Nat) (ks:List Nat) (ann:Ann) (f:Fr) (l:Lo) (n:Nat) (K:Kt α) (g:List Nat→(β:Type)→Go β):Option α:=match ann with
 | .lend us bs nb fl keep a=>match idsOf f l (us.map Pl.sl) with
  | some ids=>ZEa n (Z6k (Zsh (.done ()) ids) bs) f l λ_ f1 l1=>Zgk b (keep++ks) a f1 (Z0a ids l1) (n+1)
    {
     norm:=λf' l' n'=>match nbL n n' f' l' l nb with
      | some (fb,lb,m)=>K.norm (fb++ZYb f' (ZRa f keep) fl) lb m
      | none=>none,
     exit:=λi f' _ n'=>K.exit i (ZYb f' (ZRa f keep) fl) l n',
     ret:=λc _ n'=>match Z9b c with
      | true=>K.ret c l n'
      | false=>none } g
  | none=>none
 | a=>Zgk b ks a f l n K g
def rounds {α:Type} (g:(β:Type)→Go β) (a:Ann):Nat→Fr→Lo→Nat→Kt α→Option α
 | 0,_,_,_,_=>none
 | k+1,f,l,n,K=>g α a f l n { K with norm:=λf l n=>rounds g a k f l n K }
def loopI {α:Type} (b:Nat) (ann:Ann) (f:Fr) (l:Lo) (n:Nat) (K:Kt α) (g:(β:Type)→Go β):Option α:=match ann with
 | .cut j a=>ZYd b n n f l f l j.head λz=>bnd (Zg (λs=>build b f l j.head s n λf2 l2 m=>g (jT j.head ⊕ sumT j.outs) a f2 l2 m
    {
     norm:=λf' l' n'=>ZYd b n n' f l f' l' j.head λx=>some (.inl x),
     exit:=λi f' l' n'=>Zqc b n n' f l (.exit i) .nl f' l' j.outs λx=>some (.inr x),
     ret:=λc l' n'=>Zqc b n n' f l .ret c [] l' j.outs λx=>some (.inr x) }) Zi z)
    λx=>arms b f l n K j.outs x
 | .unroll k a=>rounds g a k f l n K
 | _=>none
def opdV (f:Fr) (x:Operand):Option V:=match x with
 | .tmp t=>match lkE f t with
  | some e=>some e.x
  | none=>none
 | .const c=>Zjk c
 | .func g=>some (.fn g .nl)
 | .global _=>none
def Zqk (f:Fr):List Operand→Option V
 | []=>some .nl
 | x :: r=>match opdV f x,Zqk f r with
  | some (.tup _),_=>none
  | some v,some c=>some (.cons v c)
  | _,_=>none
abbrev CallF:=(α:Type)→FuncId→V→Lo→Nat→(V→Lo→Nat→Option α)→Option α
def byCon (C:Cf) (o:Oper) (g:FuncId):Bool:=match o.dst with
 | some d=>match Zia C.mats (d+300000) with
  | true=>false
  | false=>match ZP C.pows g,ZP C.cons g,ZP C.owns g,ZP C.ins g,ZP C.omats g,ZP C.dels g with
   | none,none,none,none,none,none=>false
   | _,_,_,_,_,_=>true
 | none=>true
def ZMj (C:Cf) (f:Fr) (o:Oper):Option (FuncId×V):=match o.op with
 | .call c=>match c.callee with
  | .value x=>match opdV f x with
   | some (.fn g cap)=>match byCon C o g with
    | true=>none
    | false=>match Zqk f c.args.toList with
     | some ags=>some (g,appV ags cap)
     | none=>none
   | _=>none
  | _=>none
 | _=>none
def inl1 {α:Type} (cf:CallF) (o:Oper) (g:FuncId) (ags:V) (f:Fr) (l:Lo) (n:Nat) (K:Fr→Lo→Nat→Option α):Option α:=match o.dst with
 | some d=>cf α g ags l (n+1) λr l' m=>K (⟨d,n,Zmd r⟩ :: f) l' m
 | none=>none
def ZLk {α:Type} (o:Oper) (f:Fr) (l:Lo) (n:Nat) (K:Fr→Lo→Nat→Option α):Option α:=ZEa n (ZKg o) f l λ_ f' l'=>K f' l' (n+1)
def inlG {α:Type} (cf:CallF) (ops:List Oper) (o:Oper) (g:FuncId) (ags:V) (f:Fr) (l:Lo) (n:Nat) (K:Fr→Lo→Nat→Option α):Option α:=match o.guard with
 | none=>inl1 cf o g ags f l n K
 | some (j,w)=>match ops[j]? with
  | some q=>match q.dst with
   | some t=>match lkE f t with
    | some ⟨_,s,.data .bool b⟩=>match w with
     | true=>ifb b (inl1 cf o g ags (⟨t,s,.data .bool true⟩ :: f) l n K) (ZLk o (⟨t,s,.data .bool false⟩ :: f) l n K)
     | false=>ifb b (ZLk o (⟨t,s,.data .bool true⟩ :: f) l n K) (inl1 cf o g ags (⟨t,s,.data .bool false⟩ :: f) l n K)
    | some ⟨_,_,.undef⟩=>ZLk o f l n K
    | _=>none
   | none=>none
  | none=>none
def iops {α:Type} (C:Cf) (cf:CallF) (ops:List Oper):List Oper→Fr→Lo→Nat→(Fr→Lo→Nat→Option α)→Option α
 | [],f,l,n,K=>K f l n
 | o :: r,f,l,n,K=>match ZMj C f o with
  | none=>ZEa n (gop C ops n o) f l λ_ f l=>iops C cf ops r f l (n+1) K
  | some (g,ags)=>inlG cf ops o g ags f l n λf l n=>iops C cf ops r f l n K
def Ztf {α:Type} (C:Cf) (ops:List Oper):List Oper→Fr→Lo→Nat→(Fr→Lo→Nat→List Fp→Option α)→Option α
 | [],f,l,n,K=>K f l n []
 | o :: r,f,l,n,K=>Znb n (gop C ops n o) f l Fp.no λ_ f l p=>Ztf C ops r f l (n+1) λf l n ps=>K f l n (p :: ps)
def ZUr (o:Oper):Bool:=match o.op,o.guard with
 | .call c,none=>match c.callee with
  | .value (.tmp _)=>true
  | _=>false
 | _,_=>false
def allB (m:Nat):Nat→Bool
 | 0=>true
 | k+1=>match Nat.testBit m k with
  | true=>allB m k
  | false=>false
def ZUi (ops:List Oper):Option Oper:=match ops.getLast? with
 | none=>none
 | some o=>match ZUr o with
  | false=>none
  | true=>match allB (ZHc (ZWa ops.dropLast []) o.after.toList 0) ops.dropLast.length with
   | true=>some o
   | false=>none
def ZTg (K:Nat) (ks:List Nat):List Oper→Bool
 | []=>true
 | o :: r=>match o.dst with
  | some d=>match Nat.blt d K,Zia ks d with
   | true,false=>ZTg K ks r
   | _,_=>false
  | none=>ZTg K ks r
def Zzm (f:Fr) (l:Lo) (P:Program):ResultVar→Option V
 | .tmp t=>match lkE f t with
  | some e=>some e.x
  | none=>none
 | .cell x t=>match lkE f x with
  | some ⟨_,_,.ptr u 0⟩=>match lkE l u with
   | some ⟨_,_,.box _ c⟩=>match szA P t with
    | some q=>Zca FU c 0 q.1 q.2
    | none=>none
   | _=>none
  | _=>none
def Zek (f:Fr) (l:Lo) (P:Program):List ResultVar→Option V
 | []=>some .nl
 | r :: rs=>match Zzm f l P r,Zek f l P rs with
  | some (.tup _),_=>none
  | some v,some c=>some (.cons v c)
  | _,_=>none
def Zgb (C:Cf) (cf:CallF) (rs:List ResultVar) (b N:Nat):Code→List Nat→(α:Type)→Go α
 | .skip,_,_,_,f,l,n,K=>K.norm f l n
 | .label _,_,_,_,f,l,n,K=>K.norm f l n
 | .region _ ops draw,ks,_,ann,f,l,n,K=>ZVg b ks ann f l n K λks _ _ f l n K=>match draw,ZTg N ks ops.toList with
  | false,true=>iops C cf ops.toList ops.toList f l n K.norm
  | true,true=>match C.P.follows .mixedOrders,ZVd 0 ops.toList with
   | true,true=>match ZUi ops.toList with
    | none=>Ztf C ops.toList ops.toList f l n λf l n ps=>match Z0d [] (ZWa ops.toList []) ps with
     | true=>K.norm f l n
     | false=>none
    | some o=>Ztf C ops.toList ops.toList.dropLast f l n λf l n ps=>match Z0d [] (ZWa ops.toList.dropLast []) ps with
     | true=>iops C cf ops.toList [o] f l n K.norm
     | false=>none
   | _,_=>none
  | _,false=>none
 | .seq x y,ks,_,ann,f,l,n,K=>ZVg b ks ann f l n K λks β a f l n K=>Zgb C cf rs b N x ks β a.fst f l n { K with norm:=λf l n=>Zgb C cf rs b N y ks β a.snd f l n K }
 | .cond c x y,ks,_,ann,f,l,n,K=>ZVg b ks ann f l n K λks β a f l n K=>match c with
  | .tmp t=>match lkE f t with
   | some ⟨_,s,.data .bool q⟩=>ifb q (Zgb C cf rs b N x ks β a.fst (⟨t,s,.data .bool true⟩ :: f) l n K) (Zgb C cf rs b N y ks β a.snd (⟨t,s,.data .bool false⟩ :: f) l n K)
   | _=>none
  | .const (.bool true)=>Zgb C cf rs b N x ks β a.fst f l n K
  | .const (.bool false)=>Zgb C cf rs b N y ks β a.snd f l n K
  | _=>none
 | .block id x,ks,_,ann,f,l,n,K=>ZVg b ks ann f l n K λks β a f l n K=>Zgb C cf rs b N x ks β a.fst f l n { K with exit:=λi=>match Nat.beq i id with
  | true=>K.norm
  | false=>K.exit i }
 | .loop x,ks,_,ann,f,l,n,K=>loopI b ann f l n K λβ a f l n K=>Zgb C cf rs b N x ks β a.fst f l n K
 | .scope x,ks,_,ann,f,l,n,K=>Zgb C cf rs b N x ks _ ann.fst f l n K
 | .exit i,_,_,_,f,l,n,K=>K.exit i f l n
 | .ret,_,_,_,f,l,n,K=>match Zek f l C.P rs with
  | some c=>K.ret c l n
  | none=>none
 | _,_,_,_,_,_,_,_=>none
def endN {α:Type} (fn:Func) (K:V→Lo→Nat→Option α) (_:Fr) (l:Lo) (n:Nat):Option α:=match fn.results.toList with
 | []=>K .nl l n
 | _=>none
abbrev Inl:=List (FuncId×Func×Ann)
def selA:Ann→Fr→Ann
 | .sel i a b,f=>match lkE f i with
  | some ⟨_,_,.row _ _ _ _ _ _⟩=>selA a f
  | _=>selA b f
 | a,_=>a
def ZPh (n:Nat):Lo→Bool
 | []=>true
 | e :: r=>match e.x with
  | .box _ _=>match Nat.blt e.st n with
   | true=>ZPh n r
   | false=>false
  | _=>ZPh n r
def callB {α:Type} (cb:ConB) (ags:V) (l:Lo) (n:Nat) (K:V→Lo→Nat→Option α):Option α:=match ags with
 | .cons (.ptr u 0) rest=>ZEa n (ZId cb.args rest λx=>ZFc 0 (.box cb.ty cb.c) u λz=>.bind (cb.F z x) λr=>.done r) [] l λr _ l'=>match ZPh n l' with
  | true=>match Z1 0 (.box cb.ty cb.c) r.1 u (n+1) with
   | (l2,m)=>K (ZJc cb.res r.2) (l2++l') m
  | false=>none
 | _=>none
def ZRe (C:Cf) (inl:Inl):Nat→CallF
 | 0,_,_,_,_,_,_=>none
 | d+1,α,g,ags,l,n,K=>match ZP C.boxs g with
  | some cb=>callB cb ags l n K
  | none=>match ZP inl g with
   | some (fn,ann)=>match fn.body,Nat.ble (lenV ags) fn.ntmps with
    | some c,true=>Zgb C (ZRe C inl d) fn.results.toList n fn.ntmps c [] α (selA ann (Zyb n 0 ags)) (Zyb n 0 ags) l (n+1) ⟨endN fn K,λ_ _ _ _=>none,K⟩
    | _,_=>none
   | none=>none
def Z3b:(ts:List T)→Zw ts→V
 | [],_=>.nl
 | [t],x=>.cons (.data t x) .nl
 | t :: u :: r,x=>.cons (.data t x.1) (Z3b (u :: r) x.2)
def ZJh (C:Cf) (inl:Inl) (fn:Func) (ann:Ann) (ats rts:List T) (x:Zw ats):Option (Zw rts):=match fn.body with
 | some c=>Zgb C (ZRe C inl 20) fn.results.toList 0 fn.ntmps c [] _ ann (Zyb 0 0 (Z3b ats x)) [] 1 ⟨λ_ _ _=>none,λ_ _ _ _=>none,λc l n=>ZEa n (ZId rts c λy=>.done y) [] l λy _ _=>some y⟩
 | none=>none
variable {P:Program} {K:Nat} {w0:Base} {v0:Zb} {σ:List (Nat×Value)} {ℓ:List Loc} {v:Zb} {a:Act} {w:World}
def OwnR {α:Type} (A:Rep α) (T:TypeId) (sz:Nat) (l:List α) (w:World) (r:Value) (v':Zb) (w':World):Prop :=
 ∃ ob n cap cs,r = .slice (mkA ob) n cap∧(Loc.own ob T sz n cap cs).holds w'∧(∀ b,ob=some b→w.heap.size≤b∧v' b=none)∧A.rels v' cs l∧n=l.length
def RetO (P:Program) (f:FuncId) (args:Array Value) (w:World) (v:Zb) (R:Value→Zb→World→Prop):Prop :=
 Calls P f args w λe w'=>∃ r v',e = .returned r∧Ext w w'∧VStep w v w' v'∧R r v' w'
theorem ZPk {f:FuncId} {fn:Func} {c:Code} {args:List Value} {w:World} {v:Zb} {R:Value→Zb→World→Prop} (hv:VIn v w) (hf:P.funcs[f]? = some fn) (hb:fn.body=some c) (hK:fn.ntmps=K) (hl:args.length≤K)
  (h:∀ a,St K w v (Z0b 0 args) [] v a w→c.wp P (bodyPost P fn λe w'=>∃ r v',e = .returned r∧Ext w w'∧VStep w v w' v'∧R r v' w') a w):RetO P f args.toArray w v R :=
 calls_of_wp hf hb (by subst hK;exact h _ (St.enter hv args hl))
theorem ZRm {α:Type} {A:Rep α} {w0:World} {fn:Func} (hS:St K w0 v0 σ ℓ v a w) {i n cap sz:Nat} {ob:Option Nat} {T:TypeId} {cs:List Value} {l:List α} (hi:ℓ[i]? = some (.own ob T sz n cap cs)) (hr:(results fn a.tmps).run P w = .ok (.slice (mkA ob) n cap) w) (hA:A.rels v cs l) (hn:n=l.length) :
  bodyPost P fn (λe w'=>∃ r v',e = .returned r∧Ext w0 w'∧VStep w0 v0 w' v'∧OwnR A T sz l w0 r v' w') .ret a w:=by
 obtain⟨hh,hb⟩:=hS.loc _ (mG hi);refine⟨hS.dfr,_,hr,_,v,rfl,hS.ext.ext,hS.vst.ext,ob,n,cap,cs,rfl,hh,λb e=>?_,hA,hn⟩;obtain⟨h1,h2⟩:=hb b e;rcases h1 with h1 | h1
 ·exact⟨h1,h2⟩
 ·exact absurd h1 (by simp)
end Go.Eng
namespace Go.Eng
open Go.RowKit
inductive Gh where
 | box (b:Nat)
 | own (ob:Option Nat) (cap:Nat)
 | mat (ob:Option Nat) (cap:Nat) (rows:List (Option Nat×Nat))
def V.val (x:V) (cs:List Value):Value:=match x.isAgg with
 | true=>.agg cs.toArray
 | false=>cs.headD Go.undef
def Z7j (γ:Nat→Gh) (u:Nat):LV→Value→Prop
 | .own _ _ xs _,y=>∃ ob cap,γ u = .own ob cap∧y = .slice (mkA ob) xs.length cap
 | .mat _ _ _ m _,y=>∃ ob cap rows,γ u = .mat ob cap rows∧y = .slice (mkA ob) m.length cap
 | .mid _ _ _ m _ _,y=>∃ ob cap rows,γ u = .mat ob cap rows∧y = .slice (mkA ob) m.length cap
 | .box _ _,_=>False
def Zmj (γ:Nat→Gh) (u off:Nat):LV→Value→Prop
 | .box _ _,y=>∃ b,γ u = .box b∧y = .pointer (some ⟨b,off,none⟩)
 | _,_=>False
def okEl (γ:Nat→Gh) (u i cv:Nat) (t:T) (x:t.den) (off st:Nat):LV→Value→Prop
 | .own _ s xs _,y=>∃ b cap,γ u = .own (some b) cap∧y = .pointer (some ⟨b,0+i*s.n+off,none⟩)∧i<xs.length∧(st=cv→∃ ys,ZUb s t xs=some ys∧ys[i]? = some x)
 | .box _ _,y=>∃ b,γ u = .box b∧y = .pointer (some ⟨b,0+i*t.n+off,none⟩)
 | _,_=>False
def okRp (γ:Nat→Gh) (u i cv:Nat) (t:T) (r:List t.den) (st:Nat):LV→Value→Prop
 | .mat _ _ s m _,y=>∃ b cap rows,γ u = .mat (some b) cap rows∧y = .pointer (some ⟨b,0+i*1,none⟩)∧i<m.length∧(st=cv→∃ m',Zrb s t m=some m'∧m'[i]? = some r)
 | .mid _ _ s m _ _,y=>∃ b cap rows,γ u = .mat (some b) cap rows∧y = .pointer (some ⟨b,0+i*1,none⟩)∧i<m.length∧(st=cv→∃ m',Zrb s t m=some m'∧m'[i]? = some r)
 | .own _ _ _ _,_=>True
 | _,_=>False
def ZKk (γ:Nat→Gh) (u i hv cv:Nat) (t:T) (r:List t.den) (st:Nat):LV→Value→Prop
 | .mat _ _ s m hv',y=>hv'=hv→∃ ob cap rows obi capi,γ u = .mat ob cap rows∧rows[i]? = some (obi,capi)∧y = .slice (mkA obi) r.length capi∧(∃ ri,m[i]? = some ri∧ri.length=r.length)∧(st=cv→∃ m',Zrb s t m=some m'∧m'[i]? = some r)
 | .mid _ _ s m hv' _,y=>hv'=hv→∃ ob cap rows obi capi,γ u = .mat ob cap rows∧rows[i]? = some (obi,capi)∧y = .slice (mkA obi) r.length capi∧(∃ ri,m[i]? = some ri∧ri.length=r.length)∧(st=cv→∃ m',Zrb s t m=some m'∧m'[i]? = some r)
 | .own _ _ _ _,_=>True
 | _,_=>False
def Z2j (γ:Nat→Gh) (u i j hv cv:Nat) (t:T) (r:List t.den) (x:t.den) (off st:Nat):LV→Value→Prop
 | .mat _ _ s m hv',y=>hv'=hv→∃ ob cap rows bi capi,γ u = .mat ob cap rows∧rows[i]? = some (some bi,capi)∧y = .pointer (some ⟨bi,0+j*s.n+off,none⟩)∧(∃ ri,m[i]? = some ri∧ri.length=r.length)∧j<r.length∧(st=cv→(∃ m',Zrb s t m=some m'∧m'[i]? = some r)∧r[j]? = some x)
 | .mid _ _ s m hv' _,y=>hv'=hv→∃ ob cap rows bi capi,γ u = .mat ob cap rows∧rows[i]? = some (some bi,capi)∧y = .pointer (some ⟨bi,0+j*s.n+off,none⟩)∧(∃ ri,m[i]? = some ri∧ri.length=r.length)∧j<r.length∧(st=cv→(∃ m',Zrb s t m=some m'∧m'[i]? = some r)∧r[j]? = some x)
 | .own _ _ _ _,_=>True
 | _,_=>False
def RR (v:Zb) (γ:Nat→Gh) (l:Lo):Bool→V→List Value→Prop
 | false,.data t x,cs=>t.rep.rel v cs x
 | false,.nilS,cs=>cs=[.slice none 0 0]
 | false,.own u,cs=>∃ y,cs=[y]∧plain y=true∧∀ e,lkE l u=some e→Z7j γ u e.x y
 | false,.row u i hv cv t r,cs=>∃ y,cs=[y]∧plain y=true∧∀ e,lkE l u=some e→ZKk γ u i hv cv t r e.st e.x y
 | false,.ptr u off,cs=>∃ y,cs=[y]∧plain y=true∧∀ e,lkE l u=some e→Zmj γ u off e.x y
 | false,.el u i cv t x off,cs=>∃ y,cs=[y]∧plain y=true∧(∃ c,t.rep.rel v c x)∧∀ e,lkE l u=some e→okEl γ u i cv t x off e.st e.x y
 | false,.rp u i _ cv t r,cs=>∃ y,cs=[y]∧plain y=true∧∀ e,lkE l u=some e→okRp γ u i cv t r e.st e.x y
 | false,.rel u i j hv cv t r x off,cs=>∃ y,cs=[y]∧plain y=true∧∀ e,lkE l u=some e→Z2j γ u i j hv cv t r x off e.st e.x y
 | false,.vp t x off,cs=>∃ b o c,At v b o c∧t.rep.rel v c x∧cs=[.pointer (some ⟨b,o+off,none⟩)]
 | false,.nl,cs=>cs=[]
 | false,.cons a b,cs=>∃ c1 c2,cs=c1++c2∧RR v γ l false a c1∧RR v γ l false b c2
 | false,.agg c,cs=>RR v γ l false c cs
 | false,.tup _,_=>False
 | false,.fn f c,cs=>∃ vs,RR v γ l true c vs∧cs=[.func (.func f) #[] vs.toArray]
 | false,.ifc ty c,cs=>∃ cc,RR v γ l false c cc∧cs=[.iface ty (c.val cc)]
 | false,.undef,cs=>cs=[undef]
 | true,.nl,cs=>cs=[]
 | true,.cons a b,cs=>∃ c xs,cs=a.val c :: xs∧RR v γ l false a c∧RR v γ l true b xs
 | true,_,_=>False
def RV (v:Zb) (γ:Nat→Gh) (l:Lo) (x:V) (y:Value):Prop:=match x with
 | .tup c=>∃ vs,RR v γ l true c vs∧y = .tuple vs.toArray
 | x=>∃ cs,RR v γ l false x cs∧y=x.val cs
def V.ok (U:Nat→Prop):V→Prop
 | .own u=>U u
 | .row u _ hv cv _ _=>U u∧U hv∧U cv
 | .ptr u _=>U u
 | .el u _ cv _ _ _=>U u∧U cv
 | .rp u _ hv cv _ _=>U u∧U hv∧U cv
 | .rel u _ _ hv cv _ _ _ _=>U u∧U hv∧U cv
 | .cons a b=>a.ok U∧b.ok U
 | .agg c=>c.ok U
 | .tup c=>c.ok U
 | .fn _ c=>c.ok U
 | .ifc _ c=>c.ok U
 | _=>True
theorem V.ok.mono {U U':Nat→Prop} (h:∀ n,U n→U' n):∀ {x:V},x.ok U→x.ok U'
 | .own _,k=>h _ k
 | .row _ _ _ _ _ _,k=>⟨h _ k.1,h _ k.2.1,h _ k.2.2⟩
 | .ptr _ _,k=>h _ k
 | .el _ _ _ _ _ _,k=>⟨h _ k.1,h _ k.2⟩
 | .rp _ _ _ _ _ _,k=>⟨h _ k.1,h _ k.2.1,h _ k.2.2⟩
 | .rel _ _ _ _ _ _ _ _ _,k=>⟨h _ k.1,h _ k.2.1,h _ k.2.2⟩
 | .cons _ _,k=>⟨V.ok.mono h k.1,V.ok.mono h k.2⟩
 | .agg c,k=>V.ok.mono (x:=c) h k
 | .tup c,k=>V.ok.mono (x:=c) h k
 | .fn _ c,k=>V.ok.mono (x:=c) h k
 | .ifc _ c,k=>V.ok.mono (x:=c) h k
 | .data _ _,_=>trivial
 | .nilS,_=>trivial
 | .vp _ _ _,_=>trivial
 | .nl,_=>trivial
 | .undef,_=>trivial
def CEm (U:Nat→Prop) (γ γ':Nat→Gh) (u:Nat) (st st':Nat) (t:T) (m:List (List t.den)) (hv:Nat) (t':T) (m':List (List t'.den)) (hv':Nat):Prop:=t'=t∧m'.length=m.length∧(∃ ob cap rows rows',γ u = .mat ob cap rows∧γ' u = .mat ob cap rows'∧(U hv'→hv'=hv∧rows'=rows∧m'.map List.length=m.map List.length))∧(U st'→st'=st∧(⟨t',m'⟩:(t:T)×List (List t.den))=⟨t,m⟩)
def CE (U:Nat→Prop) (γ γ':Nat→Gh) (u:Nat) (st st':Nat) (L L':LV):Prop:=match L,L' with
 | .box _ _,.box _ _=>γ' u=γ u
 | .own _ t xs _,.own _ t' xs' _=>γ' u=γ u∧t'=t∧xs'.length=xs.length∧(U st'→st'=st∧(⟨t',xs'⟩:(t:T)×List t.den)=⟨t,xs⟩)
 | .mat _ _ t m hv,.mat _ _ t' m' hv'=>CEm U γ γ' u st st' t m hv t' m' hv'
 | .mat _ _ t m hv,.mid _ _ t' m' hv' _=>CEm U γ γ' u st st' t m hv t' m' hv'
 | .mid _ _ t m hv _,.mat _ _ t' m' hv'=>CEm U γ γ' u st st' t m hv t' m' hv'
 | .mid _ _ t m hv _,.mid _ _ t' m' hv' _=>CEm U γ γ' u st st' t m hv t' m' hv'
 | .mid _ _ _ m _ _,.own _ _ xs' _=>∃ ob cap rows,γ u = .mat ob cap rows∧γ' u = .own ob cap∧xs'.length=m.length
 | .mat _ _ _ m _,.own _ _ xs' _=>∃ ob cap rows,γ u = .mat ob cap rows∧γ' u = .own ob cap∧xs'.length=m.length
 | _,_=>False
structure Le (U:Nat→Prop) (v:Zb) (γ:Nat→Gh) (l:Lo) (v':Zb) (γ':Nat→Gh) (l':Lo):Prop where
 v:v.le v'
 l:∀ u e',U u→lkE l' u=some e'→∃ e,lkE l u=some e∧CE U γ γ' u e.st e'.st e.x e'.x
theorem Zzp {α β:Type} {m:List (List α)} {m':List (List β)} (h:m'.map List.length=m.map List.length) {i:Nat} {r:List α} (hr:m[i]? = some r):∃ r',m'[i]? = some r'∧r'.length=r.length:=by
 have:=congrArg (·[i]?) h;simp only[List.getElem?_map,hr,Option.map_some]at this
 cases hm:m'[i]? with
 | none=>rw[hm]at this;cases this
 | some r'=>rw[hm]at this;exact⟨r',rfl,Option.some.inj this⟩
section
variable {U:Nat→Prop} {v v':Zb} {γ γ':Nat→Gh} {l l':Lo}
theorem Zrv {u:Nat} {L L':LV} {st st':Nat} {y:Value} (h:Z7j γ u L y) (c:CE U γ γ' u st st' L L'):Z7j γ' u L' y:=by
 have key:∀ {t t':T} {m:List (List t.den)} {m':List (List t'.den)} {hv hv':Nat},(∃ ob cap rows,γ u = .mat ob cap rows∧y = .slice (mkA ob) m.length cap)→CEm U γ γ' u st st' t m hv t' m' hv'→∃ ob cap rows,γ' u = .mat ob cap rows∧y = .slice (mkA ob) m'.length cap:=by
  rintro t t' m m' hv hv' ⟨ob',cap',rows2,h5,h6⟩ ⟨h1,h2,⟨ob,cap,rows,rows',h3,h4,_⟩,_⟩;rw[h3]at h5;cases h5;exact⟨_,_,rows',h4,by rw[h6,h2]⟩
 have key2:∀ {t:T} {m:List (List t.den)} {t':T} {xs':List t'.den},(∃ ob cap rows,γ u = .mat ob cap rows∧y = .slice (mkA ob) m.length cap)→(∃ ob cap rows,γ u = .mat ob cap rows∧γ' u = .own ob cap∧xs'.length=m.length)→∃ ob cap,γ' u = .own ob cap∧y = .slice (mkA ob) xs'.length cap:=by
  rintro t m t' xs' ⟨ob',cap',rows',h4,h5⟩ ⟨ob,cap,rows,h1,h2,h3⟩;rw[h1]at h4;cases h4;exact⟨_,_,h2,by rw[h5,h3]⟩
 cases L <;> cases L' <;> simp only[CE]at c <;> simp only[Z7j]at h ⊢
 ·obtain⟨h1,h2,h3,_⟩:=c;obtain⟨ob,cap,h4,h5⟩:=h;exact⟨ob,cap,by rw[h1,h4],by rw[h5,h3]⟩
 all_goals first | exact key h c | exact key2 h c
theorem ZPu {u off:Nat} {L L':LV} {st st':Nat} {y:Value} (h:Zmj γ u off L y) (c:CE U γ γ' u st st' L L'):Zmj γ' u off L' y:=by
 cases L <;> cases L' <;> simp only[CE]at c <;> simp only[Zmj]at h ⊢
 obtain⟨b,h1,h2⟩:=h;exact⟨b,by rw[c,h1],h2⟩
theorem ZbA {u i cv:Nat} {t:T} {x:t.den} {off:Nat} {L L':LV} {st st':Nat} {y:Value} (hU:U cv) (h:okEl γ u i cv t x off st L y) (c:CE U γ γ' u st st' L L'):okEl γ' u i cv t x off st' L' y:=by
 cases L <;> cases L' <;> simp only[CE]at c <;> simp only[okEl]at h ⊢
 ·obtain⟨b,h5,h6⟩:=h;exact⟨b,by rw[c,h5],h6⟩
 rename_i ty t1 xs fz ty' t2 xs' fz';obtain⟨h1,h2,h3,h4⟩:=c;subst h2;obtain⟨b,cap,h5,h6,h7,h8⟩:=h;refine⟨b,cap,by rw[h1,h5],h6,by omega,λe=>?_⟩;subst e;obtain⟨e1,e2⟩:=h4 hU
 cases e2
 exact h8 e1.symm
theorem ZSz {u i cv:Nat} {t:T} {r:List t.den} {L L':LV} {st st':Nat} {y:Value} (hU:U cv) (h:okRp γ u i cv t r st L y) (c:CE U γ γ' u st st' L L'):okRp γ' u i cv t r st' L' y:=by
 have key:∀ {t1 t2:T} {m:List (List t1.den)} {m':List (List t2.den)} {hv hv':Nat},(∃ b cap rows,γ u = .mat (some b) cap rows∧y = .pointer (some ⟨b,0+i*1,none⟩)∧i<m.length∧(st=cv→∃ m',Zrb t1 t m=some m'∧m'[i]? = some r))→CEm U γ γ' u st st' t1 m hv t2 m' hv'→∃ b cap rows,γ' u = .mat (some b) cap rows∧y = .pointer (some ⟨b,0+i*1,none⟩)∧i<m'.length∧(st'=cv→∃ m2,Zrb t2 t m'=some m2∧m2[i]? = some r):=by
  intro t1 t2 m m' hv hv' h c;obtain⟨h2,h3,⟨ob,cap,rows,rows',g1,g2,_⟩,h4⟩:=c;subst h2;obtain⟨b,cap',rw',h5,h6,h7,h8⟩:=h;rw[g1]at h5;cases h5;refine⟨b,cap,rows',g2,h6,by omega,λe=>?_⟩;subst e;obtain⟨e1,e2⟩:=h4 hU
  cases e2
  exact h8 e1.symm
 cases L <;> cases L' <;> simp only[CE]at c <;> simp only[okRp]at h ⊢
 all_goals exact key h c
theorem Zky {u i hv cv:Nat} {t:T} {r:List t.den} {L L':LV} {st st':Nat} {y:Value} (hH:U hv) (hU:U cv) (h:ZKk γ u i hv cv t r st L y) (c:CE U γ γ' u st st' L L'):ZKk γ' u i hv cv t r st' L' y:=by
 have key:∀ {t1 t2:T} {m:List (List t1.den)} {m':List (List t2.den)} {hv1 hv2:Nat},(hv1=hv→∃ ob cap rows obi capi,γ u = .mat ob cap rows∧rows[i]? = some (obi,capi)∧y = .slice (mkA obi) r.length capi∧(∃ ri,m[i]? = some ri∧ri.length=r.length)∧(st=cv→∃ m2,Zrb t1 t m=some m2∧m2[i]? = some r))→CEm U γ γ' u st st' t1 m hv1 t2 m' hv2→(hv2=hv→∃ ob cap rows obi capi,γ' u = .mat ob cap rows∧rows[i]? = some (obi,capi)∧y = .slice (mkA obi) r.length capi∧(∃ ri,m'[i]? = some ri∧ri.length=r.length)∧(st'=cv→∃ m2,Zrb t2 t m'=some m2∧m2[i]? = some r)):=by
  intro t1 t2 m m' hv1 hv2 h c;obtain⟨h2,h3,⟨ob,cap,rows,rows',g1,g2,g3⟩,h4⟩:=c;subst h2;intro e;subst e;obtain⟨e1,e2,e3⟩:=g3 hH;obtain⟨ob',cap',rw',obi,capi,k1,k2,k3,⟨ri,k4,k5⟩,k6⟩:=h e1.symm;rw[g1]at k1;cases k1;subst e2;obtain⟨r',q1,q2⟩:=Zzp e3 k4;refine⟨ob,cap,_,obi,capi,g2,k2,k3,⟨r',q1,by omega⟩,λe=>?_⟩;subst e;obtain⟨f1,f2⟩:=h4 hU
  cases f2
  exact k6 f1.symm
 cases L <;> cases L' <;> simp only[CE]at c <;> simp only[ZKk]at h ⊢
 all_goals exact key h c
theorem ZJx {u i j hv cv:Nat} {t:T} {r:List t.den} {x:t.den} {off:Nat} {L L':LV} {st st':Nat} {y:Value} (hH:U hv) (hU:U cv) (h:Z2j γ u i j hv cv t r x off st L y) (c:CE U γ γ' u st st' L L'):Z2j γ' u i j hv cv t r x off st' L' y:=by
 have key:∀ {t1 t2:T} {m:List (List t1.den)} {m':List (List t2.den)} {hv1 hv2:Nat},(hv1=hv→∃ ob cap rows bi capi,γ u = .mat ob cap rows∧rows[i]? = some (some bi,capi)∧y = .pointer (some ⟨bi,0+j*t1.n+off,none⟩)∧(∃ ri,m[i]? = some ri∧ri.length=r.length)∧j<r.length∧(st=cv→(∃ m2,Zrb t1 t m=some m2∧m2[i]? = some r)∧r[j]? = some x))→CEm U γ γ' u st st' t1 m hv1 t2 m' hv2→(hv2=hv→∃ ob cap rows bi capi,γ' u = .mat ob cap rows∧rows[i]? = some (some bi,capi)∧y = .pointer (some ⟨bi,0+j*t2.n+off,none⟩)∧(∃ ri,m'[i]? = some ri∧ri.length=r.length)∧j<r.length∧(st'=cv→(∃ m2,Zrb t2 t m'=some m2∧m2[i]? = some r)∧r[j]? = some x)):=by
  intro t1 t2 m m' hv1 hv2 h c;obtain⟨h2,h3,⟨ob,cap,rows,rows',g1,g2,g3⟩,h4⟩:=c;subst h2;intro e;subst e;obtain⟨e1,e2,e3⟩:=g3 hH;obtain⟨ob',cap',rw',bi,capi,k1,k2,k3,⟨ri,k4,k5⟩,k6,k7⟩:=h e1.symm;rw[g1]at k1;cases k1;subst e2;obtain⟨r',q1,q2⟩:=Zzp e3 k4;refine⟨ob,cap,_,bi,capi,g2,k2,k3,⟨r',q1,by omega⟩,k6,λe=>?_⟩;subst e;obtain⟨f1,f2⟩:=h4 hU
  cases f2
  exact k7 f1.symm
 cases L <;> cases L' <;> simp only[CE]at c <;> simp only[Z2j]at h ⊢
 all_goals exact key h c
theorem Zcb (h:Le U v γ l v' γ' l'):∀ {x:V} {m:Bool} {cs:List Value},x.ok U→RR v γ l m x cs→RR v' γ' l' m x cs:=by
 intro x
 induction x with
 | data t x=>intro m cs hk hr;cases m <;> first | exact Rep.mono _ h.v hr | exact hr
 | nilS=>intro m cs hk hr;cases m <;> first | exact hr | exact hr
 | own u =>
  intro m cs hk hr;cases m
  ·obtain⟨y,h1,hp,h2⟩:=hr;refine⟨y,h1,hp,λe' he=>?_⟩;obtain⟨e,h3,h4⟩:=h.l u e' hk he;exact Zrv (h2 e h3) h4
  ·exact hr
 | row u i hv cv t r =>
  intro m cs hk hr;cases m
  ·obtain⟨y,h1,hp,h2⟩:=hr;refine⟨y,h1,hp,λe' he=>?_⟩;obtain⟨e,h3,h4⟩:=h.l u e' hk.1 he;exact Zky hk.2.1 hk.2.2 (h2 e h3) h4
  ·exact hr
 | ptr u off =>
  intro m cs hk hr;cases m
  ·obtain⟨y,h1,hp,h2⟩:=hr;refine⟨y,h1,hp,λe' he=>?_⟩;obtain⟨e,h3,h4⟩:=h.l u e' hk he;exact ZPu (h2 e h3) h4
  ·exact hr
 | el u i cv t x off =>
  intro m cs hk hr;cases m
  ·obtain⟨y,h1,hp,⟨c0,hc0⟩,h2⟩:=hr;refine⟨y,h1,hp,⟨c0,Rep.mono _ h.v hc0⟩,λe' he=>?_⟩;obtain⟨e,h3,h4⟩:=h.l u e' hk.1 he;exact ZbA hk.2 (h2 e h3) h4
  ·exact hr
 | rp u i hv cv t r =>
  intro m cs hk hr;cases m
  ·obtain⟨y,h1,hp,h2⟩:=hr;refine⟨y,h1,hp,λe' he=>?_⟩;obtain⟨e,h3,h4⟩:=h.l u e' hk.1 he;exact ZSz hk.2.2 (h2 e h3) h4
  ·exact hr
 | rel u i j hv cv t r x off =>
  intro m cs hk hr;cases m
  ·obtain⟨y,h1,hp,h2⟩:=hr;refine⟨y,h1,hp,λe' he=>?_⟩;obtain⟨e,h3,h4⟩:=h.l u e' hk.1 he;exact ZJx hk.2.1 hk.2.2 (h2 e h3) h4
  ·exact hr
 | vp t x off =>
  intro m cs hk hr;cases m
  ·obtain⟨b,o,c,h1,h2,h3⟩:=hr;exact⟨b,o,c,At.mono h.v h1,Rep.mono _ h.v h2,h3⟩
  ·exact hr
 | nl=>intro m cs hk hr;cases m <;> first | exact hr | exact hr
 | cons a b ia ib =>
  intro m cs hk hr;cases m
  ·obtain⟨c1,c2,h1,h2,h3⟩:=hr;exact⟨c1,c2,h1,ia hk.1 h2,ib hk.2 h3⟩
  ·obtain⟨c,xs,h1,h2,h3⟩:=hr;exact⟨c,xs,h1,ia hk.1 h2,ib hk.2 h3⟩
 | agg c ih=>intro m cs hk hr;cases m <;> first | exact ih (m:=false) hk hr | exact hr
 | tup c ih=>intro m cs hk hr;cases m <;> first | exact hr | exact hr
 | fn f c ih =>
  intro m cs hk hr;cases m
  ·obtain⟨vs,h1,h2⟩:=hr;exact⟨vs,ih (m:=true) hk h1,h2⟩
  ·exact hr
 | ifc ty c ih =>
  intro m cs hk hr;cases m
  ·obtain⟨vs,h1,h2⟩:=hr;exact⟨vs,ih (m:=false) hk h1,h2⟩
  ·exact hr
 | undef=>intro m cs hk hr;cases m <;> first | exact hr | exact hr
theorem Z6a (h:Le U v γ l v' γ' l') {x:V} {y:Value} (hk:x.ok U) (hr:RV v γ l x y):RV v' γ' l' x y:=by
 cases x <;> simp only[RV]at hr ⊢ <;> obtain⟨cs,h1,h2⟩:=hr <;> exact⟨cs,Zcb h hk h1,h2⟩
end
end Go.Eng
namespace Go.Eng
open Go.RowKit
def F2 {α β:Type} (R:α→β→Prop):List α→List β→Prop
 | [],[]=>True
 | a :: l,b :: m=>R a b∧F2 R l m
 | _,_=>False
theorem F2.imp {α β:Type} {R R':α→β→Prop}:∀ {l:List α} {m:List β},(∀ a ∈ l,∀ b,R a b→R' a b)→F2 R l m→F2 R' l m
 | [],[],_,_=>trivial
 | a :: l,b :: m,h,k=>⟨h a (by simp) b k.1,F2.imp (λx hx y=>h x (by simp[hx]) y) k.2⟩
 | [],_ :: _,_,k=>k.elim
 | _ :: _,[],_,k=>k.elim
def Zn {α:Type}:List (Option Nat×Nat)→List (List α)→List Value
 | p :: ps,r :: rs=>.slice (mkA p.1) r.length p.2 :: Zn ps rs
 | _,_=>[]
def Zga (v:Zb) (ty:TypeId) (t:T):List (Option Nat×Nat)→List (List t.den)→List Loc→Prop
 | [],[],es=>es=[]
 | p :: ps,r :: rs,es=>∃ cs es',t.rep.rels v cs r∧es = .own p.1 ty t.n r.length p.2 cs :: es'∧Zga v ty t ps rs es'
 | _,_,_=>False
def MidR {t:T} (rows:List (Option Nat×Nat)) (m:List (List t.den)) (es2:List Loc) (hs:List Value) (es3:List Loc):Mid→Prop
 | .hol i=>hs=Zn rows m∧∃ e1 c e2,es2=e1++c :: e2∧e1.length=i∧es3=e1++e2
 | .swp i j=>es3=es2∧i<m.length∧∃ h,(Zn rows m)[j]? = some h∧hs=(Zn rows m).set i h
def Zra (v:Zb) (γ:Nat→Gh) (l:Lo) (e:En LV) (es:List Loc):Prop:=match e.x with
 | .box ty c=>∃ b cs,γ e.k = .box b∧RR v γ l false c cs∧cs.all plain=true∧es=[.box b ty cs]
 | .own ty t xs false=>∃ ob cap cs,γ e.k = .own ob cap∧t.rep.rels v cs xs∧es=[.own ob ty t.n xs.length cap cs]
 | .own _ t xs true=>∃ ob cap,γ e.k = .own ob cap∧(Zp t.rep).rel v [.slice (mkA ob) xs.length cap] xs∧es=[]
 | .mat ty ty2 t m _=>∃ ob cap rows es2,γ e.k = .mat ob cap rows∧Zga v ty2 t rows m es2∧es = .own ob ty 1 m.length cap (Zn rows m) :: es2
 | .mid ty ty2 t m _ s=>∃ ob cap rows es2 hs es3,γ e.k = .mat ob cap rows∧Zga v ty2 t rows m es2∧MidR rows m es2 hs es3 s∧es = .own ob ty 1 m.length cap hs :: es3
def LV.ok (U X:Nat→Prop):LV→Prop
 | .box _ c=>c.ok U
 | .own _ _ _ _=>True
 | .mat _ _ _ _ hv=>X hv
 | .mid _ _ _ _ hv _=>X hv
theorem LV.ok.mono {U U' X X':Nat→Prop} (h:∀ n,U n→U' n) (h':∀ n,X n→X' n) {L:LV} (k:L.ok U X):L.ok U' X':=by
 cases L
 ·exact V.ok.mono h k
 ·trivial
 ·exact h' _ k
 ·exact h' _ k
structure RelX (N:Nat) (G:V→Value→Prop) (w0:Base) (v0:Zb) (U X:Nat→Prop) (f:Fr) (l:Lo) (a:Act) (w:World) (γ:Nat→Gh) (v:Zb) (ℓ:List Loc):Prop where
 st:St N w0 v0 [] ℓ v a w
 fr:∀ t e,lkE f t=some e→RV v γ l e.x (a.tmps.getD t undef)
 lr:∃ E,F2 (Zra v γ l) l E∧ℓ.Perm E.flatten
 nd:(l.map En.k).Nodup
 uf:∀ t e,lkE f t=some e→e.x.ok U∧X e.st
 ul:∀ e ∈ l,X e.k∧X e.st∧e.x.ok U X
 gh:∀ x y,G x y→RV v γ l x y∧x.ok U
def Rel (N:Nat) (G:V→Value→Prop) (w0:Base) (v0:Zb) (U:Nat→Prop) (f:Fr) (l:Lo) (a:Act) (w:World):Prop:=∃ γ v ℓ,RelX N G w0 v0 U U f l a w γ v ℓ
theorem Zl {β:Type}:∀ {l:List (En β)} {t:Nat} {e:En β},lkE l t=some e→e ∈ l∧e.k=t
 | [],_,_,h=>by cases h
 | p :: r,t,e,h=>by
  simp only[lkE]at h
  cases hb:Nat.beq p.k t
  ·rw[hb]at h;have:=Zl h;exact⟨by simp[this.1],this.2⟩
  ·rw[hb]at h;cases h;exact⟨by simp,eQ hb⟩
theorem ZE {β:Type} {p:En β} {r:List (En β)} {t:Nat}:lkE (p :: r) t=if p.k=t then some p else lkE r t:=by
 simp only[lkE]
 cases hb:Nat.beq p.k t
 ·rw[iN (λe=>by rw[e]at hb;simp at hb)]
 ·rw[iP (eQ hb)]
theorem Zoj {β:Type} {p:En β} {r:List (En β)} {t:Nat}:era (p :: r) t=if p.k=t then r else p :: era r t:=by
 simp only[era]
 cases hb:Nat.beq p.k t
 ·rw[iN (λe=>by rw[e]at hb;simp at hb)]
 ·rw[iP (eQ hb)]
theorem Z0h {β:Type} {l:List (En β)} {t:Nat}:∀ e ∈ era l t,e ∈ l:=by
 induction l with
 | nil=>intro e h;cases h
 | cons p r ih =>
  intro e h;rw[Zoj]at h;split at h
  ·simp[h]
  ·rcases List.mem_cons.1 h with h | h
   ·simp[h]
   ·simp[ih e h]
theorem ZAb {β:Type} {l:List (En β)} {t:Nat} (h:(l.map En.k).Nodup):((era l t).map En.k).Nodup∧t ∉ (era l t).map En.k:=by
 induction l with
 | nil=>simp[era]
 | cons p r ih =>
  simp only[List.map_cons,List.nodup_cons]at h;rw[Zoj];split
  ·rename_i hp;subst hp;exact⟨h.2,h.1⟩
  ·rename_i hp;obtain⟨i1,i2⟩:=ih h.2;refine⟨?_,?_⟩
   ·simp only[List.map_cons,List.nodup_cons];refine⟨λhm=>h.1 ?_,i1⟩;obtain⟨e,he,hk⟩:=List.mem_map.1 hm;exact List.mem_map.2 ⟨e,Z0h e he,hk⟩
   ·simp only[List.map_cons,List.mem_cons,not_or];exact⟨λe=>hp e.symm,i2⟩
theorem Z1h {β:Type} {l:List (En β)} {t:Nat} (h:t ∉ l.map En.k):lkE l t=none:=by
 cases hl:lkE l t with
 | none=>rfl
 | some e=>have:=Zl hl;exact absurd (List.mem_map.2 ⟨e,this.1,this.2⟩) h
theorem ZFg {β:Type} {l:List (En β)} {t:Nat} (h:lkE l t=none):t ∉ l.map En.k:=by
 induction l with
 | nil=>simp
 | cons p r ih =>
  rw[ZE]at h;split at h
  ·cases h
  ·rename_i hp;simp only[List.map_cons,List.mem_cons,not_or];exact⟨λe=>hp e.symm,ih h⟩
theorem ZJb {β:Type} {l:List (En β)} {t u:Nat} (h:(l.map En.k).Nodup):lkE (era l t) u=if t=u then none else lkE l u:=by
 split
 ·rename_i e;subst e;exact Z1h (ZAb h).2
 ·rename_i hne
  induction l with
  | nil=>rfl
  | cons p r ih =>
   simp only[List.map_cons,List.nodup_cons]at h;rw[Zoj];split
   ·rename_i hp;rw[ZE,iN (by omega)]
   ·rw[ZE,ZE];split
    ·rfl
    ·exact ih h.2
theorem ZYe {R:En LV→List Loc→Prop}:∀ {l:Lo} {E:List (List Loc)} {u:Nat} {e:En LV},F2 R l E→lkE l u=some e→∃ es E',R e es∧F2 R (era l u) E'∧E.flatten.Perm (es++E'.flatten)
 | [],_,_,_,_,h=>by cases h
 | p :: r,[],_,_,hf,_=>hf.elim
 | p :: r,es :: E,u,e,hf,h=>by
  rw[ZE]at h
  rw[Zoj]
  split at h
  ·rename_i hp;cases h;rw[iP hp];exact⟨es,E,hf.1,hf.2,List.Perm.refl _⟩
  ·rename_i hp
   rw[iN hp]
   obtain⟨es',E',h1,h2,h3⟩:=ZYe hf.2 h
   refine⟨es',es :: E',h1,⟨hf.1,h2⟩,?_⟩
   simp only[List.flatten_cons]
   exact ((List.Perm.append_left es h3).trans (by rw[← aAq,← aAq];exact List.Perm.append_right _ List.perm_append_comm))
theorem St.perm {K:Nat} {w0:Base} {v0:Zb} {σ:List (Nat×Value)} {ℓ ℓ':List Loc} {v:Zb} {a:Act} {w:World} (h:St K w0 v0 σ ℓ v a w) (p:ℓ.Perm ℓ'):St K w0 v0 σ ℓ' v a w :=
 ⟨h.size,h.dfr,h.fr,h.ext,h.vst,λe he=>h.loc e (p.mem_iff.2 he),(p.filterMap _).nodup_iff.1 h.nd⟩
section
variable {U:Nat→Prop} {v v':Zb} {γ γ':Nat→Gh} {l l':Lo}
theorem Zvc (h:v.le v') {ty:TypeId} {t:T}:∀ {rows:List (Option Nat×Nat)} {m:List (List t.den)} {es:List Loc},Zga v ty t rows m es→Zga v' ty t rows m es
 | [],[],_,k=>k
 | _ :: _,_ :: _,_,⟨cs,es',h1,h2,h3⟩=>⟨cs,es',ZO h h1,h2,Zvc h h3⟩
 | [],_ :: _,_,k=>k.elim
 | _ :: _,[],_,k=>k.elim
theorem ZWf {ty:TypeId} {t:T}:∀ {rows:List (Option Nat×Nat)} {m:List (List t.den)} {es:List Loc},Zga v ty t rows m es→rows.length=m.length
 | [],[],_,_=>rfl
 | _ :: _,_ :: _,_,⟨_,_,_,_,h3⟩=>by simp[ZWf h3]
 | [],_ :: _,_,k=>k.elim
 | _ :: _,[],_,k=>k.elim
theorem ZYg {X:Nat→Prop} (h:Le U v γ l v' γ' l') {e:En LV} {es:List Loc} (hk:e.x.ok U X) (hg:γ' e.k=γ e.k) (r:Zra v γ l e es):Zra v' γ' l' e es:=by
 obtain⟨k,st,x⟩:=e
 cases x with
 | box ty c =>
  obtain⟨b,cs,h1,h2,h3,h4⟩:=r;exact⟨b,cs,by rw[hg];exact h1,Zcb h hk h2,h3,h4⟩
 | own ty t xs fz =>
  cases fz with
  | false=>obtain⟨ob,cap,cs,h1,h2,h3⟩:=r;exact⟨ob,cap,cs,by rw[hg];exact h1,ZO h.v h2,h3⟩
  | true=>obtain⟨ob,cap,h1,h2,h3⟩:=r;exact⟨ob,cap,by rw[hg];exact h1,Rep.mono _ h.v h2,h3⟩
 | mat ty ty2 t m hv =>
  obtain⟨ob,cap,rows,es2,h1,h2,h3⟩:=r;exact⟨ob,cap,rows,es2,by rw[hg];exact h1,Zvc h.v h2,h3⟩
 | mid ty ty2 t m hv s =>
  obtain⟨ob,cap,rows,es2,hs,es3,h1,h2,h3,h4⟩:=r;exact⟨ob,cap,rows,es2,hs,es3,by rw[hg];exact h1,Zvc h.v h2,h3,h4⟩
theorem Z2g {e:En LV} {es:List Loc} (r:Zra v γ l e es) (hg:γ' e.k=γ e.k):CE U γ γ' e.k e.st e.st e.x e.x:=by
 obtain⟨k,st,x⟩:=e
 cases x with
 | box ty c=>exact hg
 | own ty t xs fz=>exact⟨hg,rfl,rfl,λ_=>⟨rfl,rfl⟩⟩
 | mat ty ty2 t m hv =>
  obtain⟨ob,cap,rows,es2,h1,_⟩:=r;exact⟨rfl,rfl,⟨ob,cap,rows,rows,h1,by rw[hg];exact h1,λ_=>⟨rfl,rfl,rfl⟩⟩,λ_=>⟨rfl,rfl⟩⟩
 | mid ty ty2 t m hv s =>
  obtain⟨ob,cap,rows,es2,hs,es3,h1,_⟩:=r;exact⟨rfl,rfl,⟨ob,cap,rows,rows,h1,by rw[hg];exact h1,λ_=>⟨rfl,rfl,rfl⟩⟩,λ_=>⟨rfl,rfl⟩⟩
theorem ZSd {R:En LV→List Loc→Prop}:∀ {l:Lo} {E:List (List Loc)} {e:En LV},F2 R l E→e ∈ l→∃ es,R e es
 | [],_,_,_,h=>by cases h
 | _ :: _,[],_,hf,_=>hf.elim
 | p :: r,es :: E,e,hf,h=>by
  rcases List.mem_cons.1 h with rfl | h
  ·exact⟨es,hf.1⟩
  ·exact ZSd hf.2 h
theorem Le.refl {E:List (List Loc)} (h:F2 (Zra v γ l) l E) (hv:v.le v'):Le U v γ l v' γ l :=
 ⟨hv,λu e' _ he=>⟨e',he,by
  obtain⟨hm,hk⟩:=Zl he
  obtain⟨es,hr⟩:=ZSd h hm
  have:=Z2g (U:=U) hr (rfl:γ e'.k=γ e'.k)
  rw[hk]at this;exact this⟩⟩
end
section
variable {N:Nat} {G:V→Value→Prop} {w0:Base} {v0:Zb} {U X:Nat→Prop} {f:Fr} {l:Lo} {a:Act} {w:World} {γ:Nat→Gh} {v:Zb} {ℓ:List Loc}
theorem RelX.upd (h:RelX N G w0 v0 U X f l a w γ v ℓ) {u n:Nat} {L':LV} {γ':Nat→Gh} {v':Zb} {w':World} {ℓ':List Loc} {es':List Loc} {E':List (List Loc)}
  (hn:X n) (huU:X u) (hE:F2 (Zra v γ l) (era l u) E') (hst:St N w0 v0 [] ℓ' v' a w') (hle:Le U v γ l v' γ' (⟨u,n,L'⟩ :: era l u)) (hg:∀ k,k≠u→γ' k=γ k)
  (hl:Zra v' γ' (⟨u,n,L'⟩ :: era l u) ⟨u,n,L'⟩ es') (hp:ℓ'.Perm (es'++E'.flatten)) (hok:L'.ok U X):RelX N G w0 v0 U X f (⟨u,n,L'⟩ :: era l u) a w' γ' v' ℓ':=by
 obtain⟨n1,n2⟩:=ZAb (t:=u) h.nd;refine⟨hst,λt e he=>Z6a hle (h.uf t e he).1 (h.fr t e he),⟨es' :: E',⟨hl,hE.imp λe he es hr=>?_⟩,hp⟩,?_,h.uf,λe he=>?_,λx y hg=>⟨Z6a hle (h.gh x y hg).2 (h.gh x y hg).1,(h.gh x y hg).2⟩⟩
 ·refine ZYg hle (h.ul e (Z0h e he)).2.2 (hg _ λhk=>n2 ?_) hr;exact List.mem_map.2 ⟨e,he,hk⟩
 ·simp only[List.map_cons,List.nodup_cons];exact⟨n2,n1⟩
 ·rcases List.mem_cons.1 he with rfl | he
  ·exact⟨huU,hn,hok⟩
  ·exact h.ul e (Z0h e he)
theorem RelX.new (h:RelX N G w0 v0 U X f l a w γ v ℓ) {u n:Nat} {L':LV} {γ':Nat→Gh} {v':Zb} {w':World} {ℓ':List Loc} {es':List Loc} {E':List (List Loc)}
  (hn:X n) (huU:X u) (hfresh:¬ U u) (hnew:lkE l u=none) (hE:F2 (Zra v γ l) l E') (hst:St N w0 v0 [] ℓ' v' a w') (hv:v.le v') (hg:∀ k,k≠u→γ' k=γ k)
  (hl:Zra v' γ' (⟨u,n,L'⟩ :: l) ⟨u,n,L'⟩ es') (hp:ℓ'.Perm (es'++E'.flatten)) (hok:L'.ok U X):RelX N G w0 v0 U X f (⟨u,n,L'⟩ :: l) a w' γ' v' ℓ':=by
 have hkey:∀ e ∈ l,e.k≠u:=λe he hk=>ZFg hnew (List.mem_map.2 ⟨e,he,hk⟩);have hle:Le U v γ l v' γ' (⟨u,n,L'⟩ :: l):=⟨hv,λk e' hk he=>by
  have hne:u≠k:=λe=>hfresh (e ▸ hk);rw[ZE,iN hne]at he;refine⟨e',he,?_⟩;obtain⟨hm,hk'⟩:=Zl he;obtain⟨es,hr⟩:=ZSd hE hm;have:=Z2g (U:=U) (γ':=γ') hr (hg _ (by rw[hk'];exact λe=>hne e.symm));rw[hk']at this;exact this⟩
 refine⟨hst,λt e he=>Z6a hle (h.uf t e he).1 (h.fr t e he),⟨es' :: E',⟨hl,hE.imp λe he es hr=>?_⟩,hp⟩,?_,h.uf,λe he=>?_,λx y hg=>⟨Z6a hle (h.gh x y hg).2 (h.gh x y hg).1,(h.gh x y hg).2⟩⟩
 ·exact ZYg hle (h.ul e he).2.2 (hg _ (hkey e he)) hr
 ·simp only[List.map_cons,List.nodup_cons];refine⟨λhm=>?_,h.nd⟩;obtain⟨e,he,hk⟩:=List.mem_map.1 hm;exact hkey e he hk
 ·rcases List.mem_cons.1 he with rfl | he
  ·exact⟨huU,hn,hok⟩
  ·exact h.ul e he
theorem Le.era (h:RelX N G w0 v0 U X f l a w γ v ℓ) (u:Nat):Le U v γ l v γ (era l u):=by
 obtain⟨E,hE,_⟩:=h.lr;refine⟨Zb.le_refl _,λk e' _ he=>?_⟩;rw[ZJb h.nd]at he;split at he
 ·cases he
 ·refine⟨e',he,?_⟩;obtain⟨hm,hk'⟩:=Zl he;obtain⟨es,hr⟩:=ZSd hE hm;have:=Z2g (U:=U) (γ':=γ) hr rfl;rw[hk']at this;exact this
theorem RelX.del (h:RelX N G w0 v0 U X f l a w γ v ℓ) {u:Nat} {e:En LV} (hu:lkE l u=some e):∃ es E',Zra v γ l e es∧F2 (Zra v γ l) (era l u) E'∧F2 (Zra v γ (era l u)) (era l u) E'∧ℓ.Perm (es++E'.flatten)∧RelX N G w0 v0 U X f (era l u) a w γ v E'.flatten:=by
 obtain⟨E,hE,hp⟩:=h.lr;obtain⟨es,E',h1,h2,h3⟩:=ZYe hE hu;have hle:=Le.era h u;have h4:F2 (Zra v γ (era l u)) (era l u) E':=h2.imp λe he es hr=>ZYg hle (h.ul e (Z0h e he)).2.2 rfl hr;exact⟨es,E',h1,h2,h4,hp.trans h3,(h.st.perm (hp.trans h3)).drop (List.sublist_append_right _ _),λt e he=>Z6a hle (h.uf t e he).1 (h.fr t e he),⟨E',h4,List.Perm.refl _⟩,(ZAb h.nd).1,h.uf,λe he=>h.ul e (Z0h e he),λx y hg=>⟨Z6a hle (h.gh x y hg).2 (h.gh x y hg).1,(h.gh x y hg).2⟩⟩
theorem RelX.put (h:RelX N G w0 v0 U X f l a w γ v ℓ) {d n:Nat} {x:V} {y:Value} (hd:d<N) (hr:RV v γ l x y) (hx:x.ok U) (hn:X n):RelX N G w0 v0 U X (⟨d,n,x⟩ :: f) l (a.put (some d) y) w γ v ℓ:=by
 have hs:=h.st.put y hd;refine⟨⟨hs.size,hs.dfr,λt x e=>(by cases e),hs.ext,hs.vst,hs.loc,hs.nd⟩,λt e he=>?_,h.lr,h.nd,λt e he=>?_,h.ul,h.gh⟩
 ·rw[ZE]at he;split at he
  ·rename_i hdt
   cases he
   have hdt':d=t:=hdt;subst hdt';have:=hs.fr d y (ZTe rfl);rw[this];exact hr
  ·rename_i hdt;have:=h.fr t e he;have e2:(a.put (some d) y).tmps.getD t undef=a.tmps.getD t undef:=by
    have hdt':¬ d=t:=hdt;simp[Act.put,Array.getElem?_setIfInBounds_ne hdt']
   rw[e2];exact this
 ·rw[ZE]at he;split at he
  ·cases he;exact⟨hx,hn⟩
  ·exact h.uf t e he
theorem RelX.mono {U' X':Nat→Prop} (h:RelX N G w0 v0 U X f l a w γ v ℓ) (hU:∀ k,U k→U' k) (hX:∀ k,X k→X' k):RelX N G w0 v0 U' X' f l a w γ v ℓ :=
 ⟨h.st,h.fr,h.lr,h.nd,λt e he=>⟨V.ok.mono hU (h.uf t e he).1,hX _ (h.uf t e he).2⟩,λe he=>⟨hX _ (h.ul e he).1,hX _ (h.ul e he).2.1,LV.ok.mono hU hX (h.ul e he).2.2⟩,λx y hg=>⟨(h.gh x y hg).1,V.ok.mono hU (h.gh x y hg).2⟩⟩
end
end Go.Eng
namespace Go.Eng
open Go.RowKit
theorem leaf_n:∀ i,(ZQl i).n=(T.leaf i).n
 | 0 | 1 | 2 | 3 | 4 | _+5=>rfl
theorem ZeA:∀ i,(ZQl i).agg=(T.leaf i).agg
 | 0 | 1 | 2 | 3 | 4 | _+5=>rfl
theorem ZD:∀ t:T,t.rep.n=t.n
 | .int _ | .bool | .flt _ | .str | .slice _ | .ptr _=>rfl
 | .one a=>ZD a
 | .pair a b=>by show a.rep.n+b.rep.n=a.n+b.n;rw[ZD a,ZD b]
 | .leaf i=>leaf_n i
theorem ZIt:∀ t:T,t.rep.agg=t.agg
 | .int _ | .bool | .flt _ | .str | .slice _ | .one _ | .pair _ _ | .ptr _=>rfl
 | .leaf i=>ZeA i
theorem Zlg (t:T) (x:t.den) (cs:List Value):(V.data t x).val cs=t.rep.val cs:=by
 unfold V.val Rep.val;rw[ZIt];rfl
section
variable {v:Zb} {γ:Nat→Gh} {l:Lo} {U:Nat→Prop}
theorem ZNc:∀ {x:V} {cs:List Value},RR v γ l false x cs→cs.length=x.size:=by
 intro x
 induction x with
 | data t x=>intro cs h;exact (Rep.len _ h).trans (ZD t)
 | nilS=>intro cs h;rw[show cs=_ from h];rfl
 | own u=>intro cs h;obtain⟨y,rfl,_⟩:=h;rfl
 | row u i hv cv t r=>intro cs h;obtain⟨y,rfl,_⟩:=h;rfl
 | ptr u off=>intro cs h;obtain⟨y,rfl,_⟩:=h;rfl
 | el u i cv t x off=>intro cs h;obtain⟨y,rfl,_⟩:=h;rfl
 | rp u i hv cv t r=>intro cs h;obtain⟨y,rfl,_⟩:=h;rfl
 | rel u i j hv cv t r x off=>intro cs h;obtain⟨y,rfl,_⟩:=h;rfl
 | vp t x off=>intro cs h;obtain⟨b,o,c,_,_,rfl⟩:=h;rfl
 | nl=>intro cs h;rw[show cs=_ from h];rfl
 | cons a b ia ib=>intro cs h;obtain⟨c1,c2,rfl,h1,h2⟩:=h;rw[lAq,ia h1,ib h2];rfl
 | agg c ih=>intro cs h;exact ih h
 | tup c ih=>intro cs h;exact h.elim
 | fn f c ih=>intro cs h;obtain⟨vs,_,rfl⟩:=h;rfl
 | ifc ty c ih=>intro cs h;obtain⟨vs,_,rfl⟩:=h;rfl
 | undef=>intro cs h;rw[show cs=_ from h];rfl
theorem Z8w:∀ {x:V} {cs:List Value},x.plain=true→RR v γ l false x cs→cs.all plain=true:=by
 intro x
 induction x with
 | data t x=>intro cs _ h;exact Rep.flat _ h
 | nilS=>intro cs _ h;rw[show cs=_ from h];rfl
 | own u=>intro cs _ h;obtain⟨y,rfl,hp,_⟩:=h;simp[hp]
 | row u i hv cv t r=>intro cs _ h;obtain⟨y,rfl,hp,_⟩:=h;simp[hp]
 | ptr u off=>intro cs _ h;obtain⟨y,rfl,hp,_⟩:=h;simp[hp]
 | el u i cv t x off=>intro cs _ h;obtain⟨y,rfl,hp,_⟩:=h;simp[hp]
 | rp u i hv cv t r=>intro cs _ h;obtain⟨y,rfl,hp,_⟩:=h;simp[hp]
 | rel u i j hv cv t r x off=>intro cs _ h;obtain⟨y,rfl,hp,_⟩:=h;simp[hp]
 | vp t x off=>intro cs _ h;obtain⟨b,o,c,_,_,rfl⟩:=h;rfl
 | nl=>intro cs _ h;rw[show cs=_ from h];rfl
 | cons a b ia ib =>
  intro cs hp h;obtain⟨c1,c2,rfl,h1,h2⟩:=h;simp only[V.plain]at hp
  cases ha:a.plain
  ·rw[ha]at hp;cases hp
  ·rw[ha]at hp;rw[List.all_append,ia ha h1,ib hp h2];rfl
 | agg c ih=>intro cs hp h;exact ih hp h
 | tup c ih=>intro cs _ h;exact h.elim
 | fn f c ih=>intro cs _ h;obtain⟨vs,_,rfl⟩:=h;rfl
 | ifc ty c ih=>intro cs _ h;obtain⟨vs,_,rfl⟩:=h;rfl
 | undef=>intro cs hp _;cases hp
theorem Zvj {a b:Bool} (h:eqB a b=true):a=b:=by cases a <;> cases b <;> first | rfl | cases h
theorem Zbg {x:V} {cs:List Value} (h:RR v γ l false x cs) (hs:x.size=1) (ha:x.isAgg=false):cs=[x.val cs]:=by
 have h1:=ZNc h;rw[hs]at h1;obtain⟨y,rfl⟩:=List.length_eq_one_iff.1 h1;unfold V.val;rw[ha];rfl
theorem Zaw:∀ {t:T} {x:t.den} {cs:List Value},t.rep.rel v cs x→RR v γ l false (ZKh t x) cs∧(ZKh t x).ok U:=by
 intro t
 induction t with
 | pair a b ia ib =>
  intro x cs h;obtain⟨c1,c2,rfl,h1,h2⟩:=h;exact⟨⟨c1,c2,rfl,h1,(ib h2).1⟩,trivial,(ib (x:=x.2) h2).2⟩
 | _=>intro x cs h;exact⟨⟨cs,[],by simp,h,rfl⟩,trivial,trivial⟩
theorem Zeo {t:T} {x:t.den} {c:V} {cs:List Value} (h:Zje t x=some c) (hr:t.rep.rel v cs x):RR v γ l false c cs∧c.ok U:=by
 unfold Zje at h;split at h
 ·cases h;exact Zaw hr
 ·cases h;exact⟨⟨cs,[],by simp,hr,rfl⟩,trivial,trivial⟩
 ·rename_i i
  cases h
  have hr':Ztc.rel v cs i:=hr;obtain⟨s,q,n,k,rfl⟩:=ZWi hr';obtain⟨rfl,h2⟩:=ZZx hr';exact⟨⟨[_],[_],rfl,rfl,[_],[],rfl,h2,rfl⟩,trivial,trivial,trivial⟩
 ·rename_i q
  cases h
  have hr':Z0.rel v cs q:=hr;obtain⟨s,q1,n,k,q2,n2,k2,rfl⟩:=Zbw hr';obtain⟨h1,h2⟩:=Z2x hr';exact⟨⟨[_,_],[_],rfl,h1,[_],[],rfl,h2,rfl⟩,trivial,trivial,trivial⟩
 ·rename_i q
  cases h
  have hr':rQ.rel v cs q:=hr;obtain⟨s,q1,n,k,q2,n2,k2,rfl⟩:=ZYv hr';obtain⟨rfl,h1,h2⟩:=rQ_open hr';exact⟨⟨[_],[_,_],rfl,rfl,[_],[_],rfl,h1,[_],[],rfl,h2,rfl⟩,trivial,trivial,trivial,trivial⟩
 ·cases h
theorem Zis {t:T} {x:t.den} {c:V} {cs:List Value} (h:ZKb t x=some c) (hr:t.rep.rel v cs x):RR v γ l false c cs∧c.ok U:=by
 unfold ZKb at h;split at h
 ·cases h
  obtain⟨c1,c2,rfl,h1,h2⟩:=hr;exact⟨⟨c1,c2,rfl,h1,c2,[],by simp,h2,rfl⟩,trivial,trivial,trivial⟩
 ·exact Zeo h hr
theorem ZPy {t:T} {x:t.den} {c:V} (h:ZKb t x=some c):t.agg=true:=by
 unfold ZKb at h;split at h
 ·rfl
 ·unfold Zje at h;split at h <;> first | rfl | cases h
theorem ZSc:∀ (g:Nat) {x z:V} {off n:Nat} {ag:Bool} {cs:List Value},Zca g x off n ag=some z→RR v γ l false x cs→x.ok U →
  RR v γ l false z ((cs.drop off).take n)∧z.ok U∧z.size=n∧z.isAgg=ag∧off+n≤cs.length
 | 0,_,_,_,_,_,_,h,_,_=>by cases h
 | g+1,x,z,off,n,ag,cs,h,hr,hk=>by
  have whole:∀ {y:V},(match Nat.beq off 0,Nat.beq y.size n,eqB y.isAgg ag with
    | true,true,true=>some y
    | _,_,_=>match y with
     | .agg c=>Zca g c off n ag
     | .data t x=>match ZKb t x with
      | some c=>Zca g c off n ag
      | none=>none
     | _=>none)=some z→RR v γ l false y cs→y.ok U→RR v γ l false z ((cs.drop off).take n)∧z.ok U∧z.size=n∧z.isAgg=ag∧off+n≤cs.length:=by
   intro y hy hr hk;split at hy
   ·rename_i h1 h2 h3
    cases hy
    have h1:=eQ h1;have h2:=eQ h2;have hl:=ZNc hr;subst h1;refine⟨?_,hk,h2,Zvj h3,by omega⟩;rw[List.drop_zero,List.take_of_length_le (by omega)];exact hr
   ·split at hy
    ·exact ZSc g hy hr hk
    ·split at hy
     ·rename_i he;obtain⟨h1,h2⟩:=Zis (U:=U) he hr;exact ZSc g hy h1 h2
     ·cases hy
    ·cases hy
  cases x with
  | nl=>simp only[Zca]at h;cases h
  | cons a b =>
   simp only[Zca]at h;obtain⟨c1,c2,rfl,h1,h2⟩:=hr;have l1:=ZNc h1;split at h
   ·rename_i hb;have hb:=lBq hb;obtain⟨k1,k2,k3,k4,k5⟩:=ZSc g h h1 hk.1;refine⟨?_,k2,k3,k4,by rw[lAq];omega⟩;rw[List.drop_append_of_le_length (by omega),List.take_append_of_le_length (by rw[List.length_drop];omega)];exact k1
   ·split at h
    ·rename_i hb;have hb:=lBq hb;obtain⟨k1,k2,k3,k4,k5⟩:=ZSc g h h2 hk.2;refine⟨?_,k2,k3,k4,by rw[lAq];omega⟩;rw[List.drop_append,List.drop_of_length_le (by omega),List.nil_append,l1];exact k1
    ·cases h
  | data t x=>exact whole (y:=.data t x) h hr hk
  | agg c=>exact whole (y:=.agg c) h hr hk
  | nilS=>exact whole (y:=.nilS) h hr hk
  | own u=>exact whole (y:=.own u) h hr hk
  | row u i hv cv t r=>exact whole (y:=.row u i hv cv t r) h hr hk
  | ptr u o=>exact whole (y:=.ptr u o) h hr hk
  | el u i cv t x o=>exact whole (y:=.el u i cv t x o) h hr hk
  | rp u i hv cv t r=>exact whole (y:=.rp u i hv cv t r) h hr hk
  | rel u i j hv cv t r x o=>exact whole (y:=.rel u i j hv cv t r x o) h hr hk
  | vp t x o=>exact whole (y:=.vp t x o) h hr hk
  | tup c=>exact whole (y:=.tup c) h hr hk
  | fn f c=>exact whole (y:=.fn f c) h hr hk
  | ifc f c=>exact whole (y:=.ifc f c) h hr hk
  | undef=>exact whole (y:=.undef) h hr hk
theorem Zxe:∀ (g:Nat) {x z x':V} {off:Nat} {cs cz:List Value},ZVa g x off z=some x'→RR v γ l false x cs→RR v γ l false z cz→x.ok U→z.ok U →
  RR v γ l false x' (cs.take off++cz++cs.drop (off+cz.length))∧x'.ok U∧off+cz.length≤cs.length∧x'.isAgg=x.isAgg
 | 0,_,_,_,_,_,_,h,_,_,_,_=>by cases h
 | g+1,x,z,x',off,cs,cz,h,hr,hz,hk,hkz=>by
  have lz:=ZNc hz
  have whole:∀ {y:V},y.isAgg=x.isAgg→(match Nat.beq off 0,Nat.beq y.size z.size,eqB y.isAgg z.isAgg with
    | true,true,true=>some z
    | _,_,_=>match y with
     | .agg c=>match ZVa g c off z with
      | some c'=>some (.agg c')
      | none=>none
     | .data t x=>match ZKb t x with
      | some c=>match ZVa g c off z with
       | some c'=>some (.agg c')
       | none=>none
      | none=>none
     | _=>none)=some x'→(∀ t x,y = .data t x→∀ c,ZKb t x=some c→t.agg=true)→RR v γ l false y cs→y.ok U→RR v γ l false x' (cs.take off++cz++cs.drop (off+cz.length))∧x'.ok U∧off+cz.length≤cs.length∧x'.isAgg=x.isAgg:=by
   intro y hya hy hex hr hk;split at hy
   ·rename_i h1 h2 h3
    cases hy
    have h1:=eQ h1;have h2:=eQ h2;have hl:=ZNc hr;subst h1;refine⟨?_,hkz,by omega,(Zvj h3).symm.trans hya⟩;rw[List.take_zero,List.nil_append,List.drop_of_length_le (by omega),List.append_nil];exact hz
   ·split at hy
    ·split at hy
     ·rename_i he
      cases hy
      obtain⟨k1,k2,k3,k4⟩:=Zxe g he hr hz hk hkz;exact⟨k1,k2,k3,hya⟩
     ·cases hy
    ·rename_i t xx _;split at hy
     ·rename_i c hc;split at hy
      ·rename_i he
       cases hy
       obtain⟨h1,h2⟩:=Zis (U:=U) hc hr;obtain⟨k1,k2,k3,k4⟩:=Zxe g he h1 hz h2 hkz;exact⟨k1,k2,k3,(hex t xx rfl _ hc).symm.trans hya⟩
      ·cases hy
     ·cases hy
    ·cases hy
  have noex:∀ {y:V},(∀ t x,y ≠ .data t x)→(∀ t x,y = .data t x→∀ c,ZKb t x=some c→t.agg=true):=λh t x e=>absurd e (h t x)
  cases x with
  | nl=>simp only[ZVa]at h;cases h
  | cons a b =>
   simp only[ZVa]at h;obtain⟨c1,c2,rfl,h1,h2⟩:=hr;have l1:=ZNc h1;split at h
   ·rename_i hb;have hb:=lBq hb;split at h
    ·rename_i he
     cases h
     obtain⟨k1,k2,k3,k4⟩:=Zxe g he h1 hz hk.1 hkz;refine⟨⟨_,c2,?_,k1,h2⟩,⟨k2,hk.2⟩,by rw[lAq];omega,rfl⟩;rw[List.take_append_of_le_length (by omega),List.drop_append_of_le_length (by omega)];simp
    ·cases h
   ·split at h
    ·rename_i hb;have hb:=lBq hb;split at h
     ·rename_i he
      cases h
      obtain⟨k1,k2,k3,k4⟩:=Zxe g he h2 hz hk.2 hkz;refine⟨⟨c1,_,?_,h1,k1⟩,⟨hk.1,k2⟩,by rw[lAq];omega,rfl⟩;rw[List.take_append,List.take_of_length_le (by omega),List.drop_append,List.drop_of_length_le (by omega),l1];rw[show off+cz.length-a.size=off-a.size+cz.length by omega];simp
     ·cases h
    ·cases h
  | data t xx=>exact whole (y:=.data t xx) rfl h (λt x e c hc=>by
    cases e
    exact ZPy hc) hr hk
  | agg c=>exact whole (y:=.agg c) rfl h (noex λ_ _ e=>by cases e) hr hk
  | nilS=>exact whole (y:=.nilS) rfl h (noex λ_ _ e=>by cases e) hr hk
  | own u=>exact whole (y:=.own u) rfl h (noex λ_ _ e=>by cases e) hr hk
  | row u i hv cv t r=>exact whole (y:=.row u i hv cv t r) rfl h (noex λ_ _ e=>by cases e) hr hk
  | ptr u o=>exact whole (y:=.ptr u o) rfl h (noex λ_ _ e=>by cases e) hr hk
  | el u i cv t x o=>exact whole (y:=.el u i cv t x o) rfl h (noex λ_ _ e=>by cases e) hr hk
  | rp u i hv cv t r=>exact whole (y:=.rp u i hv cv t r) rfl h (noex λ_ _ e=>by cases e) hr hk
  | rel u i j hv cv t r x o=>exact whole (y:=.rel u i j hv cv t r x o) rfl h (noex λ_ _ e=>by cases e) hr hk
  | vp t x o=>exact whole (y:=.vp t x o) rfl h (noex λ_ _ e=>by cases e) hr hk
  | tup c=>exact whole (y:=.tup c) rfl h (noex λ_ _ e=>by cases e) hr hk
  | fn f c=>exact whole (y:=.fn f c) rfl h (noex λ_ _ e=>by cases e) hr hk
  | ifc f c=>exact whole (y:=.ifc f c) rfl h (noex λ_ _ e=>by cases e) hr hk
  | undef=>exact whole (y:=.undef) rfl h (noex λ_ _ e=>by cases e) hr hk
end
end Go.Eng
namespace Go.Eng
open Go.RowKit
def Zj {ρ:Type} (n:Nat):Ev ρ→Fr→Lo→(ρ→Fr→Lo→Prop)→Prop
 | .fail,_,_,_=>False
 | .done r,f,l,K=>K r f l
 | .rdS t k,f,l,K=>∃ e,lkE f t=some e∧Zj n (k e.x) f l K
 | .rdL u k,f,l,K=>∃ e,lkE l u=some e∧Zj n (k e.st e.x) f l K
 | .wrS t x e,f,l,K=>Zj n e (⟨t,n,x⟩ :: f) l K
 | .wrL u L e,f,l,K=>Zj n e f (⟨u,n,L⟩ :: era l u) K
 | .new u L e,f,l,K=>lkE l u=none∧Zj n e f (⟨u,n,L⟩ :: l) K
 | .del u e,f,l,K=>Zj n e f (era l u) K
 | .bind x k,f,l,K=>∃ y,x=some y∧Zj n (k y) f l K
 | .test t e1 e2,f,l,K=>∃ s b,lkE f t=some ⟨t,s,.data .bool b⟩∧(b=true→Zj n e1 (⟨t,s,.data .bool b⟩ :: f) l K)∧(b=false→Zj n e2 (⟨t,s,.data .bool b⟩ :: f) l K)
 | .alt b e1 e2,f,l,K=>(b=true→Zj n e1 f l K)∧(b=false→Zj n e2 f l K)
theorem ZYf {ρ α:Type} {n:Nat} {r:α}:∀ {e:Ev ρ} {f:Fr} {l:Lo} {K:ρ→Fr→Lo→Option α},ZEa n e f l K=some r→Zj n e f l λx f' l'=>K x f' l'=some r:=by
 intro e
 induction e with
 | fail=>intro f l K h;cases h
 | done x=>intro f l K h;exact h
 | rdS t k ih =>
  intro f l K h;simp only[ZEa]at h;split at h
  ·rename_i x hx;exact⟨x,hx,ih _ h⟩
  ·cases h
 | rdL u k ih =>
  intro f l K h;simp only[ZEa]at h;split at h
  ·rename_i x hx;exact⟨x,hx,ih _ _ h⟩
  ·cases h
 | wrS t x e ih=>intro f l K h;exact ih h
 | wrL u L e ih=>intro f l K h;exact ih h
 | new u L e ih =>
  intro f l K h;simp only[ZEa]at h;split at h
  ·rename_i hx;exact⟨hx,ih h⟩
  ·cases h
 | del u e ih=>intro f l K h;exact ih h
 | bind x k ih =>
  intro f l K h;obtain⟨y,hy,h2⟩:=Zja h;exact⟨y,hy,ih _ h2⟩
 | test t e1 e2 i1 i2 =>
  intro f l K h;simp only[ZEa]at h;split at h
  ·rename_i k s b hx;obtain⟨_,hk⟩:=Zl hx;have hk:k=t:=hk;subst hk;refine⟨s,b,hx,λe=>?_,λe=>?_⟩
   ·subst e;exact i1 h
   ·subst e;exact i2 h
  ·cases h
 | alt b e1 e2 i1 i2=>intro f l K h;exact⟨λe=>by subst e;exact i1 h,λe=>by subst e;exact i2 h⟩
theorem Zj.mono {ρ:Type} {n:Nat}:∀ {e:Ev ρ} {f:Fr} {l:Lo} {K K':ρ→Fr→Lo→Prop},Zj n e f l K→(∀ r f l,K r f l→K' r f l)→Zj n e f l K':=by
 intro e
 induction e with
 | fail=>intro f l K K' h k;exact h
 | done x=>intro f l K K' h k;exact k _ _ _ h
 | rdS t q ih=>intro f l K K' h k;obtain⟨x,hx,h⟩:=h;exact⟨x,hx,ih _ h k⟩
 | rdL u q ih=>intro f l K K' h k;obtain⟨x,hx,h⟩:=h;exact⟨x,hx,ih _ _ h k⟩
 | wrS t x e ih=>intro f l K K' h k;exact ih h k
 | wrL u L e ih=>intro f l K K' h k;exact ih h k
 | new u L e ih=>intro f l K K' h k;exact⟨h.1,ih h.2 k⟩
 | del u e ih=>intro f l K K' h k;exact ih h k
 | bind x q ih=>intro f l K K' h k;obtain⟨x,hx,h⟩:=h;exact⟨x,hx,ih _ h k⟩
 | test t e1 e2 i1 i2 =>
  intro f l K K' h k;obtain⟨s,b,h1,h2,h3⟩:=h;exact⟨s,b,h1,λe=>i1 (h2 e) k,λe=>i2 (h3 e) k⟩
 | alt b e1 e2 i1 i2=>intro f l K K' h k;exact⟨λe=>i1 (h.1 e) k,λe=>i2 (h.2 e) k⟩
section
variable {N:Nat} {G:V→Value→Prop} {w0:Base} {v0:Zb} {U X:Nat→Prop} {f:Fr} {l:Lo} {a:Act} {w:World} {γ:Nat→Gh} {v:Zb} {ℓ:List Loc}
theorem Le.upd (h:RelX N G w0 v0 U X f l a w γ v ℓ) {u n:Nat} {e:En LV} {L':LV} {γ':Nat→Gh} {v':Zb} (hu:lkE l u=some e) (hv:v.le v') (hg:∀ k,k≠u→γ' k=γ k) (hc:CE U γ γ' u e.st n e.x L') :
  Le U v γ l v' γ' (⟨u,n,L'⟩ :: Go.Eng.era l u):=by
 obtain⟨E,hE,_⟩:=h.lr;refine⟨hv,λk e' _ he=>?_⟩;rw[ZE]at he;split at he
 ·rename_i hk
  cases he
  have hk:u=k:=hk;subst hk;exact⟨e,hu,hc⟩
 ·rename_i hk;have hk:¬ u=k:=hk;rw[ZJb h.nd,iN hk]at he;refine⟨e',he,?_⟩;obtain⟨hm,hk'⟩:=Zl he;obtain⟨es,hr⟩:=ZSd hE hm;have:=Z2g (U:=U) (γ':=γ') hr (hg _ (by rw[hk'];exact λe=>hk e.symm));rw[hk']at this;exact this
theorem CE.tr {γ1 γ2 γ3:Nat→Gh} {u s1 s2 s3:Nat} {x1 x2 x3:LV} (c1:CE U γ1 γ2 u s1 s2 x1 x2) (c2:CE U γ2 γ3 u s2 s3 x2 x3):CE U γ1 γ3 u s1 s3 x1 x3:=by
 have mm:∀ {t1 t2 t3:T} {m1:List (List t1.den)} {m2:List (List t2.den)} {m3:List (List t3.den)} {hv1 hv2 hv3:Nat},CEm U γ1 γ2 u s1 s2 t1 m1 hv1 t2 m2 hv2→CEm U γ2 γ3 u s2 s3 t2 m2 hv2 t3 m3 hv3→CEm U γ1 γ3 u s1 s3 t1 m1 hv1 t3 m3 hv3:=by
  rintro t1 t2 t3 m1 m2 m3 hv1 hv2 hv3 ⟨a1,a2,⟨ob,cap,rows,rows',a3,a4,a5⟩,a6⟩ ⟨b1,b2,⟨ob2,cap2,rows2,rows3,b3,b4,b5⟩,b6⟩;rw[a4]at b3;cases b3;refine⟨b1.trans a1,by omega,⟨_,_,rows,rows3,a3,b4,λhu=>?_⟩,λhu=>?_⟩
  ·obtain⟨e1,e2,e3⟩:=b5 hu;obtain⟨g1,g2,g3⟩:=a5 (by rw[← e1];exact hu);exact⟨e1.trans g1,e2.trans g2,e3.trans g3⟩
  ·obtain⟨e1,e2⟩:=b6 hu;have:=a6 (by rw[← e1];exact hu);exact⟨e1.trans this.1,e2.trans this.2⟩
 have mo:∀ {t1 t2 t3:T} {m1:List (List t1.den)} {m2:List (List t2.den)} {xs:List t3.den} {hv1 hv2:Nat},CEm U γ1 γ2 u s1 s2 t1 m1 hv1 t2 m2 hv2→(∃ ob cap rows,γ2 u = .mat ob cap rows∧γ3 u = .own ob cap∧xs.length=m2.length)→∃ ob cap rows,γ1 u = .mat ob cap rows∧γ3 u = .own ob cap∧xs.length=m1.length:=by
  rintro t1 t2 t3 m1 m2 xs hv1 hv2 ⟨a1,a2,⟨ob,cap,rows,rows',a3,a4,_⟩,_⟩ ⟨ob2,cap2,rows2,b1,b2,b3⟩;rw[a4]at b1;cases b1;exact⟨_,_,rows,a3,b2,by omega⟩
 have oo:∀ {t1 t2 t3:T} {m1:List (List t1.den)} {xs2:List t2.den} {xs3:List t3.den},(∃ ob cap rows,γ1 u = .mat ob cap rows∧γ2 u = .own ob cap∧xs2.length=m1.length)→(γ3 u=γ2 u∧t3=t2∧xs3.length=xs2.length∧(U s3→s3=s2∧(⟨t3,xs3⟩:(t:T)×List t.den)=⟨t2,xs2⟩))→∃ ob cap rows,γ1 u = .mat ob cap rows∧γ3 u = .own ob cap∧xs3.length=m1.length:=by
  rintro t1 t2 t3 m1 xs2 xs3 ⟨ob,cap,rows,a1,a2,a3⟩ ⟨b1,b2,b3,b4⟩;exact⟨ob,cap,rows,a1,by rw[b1,a2],by omega⟩
 cases x1 <;> cases x2 <;> simp only[CE]at c1 <;> cases x3 <;> simp only[CE]at c2 ⊢
 ·rw[c2,c1]
 ·obtain⟨a1,a2,a3,a4⟩:=c1;obtain⟨b1,b2,b3,b4⟩:=c2;refine⟨b1.trans a1,b2.trans a2,b3.trans a3,λhu=>?_⟩;obtain⟨e1,e2⟩:=b4 hu;have:=a4 (by rw[← e1];exact hu);exact⟨e1.trans this.1,e2.trans this.2⟩
 all_goals first | exact mm c1 c2 | exact mo c1 c2 | exact oo c1 c2
theorem Le.trans {v1 v2 v3:Zb} {γ1 γ2 γ3:Nat→Gh} {l1 l2 l3:Lo} (h:Le U v1 γ1 l1 v2 γ2 l2) (k:Le U v2 γ2 l2 v3 γ3 l3):Le U v1 γ1 l1 v3 γ3 l3:=by
 refine⟨Zb.le_trans h.v k.v,λu e3 hU he=>?_⟩;obtain⟨e2,h2,c2⟩:=k.l u e3 hU he;obtain⟨e1,h1,c1⟩:=h.l u e2 hU h2;refine⟨e1,h1,?_⟩;exact CE.tr c1 c2
theorem ZMs {ty:TypeId} {t:T}:∀ {rows:List (Option Nat×Nat)} {m:List (List t.den)} {es rest:List Loc} {v:Zb},Zga v ty t rows m es→St N w0 v0 [] (es++rest) v a w →
  ∃ v',v.le v'∧St N w0 v0 [] rest v' a w∧(Zp t.rep).rels v' (Zn rows m) m
 | [],[],es,rest,v,hr,hs=>by rw[show es=[] from hr]at hs;exact⟨v,Zb.le_refl _,hs,rfl⟩
 | p :: ps,r :: rs,es,rest,v,⟨cs,es',h1,h2,h3⟩,hs=>by
  subst h2
  obtain⟨v1,hv1,hs1,hr1⟩:=hs.pubSlice (i:=0) (A:=t.rep) (l:=r) rfl (ZD t).symm rfl h1 rfl
  obtain⟨v2,hv2,hs2,hr2⟩:=ZMs (Zvc hv1 h3) hs1
  exact⟨v2,Zb.le_trans hv1 hv2,hs2,[_],_,rfl,Rep.mono _ hv2 hr1,hr2⟩
 | [],_ :: _,_,_,_,hr,_=>hr.elim
 | _ :: _,[],_,_,_,hr,_=>hr.elim
theorem RelX.freeze (h:RelX N G w0 v0 U X f l a w γ v ℓ) {u n k st:Nat} {ty:TypeId} {t:T} {xs:List t.den} {ex:List Loc} (hex:St N w0 v0 [] (ex++ℓ) v a w) (hu:lkE l u=some ⟨k,st,.own ty t xs false⟩) (hn:¬ U n) (hX:X n) :
  ∃ v' ℓ' ,RelX N G w0 v0 U X f (⟨u,n,.own ty t xs true⟩ :: era l u) a w γ v' ℓ'∧St N w0 v0 [] (ex++ℓ') v' a w∧Le U v γ l v' γ (⟨u,n,.own ty t xs true⟩ :: era l u)∧∃ ob cap,γ u = .own ob cap∧(Zp t.rep).rel v' [.slice (mkA ob) xs.length cap] xs:=by
 obtain⟨hm,hk⟩:=Zl hu;have hk:k=u:=hk;subst hk;obtain⟨es,E',h1,h2,_,h3,_⟩:=h.del hu;obtain⟨ob,cap,cs,g1,g2,rfl⟩:=h1;have hs:St N w0 v0 [] (.own ob ty t.n xs.length cap cs :: (ex++E'.flatten)) v a w:=hex.perm ((List.Perm.append_left ex h3).trans (by rw[List.singleton_append];exact List.perm_middle));obtain⟨v',hv,hx',hr⟩:=hs.pubSlice (i:=0) (A:=t.rep) (l:=xs) rfl (ZD t).symm rfl g2 rfl;have hx':St N w0 v0 [] (ex++E'.flatten) v' a w:=hx';have hs':St N w0 v0 [] E'.flatten v' a w:=hx'.drop (List.sublist_append_right _ _);have hle:Le U v γ l v' γ (⟨k,n,.own ty t xs true⟩ :: era l k):=Le.upd h hu hv (λ_ _=>rfl) ⟨rfl,rfl,rfl,λe=>absurd e hn⟩;exact⟨v',_,h.upd hX (h.ul _ hm).1 h2 hs' hle (λ_ _=>rfl) ⟨ob,cap,g1,hr,rfl⟩ (List.Perm.refl _) trivial,hx',hle,ob,cap,g1,hr⟩
def Zeb (γ:Nat→Gh) (u:Nat) (g:Gh):Nat→Gh:=λk=>if k=u then g else γ k
theorem ZAa {γ:Nat→Gh} {u:Nat} {g:Gh}:Zeb γ u g u=g:=iP rfl
theorem ZFb {γ:Nat→Gh} {u k:Nat} {g:Gh} (h:k≠u):Zeb γ u g k=γ k:=iN h
theorem RelX.freezeM (h:RelX N G w0 v0 U X f l a w γ v ℓ) {u n k st hv:Nat} {ty ty2:TypeId} {t:T} {m:List (List t.den)} {ex:List Loc} (hex:St N w0 v0 [] (ex++ℓ) v a w) (hu:lkE l u=some ⟨k,st,.mat ty ty2 t m hv⟩) (hn:¬ U n) (hX:X n) :
  ∃ γ' v' ℓ' ,RelX N G w0 v0 U X f (⟨u,n,.own ty (.slice t) m true⟩ :: era l u) a w γ' v' ℓ'∧St N w0 v0 [] (ex++ℓ') v' a w∧Le U v γ l v' γ' (⟨u,n,.own ty (.slice t) m true⟩ :: era l u)∧∃ ob cap rows,γ u = .mat ob cap rows∧γ' u = .own ob cap∧(Zp (Zp t.rep)).rel v' [.slice (mkA ob) m.length cap] m:=by
 obtain⟨hm,hk⟩:=Zl hu;have hk:k=u:=hk;subst hk;obtain⟨es,E',h1,h2,_,h3,_⟩:=h.del hu;obtain⟨ob,cap,rows,es2,g1,g2,rfl⟩:=h1;have hs:St N w0 v0 [] (es2++(.own ob ty 1 m.length cap (Zn rows m) :: (ex++E'.flatten))) v a w:=hex.perm ((List.Perm.append_left ex h3).trans (by
  rw[List.cons_append];refine List.perm_middle.trans ?_;refine (List.Perm.cons _ ?_).trans List.perm_middle.symm;rw[← aAq,← aAq];exact List.Perm.append_right _ List.perm_append_comm))
 obtain⟨v1,hv1,hs1,hr1⟩:=ZMs g2 hs;obtain⟨v',hv,hx',hr⟩:=hs1.pubSlice (i:=0) (A:=Zp t.rep) (l:=m) rfl rfl rfl hr1 rfl;have hx':St N w0 v0 [] (ex++E'.flatten) v' a w:=hx';have hs':St N w0 v0 [] E'.flatten v' a w:=hx'.drop (List.sublist_append_right _ _);have hle:Le U v γ l v' (Zeb γ k (.own ob cap)) (⟨k,n,.own ty (.slice t) m true⟩ :: era l k):=Le.upd h hu (Zb.le_trans hv1 hv) (λ_ hne=>ZFb hne) ⟨ob,cap,rows,g1,ZAa,rfl⟩;refine⟨_,v',_,h.upd hX (h.ul _ hm).1 h2 hs' hle (λ_ hne=>ZFb hne) ⟨ob,cap,ZAa,hr,rfl⟩ (List.Perm.refl _) trivial,hx',hle,ob,cap,rows,g1,ZAa,hr⟩
theorem ZV {s t:T} {x:s.den} {y:t.den} (h:T.cast s t x=some y):∃ e:s=t,e ▸ x=y:=by
 unfold T.cast at h;have:∀ (b:Bool) (hb:T.beq s t=b),T.castB s t b hb x=some y→∃ e:s=t,e ▸ x=y:=by
  intro b hb h
  cases b with
  | true=>exact⟨T.beq_eq hb,Option.some.inj h⟩
  | false=>cases h
 exact this _ _ h
theorem Zwz:∀ {t:T} {x:t.den},(ZKh t x).ok U:=by
 intro t
 induction t with
 | pair a b ia ib=>intro x;exact⟨trivial,ib (x:=x.2)⟩
 | _=>intro x;exact⟨trivial,trivial⟩
theorem Z5s {t:T} {x:t.den} {c:V} (h:Zje t x=some c):c.ok U:=by
 unfold Zje at h;split at h
 ·cases h;exact Zwz
 ·cases h;exact⟨trivial,trivial⟩
 ·cases h;exact⟨trivial,trivial,trivial⟩
 ·cases h;exact⟨trivial,trivial,trivial⟩
 ·cases h;exact⟨trivial,trivial,trivial,trivial⟩
 ·cases h
theorem Z1q {t:T} {x:t.den} {c:V} (h:ZKb t x=some c):c.ok U:=by
 unfold ZKb at h;split at h
 ·cases h;exact⟨trivial,trivial,trivial⟩
 ·exact Z5s h
theorem ZGq {v:Zb} {s t:T} {x:s.den} {y:t.den} {cs:List Value} (hr:s.rep.rel v cs x) (h:cvtQ s t x=some y):t.rep.rel v cs y∧s.rep.n=t.rep.n:=by
 unfold cvtQ at h;split at h
 ·rename_i hc
  cases h
  obtain⟨e,he⟩:=ZV hc;subst e;subst he;exact⟨hr,rfl⟩
 ·split at h
  ·rename_i r hr1;obtain⟨e,he⟩:=ZV hr1;subst e;subst he;split at h
   ·rename_i q hq;obtain⟨e,he⟩:=ZV h;subst e;subst he;obtain⟨c1,c2,rfl,h1,c3,c4,rfl,h2,h3⟩:=hr;have h1:c1=[.bool _]:=h1;subst h1;have h2:ZXa.rel v c3 _:=h2;have h3:ZXa.rel v c4 _:=h3;obtain⟨qa,na,ka,rfl⟩:=ZJd h2;obtain⟨qb,nb,kb,rfl⟩:=ZJd h3;exact⟨ZOp h2 h3 hq,rfl⟩
   ·cases h
  ·cases h
theorem Zuy {α β:Type} {p:Option α} {q:Option β} {z:α×β} (h:both2 p q=some z):p=some z.1∧q=some z.2:=by
 cases p <;> cases q <;> first | (cases h;done) | (cases h;exact⟨rfl,rfl⟩)
theorem cvt_ok {v:Zb}:∀ {s t:T} {x:s.den} {y:t.den} {cs:List Value},s.rep.rel v cs x→cvt s t x=some y→t.rep.rel v cs y∧s.rep.n=t.rep.n:=by
 intro s
 induction s with
 | pair a b ia ib =>
  intro t x y cs hr h
  cases t with
  | pair c d =>
   obtain⟨h1,h2⟩:=Zuy (show both2 (cvt a c x.1) (cvt b d x.2)=some y from h);obtain⟨c1,c2,rfl,q1,q2⟩:=hr;obtain⟨k1,k2⟩:=ia q1 h1;obtain⟨k3,k4⟩:=ib q2 h2;exact⟨⟨c1,c2,rfl,k1,k3⟩,by show _+_=_+_;rw[k2,k4]⟩
  | _=>exact ZGq hr h
 | _=>intro t x y cs hr h;exact ZGq hr h
theorem Zeu {v:Zb} {s t:T}:∀ {l:List s.den} {l':List t.den} {cs:List Value},s.rep.rels v cs l→cvtL s t l=some l'→t.rep.rels v cs l'∧l'.length=l.length∧(l≠[]→s.rep.n=t.rep.n)
 | [],_,cs,hr,h=>by cases h;exact⟨hr,rfl,λe=>absurd rfl e⟩
 | x :: l,_,cs,hr,h=>by
  simp only[cvtL]at h
  split at h
  ·rename_i y z h1 h2
   cases h
   obtain⟨c1,c2,rfl,q1,q2⟩:=hr
   obtain⟨k1,k2⟩:=cvt_ok q1 h1
   obtain⟨k3,k4,_⟩:=Zeu q2 h2
   exact⟨⟨c1,c2,rfl,k1,k3⟩,by simp[k4],λ_=>k2⟩
  ·cases h
theorem Zyz {v:Zb} {s t:T} {l:List s.den} {l':List t.den} {cs:List Value} (hr:(Zp s.rep).rel v cs l) (h:cvtL s t l=some l'):(Zp t.rep).rel v cs l':=by
 obtain⟨q,cap,rfl,h1,h2,h3⟩:=hr;rcases h3 with rfl | ⟨b,off,c,T',fr,e,hb,hk⟩
 ·cases h;exact⟨q,cap,rfl,h1,h2,.inl rfl⟩
 ·obtain⟨k1,k2,k3⟩:=Zeu hk h;refine⟨q,cap,by rw[k2],by omega,h2,?_⟩;by_cases hl:l=[]
  ·subst hl;cases h;exact .inl rfl
  ·exact .inr ⟨b,off,c,T',fr,e,hb,by rw[k2,← k3 hl];exact k1⟩
theorem RelX.go (h:RelX N G w0 v0 U X f l a w γ v ℓ) {v':Zb} {w':World} (hle:v.le v') (hst:St N w0 v0 [] ℓ v' a w'):RelX N G w0 v0 U X f l a w' γ v' ℓ:=by
 obtain⟨E,hE,hp⟩:=h.lr;have hl:Le U v γ l v' γ l:=Le.refl hE hle;exact⟨hst,λt e he=>Z6a hl (h.uf t e he).1 (h.fr t e he),⟨E,hE.imp λe he es hr=>ZYg hl (h.ul e he).2.2 rfl hr,hp⟩,h.nd,h.uf,h.ul,λx y hg=>⟨Z6a hl (h.gh x y hg).2 (h.gh x y hg).1,(h.gh x y hg).2⟩⟩
theorem Z5a {ρ:Type} {n:Nat} (hn:¬ U n) (hX:X n):∀ (g:Nat) {t:T} {x:V} {k:t.den→Ev ρ} {l:Lo} {Post:ρ→Fr→Lo→Prop} {γ:Nat→Gh} {v:Zb} {ℓ ex:List Loc},Zj n (conv g t x k) f l Post→RelX N G w0 v0 U X f l a w γ v ℓ→St N w0 v0 [] (ex++ℓ) v a w→x.ok U →
  ∃ y l' γ' v' ℓ',Zj n (k y) f l' Post∧RelX N G w0 v0 U X f l' a w γ' v' ℓ'∧St N w0 v0 [] (ex++ℓ') v' a w∧Le U v γ l v' γ' l'∧∀ cs,RR v γ l false x cs→t.rep.rel v' cs y
 | 0,_,_,_,_,_,_,_,_,_,h,_,_,_=>h.elim
 | g+1,t,x,k,l,Post,γ,v,ℓ,ex,h,hr,e0,hk=>by
  obtain⟨E,hE,_⟩:=hr.lr
  have rfl':Le U v γ l v γ l:=Le.refl hE (Zb.le_refl _)
  cases x with
  | data s x =>
   simp only[conv]at h
   split at h
   ·rename_i y hy
    obtain⟨e,he⟩:=ZV hy
    subst e;subst he
    exact⟨_,l,γ,v,ℓ,h,hr,e0,rfl',λcs hx=>hx⟩
   ·split at h
    ·exact⟨_,l,γ,v,ℓ,h,hr,e0,rfl',λcs hx=>hx⟩
    ·exact⟨_,l,γ,v,ℓ,h,hr,e0,rfl',λcs hx=>hx⟩
    ·obtain⟨y,hy,h⟩:=h;exact⟨y,l,γ,v,ℓ,h,hr,e0,rfl',λcs hx=>clo_rel hx hy⟩
    ·obtain⟨y,hy,h⟩:=h;exact⟨y,l,γ,v,ℓ,h,hr,e0,rfl',λcs hx=>ZQw hx hy⟩
    ·obtain⟨y,hy,h⟩:=h;exact⟨y,l,γ,v,ℓ,h,hr,e0,rfl',λcs hx=>Zyz hx hy⟩
    ·split at h
     ·rename_i c hc
      obtain⟨y,l2,γ2,v2,ℓ2,k1,k2,e2,k3,k4⟩:=Z5a hn hX g h hr e0 (x:=.agg c) (Z5s (c:=c) (t:=s) (x:=x) hc:c.ok U)
      exact⟨y,l2,γ2,v2,ℓ2,k1,k2,e2,k3,λcs hx=>k4 cs (Zeo (U:=U) (γ:=γ) (l:=l) hc hx).1⟩
     ·exact h.elim
  | nilS =>
   simp only[conv]at h
   split at h
   ·exact⟨_,l,γ,v,ℓ,h,hr,e0,rfl',λcs hx=>by rw[show cs=_ from hx];exact Zgg _ _⟩
   ·exact⟨_,l,γ,v,ℓ,h,hr,e0,rfl',λcs hx=>by rw[show cs=_ from hx];exact Zph _⟩
   ·exact⟨_,l,γ,v,ℓ,h,hr,e0,rfl',λcs hx=>by rw[show cs=_ from hx];exact Zyj _⟩
   ·exact h.elim
  | own u =>
   simp only[conv]at h
   obtain⟨e,he,h⟩:=h
   obtain⟨kk,st,L⟩:=e
   obtain⟨hm,hkk⟩:=Zl he
   have hkk:kk=u:=hkk
   subst hkk
   cases L with
   | box _ _=>exact h.elim
   | mid _ _ _ _ _ _=>exact h.elim
   | own ty s xs fz =>
    cases fz with
    | true =>
     obtain⟨es,hes⟩:=ZSd hE hm
     obtain⟨ob,cap,g1,g2,_⟩:=hes
     have g1:γ kk = .own ob cap:=g1
     obtain⟨y,l2,γ2,v2,ℓ2,k1,k2,e2,k3,k4⟩:=Z5a hn hX g h hr e0 (x:=.data (.slice s) xs) trivial
     refine⟨y,l2,γ2,v2,ℓ2,k1,k2,e2,k3,λcs hx=>?_⟩
     obtain⟨y',rfl,hp,hy⟩:=hx
     obtain⟨ob',cap',g3,g4⟩:=hy _ he
     rw[g1]at g3;cases g3
     subst g4
     exact k4 _ g2
    | false =>
     obtain⟨v',ℓ',f1,e1,f2,ob,cap,g1,g2⟩:=hr.freeze e0 he hn hX
     obtain⟨y,l2,γ2,v2,ℓ2,k1,k2,e2,k3,k4⟩:=Z5a hn hX g h f1 e1 (x:=.data (.slice s) xs) trivial
     refine⟨y,l2,γ2,v2,ℓ2,k1,k2,e2,f2.trans k3,λcs hx=>?_⟩
     obtain⟨y',rfl,hp,hy⟩:=hx
     obtain⟨ob',cap',g3,g4⟩:=hy _ he
     rw[g1]at g3;cases g3
     subst g4
     exact k4 _ g2
   | mat ty _ s m _ =>
    obtain⟨γ',v',ℓ',f1,e1,f2,ob,cap,rows,g1,g1',g2⟩:=hr.freezeM e0 he hn hX
    obtain⟨y,l2,γ2,v2,ℓ2,k1,k2,e2,k3,k4⟩:=Z5a hn hX g h f1 e1 (x:=.data (.slice (.slice s)) m) trivial
    refine⟨y,l2,γ2,v2,ℓ2,k1,k2,e2,f2.trans k3,λcs hx=>?_⟩
    obtain⟨y',rfl,hp,hy⟩:=hx
    obtain⟨ob',cap',rows',g3,g4⟩:=hy _ he
    rw[g1]at g3;cases g3
    subst g4
    exact k4 _ g2
  | agg c =>
   cases c with
   | cons x1 c =>
    cases c with
    | cons x2 r =>
     have hk1:x1.ok U:=hk.1
     have hk2:x2.ok U:=hk.2.1
     have hk3:r.ok U:=hk.2.2
     simp only[conv]at h
     split at h
     · -- an integer
      obtain⟨s,l1,γ1,v1,ℓ1,h,r1,e1,le1,q1⟩:=Z5a hn hX g h hr e0 hk1
      obtain⟨m,l2,γ2,v2,ℓ2,h,r2,e2,le2,q2⟩:=Z5a hn hX g h r1 e1 hk2
      obtain⟨y,hy,h⟩:=h
      refine⟨y,l2,γ2,v2,ℓ2,h,r2,e2,le1.trans le2,λcs hx=>?_⟩
      obtain⟨c1,c2',rfl,hx1,c2,c3,rfl,hx2,hx3⟩:=hx
      have hx3:c3=[]:=hx3
      subst hx3
      have q1:=q1 _ hx1
      have q2:=q2 _ (Zcb le1 hk2 hx2)
      have q1:c1=[.bool s]:=Rep.mono ZKc le2.v q1
      subst q1
      have q2:Zt.rel v2 c2 m:=q2
      obtain⟨qa,na,ka,rfl⟩:=ZIa q2
      exact Z2v q2 hy
     · -- a fraction
      obtain⟨s,l1,γ1,v1,ℓ1,h,r1,e1,le1,q1⟩:=Z5a hn hX g h hr e0 hk1
      obtain⟨m,l2,γ2,v2,ℓ2,h,r2,e2,le2,q2⟩:=Z5a hn hX g h r1 e1 hk2
      obtain⟨y,hy,h⟩:=h
      refine⟨y,l2,γ2,v2,ℓ2,h,r2,e2,le1.trans le2,λcs hx=>?_⟩
      obtain⟨c1,c2',rfl,hx1,c2,c3,rfl,hx2,hx3⟩:=hx
      have hx3:c3=[]:=hx3
      subst hx3
      have q1:=q1 _ hx1
      have q2:=q2 _ (Zcb le1 hk2 hx2)
      have q1:Ztc.rel v2 c1 s:=Rep.mono Ztc le2.v q1
      obtain⟨sb,qb,nb,kb,rfl⟩:=ZWi q1
      have q2:Zt.rel v2 c2 m:=q2
      obtain⟨qa,na,ka,rfl⟩:=ZIa q2
      exact ZBz q1 q2 hy
     · -- the reference's fraction
      rename_i x3 _
      have hk4:x3.ok U:=hk3.1
      obtain⟨s,l1,γ1,v1,ℓ1,h,r1,e1,le1,q1⟩:=Z5a hn hX g h hr e0 hk1
      obtain⟨m,l2,γ2,v2,ℓ2,h,r2,e2,le2,q2⟩:=Z5a hn hX g h r1 e1 hk2
      obtain⟨d,l3,γ3,v3,ℓ3,h,r3,e3,le3,q3⟩:=Z5a hn hX g h r2 e2 hk4
      obtain⟨y,hy,h⟩:=h
      refine⟨y,l3,γ3,v3,ℓ3,h,r3,e3,(le1.trans le2).trans le3,λcs hx=>?_⟩
      obtain⟨c1,c2',rfl,hx1,c2,c3,rfl,hx2,hx3⟩:=hx
      obtain⟨c4,c5,rfl,hx4,hx5⟩:=hx3
      have hx5:c5=[]:=hx5
      subst hx5
      have q1:=q1 _ hx1
      have q2:=q2 _ (Zcb le1 hk2 hx2)
      have q3:=q3 _ (Zcb (le1.trans le2) hk4 hx4)
      have q1:c1=[.bool s]:=q1
      subst q1
      have q2:ZXa.rel v3 c2 m:=Rep.mono ZXa le3.v q2
      obtain⟨qa,na,ka,rfl⟩:=ZJd q2
      have q3:ZXa.rel v3 c4 d:=q3
      obtain⟨qb,nb,kb,rfl⟩:=ZJd q3
      exact ZOp q2 q3 hy
     ·obtain⟨y1,l1,γ1,v1,ℓ1,h,r1,e1,le1,q1⟩:=Z5a hn hX g h hr e0 hk1
      obtain⟨y2,l2,γ2,v2,ℓ2,h,r2,e2,le2,q2⟩:=Z5a hn hX g h r1 e1 hk2
      refine⟨_,l2,γ2,v2,ℓ2,h,r2,e2,le1.trans le2,λcs hx=>?_⟩
      obtain⟨c1,c2',rfl,hx1,c2,c3,rfl,hx2,hx3⟩:=hx
      have hx3:c3=[]:=hx3
      subst hx3
      exact⟨c1,c2,by simp,Rep.mono _ le2.v (q1 _ hx1),q2 _ (Zcb le1 hk2 hx2)⟩
     ·obtain⟨y1,l1,γ1,v1,ℓ1,h,r1,e1,le1,q1⟩:=Z5a hn hX g h hr e0 hk1
      obtain⟨y2,l2,γ2,v2,ℓ2,h,r2,e2,le2,q2⟩:=Z5a hn hX g h r1 e1 (x:=.agg (.cons x2 r)) ⟨hk2,hk3⟩
      refine⟨_,l2,γ2,v2,ℓ2,h,r2,e2,le1.trans le2,λcs hx=>?_⟩
      obtain⟨c1,c2',rfl,hx1,c2,c3,rfl,hx2,hx3⟩:=hx
      exact⟨c1,c2++c3,rfl,Rep.mono _ le2.v (q1 _ hx1),q2 _ (Zcb le1 (x:=.agg (.cons x2 r)) ⟨hk2,hk3⟩ (m:=false) ⟨c2,c3,rfl,hx2,hx3⟩)⟩
     ·exact h.elim
    | nl =>
     simp only[conv]at h
     split at h
     ·obtain⟨y1,l1,γ1,v1,ℓ1,h,r1,e1,le1,q1⟩:=Z5a hn hX g h hr e0 hk.1
      refine⟨_,l1,γ1,v1,ℓ1,h,r1,e1,le1,λcs hx=>?_⟩
      obtain⟨c1,c2,rfl,hx1,hx2⟩:=hx
      have hx2:c2=[]:=hx2
      subst hx2
      rw[List.append_nil];exact q1 _ hx1
     ·exact h.elim
    | _=>simp only[conv]at h;exact h.elim
   | _=>simp only[conv]at h;exact h.elim
  | ptr u off =>
   cases off with
   | succ _=>simp only[conv]at h;exact h.elim
   | zero =>
    simp only[conv]at h
    split at h
    ·obtain⟨⟨k0,st0,L⟩,he,h⟩:=h
     have hkk:k0=u:=(Zl he).2
     subst hkk
     cases L with
     | box ty0 c =>
      simp only at h
      obtain⟨es,E',h1,_,_,h3,_⟩:=hr.del he
      obtain⟨b',cs,g2,g3,g4,rfl⟩:=h1
      have g2:γ k0 = .box b':=g2
      obtain⟨x1,l1,γ1,v1,ℓ1,hB,r1,e1,le1,q1⟩:=Z5a hn hX g h hr e0 (hr.ul _ (Zl he).1).2.2
      obtain⟨⟨k1,st1,L1⟩,he1,hC⟩:=hB
      have hkk1:k1=k0:=(Zl he1).2
      subst hkk1
      cases L1 with
      | box ty1 c1 =>
       obtain⟨e0',he0,hce⟩:=le1.l _ _ hk he1
       rw[he]at he0;cases he0
       have hce:γ1 k1=γ k1:=hce
       obtain⟨es1,E1,f1,_,_,f3,r2⟩:=r1.del he1
       obtain⟨b1,cs1,f4,f5,f6,rfl⟩:=f1
       have f4:γ1 k1 = .box b1:=f4
       rw[hce,g2]at f4;cases f4
       have m0:=(hr.st.loc _ (h3.mem_iff.2 (List.mem_append_left _ (List.mem_singleton.2 rfl)))).1
       have m1:=(r1.st.loc _ (f3.mem_iff.2 (List.mem_append_left _ (List.mem_singleton.2 rfl)))).1
       have m0:w.heap[b']? = some (.cells cs.toArray ty0 (0,0)):=m0
       have m1:w.heap[b']? = some (.cells cs1.toArray ty1 (0,0)):=m1
       rw[m0]at m1
       have hcs:cs=cs1:=by
        have:=Option.some.inj m1
        injection this with h1 _ _
        have:=congrArg Array.toList h1
        simpa using this
       subst hcs;have e2:St N w0 v0 [] (.box b' ty1 cs :: (ex++E1.flatten)) v1 a w:=e1.perm ((List.Perm.append_left ex f3).trans List.perm_middle);obtain⟨v',hv,hs1,hAt⟩:=e2.pubVar (i:=0) rfl rfl;have hs1:St N w0 v0 [] (ex++E1.flatten) v' a w:=hs1;have r3:=r2.go hv (hs1.drop (List.sublist_append_right _ _));obtain⟨E3,hE3,_⟩:=r2.lr;refine⟨x1,_,γ1,v',_,hC,r3,hs1,(le1.trans (Le.era r1 k1)).trans (Le.refl hE3 hv),λcs' hx=>?_⟩;obtain⟨y',rfl,_,hy⟩:=hx;obtain⟨b2,g5,rfl⟩:=hy _ he;rw[g2]at g5;cases g5;exact rPtr_mk hAt (Rep.mono _ hv (q1 _ g3))
      | own _ _ _ _=>exact hC.elim
      | mid _ _ _ _ _ _=>exact hC.elim
      | mat _ _ _ _ _=>exact hC.elim
     | own _ _ _ _=>exact h.elim
     | mid _ _ _ _ _ _=>exact h.elim
     | mat _ _ _ _ _=>exact h.elim
    ·exact h.elim
  | _=>simp only[conv]at h;exact h.elim
theorem Zdd {ρ:Type} {n:Nat} (hn:¬ U n) (hX:X n) (g:Nat) {t:T} {x:V} {k:t.den→Ev ρ} {l:Lo} {Post:ρ→Fr→Lo→Prop} {γ:Nat→Gh} {v:Zb} {ℓ:List Loc} (h:Zj n (conv g t x k) f l Post) (hr:RelX N G w0 v0 U X f l a w γ v ℓ) (hk:x.ok U) :
  ∃ y l' γ' v' ℓ',Zj n (k y) f l' Post∧RelX N G w0 v0 U X f l' a w γ' v' ℓ'∧Le U v γ l v' γ' l'∧∀ cs,RR v γ l false x cs→t.rep.rel v' cs y:=by
 obtain⟨y,l',γ',v',ℓ',h1,h2,_,h3,h4⟩:=Z5a (ex:=[]) hn hX g h hr hr.st hk;exact⟨y,l',γ',v',ℓ',h1,h2,h3,h4⟩
end
end Go.Eng
namespace Go.Eng
open Go.RowKit
variable {P:Program} {K:Nat} {w0:Base} {v0:Zb} {σ:List (Nat×Value)} {ℓ:List Loc} {v:Zb} {a:Act} {w:World}
theorem ZJz {P:Program} {Q:Exit→Act→World→Prop} {a:Act} {w:World} {c:Code} {n:Nat} (h:c.wp P (Exit.then (Code.rounds P c Q n) Q) a w):Code.rounds P c Q (n+1) a w:=h
end Go.Eng
namespace Go.Eng
open Go.RowKit
section
variable {P:Program} {K:Nat} {w0:Base} {v0:Zb} {σ:List (Nat×Value)} {ℓ:List Loc} {v:Zb} {a:Act} {w:World}
variable {d:Option Nat} {ty:TypeId} {pos:String} {aft:Array Edge} {g:Option (Nat×Bool)}
theorem Zkq (hS:St K w0 v0 σ ℓ v a w) {t:TypeId} {x j:Operand} {X J z:Value} (e:ev σ x=some X) (e':ev σ j=some J) (h:(Instr.index t X J).run P w = .ok z w) :
  (execOp a.eval ⟨d,.index t x j,ty,pos,aft,g⟩).run P w = .ok (.value z) w:=by
 simp[execOp,hS.eval e,hS.eval e',h]
end
end Go.Eng
namespace Go.Eng
open Go.RowKit
section
variable {K:Nat} {w0:Base} {v0:Zb} {ℓ:List Loc} {v:Zb} {a:Act} {w:World}
theorem St.evs (h:St K w0 v0 [] ℓ v a w):∀ xs:List Operand,∃ σ,St K w0 v0 σ ℓ v a w∧∀ x ∈ xs,ev σ x=some (a.eval x)
 | []=>⟨[],h,λ_ e=>by cases e⟩
 | x :: xs=>by
  obtain⟨σ,hs,hx⟩:=St.evs h xs
  cases x with
  | tmp t =>
   refine⟨(t,a.tmps.getD t undef) :: σ,hs.learn rfl,λz hz=>?_⟩
   rcases List.mem_cons.1 hz with rfl | hz
   ·exact ZTe rfl
   ·have h1:=hx z hz
    cases z with
    | tmp t' =>
     by_cases e:t=t'
     ·subst e;exact ZTe rfl
     ·show look _ t'=_;rw[ZAg e];exact h1
    | _=>exact h1
  | const c=>exact⟨σ,hs,λz hz=>by rcases List.mem_cons.1 hz with rfl | hz;exact rfl;exact hx z hz⟩
  | global g=>exact⟨σ,hs,λz hz=>by rcases List.mem_cons.1 hz with rfl | hz;exact rfl;exact hx z hz⟩
  | func g=>exact⟨σ,hs,λz hz=>by rcases List.mem_cons.1 hz with rfl | hz;exact rfl;exact hx z hz⟩
theorem St.ev1 (h:St K w0 v0 [] ℓ v a w) (x:Operand):∃ σ,St K w0 v0 σ ℓ v a w∧ev σ x=some (a.eval x):=by
 obtain⟨σ,h1,h2⟩:=h.evs [x];exact⟨σ,h1,h2 x (by simp)⟩
theorem St.ev2 (h:St K w0 v0 [] ℓ v a w) (x y:Operand):∃ σ,St K w0 v0 σ ℓ v a w∧ev σ x=some (a.eval x)∧ev σ y=some (a.eval y):=by
 obtain⟨σ,h1,h2⟩:=h.evs [x,y];exact⟨σ,h1,h2 x (by simp),h2 y (by simp)⟩
theorem St.ev6 (h:St K w0 v0 [] ℓ v a w) (x1 x2 x3 x4 x5 x6:Operand):∃ σ,St K w0 v0 σ ℓ v a w∧ev σ x1=some (a.eval x1)∧ev σ x2=some (a.eval x2)∧ev σ x3=some (a.eval x3)∧ev σ x4=some (a.eval x4)∧ev σ x5=some (a.eval x5)∧ev σ x6=some (a.eval x6):=by
 obtain⟨σ,h1,h2⟩:=h.evs [x1,x2,x3,x4,x5,x6];exact⟨σ,h1,h2 _ (by simp),h2 _ (by simp),h2 _ (by simp),h2 _ (by simp),h2 _ (by simp),h2 _ (by simp)⟩
theorem St.ev3 (h:St K w0 v0 [] ℓ v a w) (x y z:Operand):∃ σ,St K w0 v0 σ ℓ v a w∧ev σ x=some (a.eval x)∧ev σ y=some (a.eval y)∧ev σ z=some (a.eval z):=by
 obtain⟨σ,h1,h2⟩:=h.evs [x,y,z];exact⟨σ,h1,h2 x (by simp),h2 y (by simp),h2 z (by simp)⟩
end
section
variable {P:Program} {N:Nat} {G:V→Value→Prop} {w0:Base} {v0:Zb} {U X:Nat→Prop} {f:Fr} {l:Lo} {a:Act} {w:World} {γ:Nat→Gh} {v:Zb} {ℓ:List Loc} {n:Nat}
def Zba (P:Program) (N:Nat) (G:V→Value→Prop) (w0:Base) (v0:Zb) (X:Nat→Prop) (o:Oper) (a:Act) (w:World) (Post:Unit→Fr→Lo→Prop):Prop :=
 Zlb P o a w λx w'=>∃ f' l',Post () f' l'∧Rel N G w0 v0 X f' l' (a.put o.dst x) w'
theorem fin {o:Oper} {l':Lo} {w':World} {γ':Nat→Gh} {v':Zb} {ℓ':List Loc} {x:V} {y:Value} {Post:Unit→Fr→Lo→Prop} (hr:RelX N G w0 v0 X X f l' a w' γ' v' ℓ') (hrun:(execOp a.eval o).run P w = .ok (.value y) w')
  (hd:∀ d,o.dst=some d→d<N) (hX:X n) (hv:RV v' γ' l' x y) (hk:x.ok X) (h:Zj n (ret o x) f l' Post):Zba P N G w0 v0 X o a w Post:=by
 unfold ret at h;refine Zoe hrun ?_
 cases hdd:o.dst with
 | none=>rw[hdd]at h;exact h.elim
 | some d =>
  rw[hdd]at h;exact⟨_,_,h,_,_,_,hr.put (hd d hdd) hv hk hX⟩
theorem ZI {o:Oper} {x:V} {y:Value} {Post:Unit→Fr→Lo→Prop} (hr:RelX N G w0 v0 U X f l a w γ v ℓ) (hU:∀ k,U k→X k) (hrun:(execOp a.eval o).run P w = .ok (.value y) w)
  (hd:∀ d,o.dst=some d→d<N) (hX:X n) (hv:RV v γ l x y) (hk:x.ok X) (h:Zj n (ret o x) f l Post):Zba P N G w0 v0 X o a w Post :=
 fin (hr.mono hU λ_ h=>h) hrun hd hX hv hk h
theorem ZQb {x:V} {cs:List Value} (h:RR v γ l false x cs) (hx:∀ c,x ≠ .tup c):RV v γ l x (x.val cs):=by
 cases x with
 | tup c=>exact absurd rfl (hx c)
 | _=>exact⟨cs,h,rfl⟩
theorem Z1a {x:V} {y:Value} (h:RV v γ l x y) (hx:∀ c,x ≠ .tup c):∃ cs,RR v γ l false x cs∧y=x.val cs:=by
 cases x with
 | tup c=>exact absurd rfl (hx c)
 | _=>exact h
theorem Zjg {t:T} {x:t.den} {y:Value} (h:RV v γ l (.data t x) y):∃ cs,t.rep.rel v cs x∧y=t.rep.val cs:=by
 obtain⟨cs,h1,h2⟩:=h;exact⟨cs,h1,by rw[h2,Zlg]⟩
theorem Zza {k:IntKind} {i:Int} {y:Value} (h:RV v γ l (.data (.int k) i) y):y = .int k i∧inR k i:=by
 obtain⟨cs,h1,rfl⟩:=h;obtain⟨rfl,h2⟩:=h1;exact⟨rfl,h2⟩
theorem Zcf {b:Bool} {y:Value} (h:RV v γ l (.data .bool b) y):y = .bool b:=by
 obtain⟨cs,h1,rfl⟩:=h;have h1:cs=[.bool b]:=h1;subst h1;rfl
theorem ZQg {s:List UInt8} {y:Value} (h:RV v γ l (.data .str s) y):y = .string (Zs s)∧s.length≤maxLen:=by
 obtain⟨cs,h1,rfl⟩:=h;obtain⟨rfl,h2⟩:=h1;exact⟨rfl,h2⟩
theorem ZHa {k:IntKind} {i:Int} (h:inR k i):RV v γ l (.data (.int k) i) (.int k i):=⟨[.int k i],⟨rfl,h⟩,rfl⟩
theorem Zoc {b:Bool}:RV v γ l (.data .bool b) (.bool b):=⟨[.bool b],rfl,rfl⟩
theorem Z6i {s:List UInt8} (h:s.length≤maxLen):RV v γ l (.data .str s) (.string (Zs s)):=⟨[.string (Zs s)],⟨rfl,h⟩,rfl⟩
theorem ZXn {t:T} {xs:List t.den} {y:Value} (h:RV v γ l (.data (.slice t) xs) y):∃ q n c,y = .slice q n c∧(Zp t.rep).rel v [.slice q n c] xs:=by
 obtain⟨cs,h1,rfl⟩:=h;obtain⟨q,n,c,rfl⟩:=Zjf (A:=t.rep) h1;exact⟨q,n,c,rfl,h1⟩
theorem Z4 {x:V} {y:Value} (h:RV v γ l x y) (hx:∀ c,x ≠ .tup c) (hs:x.size=1) (ha:x.isAgg=false):RR v γ l false x [y]:=by
 obtain⟨cs,h1,rfl⟩:=Z1a h hx;rw[Zbg h1 hs ha]at h1;exact h1
theorem Zvv {c:Value} {x:V} (h:Zjk c=some x):RV v γ l x c∧x.ok U:=by
 unfold Zjk at h;split at h
 ·cases h;exact⟨Zoc,trivial⟩
 ·split at h
  ·cases h;exact⟨ZHa (by assumption),trivial⟩
  ·cases h
 ·split at h
  ·cases h;exact⟨⟨[_],⟨rfl,by assumption⟩,rfl⟩,trivial⟩
  ·cases h
 ·rename_i s;split at h
  ·cases h
   refine⟨?_,trivial⟩;have:=Z6i (v:=v) (γ:=γ) (l:=l) (s:=s.data.toList) (by assumption)
   simpa [Zs] using this
  ·cases h
 ·cases h;exact⟨⟨[_],rfl,rfl⟩,trivial⟩
 ·cases h
theorem Zqo (hr:RelX N G w0 v0 U X f l a w γ v ℓ) {x:Operand} {V':V} (h:opdV f x=some V'):RV v γ l V' (a.eval x)∧V'.ok U:=by
 cases x with
 | tmp t =>
  simp only[opdV]at h;split at h
  ·rename_i e he;cases h;exact⟨hr.fr t e he,(hr.uf _ e he).1⟩
  ·cases h
 | const c=>exact Zvv h
 | func g=>cases h;exact⟨⟨[_],⟨[],rfl,rfl⟩,rfl⟩,trivial⟩
 | global g=>cases h
theorem ZGy {ρ:Type} {x:Operand} {k:V→Ev ρ} {Post:ρ→Fr→Lo→Prop} (h:Zj n (opd x k) f l Post):∃ V',opdV f x=some V'∧Zj n (k V') f l Post:=by
 cases x with
 | tmp t=>obtain⟨e,he,h⟩:=h;exact⟨e.x,by simp only[opdV,he],h⟩
 | const c =>
  simp only[opd]at h;split at h
  ·rename_i x hx;exact⟨x,hx,h⟩
  ·exact h.elim
 | func g=>exact⟨_,rfl,h⟩
 | global g=>exact h.elim
theorem ZF {ρ:Type} (hr:RelX N G w0 v0 U X f l a w γ v ℓ) {x:Operand} {k:V→Ev ρ} {Post:ρ→Fr→Lo→Prop} (h:Zj n (opd x k) f l Post):∃ V',RV v γ l V' (a.eval x)∧V'.ok U∧Zj n (k V') f l Post:=by
 obtain⟨V',h1,h2⟩:=ZGy h;obtain⟨h3,h4⟩:=Zqo hr h1;exact⟨V',h3,h4,h2⟩
theorem Z2a {ρ:Type} {x:V} {k:IntKind→Int→Ev ρ} {Post:ρ→Fr→Lo→Prop} (h:Zj n (ZMa x k) f l Post):∃ κ i,x = .data (.int κ) i∧Zj n (k κ i) f l Post:=by
 unfold ZMa at h;split at h
 ·exact⟨_,_,rfl,h⟩
 ·exact h.elim
theorem Zyx {ρ:Type} {x:V} {k:Bool→Ev ρ} {Post:ρ→Fr→Lo→Prop} (h:Zj n (Zjm x k) f l Post):∃ b,x = .data .bool b∧Zj n (k b) f l Post:=by
 unfold Zjm at h;split at h
 ·exact⟨_,rfl,h⟩
 ·exact h.elim
theorem Z5q {t:TypeId} {p q:Bool} (ht:P.underlying t=some .bool) (w:World):(Op.equal t (.bool p) (.bool q)).run P w = .ok (p==q) w:=by
 show (Op.equalIn (9999+1) t (.bool p) (.bool q)).run P w=_;unfold Op.equalIn;simp[run_underlying ht]
theorem Zyw {t:TypeId} {p q:Bool} (ht:P.underlying t=some .bool) (w:World):(binOp .eql t (.bool p) (.bool q)).run P w = .ok (.bool (p==q)) w:=by
 simp[binOp,Z5q ht]
theorem Zhz {t:TypeId} {p q:Bool} (ht:P.underlying t=some .bool) (w:World):(binOp .neq t (.bool p) (.bool q)).run P w = .ok (.bool (p != q)) w:=by
 simp[binOp,Z5q ht,bne]
theorem binI_ok {op:BinOp} {κ:IntKind} {i j:Int} {k:V→Ev Unit} {Post:Unit→Fr→Lo→Prop} (t:TypeId) (hi:inR κ i) (h:Zj n (binI op κ i j k) f l Post):∃ x y,(∀ w,(binOp op t (.int κ i) (.int κ j)).run P w = .ok y w)∧RV v γ l x y∧x.ok U∧Zj n (k x) f l Post:=by
 unfold binI at h;split at h
 ·split at h
  ·obtain⟨z,hz,h⟩:=h;exact⟨_,_,ZFf hz,ZHa (ZBb hz).2,trivial,h⟩
  ·exact⟨_,_,Zfn,ZHa (Z1b _ _),trivial,h⟩
 ·split at h
  ·obtain⟨z,hz,h⟩:=h;exact⟨_,_,ZOb hz,ZHa (ZBb hz).2,trivial,h⟩
  ·exact⟨_,_,Z3m,ZHa (Z1b _ _),trivial,h⟩
 ·split at h
  ·obtain⟨z,hz,h⟩:=h;exact⟨_,_,bin_mul hz,ZHa (ZBb hz).2,trivial,h⟩
  ·exact⟨_,_,Z5x,ZHa (Z1b _ _),trivial,h⟩
 ·obtain⟨z,hz,h⟩:=h;exact⟨_,_,ZCo hz,ZHa (Z7p hz),trivial,h⟩
 ·obtain⟨z,hz,h⟩:=h;exact⟨_,_,Zjp hz,ZHa (rem_inR hi hz),trivial,h⟩
 ·exact⟨_,_,bin_and,ZHa (Z1b _ _),trivial,h⟩
 ·exact⟨_,_,bin_or,ZHa (Z1b _ _),trivial,h⟩
 ·exact⟨_,_,bin_xor,ZHa (Z1b _ _),trivial,h⟩
 ·exact⟨_,_,Zee,Zoc,trivial,h⟩
 ·exact⟨_,_,ZEr,Zoc,trivial,h⟩
 ·exact⟨_,_,ZLf,Zoc,trivial,h⟩
 ·exact⟨_,_,Zko,Zoc,trivial,h⟩
 ·exact⟨_,_,ZOg,Zoc,trivial,h⟩
 ·exact⟨_,_,bin_neq,Zoc,trivial,h⟩
 ·exact h.elim
theorem binE_ok (hr:RelX N G w0 v0 U X f l a w γ v ℓ) {d:Option Nat} {op:BinOp} {t t' ty:TypeId} {pos:String} {aft:Array Edge} {g:Option (Nat×Bool)} {x y:Operand} {vx vy:V} {k:V→Ev Unit} {Post:Unit→Fr→Lo→Prop} (hx:RV v γ l vx (a.eval x)) (hy:RV v γ l vy (a.eval y))
  (h:Zj n (binE P op t vx vy k) f l Post):∃ z q,(execOp a.eval ⟨d,.binOp op t x y t',ty,pos,aft,g⟩).run P w = .ok (.value q) w∧RV v γ l z q∧z.ok U∧Zj n (k z) f l Post:=by
 obtain⟨σ,hs,e1,e2⟩:=hr.st.ev2 x y;unfold binE at h;split at h
 ·obtain⟨h1,h2⟩:=Zza hx;obtain⟨h3,h4⟩:=Zza hy;rw[h1]at e1;rw[h3]at e2;split at h
  ·obtain⟨z,hz,h⟩:=h;exact⟨_,_,Zz hs e1 e2 (bin_shl hz),ZHa (Zmz h2 hz),trivial,h⟩
  ·obtain⟨z,hz,h⟩:=h;exact⟨_,_,Zz hs e1 e2 (bin_shr hz),ZHa (ZTv h2 hz),trivial,h⟩
  ·split at h
   ·rename_i hk;have hk:=Zcc hk;subst hk;obtain⟨z,q,h5,h6,h7,h8⟩:=binI_ok (P:=P) (v:=v) (γ:=γ) (U:=U) t h2 h;exact⟨z,q,Zz hs e1 e2 h5,h6,h7,h8⟩
   ·exact h.elim
 ·have h1:=Zcf hx;have h2:=Zcf hy;rw[h1]at e1;rw[h2]at e2;split at h
  ·rename_i ht;split at h
   ·exact⟨_,_,ZOr hs e1 e2 (Zyw ht),Zoc,trivial,h⟩
   ·exact⟨_,_,ZOr hs e1 e2 (Zhz ht),Zoc,trivial,h⟩
   ·exact h.elim
  ·exact h.elim
 ·obtain⟨h1,h2⟩:=ZQg hx;obtain⟨h3,h4⟩:=ZQg hy;rw[h1]at e1;rw[h3]at e2;split at h
  ·obtain⟨z,hz,h⟩:=h;exact⟨_,_,ZAj hs e1 e2 (ZJo hz),Z6i (ZYi hz),trivial,h⟩
  ·exact⟨_,_,ZAj hs e1 e2 str_eql,Zoc,trivial,h⟩
  ·exact⟨_,_,ZAj hs e1 e2 str_neq,Zoc,trivial,h⟩
  ·exact h.elim
 ·exact h.elim
end
end Go.Eng
namespace Go.Eng
open Go.RowKit
theorem T_one:∀ {t:T},t.agg=false→t.n=1
 | .int _,_ | .bool,_ | .flt _,_ | .str,_ | .slice _,_ | .ptr _,_=>rfl
 | .leaf 0,_ | .leaf 1,_ | .leaf (_+5),_=>rfl
theorem Zfd:∀ (g:Nat) {x z:V} {off n:Nat} {ag:Bool},Zca g x off n ag=some z→z.isAgg=false→z.size=1
 | 0,_,_,_,_,_,h,_=>by cases h
 | g+1,x,z,off,n,ag,h,hz=>by
  have whole:∀ {y:V},(y.isAgg=false→y.size=1)→(match Nat.beq off 0,Nat.beq y.size n,eqB y.isAgg ag with
    | true,true,true=>some y
    | _,_,_=>match y with
     | .agg c=>Zca g c off n ag
     | .data t x=>match ZKb t x with
      | some c=>Zca g c off n ag
      | none=>none
     | _=>none)=some z→z.size=1:=by
   intro y h1 hy;split at hy
   ·cases hy;exact h1 hz
   ·split at hy
    ·exact Zfd g hy hz
    ·split at hy
     ·exact Zfd g hy hz
     ·cases hy
    ·cases hy
  cases x with
  | nl=>simp only[Zca]at h;cases h
  | cons a b =>
   simp only[Zca]at h;split at h
   ·exact Zfd g h hz
   ·split at h
    ·exact Zfd g h hz
    ·cases h
  | data t x=>exact whole (y:=.data t x) (λh=>T_one h) h
  | agg c=>exact whole (y:=.agg c) (λh=>by cases h) h
  | nilS=>exact whole (y:=.nilS) (λ_=>rfl) h
  | own u=>exact whole (y:=.own u) (λ_=>rfl) h
  | row u i hv cv t r=>exact whole (y:=.row u i hv cv t r) (λ_=>rfl) h
  | ptr u o=>exact whole (y:=.ptr u o) (λ_=>rfl) h
  | el u i cv t x o=>exact whole (y:=.el u i cv t x o) (λ_=>rfl) h
  | rp u i hv cv t r=>exact whole (y:=.rp u i hv cv t r) (λ_=>rfl) h
  | rel u i j hv cv t r x o=>exact whole (y:=.rel u i j hv cv t r x o) (λ_=>rfl) h
  | vp t x o=>exact whole (y:=.vp t x o) (λ_=>rfl) h
  | tup c=>exact whole (y:=.tup c) (λ_=>rfl) h
  | fn f c=>exact whole (y:=.fn f c) (λ_=>rfl) h
  | ifc f c=>exact whole (y:=.ifc f c) (λ_=>rfl) h
  | undef=>exact whole (y:=.undef) (λ_=>rfl) h
theorem Znh {v:Zb} {a:T}:∀ {n:Nat} {x:(Zfa a n).den} {cs:List Value},0<n→(Zfa a n).rep.rel v cs x→a.rep.rels v cs (ZUa a n x)∧(ZUa a n x).length=n
 | 0,_,_,h,_=>by omega
 | 1,x,cs,_,h=>⟨Zum h,rfl⟩
 | 2,x,cs,_,h=>by
  obtain⟨c1,c2,h1,h2,h3⟩:=h
  exact⟨⟨c1,c2,h1,h2,Zum h3⟩,rfl⟩
 | k+3,x,cs,_,h=>by
  obtain⟨c1,c2,h1,h2,h3⟩:=h
  obtain⟨k1,k2⟩:=Znh (n:=k+2) (by omega) h3
  exact⟨⟨c1,c2,h1,h2,k1⟩,by show (ZUa a (k+2) x.2).length+1=_;rw[k2]⟩
theorem Z2t {v:Zb} {a:T}:∀ {n:Nat} {x:(Zfa a n).den} {cs:List Value},0<n→a.rep.rels v cs (ZUa a n x)→(Zfa a n).rep.rel v cs x
 | 0,_,_,h,_=>by omega
 | 1,x,cs,_,h=>by
  obtain⟨c1,c2,rfl,h1,h2⟩:=h
  have h2:c2=[]:=h2
  subst h2
  rw[List.append_nil];exact h1
 | 2,x,cs,_,h=>by
  obtain⟨c1,c2,h1,h2,c3,c4,rfl,h3,h4⟩:=h
  have h4:c4=[]:=h4
  subst h4
  rw[List.append_nil]at h1
  exact⟨c1,c3,h1,h2,h3⟩
 | k+3,x,cs,_,h=>by
  obtain⟨c1,c2,h1,h2,h3⟩:=h
  exact⟨c1,c2,h1,h2,Z2t (n:=k+2) (by omega) h3⟩
theorem Zes {a:T}:∀ {n:Nat} {x:(Zfa a n).den} {i:Nat} {y:a.den},i<n→ZUa a n (arrS a n x i y)=(ZUa a n x).set i y
 | 0,_,_,_,h=>by omega
 | 1,x,i,y,h=>by
  obtain rfl:i=0:=by omega
  rfl
 | 2,x,i,y,h=>by
  rcases (show i=0∨i=1 by omega) with rfl | rfl <;> rfl
 | k+3,x,0,y,h=>rfl
 | k+3,x,i+1,y,h=>by
  have:=Zes (a:=a) (n:=k+2) (x:=x.2) (i:=i) (y:=y) (by omega)
  show x.1 :: ZUa a (k+2) (arrS a (k+2) x.2 i y)=(x.1 :: ZUa a (k+2) x.2).set (i+1) y
  rw[this];rfl
theorem ZNz {α:Type} {l:List α} {i:Nat} {y:α} (h:idx l (i:Int)=some y):l[i]? = some y:=by
 unfold idx at h;split at h
 ·simpa using h
 ·cases h
section
variable {P:Program} {N:Nat} {G:V→Value→Prop} {w0:Base} {v0:Zb} {U X:Nat→Prop} {f:Fr} {l:Lo} {a:Act} {w:World} {γ:Nat→Gh} {v:Zb} {ℓ:List Loc} {n:Nat}
theorem Zde {t:TypeId} {q:Nat×Bool} (h:szA P t=some q):Sized P t q.1 q.2:=by
 unfold szA at h;split at h
 ·rename_i i d hi hd
  cases h
  refine⟨λw=>by simp[sizeOf,typeInfo,hi],λw=>?_⟩
  cases d <;> simp[isAgg,run_underlying hd,aggD]
 ·cases h
theorem Zco {t:TypeId} {q:TypeId×Nat} (h:ZEh P t=some q):ZGb P t q.1 q.2:=by
 unfold ZEh at h;split at h
 ·rename_i e he;split at h
  ·rename_i i hi
   cases h
   exact⟨λw=>run_underlying he w,λw=>by simp[sizeOf,typeInfo,hi]⟩
  ·cases h
 ·cases h
theorem RelX.loc (h:RelX N G w0 v0 U X f l a w γ v ℓ) {u:Nat} {e:En LV} (hu:lkE l u=some e):e.k=u∧∃ es,Zra v γ l e es∧∀ x ∈ es,∃ i:Nat,ℓ[i]? = some x:=by
 obtain⟨E,hE,hp⟩:=h.lr;obtain⟨es,E',h1,h2,h3⟩:=ZYe hE hu;exact⟨(Zl hu).2,es,h1,λx hx=>List.getElem?_of_mem ((hp.trans h3).mem_iff.2 (List.mem_append_left _ hx))⟩
theorem ZDh (hs:St N w0 v0 [] ℓ v a w) {t:TypeId} {q:Nat×Bool} (ht:szA P t=some q) {b off:Nat} {cs:List Value} (hc:WAt w b off cs) {z:V} (hz:RR v γ l false z cs) (h1:z.size=q.1) (h2:z.isAgg=q.2) (h3:z.isAgg=false→z.size=1)
  {d:Option Nat} {ty:TypeId} {pos:String} {aft:Array Edge} {g:Option (Nat×Bool)} {x:Operand} (e:a.eval x = .pointer (some ⟨b,off,none⟩)):(execOp a.eval ⟨d,.load t x,ty,pos,aft,g⟩).run P w = .ok (.value (z.val cs)) w:=by
 obtain⟨σ,hs',e1⟩:=hs.ev1 x;rw[e]at e1;have ht:=Zde ht;have hl:=ZNc hz
 cases hag:z.isAgg with
 | true =>
  rw[← h2,hag,← h1,← hl]at ht;have:=Z0q (d:=d) (ty:=ty) (pos:=pos) (aft:=aft) (g:=g) hs' e1 ht rfl hc;rw[this];unfold V.val;rw[hag]
 | false =>
  have e3:=Zbg hz (h3 hag) hag;rw[e3]at hc;rw[← h2,hag]at ht;exact Zib (d:=d) (ty:=ty) (pos:=pos) (aft:=aft) (g:=g) hs' e1 ht hc
theorem ZUh {α:Type}:∀ {rows:List (Option Nat×Nat)} {m:List (List α)} {i:Nat} {p:Option Nat×Nat} {r:List α},rows[i]? = some p→m[i]? = some r→(Zn rows m)[i]? = some (.slice (mkA p.1) r.length p.2)
 | [],_,_,_,_,h,_=>by simp at h
 | _ :: _,[],_,_,_,_,h=>by simp at h
 | p :: ps,r :: rs,0,_,_,h,h'=>by simp at h h';subst h h';rfl
 | p :: ps,r :: rs,i+1,_,_,h,h'=>by
  simp only[List.getElem?_cons_succ]at h h'
  have:=ZUh (rows:=ps) (m:=rs) (i:=i) h h'
  simpa [Zn] using this
theorem Znd {α:Type}:∀ {rows:List (Option Nat×Nat)} {m:List (List α)},rows.length=m.length→(Zn rows m).length=m.length
 | [],[],_=>rfl
 | _ :: _,_ :: _,h=>by simp[Zn];exact Znd (by simpa using h)
 | [],_ :: _,h=>by cases h
 | _ :: _,[],h=>by cases h
theorem Zye {ty:TypeId} {t:T}:∀ {rows:List (Option Nat×Nat)} {m:List (List t.den)} {es:List Loc} {i:Nat} {r:List t.den},Zga v ty t rows m es→m[i]? = some r→∃ p cs,rows[i]? = some p∧t.rep.rels v cs r∧.own p.1 ty t.n r.length p.2 cs ∈ es
 | [],[],_,_,_,_,h=>by simp at h
 | _ :: _,_ :: _,_,0,_,⟨cs,es',h1,h2,h3⟩,h=>by simp at h;subst h h2;exact⟨_,cs,rfl,h1,by simp⟩
 | _ :: _,_ :: _,_,i+1,_,⟨cs,es',h1,h2,h3⟩,h=>by
  simp at h
  obtain⟨p,cs',g1,g2,g3⟩:=Zye h3 h
  subst h2
  exact⟨p,cs',by simpa using g1,g2,by simp[g3]⟩
 | [],_ :: _,_,_,_,k,_=>k.elim
 | _ :: _,[],_,_,_,k,_=>k.elim
theorem Zbq {b off k:Nat} {c:List Value} (h:WAt w b off c) (m:Nat) (hk:k+m≤c.length):WAt w b (off+k) ((c.drop k).take m):=by
 obtain⟨c0,T,fr,h1,h2⟩:=h;refine⟨c0,T,fr,h1,?_⟩;have hl:((c.drop k).take m).length=m:=by simp;omega
 rw[hl];have:((c0.toList.drop off).take c.length)=c:=h2
 conv=>rhs;rw[← this]
 rw[List.drop_take,List.drop_drop,List.take_take];congr 1;omega
theorem ldE_ok (hr:RelX N G w0 v0 U X f l a w γ v ℓ) {d:Option Nat} {t ty:TypeId} {pos:String} {aft:Array Edge} {g:Option (Nat×Bool)} {x:Operand} {p:V} {k:V→Ev Unit} {Post:Unit→Fr→Lo→Prop} (hp:RV v γ l p (a.eval x)) (hk:p.ok U)
  (h:Zj n (ldE P t p k) f l Post):∃ z y,(execOp a.eval ⟨d,.load t x,ty,pos,aft,g⟩).run P w = .ok (.value y) w∧RV v γ l z y∧z.ok U∧Zj n (k z) f l Post:=by
 unfold ldE at h;split at h
 ·exact h.elim
 ·rename_i q hq;split at h
  · -- a variable
   rename_i u off;obtain⟨e,he,h⟩:=h;obtain⟨y,hy0,_,hy⟩:=Z4 hp (λ_ e=>by cases e) rfl rfl
   cases hy0
   have hy:=hy e he;obtain⟨kk,st,L⟩:=e;obtain⟨hkk,es,hes,hmem⟩:=hr.loc he
   cases L with
   | box ty0 c =>
    simp only at h;obtain⟨b,cs,g1,g2,g3,rfl⟩:=hes;obtain⟨b',g4,g5⟩:=hy;have hkk:kk=u:=hkk;subst hkk;have g1:γ kk = .box b:=g1;rw[g1]at g4;cases g4;split at h
    ·rename_i z hz;have hc:c.ok U:=(hr.ul _ (Zl he).1).2.2;obtain⟨k1,k2,k3,k4,k5⟩:=ZSc FU hz g2 hc;obtain⟨i,hi⟩:=hmem _ (List.mem_singleton.2 rfl);have hlen:((cs.drop off).take q.1).length=q.1:=by simp;omega
     have hw:=hr.st.box hi off ((cs.drop off).take q.1) (by rw[hlen]);exact⟨z,_,ZDh hr.st hq hw k1 k3 k4 (Zfd FU hz) g5,ZQb k1 (λc e=>by subst e;exact k1),k2,h⟩
    ·exact h.elim
   | own _ _ _ _=>exact h.elim
   | mid _ _ _ _ _ _=>exact h.elim
   | mat _ _ _ _ _=>exact h.elim
  · -- an element
   rename_i u i cv e x0 off;obtain⟨en,he,h⟩:=h;obtain⟨y,hy0,_,_,hy⟩:=Z4 hp (λ_ e=>by cases e) rfl rfl
   cases hy0
   have hy:=hy en he;obtain⟨kk,st,L⟩:=en;obtain⟨hkk,es,hes,hmem⟩:=hr.loc he
   cases L with
   | own ty0 s xs fz =>
    simp only at h;obtain⟨b,cap,g1,g2,g3,g4⟩:=hy;have hkk:kk=u:=hkk;subst hkk;split at h
    ·rename_i hcv;obtain⟨ys,c1,c2⟩:=g4 (eQ hcv);obtain⟨c3,c4⟩:=ZV c1
     cases c3;cases c4
     split at h
     ·rename_i z hz;have key:∀ c,e.rep.rel v c x0→RR v γ l false z ((c.drop off).take q.1)∧z.ok U∧z.size=q.1∧z.isAgg=q.2∧off+q.1≤c.length:=λc hc=>ZSc FU hz (x:=.data e x0) hc trivial;have hcell:∃ c,e.rep.rel v c x0∧WAt w b (0+i*e.n+off) ((c.drop off).take q.1):=by
       cases fz with
       | false =>
        obtain⟨ob,cap',cs,q1,q2,rfl⟩:=hes;have q1:γ kk = .own ob cap':=q1;rw[g1]at q1;cases q1;obtain⟨j,hj⟩:=hmem _ (List.mem_singleton.2 rfl);have hrel:=Zva q2 c2;rw[ZD]at hrel;refine⟨_,hrel,?_⟩;obtain⟨_,_,_,_,k5⟩:=key _ hrel;have hl:=Rep.len _ hrel;rw[ZD]at hl;have hlen:((((cs.drop (i*e.n)).take e.n).drop off).take q.1).length=q.1:=by
         simp only[List.length_take,List.length_drop]at k5 ⊢;omega
        exact ZPd hr.st hj rfl g3 off _ (by rw[hlen]) (by rw[hlen];omega)
       | true =>
        obtain⟨ob,cap',q1,q2,_⟩:=hes;have q1:γ kk = .own ob cap':=q1;rw[g1]at q1;cases q1;obtain⟨_,b2,o2,cs2,e2,h2,h3⟩:=Zgc q2 c2
        cases e2
        refine⟨cs2,h3,?_⟩;obtain⟨_,_,_,_,k5⟩:=key _ h3;rw[ZD]at h2;exact Zbq (hr.st.view h2) q.1 k5
      obtain⟨c,hc1,hc2⟩:=hcell;obtain⟨k1,k2,k3,k4,k5⟩:=key c hc1;exact⟨z,_,ZDh hr.st hq hc2 k1 k3 k4 (Zfd FU hz) g2,ZQb k1 (λc e=>by subst e;exact k1),k2,h⟩
     ·exact h.elim
    ·exact h.elim
   | box ty1 c1 =>
    obtain⟨b,g1,g2⟩:=hy;have hkk:kk=u:=hkk;subst hkk
    cases c1 with
    | data t' w' =>
     simp only at h;split at h
     ·rename_i m e' hu;split at h
      ·rename_i w2 hw2 ho hm0;have ho:=eQ ho;subst ho;obtain⟨c3,c4⟩:=ZV hw2;subst c3;subst c4;obtain⟨y2,hy2,h⟩:=h;have hy2:idx (ZUa e m w') (i:Int)=some y2:=hy2
       dsimp only at h
       split at h
       ·rename_i z hz;obtain⟨b',cs,q1,q2,q3,rfl⟩:=hes;have q1:γ kk = .box b':=q1;rw[g1]at q1;cases q1;obtain⟨jj,hj⟩:=hmem _ (List.mem_singleton.2 rfl);obtain⟨k1,k2⟩:=Znh (lBq hm0) (show (Zfa e m).rep.rel v cs w' from q2);have hx:=ZNz hy2;have hrel:=Zva k1 hx;rw[ZD]at hrel;obtain⟨p1,p2,p3,p4,p5⟩:=ZSc FU (γ:=γ) (l:=l) (U:=U) hz (x:=.data e y2) hrel trivial;have hcl:=ZVb k1;rw[ZD,k2]at hcl;have hi:i<m:=by rw[← k2];exact (List.getElem?_eq_some_iff.1 hx).1
        have hle:i*e.n+e.n≤cs.length:=by rw[hcl,← Nat.succ_mul];exact mR _ hi
        rw[List.drop_zero,List.take_take]at p1;have hlen:((cs.drop (i*e.n)).take (min q.1 e.n)).length=q.1:=by
         simp only[List.length_take,List.length_drop]at p5 ⊢;omega
        have hmin:min q.1 e.n=q.1:=by
         simp only[List.length_take,List.length_drop]at p5 hlen;omega
        rw[hmin]at p1 hlen;have hw:=hr.st.box hj (0+i*e.n+0) ((cs.drop (i*e.n)).take q.1) (by rw[hlen,Nat.zero_add,Nat.add_zero]);exact⟨z,_,ZDh hr.st hq hw p1 p3 p4 (Zfd FU hz) g2,ZQb p1 (λc e=>by subst e;exact p1),p2,h⟩
       ·exact h.elim
      ·exact h.elim
     ·exact h.elim
    | _=>exact h.elim
   | mid _ _ _ _ _ _=>exact h.elim
   | mat _ _ _ _ _=>exact h.elim
  · -- behind a pointer to what is shown
   rename_i e x0 off;obtain⟨cs,h1,h2⟩:=Z1a hp (λ_ e=>by cases e);obtain⟨b,o,c,hA,hR,rfl⟩:=h1;split at h
   ·rename_i z hz;obtain⟨k1,k2,k3,k4,k5⟩:=ZSc FU hz (x:=.data e x0) (γ:=γ) (l:=l) (U:=U) hR trivial;exact⟨z,_,ZDh hr.st hq (Zbq (hr.st.view hA) q.1 k5) k1 k3 k4 (Zfd FU hz) h2,ZQb k1 (λc e=>by subst e;exact k1),k2,h⟩
   ·exact h.elim
  · -- a row's header
   rename_i u i hv cv e r;obtain⟨en,he,h⟩:=h;obtain⟨y,hy0,_,hy⟩:=Z4 hp (λ_ e=>by cases e) rfl rfl
   cases hy0
   have hy:=hy en he;obtain⟨kk,st,L⟩:=en;obtain⟨hkk,es,hes,hmem⟩:=hr.loc he
   cases L with
   | mat ty0 ty2 s m hv' =>
    simp only at h;have hkk:kk=u:=hkk;subst hkk;split at h
    ·rename_i b1 b2 b3;have b1:=eQ b1;have b2:=eQ b2;subst b1 b2;obtain⟨b,cap,rows,g1,g2,g3,g4⟩:=hy;obtain⟨m',c1,c2⟩:=g4 rfl;obtain⟨c3,c4⟩:=ZV c1
     cases c3;cases c4
     obtain⟨ob,cap',rows',es2,q1,q2,rfl⟩:=hes;have q1:γ kk = .mat ob cap' rows':=q1;rw[g1]at q1;cases q1;obtain⟨p,cs,r1,r2,r3⟩:=Zye q2 c2;obtain⟨j,hj⟩:=hmem _ List.mem_cons_self;have hh:=ZUh r1 c2;have hw:WAt w b (0+i*1) [.slice (mkA p.1) r.length p.2]:=by
      have hx:((Zn rows m).drop (i*1)).take 1=[.slice (mkA p.1) r.length p.2]:=by
       have hlt:=(List.getElem?_eq_some_iff.1 hh).1;rw[Nat.mul_one,List.drop_eq_getElem_cons hlt];simp[(List.getElem?_eq_some_iff.1 hh).2]
      have:=ZPd hr.st hj hx g3 0 [.slice (mkA p.1) r.length p.2] rfl (by simp)
      simpa using this
     have hrow:RR v γ l false (.row kk i hv' st e r) [.slice (mkA p.1) r.length p.2]:=by
      refine⟨_,rfl,rfl,λe' he'=>?_⟩;rw[he]at he';cases he';exact λ_=>⟨_,_,_,p.1,p.2,g1,r1,rfl,⟨r,c2,rfl⟩,λ_=>⟨m,c1,c2⟩⟩
     obtain⟨σ,hs',e1⟩:=hr.st.ev1 x;rw[g2]at e1;have ht:=Zde hq;rw[b3]at ht;refine⟨_,_,Zib hs' e1 ht hw,ZQb hrow (λc e=>by cases e),⟨hk.1,hk.2.1,hk.2.2⟩,h⟩
    ·exact h.elim
   | box _ _=>exact h.elim
   | mid _ _ _ _ _ _=>exact h.elim
   | own _ _ _ _=>exact h.elim
  · -- an element of a row
   rename_i u i j hv cv e r x0 off;obtain⟨en,he,h⟩:=h;obtain⟨y,hy0,_,hy⟩:=Z4 hp (λ_ e=>by cases e) rfl rfl
   cases hy0
   have hy:=hy en he;obtain⟨kk,st,L⟩:=en;obtain⟨hkk,es,hes,hmem⟩:=hr.loc he
   cases L with
   | mat ty0 ty2 s m hv' =>
    simp only at h;have hkk:kk=u:=hkk;subst hkk;split at h
    ·rename_i b1 b2;have b1:=eQ b1;have b2:=eQ b2;subst b1 b2;split at h
     ·rename_i z hz;obtain⟨ob,cap,rows,bi,capi,g1,g2,g3,g4,g5,g6⟩:=hy rfl;obtain⟨⟨m',c1,c2⟩,cx⟩:=g6 rfl;obtain⟨c3,c4⟩:=ZV c1
      cases c3;cases c4
      obtain⟨ob',cap',rows',es2,q1,q2,rfl⟩:=hes;have q1:γ kk = .mat ob' cap' rows':=q1;rw[g1]at q1;cases q1;obtain⟨p,cs,r1,r2,r3⟩:=Zye q2 c2;rw[g2]at r1;cases r1;obtain⟨jj,hj⟩:=hmem _ (List.mem_cons_of_mem _ r3);have hrel:=Zva r2 cx;rw[ZD]at hrel;obtain⟨k1,k2,k3,k4,k5⟩:=ZSc FU hz (x:=.data e x0) (γ:=γ) (l:=l) (U:=U) hrel trivial;have hl:=Rep.len _ hrel;rw[ZD]at hl;have hlen:((((cs.drop (j*e.n)).take e.n).drop off).take q.1).length=q.1:=by
       simp only[List.length_take,List.length_drop]at k5 ⊢;omega
      have hw:=ZPd hr.st hj rfl g5 off _ (by rw[hlen]) (by rw[hlen];omega);exact⟨z,_,ZDh hr.st hq hw k1 k3 k4 (Zfd FU hz) g3,ZQb k1 (λc e=>by subst e;exact k1),k2,h⟩
     ·exact h.elim
    ·exact h.elim
   | box _ _=>exact h.elim
   | mid _ _ _ _ _ _=>exact h.elim
   | own _ _ _ _=>exact h.elim
  ·exact h.elim
end
end Go.Eng
namespace Go.Eng
open Go.RowKit
theorem Zui {P:Program} {t:TypeId} {i:TypeInfo} (h:P.info? t=some i) (w:World):(sizeOf t).run P w = .ok i.size w:=by simp[sizeOf,typeInfo,h]
theorem Zpz (k:IntKind):kEq k k=true:=by cases k <;> rfl
theorem ZLu (k:FloatKind):fEqK k k=true:=by cases k <;> rfl
theorem ZNg:∀ t:T,T.beq t t=true
 | .int k=>Zpz k
 | .bool | .str=>rfl
 | .flt k=>ZLu k
 | .one a=>ZNg a
 | .slice a=>ZNg a
 | .ptr a=>ZNg a
 | .pair a b=>by simp only[T.beq,ZNg a,ZNg b]
 | .leaf i=>by simp[T.beq]
theorem ZDi {t:T} {x:t.den}:T.cast t t x=some x:=by
 unfold T.cast;have:∀ (b:Bool) (hb:T.beq t t=b),b=true→T.castB t t b hb x=some x:=by
  intro b hb e;subst e;rfl
 exact this _ rfl (ZNg t)
section
variable {P:Program} {N:Nat} {G:V→Value→Prop} {w0:Base} {v0:Zb} {U X:Nat→Prop} {f:Fr} {l:Lo} {a:Act} {w:World} {γ:Nat→Gh} {v:Zb} {ℓ:List Loc} {n:Nat}
variable {d:Option Nat} {ty:TypeId} {pos:String} {aft:Array Edge} {g:Option (Nat×Bool)}
theorem fldA_ok {s:TypeId} {k off:Nat} (h:fldA P s k=some off):Zzt P s k off:=by
 unfold fldA at h;split at h
 ·rename_i fs hfs;split at h
  ·rename_i fd hfd;split at h
   ·rename_i i hi;split at h
    ·rename_i hb
     cases h
     intro b o w;have h0:fs[k]? = some fd:=by rw[← Array.getElem?_toList];exact hfd
     have h1:¬ i.size=0:=by
      have h2:1≤i.size:=lBq hb;omega
     simp[Instr.fieldAt,run_underlying hfs,h0,Instr.sureAddr,fieldPlace,Zui hi,h1,Zoa]
    ·cases h
   ·cases h
  ·cases h
 ·cases h
theorem Zqd {b o:Nat}:plain (.pointer (some ⟨b,o,none⟩))=true:=rfl
theorem Zwl {ρ:Type} {p:V} {y:Value} {k:Ev ρ} {Post:ρ→Fr→Lo→Prop} (hp:RV v γ l p y) (hk:p.ok U) (h:Zj n (live p k) f l Post) :
  Zj n k f l Post∧∃ b o,y = .pointer (some ⟨b,o,none⟩)∧∀ off z,shift p off=some z→RV v γ l z (.pointer (some ⟨b,o+off,none⟩))∧z.ok U:=by
 unfold live at h;split at h
 ·rename_i u o;obtain⟨en,he,h⟩:=h;obtain⟨y,hy0,_,hy⟩:=Z4 hp (λ_ e=>by cases e) rfl rfl
  cases hy0
  have hy:=hy en he;obtain⟨kk,st,L⟩:=en
  cases L with
  | box _ _ =>
   obtain⟨b,g1,rfl⟩:=hy;refine⟨h,b,o,rfl,λoff z hz=>?_⟩
   cases hz
   refine⟨⟨[_],⟨_,rfl,Zqd,λe' he'=>?_⟩,rfl⟩,hk⟩;rw[he]at he';cases he';exact⟨b,g1,rfl⟩
  | own _ _ _ _=>exact h.elim
  | mid _ _ _ _ _ _=>exact h.elim
  | mat _ _ _ _ _=>exact h.elim
 ·rename_i t x0 o;obtain⟨cs,h1,h2⟩:=Z1a hp (λ_ e=>by cases e);obtain⟨b,o',c,hA,hR,rfl⟩:=h1;refine⟨h,b,o'+o,h2,λoff z hz=>?_⟩
  cases hz
  exact⟨⟨[_],⟨b,o',c,hA,hR,by rw[Nat.add_assoc]⟩,rfl⟩,trivial⟩
 ·rename_i u i cv t x0 o;obtain⟨en,he,h⟩:=h;obtain⟨y,hy0,_,hc0,hy⟩:=Z4 hp (λ_ e=>by cases e) rfl rfl
  cases hy0
  have hy:=hy en he;obtain⟨kk,st,L⟩:=en
  cases L with
  | own _ s xs fz =>
   obtain⟨b,cap,g1,rfl,g3,g4⟩:=hy;refine⟨h,b,0+i*s.n+o,rfl,λoff z hz=>?_⟩
   cases hz
   refine⟨⟨[_],⟨_,rfl,Zqd,hc0,λe' he'=>?_⟩,rfl⟩,hk⟩;rw[he]at he';cases he';exact⟨b,cap,g1,by rw[Nat.add_assoc (0+i*s.n)],g3,g4⟩
  | box _ _=>exact h.elim
  | mid _ _ _ _ _ _=>exact h.elim
  | mat _ _ _ _ _=>exact h.elim
 ·rename_i u i j hv cv t r x0 o;obtain⟨en,he,h⟩:=h;obtain⟨y,hy0,_,hy⟩:=Z4 hp (λ_ e=>by cases e) rfl rfl
  cases hy0
  have hy:=hy en he;obtain⟨kk,st,L⟩:=en
  cases L with
  | mat _ _ s m hv' =>
   simp only at h;split at h
   ·rename_i hb;have hb:=eQ hb;subst hb;obtain⟨ob,cap,rows,bi,capi,g1,g2,rfl,g4,g5,g6⟩:=hy rfl;refine⟨h,bi,0+j*s.n+o,rfl,λoff z hz=>?_⟩
    cases hz
    refine⟨⟨[_],⟨_,rfl,Zqd,λe' he'=>?_⟩,rfl⟩,hk⟩;rw[he]at he';cases he';exact λ_=>⟨ob,cap,rows,bi,capi,g1,g2,by rw[Nat.add_assoc (0+j*s.n)],g4,g5,g6⟩
   ·exact h.elim
  | box _ _=>exact h.elim
  | mid _ _ _ _ _ _=>exact h.elim
  | own _ _ _ _=>exact h.elim
 ·exact h.elim
theorem fldE_ok (hr:RelX N G w0 v0 U X f l a w γ v ℓ) {s:TypeId} {k0:Nat} {x:Operand} {p:V} {k:V→Ev Unit} {Post:Unit→Fr→Lo→Prop} (hp:RV v γ l p (a.eval x)) (hk:p.ok U)
  (h:Zj n (fldE P s k0 p k) f l Post):∃ z y,(execOp a.eval ⟨d,.fieldAddr s x k0,ty,pos,aft,g⟩).run P w = .ok (.value y) w∧RV v γ l z y∧z.ok U∧Zj n (k z) f l Post:=by
 unfold fldE at h;split at h
 ·rename_i off hoff;split at h
  ·rename_i z hz;obtain⟨h,b,o,e,hs⟩:=Zwl hp hk h;obtain⟨h1,h2⟩:=hs _ _ hz;obtain⟨σ,hσ,e1⟩:=hr.st.ev1 x;rw[e]at e1;exact⟨z,_,ZEu hσ e1 (fldA_ok hoff),h1,h2,h⟩
  ·exact h.elim
 ·exact h.elim
theorem Zjs (hr:RelX N G w0 v0 U X f l a w γ v ℓ) (hU:∀ k,U k→X k) (hX:X n) {t:TypeId} {x i:Operand} {o:Oper} {p:V} {κ:IntKind} {j:Int} {Post:Unit→Fr→Lo→Prop} (ho:o=⟨d,.indexAddr t x i,ty,pos,aft,g⟩) (hd:∀ k,o.dst=some k→k<N) (hp:RV v γ l p (a.eval x)) (hk:p.ok U)
  (hi:a.eval i = .int κ j) (h:Zj n (ixA P o t p j) f l Post):Zba P N G w0 v0 X o a w Post:=by
 unfold ixA at h;split at h
 ·rename_i m e he;split at h
  ·rename_i inf hinf h0 h1;split at h
   ·rename_i z hz;obtain⟨h,b,o',e',hs⟩:=Zwl hp hk h;obtain⟨k1,k2⟩:=hs _ _ hz;obtain⟨σ,hσ,e1,e2⟩:=hr.st.ev2 x i;rw[e']at e1;rw[hi]at e2;have hA:Zkh P t m inf.size:=⟨e,λw=>run_underlying he w,λw=>Zui hinf w⟩;subst ho;exact ZI hr hU (Zxq hσ hA e1 e2 (of_decide_eq_true h0) (of_decide_eq_true h1) _ rfl) hd hX k1 (V.ok.mono hU k2) h
   ·exact h.elim
  ·exact h.elim
 ·exact h.elim
theorem alts_ok (hr:RelX N G w0 v0 U X f l a w γ v ℓ) (hU:∀ k,U k→X k) (hX:X n) {t:TypeId} {x i:Operand} {o:Oper} {p:V} {κ:IntKind} {j:Int} {Post:Unit→Fr→Lo→Prop} (ho:o=⟨d,.indexAddr t x i,ty,pos,aft,g⟩) (hd:∀ k,o.dst=some k→k<N) (hp:RV v γ l p (a.eval x)) (hk:p.ok U)
  (hi:a.eval i = .int κ j):∀ {m k:Nat},Zj n (alts P o t p j m k) f l Post→Zba P N G w0 v0 X o a w Post:=by
 intro m
 induction m with
 | zero=>intro k h;exact h.elim
 | succ m ih =>
  intro k h;by_cases e:j=(k:Int)
  ·have h1:=h.1 (dTq e);rw[← e]at h1;exact Zjs hr hU hX ho hd hp hk hi h1
  ·exact ih (h.2 (dFq e))
theorem ixE_ok (hr:RelX N G w0 v0 U X f l a w γ v ℓ) (hU:∀ k,U k→X k) (hX:X n) {t:TypeId} {x i:Operand} {o:Oper} {p:V} {κ:IntKind} {j:Int} {Post:Unit→Fr→Lo→Prop} (ho:o=⟨d,.indexAddr t x i,ty,pos,aft,g⟩) (hd:∀ k,o.dst=some k→k<N) (hp:RV v γ l p (a.eval x)) (hk:p.ok U)
  (hi:a.eval i = .int κ j) (h:Zj n (ixE P o t p j) f l Post):Zba P N G w0 v0 X o a w Post:=by
 unfold ixE at h;split at h
 ·exact Zjs hr hU hX ho hd hp hk hi h
 ·rename_i q hq;obtain⟨σ,hσ,e1,e2⟩:=hr.st.ev2 x i;rw[hi]at e2;have hSl:=Zco hq;split at h
  ·rename_i u;obtain⟨en,he,h⟩:=h;obtain⟨y,hy0,_,hy⟩:=Z4 hp (λ_ e=>by cases e) rfl rfl;have hy0:a.eval x=y:=(List.cons.inj hy0).1;rw[hy0]at e1;have hy:=hy en he;obtain⟨kk,st,L⟩:=en;obtain⟨hkk,es,hes,hmem⟩:=hr.loc he;have hkk:kk=u:=hkk;subst hkk;have hst:U kk:=hk
   cases L with
   | own ty0 s xs fz =>
    simp only at h;split at h
    ·rename_i hb;have hb:=eQ hb;obtain⟨yy,hyy,h⟩:=h;obtain⟨j0,j1,j2,j3⟩:=Zm hyy;obtain⟨ob,cap,g1,rfl⟩:=hy;have hob:∃ b,ob=some b:=by
      cases fz with
      | false =>
       obtain⟨ob',cap',cs,q1,q2,rfl⟩:=hes;have q1:γ kk = .own ob' cap':=q1;rw[g1]at q1;cases q1;obtain⟨jj,hj⟩:=hmem _ (List.mem_singleton.2 rfl);exact Zhd hr.st hj (by omega)
      | true =>
       obtain⟨ob',cap',q1,q2,_⟩:=hes;have q1:γ kk = .own ob' cap':=q1;rw[g1]at q1;cases q1;obtain⟨_,b2,o2,cs2,e2,h2,h3⟩:=Zgc q2 j1
       cases ob with
       | none=>cases e2
       | some b=>exact⟨b,rfl⟩
     obtain⟨b,rfl⟩:=hob;have hc0:∃ c,s.rep.rel v c yy:=by
      cases fz with
      | false=>obtain⟨_,_,cs,_,q2,_⟩:=hes;exact⟨_,Zva q2 j1⟩
      | true=>obtain⟨_,_,_,q2,_⟩:=hes;obtain⟨_,_,_,cs,_,_,h3⟩:=Zgc q2 j1;exact⟨cs,h3⟩
     subst ho;have hrun:=Zna (d:=d) (ty:=ty) (pos:=pos) (aft:=aft) (g:=g) hσ e1 e2 hSl j0 (by exact j2);rw[hb]at hrun;refine ZI hr hU hrun hd hX (x:=.el kk j.toNat st s yy 0) ⟨[_],⟨_,rfl,Zqd,hc0,λe' he'=>?_⟩,rfl⟩ ⟨hU _ hst,(hr.ul _ (Zl he).1).2.1⟩ h;rw[he]at he';cases he';exact⟨b,cap,g1,rfl,j3,λ_=>⟨xs,by unfold ZUb;exact ZDi,j1⟩⟩
    ·exact h.elim
   | mat ty0 ty2 s m hv =>
    simp only at h;split at h
    ·rename_i hb;have hb:=eQ hb;obtain⟨yy,hyy,h⟩:=h;obtain⟨j0,j1,j2,j3⟩:=Zm hyy;obtain⟨ob,cap,rows,g1,rfl⟩:=hy;obtain⟨ob',cap',rows',es2,q1,q2,rfl⟩:=hes;have q1:γ kk = .mat ob' cap' rows':=q1;rw[g1]at q1;cases q1;obtain⟨jj,hj⟩:=hmem _ List.mem_cons_self;obtain⟨b,rfl⟩:=Zhd hr.st hj (by omega);subst ho;have hrun:=Zna (d:=d) (ty:=ty) (pos:=pos) (aft:=aft) (g:=g) hσ e1 e2 hSl j0 (by exact j2);rw[hb]at hrun;refine ZI hr hU hrun hd hX (x:=.rp kk j.toNat hv st s yy) ⟨[_],⟨_,rfl,Zqd,λe' he'=>?_⟩,rfl⟩ ⟨hU _ hst,?_,(hr.ul _ (Zl he).1).2.1⟩ h
     ·rw[he]at he';cases he';exact⟨b,cap,rows,g1,rfl,j3,λ_=>⟨m,by unfold Zrb;exact ZDi,j1⟩⟩
     ·exact (hr.ul _ (Zl he).1).2.2
    ·exact h.elim
   | mid ty0 ty2 s m hv smid =>
    simp only at h;split at h
    ·rename_i hb;have hb:=eQ hb;obtain⟨yy,hyy,h⟩:=h;obtain⟨j0,j1,j2,j3⟩:=Zm hyy;obtain⟨ob,cap,rows,g1,rfl⟩:=hy;obtain⟨ob',cap',rows',es2,hsm,es3,q1,q2,q3,rfl⟩:=hes;have q1:γ kk = .mat ob' cap' rows':=q1;rw[g1]at q1;cases q1;obtain⟨jj,hj⟩:=hmem _ List.mem_cons_self;obtain⟨b,rfl⟩:=Zhd hr.st hj (by omega);subst ho;have hrun:=Zna (d:=d) (ty:=ty) (pos:=pos) (aft:=aft) (g:=g) hσ e1 e2 hSl j0 (by exact j2);rw[hb]at hrun;refine ZI hr hU hrun hd hX (x:=.rp kk j.toNat hv st s yy) ⟨[_],⟨_,rfl,Zqd,λe' he'=>?_⟩,rfl⟩ ⟨hU _ hst,?_,(hr.ul _ (Zl he).1).2.1⟩ h
     ·rw[he]at he';cases he';exact⟨b,cap,rows,g1,rfl,j3,λ_=>⟨m,by unfold Zrb;exact ZDi,j1⟩⟩
     ·exact (hr.ul _ (Zl he).1).2.2
    ·exact h.elim
   | box _ _=>exact h.elim
  ·rename_i s xs;obtain⟨qa,m,c,hy,hR⟩:=ZXn hp;rw[hy]at e1;split at h
   ·rename_i hb;have hb:=eQ hb;obtain⟨yy,hyy,h⟩:=h;obtain⟨j0,j1,j2,j3⟩:=Zm hyy;obtain⟨e3,b2,o2,cs2,rfl,h2,h3⟩:=Zgc hR j1;subst ho;have hrun:=Zna (d:=d) (ty:=ty) (pos:=pos) (aft:=aft) (g:=g) hσ e1 e2 hSl j0 (by rw[e3];exact j2);rw[hb]at hrun;rw[ZD]at h2;exact ZI hr hU hrun hd hX (x:=.vp s yy 0) ⟨[_],⟨b2,_,cs2,h2,h3,rfl⟩,rfl⟩ trivial h
   ·exact h.elim
  ·rename_i m;obtain⟨cs,h1,h2⟩:=Zjg hp;have h1:Zt.rel v cs m:=h1;obtain⟨qa,n',k',rfl⟩:=ZIa h1;have hy:a.eval x = .slice qa n' k':=h2;rw[hy]at e1;split at h
   ·rename_i hb;have hb:=eQ hb;obtain⟨yy,hyy,h⟩:=h;obtain⟨j0,j1,j2,j3⟩:=Zm hyy;obtain⟨e3,b2,o2,cs2,rfl,h2,h3⟩:=Zgc (A:=Zd .u64) h1 j1;subst ho;have hrun:=Zna (d:=d) (ty:=ty) (pos:=pos) (aft:=aft) (g:=g) hσ e1 e2 hSl j0 (by rw[e3];exact j2);rw[hb]at hrun;exact ZI hr hU hrun hd hX (x:=.vp (.int .u64) yy 0) ⟨[_],⟨b2,_,cs2,h2,h3,rfl⟩,rfl⟩ trivial h
   ·exact h.elim
  ·rename_i m;obtain⟨cs,h1,h2⟩:=Zjg hp;have h1:ZXa.rel v cs m:=h1;obtain⟨qa,n',k',rfl⟩:=ZJd h1;have hy:a.eval x = .slice qa n' k':=h2;rw[hy]at e1;split at h
   ·rename_i hb;have hb:=eQ hb;obtain⟨yy,hyy,h⟩:=h;obtain⟨j0,j1,j2,j3⟩:=Zm hyy;obtain⟨e3,b2,o2,cs2,rfl,h2,h3⟩:=Zgc (A:=Zd .u32) h1 j1;subst ho;have hrun:=Zna (d:=d) (ty:=ty) (pos:=pos) (aft:=aft) (g:=g) hσ e1 e2 hSl j0 (by rw[e3];exact j2);rw[hb]at hrun;exact ZI hr hU hrun hd hX (x:=.vp (.int .u32) yy 0) ⟨[_],⟨b2,_,cs2,h2,h3,rfl⟩,rfl⟩ trivial h
   ·exact h.elim
  ·rename_i u i' hv cv s r;obtain⟨en,he,h⟩:=h;obtain⟨y,hy0,_,hy⟩:=Z4 hp (λ_ e=>by cases e) rfl rfl;have hy0:a.eval x=y:=(List.cons.inj hy0).1;rw[hy0]at e1;have hy:=hy en he;obtain⟨kk,st,L⟩:=en;obtain⟨hkk,es,hes,hmem⟩:=hr.loc he;have hkk:kk=u:=hkk;subst hkk
   cases L with
   | mat ty0 ty2 s' m hv' =>
    simp only at h;split at h
    ·rename_i b1 b2 b3;have b1:=eQ b1;have b2:=eQ b2;have b3:=eQ b3;subst b1 b2;obtain⟨yy,hyy,h⟩:=h;obtain⟨j0,j1,j2,j3⟩:=Zm hyy;obtain⟨ob,cap,rows,obi,capi,g1,g2,rfl,g4,g5⟩:=hy rfl;obtain⟨m',c1,c2⟩:=g5 rfl;obtain⟨c3,c4⟩:=ZV c1
     cases c3;cases c4
     obtain⟨ob',cap',rows',es2,q1,q2,rfl⟩:=hes;have q1:γ kk = .mat ob' cap' rows':=q1;rw[g1]at q1;cases q1;obtain⟨p',cs,r1,r2,r3⟩:=Zye q2 c2;rw[g2]at r1;cases r1;obtain⟨jj,hj⟩:=hmem _ (List.mem_cons_of_mem _ r3);obtain⟨bi,hbi⟩:=Zhd hr.st hj (by omega);have hbi:obi=some bi:=hbi;subst hbi;subst ho;have hrun:=Zna (d:=d) (ty:=ty) (pos:=pos) (aft:=aft) (g:=g) hσ e1 e2 hSl j0 j2;rw[b3]at hrun;refine ZI hr hU hrun hd hX (x:=.rel kk i' j.toNat hv' st s r yy 0) ⟨[_],⟨_,rfl,Zqd,λe' he'=>?_⟩,rfl⟩ ⟨hU _ hk.1,hU _ hk.2.1,hU _ hk.2.2⟩ h;rw[he]at he';cases he';exact λ_=>⟨_,_,_,bi,capi,g1,g2,rfl,g4,j3,λ_=>⟨⟨m,c1,c2⟩,j1⟩⟩
    ·rename_i b1 b2 b3;have b1:=eQ b1;have b3:=eQ b3;subst b1;split at h
     ·rename_i m' c1;obtain⟨c3,c4⟩:=ZV c1
      cases c3;cases c4
      obtain⟨r',hr',h⟩:=h;obtain⟨_,i1,_,_⟩:=Zm hr';rw[tN]at i1;obtain⟨yy,hyy,h⟩:=h;obtain⟨j0,j1,j2,j3⟩:=Zm hyy;obtain⟨ob,cap,rows,obi,capi,g1,g2,rfl,⟨ri,g4,g6⟩,g5⟩:=hy rfl;rw[i1]at g4;cases g4;obtain⟨ob',cap',rows',es2,q1,q2,rfl⟩:=hes;have q1:γ kk = .mat ob' cap' rows':=q1;rw[g1]at q1;cases q1;obtain⟨p',cs,r1,r2,r3⟩:=Zye q2 i1;rw[g2]at r1;cases r1;obtain⟨jj,hj⟩:=hmem _ (List.mem_cons_of_mem _ r3);obtain⟨bi,hbi⟩:=Zhd hr.st hj (by omega);have hbi:obi=some bi:=hbi;subst hbi;subst ho;rw[← g6]at e1;have hrun:=Zna (d:=d) (ty:=ty) (pos:=pos) (aft:=aft) (g:=g) hσ e1 e2 hSl j0 j2;rw[b3]at hrun;refine ZI hr hU hrun hd hX (x:=.rel kk i' j.toNat hv' st _ r' yy 0) ⟨[_],⟨_,rfl,Zqd,λe' he'=>?_⟩,rfl⟩ ⟨hU _ hk.1,hU _ hk.2.1,(hr.ul _ (Zl he).1).2.1⟩ h;rw[he]at he';cases he';exact λ_=>⟨_,_,_,bi,capi,g1,g2,rfl,⟨r',i1,rfl⟩,j3,λ_=>⟨⟨m,c1,i1⟩,j1⟩⟩
     ·exact h.elim
    ·exact h.elim
   | box _ _=>exact h.elim
   | mid _ _ _ _ _ _=>exact h.elim
   | own _ _ _ _=>exact h.elim
  ·exact h.elim
theorem lenE_ok (hr:RelX N G w0 v0 U X f l a w γ v ℓ) {t:TypeId} {x:Operand} {p:V} {k:Nat→Ev Unit} {Post:Unit→Fr→Lo→Prop} (hp:RV v γ l p (a.eval x)) (h:Zj n (lenE P t p k) f l Post) :
  ∃ m:Nat,(execOp a.eval ⟨d,.call ⟨.builtin .len,#[x],#[t]⟩,ty,pos,aft,g⟩).run P w = .ok (.value (.int .i64 m)) w∧inR .i64 (m:Int)∧Zj n (k m) f l Post:=by
 obtain⟨σ,hσ,e1⟩:=hr.st.ev1 x;unfold lenE at h;split at h
 ·obtain⟨h1,h2⟩:=ZQg hp;rw[h1]at e1;split at h
  ·rename_i ht;exact⟨_,Zmu hσ e1 rfl ht,str_inR h2,h⟩
  ·exact h.elim
 ·split at h
  ·exact h.elim
  ·rename_i q hq;have hSl:=Zco hq;split at h
   ·rename_i u _;obtain⟨en,he,h⟩:=h;obtain⟨y,hy0,_,hy⟩:=Z4 hp (λ_ e=>by cases e) rfl rfl;have hy0:a.eval x=y:=(List.cons.inj hy0).1;rw[hy0]at e1;have hy:=hy en he;obtain⟨kk,st,L⟩:=en;obtain⟨hkk,es,hes,hmem⟩:=hr.loc he;have hkk:kk=u:=hkk;subst hkk
    cases L with
    | own ty0 s xs fz =>
     obtain⟨ob,cap,g1,rfl⟩:=hy;refine⟨_,ZNb hσ e1 rfl hSl,?_,h⟩
     cases fz with
     | false =>
      obtain⟨ob',cap',cs,q1,q2,rfl⟩:=hes;obtain⟨jj,hj⟩:=hmem _ (List.mem_singleton.2 rfl);exact Z7m hr.st hj
     | true =>
      obtain⟨ob',cap',q1,q2,_⟩:=hes;exact ZMg q2
    | mat ty0 ty2 s m hv =>
     obtain⟨ob,cap,rows,g1,rfl⟩:=hy;obtain⟨ob',cap',rows',es2,q1,q2,rfl⟩:=hes;obtain⟨jj,hj⟩:=hmem _ List.mem_cons_self;exact⟨_,ZNb hσ e1 rfl hSl,Z7m hr.st hj,h⟩
    | box _ _=>exact h.elim
    | mid _ _ _ _ _ _=>exact h.elim
   ·rename_i s xs _;obtain⟨qa,m,c,hy,hR⟩:=ZXn hp;have hm:m=xs.length:=by obtain⟨_,_,e,_⟩:=hR;cases e;rfl
    rw[hy,hm]at e1;rw[hm]at hR;exact⟨_,ZNb hσ e1 rfl hSl,ZMg hR,h⟩
   ·rename_i m _;obtain⟨cs,h1,h2⟩:=Zjg hp;have h1:Zt.rel v cs m:=h1;obtain⟨qa,n',k',rfl⟩:=ZIa h1;have hy:a.eval x = .slice qa n' k':=h2;have hm:n'=(Zc 18446744073709551616 m).length:=by obtain⟨_,_,e,_⟩:=h1;cases e;rfl
    rw[hy,hm]at e1;rw[hm]at h1;exact⟨_,ZNb hσ e1 rfl hSl,ZMg (A:=Zd .u64) h1,h⟩
   ·rename_i m _;obtain⟨cs,h1,h2⟩:=Zjg hp;have h1:ZXa.rel v cs m:=h1;obtain⟨qa,n',k',rfl⟩:=ZJd h1;have hy:a.eval x = .slice qa n' k':=h2;have hm:n'=(Zc 4294967296 m).length:=by obtain⟨_,_,e,_⟩:=h1;cases e;rfl
    rw[hy,hm]at e1;rw[hm]at h1;exact⟨_,ZNb hσ e1 rfl hSl,ZMg (A:=Zd .u32) h1,h⟩
   ·rename_i u i' hv cv s r _;obtain⟨en,he,h⟩:=h;obtain⟨y,hy0,_,hy⟩:=Z4 hp (λ_ e=>by cases e) rfl rfl;have hy0:a.eval x=y:=(List.cons.inj hy0).1;rw[hy0]at e1;have hy:=hy en he;obtain⟨kk,st,L⟩:=en;obtain⟨hkk,es,hes,hmem⟩:=hr.loc he;have hkk:kk=u:=hkk;subst hkk
    cases L with
    | mat ty0 ty2 s' m hv' =>
     simp only at h;split at h
     ·rename_i b1;have b1:=eQ b1;subst b1;obtain⟨ob,cap,rows,obi,capi,g1,g2,rfl,⟨ri,g4,g4'⟩,g5⟩:=hy rfl;obtain⟨ob',cap',rows',es2,q1,q2,rfl⟩:=hes;have q1:γ kk = .mat ob' cap' rows':=q1;rw[g1]at q1;cases q1;obtain⟨p',cs,r1,r2,r3⟩:=Zye q2 g4;obtain⟨jj,hj⟩:=hmem _ (List.mem_cons_of_mem _ r3);have:=Z7m hr.st hj;rw[g4']at this;exact⟨_,ZNb hσ e1 rfl hSl,this,h⟩
     ·exact h.elim
    | box _ _=>exact h.elim
    | mid _ _ _ _ _ _=>exact h.elim
    | own _ _ _ _=>exact h.elim
   ·exact h.elim
theorem Z7t {t:TypeId} {q:Nat×Bool} (ht:szA P t=some q) {x z:V} {off:Nat} {cs:List Value} (hg:Zca FU x off q.1 q.2=some z) (hx:RR v γ l false x cs) (hk:x.ok U) (w:World) :
  (part t cs.toArray off).run P w = .ok (z.val ((cs.drop off).take q.1)) w∧RR v γ l false z ((cs.drop off).take q.1)∧z.ok U:=by
 obtain⟨k1,k2,k3,k4,k5⟩:=ZSc FU hg hx hk;refine⟨?_,k1,k2⟩;have hS:=Zde ht;unfold part
 cases hag:q.2 with
 | true =>
  have h1:=hS.agg w;rw[hag]at h1;have h3:(cs.toArray.extract off (off+q.1))=((cs.drop off).take q.1).toArray:=by
   apply Array.ext';rw[Array.toList_extract];simp[List.extract,List.take_drop]
  simp[h1,hS.size,V.val,k4,hag]
 | false =>
  have h1:=hS.agg w;rw[hag]at h1;have h2:=Zfd FU hg (by rw[k4,hag]);have h3:=Zbg k1 h2 (by rw[k4,hag]);have h4:cs[off]? = some (z.val ((cs.drop off).take q.1)):=by
   have:((cs.drop off).take q.1)[0]? = some (z.val ((cs.drop off).take q.1)):=by
    conv=>lhs;rw[h3]
    rfl
   rw[List.getElem?_take_of_lt (by omega),List.getElem?_drop]at this
   simpa using this
  have h4':cs.toArray[off]? = some (z.val ((cs.drop off).take q.1)):=by simpa using h4
  simp[h1,h4']
end
end Go.Eng
namespace Go.Eng
open Go.RowKit
def Zld {α:Type} (p:Option Nat×Nat) (r:List α):Value:=.slice (mkA p.1) r.length p.2
section
variable {v:Zb} {ty:TypeId} {t:T}
theorem ZYh {α:Type}:∀ {rows:List (Option Nat×Nat)} {m:List (List α)} (k:Nat),(Zn rows m)[k]? = (rows[k]?).bind λp=>(m[k]?).map λr=>Zld p r
 | [],_,_=>by simp[Zn]
 | _ :: _,[],k=>by cases h:(_ :: _:List (Option Nat×Nat))[k]? <;> simp[Zn]
 | p :: ps,r :: rs,0=>by simp[Zn,Zld]
 | p :: ps,r :: rs,k+1=>by simpa [Zn] using ZYh (rows:=ps) (m:=rs) k
theorem Z2e:∀ {rows:List (Option Nat×Nat)} {m:List (List t.den)} {es:List Loc},Zga v ty t rows m es↔rows.length=m.length∧es.length=m.length∧∀ (k:Nat) (p:Option Nat×Nat) (r:List t.den),rows[k]? = some p→m[k]? = some r→∃ cs,t.rep.rels v cs r∧es[k]? = some (Loc.own p.1 ty t.n r.length p.2 cs)
 | [],[],es=>by
  constructor
  ·intro h
   rw[show es=[] from h]
   exact⟨rfl,rfl,λk p r h=>by simp at h⟩
  ·rintro⟨_,h,_⟩
   exact List.length_eq_zero_iff.1 h
 | p :: ps,r :: rs,es=>by
  constructor
  ·rintro⟨cs,es',h1,rfl,h3⟩
   obtain⟨k1,k2,k3⟩:=Z2e.1 h3
   refine⟨by simp[k1],by simp[k2],λk p' r' hp hr=>?_⟩
   cases k with
   | zero=>simp at hp hr;subst hp hr;exact⟨cs,h1,rfl⟩
   | succ k=>simp only[List.getElem?_cons_succ]at hp hr ⊢;exact k3 k p' r' hp hr
  ·rintro⟨h1,h2,h3⟩
   cases es with
   | nil=>simp at h2
   | cons x es' =>
    obtain⟨cs,q1,q2⟩:=h3 0 p r rfl rfl
    simp at q2
    refine⟨cs,es',q1,by rw[q2],Z2e.2 ⟨by simpa using h1,by simpa using h2,λk p' r' hp hr=>?_⟩⟩
    have:=h3 (k+1) p' r' (by simpa using hp) (by simpa using hr)
    simpa using this
 | [],_ :: _,es=>⟨λk=>k.elim,λk=>by simp at k⟩
 | _ :: _,[],es=>⟨λk=>k.elim,λk=>by simp at k⟩
theorem Z3v {rows:List (Option Nat×Nat)} {m:List (List t.den)} {e1 e2:List Loc} {c:Loc} {p:Option Nat×Nat} {r':List t.den} {cs':List Value} (h:Zga v ty t rows m (e1++c :: e2)) (hr:t.rep.rels v cs' r') :
  (Zn rows m).take e1.length++[Zld p r']++(Zn rows m).drop (e1.length+1)=Zn (rows.set e1.length p) (m.set e1.length r')∧Zga v ty t (rows.set e1.length p) (m.set e1.length r') (e1 ++ .own p.1 ty t.n r'.length p.2 cs' :: e2):=by
 obtain⟨k1,k2,k3⟩:=Z2e.1 h;have hlt:e1.length<m.length:=by rw[← k2];simp
 have hl:=Znd k1;constructor
 ·have e:(Zn rows m).take e1.length++[Zld p r']++(Zn rows m).drop (e1.length+1)=(Zn rows m).set e1.length (Zld p r'):=by
   rw[List.set_eq_take_append_cons_drop,iP (by omega)];simp
  rw[e];apply List.ext_getElem?;intro k;rw[ZYh,List.getElem?_set,List.getElem?_set,List.getElem?_set];by_cases hk:e1.length=k
  ·rw[iP hk,iP hk,iP hk,iP (by omega),iP (by omega),iP (by omega)];rfl
  ·rw[iN hk,iN hk,iN hk,ZYh]
 ·refine Z2e.2 ⟨by simpa using k1,by simpa using k2,λk p' r2 hp hr2=>?_⟩;rw[List.getElem?_set]at hp hr2;by_cases hk:e1.length=k
  ·subst hk;rw[iP rfl,iP (by omega)]at hp hr2
   cases hp;cases hr2
   exact⟨cs',hr,by rw[List.getElem?_append_right (Nat.le_refl _)];simp⟩
  ·rw[iN hk]at hp hr2;obtain⟨cs,q1,q2⟩:=k3 k p' r2 hp hr2;refine⟨cs,q1,?_⟩;rw[← q2];by_cases hlt2:k<e1.length
   ·rw[List.getElem?_append_left hlt2,List.getElem?_append_left hlt2]
   ·rw[List.getElem?_append_right (by omega),List.getElem?_append_right (by omega)];obtain⟨j,hj⟩:∃ j,k-e1.length=j+1:=⟨k-e1.length-1,by omega⟩;rw[hj,List.getElem?_cons_succ,List.getElem?_cons_succ]
theorem Zrw {rows:List (Option Nat×Nat)} {m:List (List t.den)} {es:List Loc} {i j:Nat} {pi pj:Option Nat×Nat} {ri rj:List t.den} (h:Zga v ty t rows m es) (hi:rows[i]? = some pi) (hj:rows[j]? = some pj) (gi:m[i]? = some ri) (gj:m[j]? = some rj) :
  ((Zn rows m).set i (Zld pj rj)).set j (Zld pi ri)=Zn ((rows.set i pj).set j pi) (ZWc m i j)∧∃ es',es'.Perm es∧Zga v ty t ((rows.set i pj).set j pi) (ZWc m i j) es':=by
 obtain⟨k1,k2,k3⟩:=Z2e.1 h;have hl:=Znd k1;have li:i<m.length:=(List.getElem?_eq_some_iff.1 gi).1;have lj:j<m.length:=(List.getElem?_eq_some_iff.1 gj).1;have hm:ZWc m i j=(m.set i rj).set j ri:=by
  unfold ZWc;rw[List.getD_eq_getElem?_getD,List.getD_eq_getElem?_getD,gi,gj];rfl
 obtain⟨ci,ri1,ri2⟩:=k3 i pi ri hi gi;obtain⟨cj,rj1,rj2⟩:=k3 j pj rj hj gj;have ei:i<es.length:=by omega
 have ej:j<es.length:=by omega
 have hei:es[i] = .own pi.1 ty t.n ri.length pi.2 ci:=(List.getElem?_eq_some_iff.1 ri2).2;have hej:es[j] = .own pj.1 ty t.n rj.length pj.2 cj:=(List.getElem?_eq_some_iff.1 rj2).2;rw[hm];refine⟨?_,(es.set i es[j]).set j es[i],List.set_set_perm ei ej,?_⟩
 ·apply List.ext_getElem?;intro k;rw[ZYh,List.getElem?_set,List.getElem?_set,List.getElem?_set,List.getElem?_set,List.getElem?_set,List.getElem?_set];simp only[List.length_set];by_cases hk:j=k
  ·rw[iP hk,iP hk,iP hk,iP (by omega),iP (by omega),iP (by omega)];rfl
  ·rw[iN hk,iN hk,iN hk];by_cases hk2:i=k
   ·rw[iP hk2,iP hk2,iP hk2,iP (by omega),iP (by omega),iP (by omega)];rfl
   ·rw[iN hk2,iN hk2,iN hk2,ZYh]
 ·refine Z2e.2 ⟨by simpa using k1,by simpa using k2,λk p' r2 hp hr2=>?_⟩;rw[List.getElem?_set,List.getElem?_set]at hp hr2 ⊢;simp only[List.length_set]at hp hr2 ⊢;by_cases hk:j=k
  ·rw[iP hk,iP (by omega)]at hp hr2
   cases hp;cases hr2
   exact⟨ci,ri1,by rw[iP hk,iP (by omega),hei]⟩
  ·rw[iN hk]at hp hr2 ⊢;by_cases hk2:i=k
   ·rw[iP hk2,iP (by omega)]at hp hr2
    cases hp;cases hr2
    exact⟨cj,rj1,by rw[iP hk2,iP (by omega),hej]⟩
   ·rw[iN hk2]at hp hr2 ⊢;exact k3 k p' r2 hp hr2
end
end Go.Eng
namespace Go.Eng
open Go.RowKit
variable {K:Nat} {w0:Base} {v0:Zb} {σ:List (Nat×Value)} {ℓ:List Loc} {v:Zb} {a:Act} {w:World}
theorem Znq {α:Type} {A:Rep α} {v:Zb} {cs c d:List Value} {l:List α} {i sz m p:Nat} {x:α} (h:A.rels v cs l) (hi:i<l.length) (hc:(cs.drop (i*sz)).take sz=c)
  (hx:A.rel v (c.take p++d++c.drop (p+m)) x) (hsz:sz=A.n) (hp:p+m≤sz) :
  A.rels v (cs.take (0+i*sz+p)++d++cs.drop (0+i*sz+p+m)) (l.set i x):=by
 have hl:=ZVb h;have h1:i*sz+sz≤cs.length:=by
  rw[hl,← hsz,← Nat.succ_mul];exact mR _ hi
 have key:=ZJf (sz:=sz) (m:=sz) h hi hx hsz hsz;have e1:cs.take (0+i*sz+p)=cs.take (0+i*sz)++c.take p:=by
  rw[← hc,List.take_take,Nat.min_eq_left (by omega),Nat.zero_add,List.take_add]
 have e2:cs.drop (0+i*sz+p+m)=c.drop (p+m)++cs.drop (0+i*sz+sz):=by
  rw[← hc,List.drop_take,List.drop_drop,Nat.zero_add,show i*sz+p+m=i*sz+(p+m) by omega];have e3:cs.drop (i*sz+sz)=(cs.drop (i*sz+(p+m))).drop (sz-(p+m)):=by
   rw[List.drop_drop];congr 1;omega
  rw[e3,List.take_append_drop]
 rw[e1,e2]
 simpa [aAq] using key
theorem Zor (hS:St K w0 v0 σ ℓ v a w) {j n cap sz:Nat} {b:Option Nat} {T:TypeId} {cs:List Value} (hj:ℓ[j]? = some (.own b T sz n cap cs)) {i p m:Nat} (h:i<n) (hp:p+m≤sz):0+i*sz+p+m≤cs.length:=by
 have:=Zfi hS hj h;omega
end Go.Eng
namespace Go.Eng
open Go.RowKit
theorem St.bare {K:Nat} {w0:Base} {v0:Zb} {σ:List (Nat×Value)} {ℓ:List Loc} {v:Zb} {a:Act} {w:World} (h:St K w0 v0 σ ℓ v a w):St K w0 v0 [] ℓ v a w:=h.frame ZEz
theorem ZRi {v:Zb} {γ:Nat→Gh} {l:Lo} {x:V} {cs:List Value} (h:RR v γ l false x cs) (hf:x.fit=true):cellsOf (x.val cs) cs∧cs.all plain=true:=by
 unfold V.fit at hf;have hp:x.plain=true:=by
  cases hp:x.plain
  ·rw[hp]at hf;cases hf
  ·rfl
 have hpl:=Z8w hp h;refine⟨?_,hpl⟩;rw[hp]at hf;unfold V.val
 cases ha:x.isAgg with
 | true=>exact ZUw cs
 | false =>
  rw[ha]at hf;have hs:=eQ hf;have e:=Zbg h hs ha;have hv:x.val cs=cs.headD undef:=by unfold V.val;rw[ha]
  rw[hv]at e;rw[e]at hpl;have hpl':plain (cs.headD undef)=true:=by simpa using hpl
  have:=Z4c hpl';show cellsOf (cs.headD undef) cs
  conv=>arg 2;rw[e]
  exact this
theorem ZGn {x:V} (hf:x.fit=true):∀ c,x ≠ .tup c:=λc e=>by subst e;cases hf
section
variable {P:Program} {N:Nat} {G:V→Value→Prop} {w0:Base} {v0:Zb} {U X:Nat→Prop} {f:Fr} {l:Lo} {a:Act} {w:World} {γ:Nat→Gh} {v:Zb} {ℓ:List Loc} {n:Nat}
variable {ty:TypeId} {pos:String} {aft:Array Edge} {g:Option (Nat×Bool)}
theorem Zqe {o:Oper} {l':Lo} {w':World} {γ':Nat→Gh} {v':Zb} {ℓ':List Loc} {Post:Unit→Fr→Lo→Prop} (hr:RelX N G w0 v0 U X f l' a w' γ' v' ℓ') (hU:∀ k,U k→X k) (ho:o.dst=none) (hrun:(execOp a.eval o).run P w = .ok .skip w') (h:Post () f l'):Zba P N G w0 v0 X o a w Post:=by
 refine Zkm hrun ?_;rw[ho];exact⟨_,_,h,_,_,_,hr.mono hU λ_ h=>h⟩
theorem Z5r {cs0 cs:List Value} {off:Nat} (h0:cs0.all plain=true) (h1:cs.all plain=true):(cs0.take off++cs++cs0.drop (off+cs.length)).all plain=true:=by
 have h0':=List.all_eq_true.1 h0;refine List.all_eq_true.2 λx hx=>?_;rcases List.mem_append.1 hx with hx | hx
 ·rcases List.mem_append.1 hx with hx | hx
  ·exact h0' x (List.mem_of_mem_take hx)
  ·exact List.all_eq_true.1 h1 x hx
 ·exact h0' x (List.mem_of_mem_drop hx)
theorem Zrm {t:T} {x:t.den} {z x':V} {off:Nat} {cs cz:List Value} (hg:ZVa FU (.data t x) off z=some x') (hx:t.rep.rel v cs x) (hz:RR v γ l false z cz) (hkz:z.ok U) :
  RR v γ l false x' (cs.take off++cz++cs.drop (off+cz.length))∧x'.ok U∧off+cz.length≤t.n:=by
 obtain⟨h1,h2,h3,_⟩:=Zxe FU hg (γ:=γ) (l:=l) (x:=.data t x) hx hz trivial hkz;refine⟨h1,h2,?_⟩;have:=Rep.len _ hx;rw[ZD]at this;omega
theorem ZVo {t:T}:∀ {rows:List (Option Nat×Nat)} {m:List (List t.den)} {es:List Loc} {i:Nat} {p:Option Nat×Nat} {r:List t.den},Zga v ty t rows m es→rows[i]? = some p→m[i]? = some r →
  ∃ cs e1 e2,es=e1 ++ .own p.1 ty t.n r.length p.2 cs :: e2∧t.rep.rels v cs r∧∀ (r':List t.den) (cs':List Value),r'.length=r.length→t.rep.rels v cs' r'→Zn rows (m.set i r')=Zn rows m∧Zga v ty t rows (m.set i r') (e1 ++ .own p.1 ty t.n r.length p.2 cs' :: e2)
 | [],[],_,_,_,_,_,h,_=>by simp at h
 | q :: ps,r0 :: rs,es,0,p,r,⟨cs,es',h1,h2,h3⟩,hp,hr=>by
  simp at hp hr
  subst hp hr
  refine⟨cs,[],es',by simpa using h2,h1,λr' cs' hl hc=>⟨by simp[Zn,hl],?_⟩⟩
  exact⟨cs',es',hc,by rw[← hl];rfl,h3⟩
 | q :: ps,r0 :: rs,es,i+1,p,r,⟨cs,es',h1,h2,h3⟩,hp,hr=>by
  simp only[List.getElem?_cons_succ]at hp hr
  obtain⟨c2,e1,e2,k2,k3,k4⟩:=ZVo h3 hp hr
  subst k2
  refine⟨c2,.own q.1 ty t.n r0.length q.2 cs :: e1,e2,by simpa using h2,k3,λr' cs' hl hc=>?_⟩
  obtain⟨k5,k6⟩:=k4 r' cs' hl hc
  exact⟨by simp only[List.set_cons_succ,Zn,k5],cs,_,h1,rfl,k6⟩
 | [],_ :: _,_,_,_,_,k,_,_=>k.elim
 | _ :: _,[],_,_,_,_,k,_,_=>k.elim
theorem ZBq {t:T} {p:Option Nat×Nat} {r':List t.den} {cs':List Value}:∀ {rows:List (Option Nat×Nat)} {m:List (List t.den)} {es:List Loc} {i:Nat} {p0:Option Nat×Nat},Zga v ty t rows m es→rows[i]? = some p0→t.rep.rels v cs' r' →
  (Zn rows m).take i++[Value.slice (mkA p.1) r'.length p.2]++(Zn rows m).drop (i+1)=Zn (rows.set i p) (m.set i r')∧∃ e1 e2 c,es=e1++c :: e2∧Zga v ty t (rows.set i p) (m.set i r') (e1 ++ .own p.1 ty t.n r'.length p.2 cs' :: e2)
 | [],[],_,_,_,_,h,_=>by simp at h
 | q :: ps,r0 :: rs,es,0,p0,⟨cs,es',h1,h2,h3⟩,hp,hc=>by
  refine⟨by simp[Zn],[],es',_,by simpa using h2,?_⟩
  exact⟨cs',es',hc,rfl,h3⟩
 | q :: ps,r0 :: rs,es,i+1,p0,⟨cs,es',h1,h2,h3⟩,hp,hc=>by
  simp only[List.getElem?_cons_succ]at hp
  obtain⟨k1,e1,e2,c,k2,k3⟩:=ZBq (p:=p) h3 hp hc
  subst k2
  refine⟨by simp only[List.set_cons_succ,Zn,List.take_succ_cons,List.drop_succ_cons,List.cons_append,k1],.own q.1 ty t.n r0.length q.2 cs :: e1,e2,c,by simpa using h2,?_⟩
  exact⟨cs,_,h1,rfl,k3⟩
 | [],_ :: _,_,_,_,k,_,_=>k.elim
 | _ :: _,[],_,_,_,k,_,_=>k.elim
theorem Zmy {α:Type} {m:List (List α)} {i:Nat} {r r':List α} (hr:m[i]? = some r) (hl:r'.length=r.length):(m.set i r').map List.length=m.map List.length:=by
 apply List.ext_getElem?;intro j;simp only[List.getElem?_map];by_cases h:i=j
 ·subst h;have hlt:=(List.getElem?_eq_some_iff.1 hr).1;rw[List.getElem?_set_self hlt,hr];simp[hl]
 ·rw[List.getElem?_set_ne h]
theorem ZQh:∀ (g:Nat) {x z x':V} {off:Nat},ZVa g x off z=some x'→x.ok U→z.ok U→x'.ok U
 | 0,_,_,_,_,h,_,_=>by cases h
 | g+1,x,z,x',off,h,hk,hkz=>by
  have whole:∀ {y:V},(match Nat.beq off 0,Nat.beq y.size z.size,eqB y.isAgg z.isAgg with
    | true,true,true=>some z
    | _,_,_=>match y with
     | .agg c=>match ZVa g c off z with
      | some c'=>some (.agg c')
      | none=>none
     | .data t x=>match ZKb t x with
      | some c=>match ZVa g c off z with
       | some c'=>some (.agg c')
       | none=>none
      | none=>none
     | _=>none)=some x'→y.ok U→x'.ok U:=by
   intro y hy hk;split at hy
   ·cases hy;exact hkz
   ·split at hy
    ·split at hy
     ·rename_i c' he;cases hy;exact (show V.ok U c' from ZQh g he hk hkz)
     ·cases hy
    ·split at hy
     ·rename_i c hc;split at hy
      ·rename_i c' he;cases hy;exact (show V.ok U c' from ZQh g he (Z1q hc) hkz)
      ·cases hy
     ·cases hy
    ·cases hy
  cases x with
  | nl=>simp only[ZVa]at h;cases h
  | cons a b =>
   simp only[ZVa]at h;split at h
   ·split at h
    ·rename_i he;cases h;exact⟨ZQh g he hk.1 hkz,hk.2⟩
    ·cases h
   ·split at h
    ·split at h
     ·rename_i he;cases h;exact⟨hk.1,ZQh g he hk.2 hkz⟩
     ·cases h
    ·cases h
  | data t x=>exact whole (y:=.data t x) h hk
  | agg c=>exact whole (y:=.agg c) h hk
  | nilS=>exact whole (y:=.nilS) h hk
  | own u=>exact whole (y:=.own u) h hk
  | row u i hv cv t r=>exact whole (y:=.row u i hv cv t r) h hk
  | ptr u o=>exact whole (y:=.ptr u o) h hk
  | el u i cv t x o=>exact whole (y:=.el u i cv t x o) h hk
  | rp u i hv cv t r=>exact whole (y:=.rp u i hv cv t r) h hk
  | rel u i j hv cv t r x o=>exact whole (y:=.rel u i j hv cv t r x o) h hk
  | vp t x o=>exact whole (y:=.vp t x o) h hk
  | tup c=>exact whole (y:=.tup c) h hk
  | fn f c=>exact whole (y:=.fn f c) h hk
  | ifc f c=>exact whole (y:=.ifc f c) h hk
  | undef=>exact whole (y:=.undef) h hk
theorem ZGk {b off:Nat} {c c':List Value} (h:WAt w b off c) (h':WAt w b off c') (hl:c.length=c'.length):c=c':=by
 obtain⟨x,T,fr,h1,h2⟩:=h;obtain⟨x',T',fr',h3,h4⟩:=h';rw[h1]at h3;cases h3;rw[← h2,← h4,hl]
theorem Z8p (hr:RelX N G w0 v0 U X f l a w γ v ℓ) {u k st:Nat} {ty0:TypeId} {t:T} {xs:List t.den} {fz:Bool} (he:lkE l u=some ⟨k,st,.own ty0 t xs fz⟩) {b cap i:Nat} {x:t.den} (hγ:γ u = .own (some b) cap) (hx:xs[i]? = some x):∃ c,t.rep.rel v c x∧WAt w b (0+i*t.n) c:=by
 obtain⟨hkk,es,hes,hmem⟩:=hr.loc he;have hkk:k=u:=hkk;subst hkk
 cases fz with
 | false =>
  obtain⟨ob,cap',cs,q1,q2,rfl⟩:=hes;have q1:γ k = .own ob cap':=q1;rw[hγ]at q1;cases q1;obtain⟨j,hj⟩:=hmem _ (List.mem_singleton.2 rfl);have hrel:=Zva q2 hx;rw[ZD]at hrel;have hl:=Rep.len _ hrel;rw[ZD]at hl;refine⟨_,hrel,?_⟩;have:=ZPd hr.st hj rfl (List.getElem?_eq_some_iff.1 hx).1 0 ((cs.drop (i*t.n)).take t.n) (by rw[hl,List.drop_zero,List.take_take,Nat.min_self]) (by omega)
  simpa using this
 | true =>
  obtain⟨ob,cap',q1,q2,_⟩:=hes;have q1:γ k = .own ob cap':=q1;rw[hγ]at q1;cases q1;obtain⟨_,b2,o2,cs2,e2,h2,h3⟩:=Zgc q2 hx
  cases e2
  rw[ZD]at h2;exact⟨cs2,h3,hr.st.view h2⟩
theorem ZKq (hr:RelX N G w0 v0 U X f l a w γ v ℓ) {u k st hv:Nat} {ty0 ty2:TypeId} {t:T} {m:List (List t.den)} (he:lkE l u=some ⟨k,st,.mat ty0 ty2 t m hv⟩) {ob:Option Nat} {cap i j bi capi:Nat} {rows:List (Option Nat×Nat)} {r:List t.den} {x:t.den}
  (hγ:γ u = .mat ob cap rows) (hrow:rows[i]? = some (some bi,capi)) (hm:m[i]? = some r) (hx:r[j]? = some x):∃ c,t.rep.rel v c x∧WAt w bi (0+j*t.n) c:=by
 obtain⟨hkk,es,hes,hmem⟩:=hr.loc he;have hkk:k=u:=hkk;subst hkk;obtain⟨ob',cap',rows',es2,q1,q2,rfl⟩:=hes;have q1:γ k = .mat ob' cap' rows':=q1;rw[hγ]at q1;cases q1;obtain⟨p',cs,r1,r2,r3⟩:=Zye q2 hm;rw[hrow]at r1;cases r1;obtain⟨jj,hj⟩:=hmem _ (List.mem_cons_of_mem _ r3);have hrel:=Zva r2 hx;rw[ZD]at hrel;have hl:=Rep.len _ hrel;rw[ZD]at hl;refine⟨_,hrel,?_⟩;have:=ZPd hr.st hj rfl (List.getElem?_eq_some_iff.1 hx).1 0 ((cs.drop (j*t.n)).take t.n) (by rw[hl,List.drop_zero,List.take_take,Nat.min_self]) (by omega)
 simpa using this
theorem stE_ok (hr:RelX N G w0 v0 U X f l a w γ v ℓ) (hU:∀ k,U k→X k) (hX:X n) (hn:¬ U n) {t:TypeId} {x y:Operand} {o:Oper} {p q:V} {Post:Unit→Fr→Lo→Prop} (ho:o=⟨none,.store t x y,ty,pos,aft,g⟩) (hp:RV v γ l p (a.eval x)) (hq:RV v γ l q (a.eval y)) (hk:p.ok U) (hkq:q.ok U)
  (h:Zj n (stE P n t p q) f l Post):Zba P N G w0 v0 X o a w Post:=by
 unfold stE at h;split at h
 ·exact h.elim
 ·rename_i sz hsz;split at h
  ·rename_i b1 b2 b3;have b1:=eQ b1;have b2:=Zvj b2;obtain⟨cs,hcs,hqe⟩:=Z1a hq (ZGn b3);obtain⟨hcells,hpl⟩:=ZRi hcs b3;have hlen:cs.length=sz.1:=(ZNc hcs).trans b1;have hS:=Zde hsz;split at h
   · -- a variable
    rename_i u off;obtain⟨en,he,h⟩:=h;obtain⟨yy,hy0,_,hy⟩:=Z4 hp (λ_ e=>by cases e) rfl rfl;have hy0:a.eval x=yy:=(List.cons.inj hy0).1;have hy:=hy en he;obtain⟨kk,st,L⟩:=en;obtain⟨hm,hkk⟩:=Zl he;have hkk:kk=u:=hkk;subst hkk
    cases L with
    | box ty0 c =>
     simp only at h;obtain⟨b',g4,rfl⟩:=hy;split at h
     ·rename_i c' hc';obtain⟨es,E',h1,h2,_,h3,_⟩:=hr.del he;obtain⟨b,cs0,g1,g2,g3,rfl⟩:=h1;have g1:γ kk = .box b:=g1;rw[g1]at g4;cases g4;have hcok:c.ok U:=(hr.ul _ hm).2.2;obtain⟨k1,k2,k3,_⟩:=Zxe FU hc' g2 hcs hcok hkq;rw[hlen]at k3;have hs:=hr.st.perm h3;obtain⟨σ,hσ,e1,e2⟩:=hs.ev2 x y;rw[hy0]at e1;rw[hqe]at e2;obtain⟨w',hrun,hst⟩:=Zbn (P:=P) hσ hS hcells hlen (i:=0) rfl (by omega) hpl;have hle:Le U v γ l v γ (⟨kk,n,.box ty0 c'⟩ :: era l kk):=Le.upd hr he (Zb.le_refl _) (λ_ _=>rfl) rfl;subst ho;refine Zqe (hr.upd hX (hr.ul _ hm).1 h2 hst.bare hle (λ_ _=>rfl) ⟨_,_,g1,Zcb hle k2 k1,Z5r g3 hpl,rfl⟩ (List.Perm.refl _) k2) hU rfl (hrun e1 e2) h
     ·exact h.elim
    | own _ _ _ _=>exact h.elim
    | mid _ _ _ _ _ _=>exact h.elim
    | mat _ _ _ _ _=>exact h.elim
   · -- an element
    rename_i u i cv s x0 off;split at h
    ·rename_i z hz;obtain⟨yy,hy0,_,⟨c0,hc0⟩,hy⟩:=Z4 hp (λ_ e=>by cases e) rfl rfl;have hy0:a.eval x=yy:=(List.cons.inj hy0).1;obtain⟨z1,z2,z3⟩:=Zrm hz hc0 hcs hkq;obtain⟨y1,l1,γ1,v1,ℓ1,h,r1,le1,q1⟩:=Zdd hn hX FU h hr z2;obtain⟨en,he,h⟩:=h;have hp1:=Z6a le1 hk hp;obtain⟨yy',hy0',_,_,hy⟩:=Z4 hp1 (λ_ e=>by cases e) rfl rfl;have hy0':a.eval x=yy':=(List.cons.inj hy0').1;have hy:=hy en he;obtain⟨kk,st,L⟩:=en;obtain⟨hm,hkk⟩:=Zl he;have hkk:kk=u:=hkk;subst hkk
     cases L with
     | own ty0 s' xs fz =>
      cases fz with
      | true=>exact h.elim
      | false =>
       simp only at h;obtain⟨b,cap,g1,rfl,g3,g4⟩:=hy;obtain⟨es,E',h1,h2,_,h3,_⟩:=r1.del he;obtain⟨ob,cap',cs1,f1,f2,rfl⟩:=h1;have f1:γ1 kk = .own ob cap':=f1;rw[g1]at f1;cases f1;have fin:∀ (c:List Value) (y':s'.den),(cs1.drop (i*s'.n)).take s'.n=c→off+sz.1≤s'.n→s'.rep.rel v1 (c.take off++cs++c.drop (off+sz.1)) y'→Post () f (⟨kk,n,.own ty0 s' (xs.set i y') false⟩ :: era l1 kk)→Zba P N G w0 v0 X o a w Post:=by
        intro c y' hc hfit hrel hpost;have hs:=r1.st.perm h3;obtain⟨σ,hσ,e1,e2⟩:=hs.ev2 x y;rw[hy0']at e1;rw[hqe]at e2;have hset:=Znq f2 g3 hc hrel (ZD s').symm hfit;have hcl:=ZVb f2;rw[ZD]at hcl;have hfit2:0+i*s'.n+off+sz.1≤cs1.length:=Zor hs (j:=0) rfl g3 hfit;obtain⟨w',hrun,hst⟩:=ZBd (P:=P) hσ hS hcells hlen (i:=0) rfl hfit2 hpl;rw[hlen]at hst;have hle:Le U v1 γ1 l1 v1 γ1 (⟨kk,n,.own ty0 s' (xs.set i y') false⟩ :: era l1 kk):=Le.upd r1 he (Zb.le_refl _) (λ_ _=>rfl) ⟨rfl,rfl,by simp,λe=>absurd e hn⟩;have hst':St N w0 v0 [] (.own (some b) ty0 s'.n (xs.set i y').length cap (cs1.take (0+i*s'.n+off)++cs++cs1.drop (0+i*s'.n+off+sz.1)) :: E'.flatten) v1 a w':=by
         rw[List.length_set];exact hst.bare
        subst ho;exact Zqe (r1.upd hX (r1.ul _ hm).1 h2 hst' hle (λ_ _=>rfl) ⟨some b,cap,_,g1,hset,rfl⟩ (List.Perm.refl _) trivial) hU rfl (hrun e1 e2) hpost
       have full:off=0→sz.1=s.n→∀ y',T.cast s s' y1=some y'→Post () f (⟨kk,n,.own ty0 s' (xs.set i y') false⟩ :: era l1 kk)→Zba P N G w0 v0 X o a w Post:=by
        intro e0 e1 y' hc hpost;obtain⟨c3,c4⟩:=ZV hc;subst c3;subst c4;refine fin _ y1 rfl (by omega) ?_ hpost;have hl0:=Rep.len _ hc0;rw[ZD]at hl0;have hcl:=ZVb f2;rw[ZD]at hcl;have hdl:((cs1.drop (i*s.n)).take s.n).length=s.n:=by
         have:i*s.n+s.n≤cs1.length:=by rw[hcl,← Nat.succ_mul];exact mR _ g3
         simp;omega
        have q1:=q1 _ z1;rw[e0]at q1 ⊢;rw[List.take_zero,List.drop_of_length_le (by omega)]at q1 ⊢;exact q1
       split at h
       ·rename_i hh1 hh2;split at h
        ·rename_i y' hy';exact full (eQ hh1) (b1.symm.trans (eQ hh2)) y' hy' h
        ·exact h.elim
       ·rename_i hcv _;split at h
        ·rename_i y' hy';obtain⟨ys,c1,c2⟩:=g4 (eQ hcv);obtain⟨c3,c4⟩:=ZV c1
         cases c3;cases c4
         rw[ZDi]at hy';cases hy';have hrel:=Zva f2 c2;rw[ZD]at hrel;obtain⟨⟨k0,st0,L0⟩,he0,hce⟩:=le1.l _ _ hk.1 he;have hst:U st:=(eQ hcv) ▸ hk.2
         cases L0 with
         | own ty1 t1 xs1 fz1 =>
          obtain⟨d1,d2,d3,d4⟩:=hce;obtain⟨d5,d6⟩:=d4 hst
          cases d6
          rw[d1]at g1;obtain⟨c,hc1,hc2⟩:=Z8p hr he0 g1 c2;obtain⟨z1',_,_⟩:=Zrm hz hc1 hcs hkq;have q2:=q1 _ z1';rw[hlen]at q2;refine fin c y1 ?_ (by omega) q2 h;have g1':γ1 kk = .own (some b) cap:=by rw[d1];exact g1
          obtain⟨c',hc1',hc2'⟩:=Z8p r1 he g1' c2;have hl1:=Rep.len _ hc1;have hl2:=Rep.len _ hc1';have e1:=ZGk hc2 hc2' (hl1.trans hl2.symm);have hl3:=Rep.len _ hrel;rw[ZD]at hl1 hl3;obtain⟨jj,hj⟩:∃ i:Nat,ℓ1[i]? = some (.own (some b) ty0 s.n xs.length cap cs1):=List.getElem?_of_mem (h3.mem_iff.2 (by simp));have hw:=ZPd r1.st hj rfl g3 0 ((cs1.drop (i*s.n)).take s.n) (by rw[hl3,List.drop_zero,List.take_take,Nat.min_self]) (by omega);exact ZGk (by simpa using hw) hc2 (hl3.trans hl1.symm)
         | box _ _=>exact hce.elim
         | mid _ _ _ _ _ _ =>
          obtain⟨_,_,_,_,hyl⟩:=Z4 hp (λ_ e=>by cases e) rfl rfl;exact (hyl _ he0).elim
         | mat _ _ _ _ _ =>
          obtain⟨_,_,_,_,hyl⟩:=Z4 hp (λ_ e=>by cases e) rfl rfl;exact (hyl _ he0).elim
        ·exact h.elim
       ·exact h.elim
     | box ty1 c1 =>
      cases c1 with
      | data t' w' =>
       simp only at h;split at h
       ·rename_i m e' hu;split at h
        ·rename_i w2 hof hvs hw2 hm0;obtain⟨⟨⟩,hin,h⟩:=h
         dsimp only at h
         split at h
         ·rename_i w3 hw3;have hof:=eQ hof;have hvs:=eQ hvs;subst hof;obtain⟨c3,c4⟩:=ZV hw2;subst c3;subst c4;have hw3:T.cast (Zfa s m) (Zfa s m) (arrS s m w' i y1)=some w3:=hw3;rw[ZDi]at hw3
          cases hw3
          have him:i<m:=by
           unfold inN at hin;split at hin
           ·assumption
           ·cases hin
          obtain⟨b,g1,rfl⟩:=hy;obtain⟨es,E',h1,h2,_,h3,_⟩:=r1.del he;obtain⟨b',cs1,f1,f2,f3,rfl⟩:=h1;have f1:γ1 kk = .box b':=f1;rw[g1]at f1;cases f1;have hm0:0<m:=lBq hm0;have f2:(Zfa s m).rep.rel v1 cs1 w':=f2;obtain⟨k1,k2⟩:=Znh hm0 f2;have hcl:=ZVb k1;rw[ZD,k2]at hcl;have hl0:=Rep.len _ hc0;rw[ZD]at hl0;have hsn:sz.1=s.n:=b1.symm.trans hvs;have hy1:s.rep.rel v1 cs y1:=by
           have q1:=q1 _ z1;rw[List.take_zero,List.drop_of_length_le (by omega)]at q1
           simpa using q1
          have hset:=ZJf k1 (by rw[k2];exact him) hy1 (ZD s).symm (hlen.trans (hsn.trans (ZD s).symm));rw[← Zes him]at hset;have hrel:=Z2t hm0 hset;have hs:=r1.st.perm h3;obtain⟨σ,hσ,e1,e2⟩:=hs.ev2 x y;rw[hy0']at e1;rw[hqe]at e2;have hle0:i*s.n+s.n≤cs1.length:=by rw[hcl,← Nat.succ_mul];exact mR _ him
          obtain⟨w4,hrun,hst⟩:=Zbn (P:=P) hσ hS hcells hlen (i:=0) rfl (off:=0+i*s.n+0) (by omega) hpl;have hle:Le U v1 γ1 l1 v1 γ1 (⟨kk,n,.box ty1 (.data (Zfa s m) (arrS s m w' i y1))⟩ :: era l1 kk):=Le.upd r1 he (Zb.le_refl _) (λ_ _=>rfl) rfl;subst ho;exact Zqe (r1.upd hX (r1.ul _ hm).1 h2 hst.bare hle (λ_ _=>rfl) ⟨_,_,g1,hrel,Z5r f3 hpl,rfl⟩ (List.Perm.refl _) trivial) hU rfl (hrun e1 e2) h
         ·exact h.elim
        ·exact h.elim
       ·exact h.elim
      | _=>exact h.elim
     | mid _ _ _ _ _ _=>exact h.elim
     | mat _ _ _ _ _=>exact h.elim
    ·exact h.elim
   · -- a row is put into its place
    rename_i u i hv0 cv0 s0 r0;split at h
    ·rename_i u2 _ _;obtain⟨en,he,h⟩:=h;obtain⟨yy,hy0,_,hy⟩:=Z4 hp (λ_ e=>by cases e) rfl rfl;have hy0:a.eval x=yy:=(List.cons.inj hy0).1;have hy:=hy en he;obtain⟨kk,st,L⟩:=en;obtain⟨hm,hkk⟩:=Zl he;have hkk:kk=u:=hkk;subst hkk
     cases L with
     | mat ty0 ty2 s m hv =>
      obtain⟨en2,he2,h⟩:=h;obtain⟨k2,st2,L2⟩:=en2;obtain⟨hm2,hkk2⟩:=Zl he2;have hkk2:k2=u2:=hkk2;subst hkk2
      cases L2 with
      | own ty3 s' xs fz =>
       cases fz with
       | true=>exact h.elim
       | false =>
        simp only at h;split at h
        ·rename_i l' ht3 hl';have ht3:=eQ ht3;subst ht3;obtain⟨c3,c4⟩:=ZV hl'
         cases c3;cases c4
         have hne:kk≠k2:=λe=>by subst e;rw[he]at he2;cases he2
         obtain⟨b,cap,rows,g1,rfl,g3,g4⟩:=hy;obtain⟨es2,E2,h1,h2,h2',h3,r2⟩:=hr.del he2;obtain⟨ob2,cap2,cs2,f1,f2,rfl⟩:=h1;have he':lkE (era l k2) kk=some ⟨kk,st,.mat ty0 ty3 s m hv⟩:=by
          rw[ZJb hr.nd,iN (λe=>hne e.symm)];exact he
         obtain⟨esm,E',hsp1,hsp2,hsp3⟩:=ZYe h2' he';obtain⟨ob',cap',rows,es3,q1,q2,rfl⟩:=hsp1;have q1:γ kk = .mat ob' cap' rows:=q1;rw[g1]at q1;cases q1;have hrl:=ZWf q2;obtain⟨p',hp'⟩:∃ p',rows[i]? = some p':=⟨_,List.getElem?_eq_getElem (by omega)⟩;obtain⟨hh,e1,e2,csx,k1,k3⟩:=ZBq q2 hp' (p:=(ob2,cap2)) (r':=xs) f2;have hq1:a.eval y = .slice (mkA ob2) xs.length cap2:=by
          obtain⟨yq,hyq0,_,hyq⟩:=Z4 hq (λ_ e=>by cases e) rfl rfl;obtain⟨oq,cq,gq1,gq2⟩:=hyq _ he2;have f1:γ k2 = .own ob2 cap2:=f1;rw[f1]at gq1;cases gq1;exact ((List.cons.inj hyq0).1).trans gq2
         have hs:St N w0 v0 [] (.own (some b) ty0 1 m.length cap (Zn rows m) :: .own ob2 ty3 s.n xs.length cap2 cs2 :: (es3++E'.flatten)) v a w:=by
          refine hr.st.perm ((h3.trans (List.Perm.append_left _ hsp3)).trans ?_);simp only[List.cons_append];exact List.Perm.swap _ _ _
         obtain⟨σ,hσ,ee1,ee2⟩:=hs.ev2 x y;rw[hy0]at ee1;rw[hq1]at ee2;have hS1:Sized P t ([Value.slice (mkA ob2) xs.length cap2]:List Value).length sz.2:=by
          have:sz.1=1:=b1.symm;rw[this]at hS;exact hS
         have hfit:0+i*1+([Value.slice (mkA ob2) xs.length cap2]:List Value).length≤(Zn rows m).length:=by
          rw[Znd hrl];simp only[List.length_singleton];omega
         obtain⟨w',hrun,hst⟩:=ZBd (P:=P) hσ hS1 (cs:=[Value.slice (mkA ob2) xs.length cap2]) (z:=.slice (mkA ob2) xs.length cap2) (Z4c rfl) rfl (i:=0) rfl hfit rfl;have hh':(Zn rows m).take (0+i*1)++[Value.slice (mkA ob2) xs.length cap2]++(Zn rows m).drop (0+i*1+1)=Zn (rows.set i (ob2,cap2)) (m.set i xs):=by
          rw[Nat.zero_add,Nat.mul_one];exact hh
         have hst:=hst.bare;simp only[List.set_cons_zero,List.length_singleton]at hst;rw[hh']at hst;subst k1;have hst':St N w0 v0 [] (.own (some b) ty0 1 (m.set i xs).length cap (Zn (rows.set i (ob2,cap2)) (m.set i xs)) :: (e1 ++ .own ob2 ty3 s.n xs.length cap2 cs2 :: e2)++E'.flatten) v a w':=by
          rw[List.length_set];refine (hst.drop (ℓ':=.own (some b) ty0 1 m.length cap (Zn (rows.set i (ob2,cap2)) (m.set i xs)) :: .own ob2 ty3 s.n xs.length cap2 cs2 :: ((e1++e2)++E'.flatten)) ?_).perm ?_
          ·refine List.Sublist.cons_cons _ (List.Sublist.cons_cons _ (List.Sublist.append (List.Sublist.append (List.Sublist.refl _) (List.sublist_cons_self _ _)) (List.Sublist.refl _)))
          ·simp only[List.cons_append];refine List.Perm.cons _ ?_;rw[← List.cons_append];exact List.Perm.append_right _ (List.perm_middle.symm)
         have hle:Le U v γ (era l k2) v (Zeb γ kk (.mat (some b) cap (rows.set i (ob2,cap2)))) (⟨kk,n,.mat ty0 ty3 s (m.set i xs) n⟩ :: era (era l k2) kk):=Le.upd r2 he' (Zb.le_refl _) (λ_ hne=>ZFb hne) ⟨rfl,by simp,⟨_,_,_,_,g1,ZAa,λe=>absurd e hn⟩,λe=>absurd e hn⟩;subst ho;refine Zqe (r2.upd hX (r2.ul _ (Zl he').1).1 hsp2 hst' hle (λ_ hne=>ZFb hne) ⟨some b,cap,rows.set i (ob2,cap2),_,ZAa,k3,rfl⟩ ?_ hX) hU rfl (hrun ee1 ee2) h;exact List.Perm.refl _
        ·exact h.elim
      | box _ _=>exact h.elim
      | mid _ _ _ _ _ _=>exact h.elim
      | mat _ _ _ _ _=>exact h.elim
     | mid ty0 ty2 s m hv sm =>
      cases sm with
      | swp _ _=>exact h.elim
      | hol i1 =>
       obtain⟨_,heq,h⟩:=h;have heq:i=i1:=by
        unfold eqN at heq;split at heq
        ·assumption
        ·cases heq
       subst heq;obtain⟨en2,he2,h⟩:=h;obtain⟨k2,st2,L2⟩:=en2;obtain⟨hm2,hkk2⟩:=Zl he2;have hkk2:k2=u2:=hkk2;subst hkk2
       cases L2 with
       | own ty3 s' xs fz =>
        cases fz with
        | true=>exact h.elim
        | false =>
         simp only at h;split at h
         ·rename_i l' ht3 hl';have ht3:=eQ ht3;subst ht3;obtain⟨c3,c4⟩:=ZV hl'
          cases c3;cases c4
          have hne:kk≠k2:=λe=>by subst e;rw[he]at he2;cases he2
          obtain⟨b,cap,rows,g1,rfl,g3,g4⟩:=hy;obtain⟨es2,E2,h1,h2,h2',h3,r2⟩:=hr.del he2;obtain⟨ob2,cap2,cs2,f1,f2,rfl⟩:=h1;have he':lkE (era l k2) kk=some ⟨kk,st,.mid ty0 ty3 s m hv (.hol i)⟩:=by
           rw[ZJb hr.nd,iN (λe=>hne e.symm)];exact he
          obtain⟨esm,E',hsp1,hsp2,hsp3⟩:=ZYe h2' he';obtain⟨ob',cap',rows,es3,hs,es4,q1,q2,⟨rfl,e1,c,e2,rfl,rfl,rfl⟩,rfl⟩:=hsp1;have q1:γ kk = .mat ob' cap' rows:=q1;rw[g1]at q1;cases q1;have hrl:=ZWf q2;obtain⟨hh,k3⟩:=Z3v q2 (p:=(ob2,cap2)) (r':=xs) f2;have hq1:a.eval y = .slice (mkA ob2) xs.length cap2:=by
           obtain⟨yq,hyq0,_,hyq⟩:=Z4 hq (λ_ e=>by cases e) rfl rfl;obtain⟨oq,cq,gq1,gq2⟩:=hyq _ he2;have f1:γ k2 = .own ob2 cap2:=f1;rw[f1]at gq1;cases gq1;exact ((List.cons.inj hyq0).1).trans gq2
          have hs:St N w0 v0 [] (.own (some b) ty0 1 m.length cap (Zn rows m) :: .own ob2 ty3 s.n xs.length cap2 cs2 :: (e1++e2++E'.flatten)) v a w:=by
           refine hr.st.perm ((h3.trans (List.Perm.append_left _ hsp3)).trans ?_);simp only[List.cons_append];exact List.Perm.swap _ _ _
          obtain⟨σ,hσ,ee1,ee2⟩:=hs.ev2 x y;rw[hy0]at ee1;rw[hq1]at ee2;have hS1:Sized P t ([Value.slice (mkA ob2) xs.length cap2]:List Value).length sz.2:=by
           have:sz.1=1:=b1.symm;rw[this]at hS;exact hS
          have hfit:0+e1.length*1+([Value.slice (mkA ob2) xs.length cap2]:List Value).length≤(Zn rows m).length:=by
           rw[Znd hrl];simp only[List.length_singleton];omega
          obtain⟨w',hrun,hst⟩:=ZBd (P:=P) hσ hS1 (cs:=[Value.slice (mkA ob2) xs.length cap2]) (z:=.slice (mkA ob2) xs.length cap2) (Z4c rfl) rfl (i:=0) rfl hfit rfl;have hh':(Zn rows m).take (0+e1.length*1)++[Value.slice (mkA ob2) xs.length cap2]++(Zn rows m).drop (0+e1.length*1+1)=Zn (rows.set e1.length (ob2,cap2)) (m.set e1.length xs):=by
           rw[Nat.zero_add,Nat.mul_one];exact hh
          have hst:=hst.bare;simp only[List.set_cons_zero,List.length_singleton]at hst;rw[hh']at hst;have hst':St N w0 v0 [] (.own (some b) ty0 1 (m.set e1.length xs).length cap (Zn (rows.set e1.length (ob2,cap2)) (m.set e1.length xs)) :: (e1 ++ .own ob2 ty3 s.n xs.length cap2 cs2 :: e2)++E'.flatten) v a w':=by
           rw[List.length_set];refine hst.perm ?_;simp only[List.cons_append,aAq];exact List.Perm.cons _ List.perm_middle.symm
          have hle:Le U v γ (era l k2) v (Zeb γ kk (.mat (some b) cap (rows.set e1.length (ob2,cap2)))) (⟨kk,n,.mat ty0 ty3 s (m.set e1.length xs) n⟩ :: era (era l k2) kk):=Le.upd r2 he' (Zb.le_refl _) (λ_ hne=>ZFb hne) ⟨rfl,by simp,⟨_,_,_,_,g1,ZAa,λe=>absurd e hn⟩,λe=>absurd e hn⟩;subst ho;exact Zqe (r2.upd hX (r2.ul _ (Zl he').1).1 hsp2 hst' hle (λ_ hne=>ZFb hne) ⟨some b,cap,rows.set e1.length (ob2,cap2),_,ZAa,k3,rfl⟩ (List.Perm.refl _) hX) hU rfl (hrun ee1 ee2) h
         ·exact h.elim
       | box _ _=>exact h.elim
       | mid _ _ _ _ _ _=>exact h.elim
       | mat _ _ _ _ _=>exact h.elim
     | box _ _=>exact h.elim
     | own _ _ _ _=>exact h.elim
    · -- another row's header
     rename_i u2 j hv2 cv2 t2 r2 _ _;obtain⟨en,he,h⟩:=h;obtain⟨yy,hy0,_,hy⟩:=Z4 hp (λ_ e=>by cases e) rfl rfl;have hy0:a.eval x=yy:=(List.cons.inj hy0).1;have hy:=hy en he;obtain⟨yq,hq0,_,hqy⟩:=Z4 hq (λ_ e=>by cases e) rfl rfl;have hq0:a.eval y=yq:=(List.cons.inj hq0).1;obtain⟨kk,st,L⟩:=en;obtain⟨hm,hkk⟩:=Zl he;have hkk:kk=u:=hkk;subst hkk;have hS1:∀ z:Value,Sized P t ([z]:List Value).length sz.2:=λz=>by
      have:sz.1=1:=b1.symm;rw[this]at hS;exact hS
     cases L with
     | mat ty0 ty2 s m hv =>
      simp only at h;split at h
      ·rename_i bu bh;have bu:=eQ bu;have bh:=eQ bh;subst bu bh;obtain⟨b,cap,rows,g1,rfl,g3,g4⟩:=hy;obtain⟨ob',cap',rows',obi,capi,j1,j2,rfl,⟨rj,j3,j4⟩,_⟩:=hqy _ he rfl;rw[g1]at j1;cases j1;obtain⟨es,E',h1,h2,_,h3,_⟩:=hr.del he;obtain⟨ob2,cap2,rows2,es3,q1,q2,rfl⟩:=h1;have q1:γ u2 = .mat ob2 cap2 rows2:=q1;rw[g1]at q1;cases q1;have hrl:=ZWf q2;have hs:=hr.st.perm h3;obtain⟨σ,hσ,ee1,ee2⟩:=hs.ev2 x y;rw[hy0]at ee1;rw[hq0]at ee2;have hfit:0+i*1+([Value.slice (mkA obi) r2.length capi]:List Value).length≤(Zn rows m).length:=by
        rw[Znd hrl];simp only[List.length_singleton];omega
       obtain⟨w',hrun,hst⟩:=ZBd (P:=P) hσ (hS1 _) (cs:=[Value.slice (mkA obi) r2.length capi]) (z:=.slice (mkA obi) r2.length capi) (Z4c rfl) rfl (i:=0) rfl hfit rfl;have hst:=hst.bare;simp only[List.set_cons_zero,List.length_singleton,List.cons_append]at hst;have hset:(Zn rows m).take (0+i*1)++[Value.slice (mkA obi) r2.length capi]++(Zn rows m).drop (0+i*1+1)=(Zn rows m).set i (.slice (mkA obi) r2.length capi):=by
        rw[List.set_eq_take_append_cons_drop,iP (by rw[Znd hrl];exact g3)];simp
       rw[hset]at hst;have hjj:(Zn rows m)[j]? = some (.slice (mkA obi) r2.length capi):=by
        rw[ZUh j2 j3,j4]
       have hle:Le U v γ l v γ (⟨u2,n,.mid ty0 ty2 s m hv (.swp i j)⟩ :: era l u2):=Le.upd hr he (Zb.le_refl _) (λ_ _=>rfl) ⟨rfl,rfl,⟨_,_,_,_,g1,g1,λ_=>⟨rfl,rfl,rfl⟩⟩,λe=>absurd e hn⟩;subst ho;exact Zqe (hr.upd hX (hr.ul _ hm).1 h2 hst hle (λ_ _=>rfl) ⟨some b,cap,rows,es3,_,es3,g1,q2,⟨rfl,g3,_,hjj,rfl⟩,rfl⟩ (List.Perm.refl _) (hr.ul _ hm).2.2) hU rfl (hrun ee1 ee2) h
      ·exact h.elim
     | mid ty0 ty2 s m hv sm =>
      cases sm with
      | hol _=>exact h.elim
      | swp i0 j0 =>
       simp only at h;split at h
       ·rename_i bu bh;have bu:=eQ bu;have bh:=eQ bh;subst bu bh;obtain⟨_,q1,_,q2,h⟩:=h;have q1:i=j0:=by
         unfold eqN at q1;split at q1
         ·assumption
         ·cases q1
        have q2:j=i0:=by
         unfold eqN at q2;split at q2
         ·assumption
         ·cases q2
        subst q1 q2;obtain⟨b,cap,rows,g1,rfl,g3,g4⟩:=hy;obtain⟨ob',cap',rows',obi,capi,j1,j2,rfl,⟨rj,j3,j4⟩,_⟩:=hqy _ he rfl;rw[g1]at j1;cases j1;obtain⟨es,E',h1,h2,_,h3,_⟩:=hr.del he;obtain⟨ob2,cap2,rows2,es3,hs0,es4,q1,q2,⟨rfl,q3,hx,q4,rfl⟩,rfl⟩:=h1;have q1:γ u2 = .mat ob2 cap2 rows2:=q1;rw[g1]at q1;cases q1;have hrl:=ZWf q2;have hs:=hr.st.perm h3;obtain⟨σ,hσ,ee1,ee2⟩:=hs.ev2 x y;rw[hy0]at ee1;rw[hq0]at ee2;have hfit:0+i*1+([Value.slice (mkA obi) r2.length capi]:List Value).length≤((Zn rows m).set j hx).length:=by
         rw[List.length_set,Znd hrl];simp only[List.length_singleton];omega
        obtain⟨w',hrun,hst⟩:=ZBd (P:=P) hσ (hS1 _) (cs:=[Value.slice (mkA obi) r2.length capi]) (z:=.slice (mkA obi) r2.length capi) (Z4c rfl) rfl (i:=0) rfl hfit rfl;have hst:=hst.bare;simp only[List.set_cons_zero,List.length_singleton,List.cons_append]at hst;have hset:((Zn rows m).set j hx).take (0+i*1)++[Value.slice (mkA obi) r2.length capi]++((Zn rows m).set j hx).drop (0+i*1+1)=((Zn rows m).set j hx).set i (.slice (mkA obi) r2.length capi):=by
         rw[List.set_eq_take_append_cons_drop (l:=(Zn rows m).set j hx),iP (by rw[List.length_set,Znd hrl];exact g3)];simp
        rw[hset]at hst;obtain⟨pi,hpi⟩:∃ p,rows[i]? = some p:=⟨_,List.getElem?_eq_getElem (by omega)⟩;obtain⟨ri,hri⟩:∃ r,m[i]? = some r:=⟨_,List.getElem?_eq_getElem g3⟩;have hhx:hx=Zld pi ri:=by
         rw[ZUh hpi hri]at q4;exact (Option.some.inj q4).symm
        have hhj:Value.slice (mkA obi) r2.length capi=Zld (obi,capi) rj:=by unfold Zld;rw[j4]
        obtain⟨w1,es5,w2,w3⟩:=Zrw q2 j2 hpi j3 hri;rw[hhx,hhj,w1]at hst;have hln:(ZWc m j i).length=m.length:=by unfold ZWc;simp
        have hst':St N w0 v0 [] (.own (some b) ty0 1 (ZWc m j i).length cap (Zn ((rows.set j pi).set i (obi,capi)) (ZWc m j i)) :: es5++E'.flatten) v a w':=by
         rw[hln];refine hst.perm ?_;simp only[List.cons_append];exact List.Perm.cons _ (List.Perm.append_right _ w2.symm)
        have hle:Le U v γ l v (Zeb γ u2 (.mat (some b) cap ((rows.set j pi).set i (obi,capi)))) (⟨u2,n,.mat ty0 ty2 s (ZWc m j i) n⟩ :: era l u2):=Le.upd hr he (Zb.le_refl _) (λ_ hne=>ZFb hne) ⟨rfl,hln,⟨_,_,_,_,g1,ZAa,λe=>absurd e hn⟩,λe=>absurd e hn⟩;subst ho;exact Zqe (hr.upd hX (hr.ul _ hm).1 h2 hst' hle (λ_ hne=>ZFb hne) ⟨some b,cap,_,_,ZAa,w3,rfl⟩ (List.Perm.refl _) hX) hU rfl (hrun ee1 ee2) h
       ·exact h.elim
     | box _ _=>exact h.elim
     | own _ _ _ _=>exact h.elim
    ·exact h.elim
   · -- an element of a row
    rename_i u i j hv cv s r x0 off;split at h
    ·rename_i z hz;obtain⟨yy,hy0,_,hy⟩:=Z4 hp (λ_ e=>by cases e) rfl rfl;have hy0:a.eval x=yy:=(List.cons.inj hy0).1;obtain⟨⟨kz,sz0,Lz⟩,hez,h⟩:=h;have hLz:∃ ty ty2 t m hv,Lz = .mat ty ty2 t m hv:=by
      cases Lz with
      | mat ty ty2 t m hv=>exact⟨_,_,_,_,_,rfl⟩
      | _=>exact h.elim
     obtain⟨_,_,_,_,_,rfl⟩:=hLz;obtain⟨y1,l1,γ1,v1,ℓ1,hB,r1,le1,q1⟩:=Zdd hn hX FU h hr (ZQh FU hz trivial hkq);obtain⟨en,he,hC⟩:=hB;have hp1:=Z6a le1 hk hp;obtain⟨yy',hy0',_,hy1⟩:=Z4 hp1 (λ_ e=>by cases e) rfl rfl;have hy0':a.eval x=yy':=(List.cons.inj hy0').1;have hy1:=hy1 en he;obtain⟨kk,st,L⟩:=en;obtain⟨hm,hkk⟩:=Zl he;have hkk:kk=u:=hkk;subst hkk
     cases L with
     | mat ty0 ty2 s' m hv' =>
      simp only at hC;split at hC
      ·rename_i b4 b5;have b4:=eQ b4;have b5:=eQ b5;subst b4 b5;split at hC
       ·rename_i r' hr';obtain⟨ob,cap,rows,bi,capi,g1,g2,rfl,_,g4,g6⟩:=hy1 rfl;obtain⟨⟨m',c1,c2⟩,cx⟩:=g6 rfl;obtain⟨c3,c4⟩:=ZV c1
        cases c3;cases c4
        have hr':r.set j y1=r':=by
         obtain⟨c5,c6⟩:=ZV hr';exact c6
        subst hr';obtain⟨⟨k0,st0,L0⟩,he0,hce⟩:=le1.l _ _ hk.1 he;obtain⟨es,E',h1,h2,_,h3,_⟩:=r1.del he;obtain⟨ob',cap',rows',es3,f1,f2,rfl⟩:=h1;have f1:γ1 kk = .mat ob' cap' rows':=f1;rw[g1]at f1;cases f1
        cases L0 with
        | mat ty1 ty3 t1 m1 hv1 =>
         obtain⟨d1,d2,⟨obx,capx,rowsx,rowsy,d3,d4,d5⟩,d6⟩:=hce;obtain⟨d7,d8⟩:=d6 hk.2.2
         cases d8
         obtain⟨d9,d10,_⟩:=d5 hk.2.1;rw[g1]at d4;cases d4;subst d10;obtain⟨c,hc1,hc2⟩:=ZKq hr he0 d3 g2 c2 cx;obtain⟨c',hc1',hc2'⟩:=ZKq r1 he g1 g2 c2 cx;have e1:=ZGk hc2 hc2' ((Rep.len _ hc1).trans (Rep.len _ hc1').symm);obtain⟨z1',_,zfit⟩:=Zrm hz hc1 hcs hkq;have q2:=q1 _ z1';rw[hlen]at q2 zfit;obtain⟨csx,ea,eb,k1,k2,k3⟩:=ZVo f2 g2 c2;subst k1;have hs:St N w0 v0 [] (.own (some bi) ty2 s.n r.length capi csx :: .own ob ty0 1 m.length cap (Zn rows m) :: (ea++eb++E'.flatten)) v1 a w:=by
          refine r1.st.perm (h3.trans ?_);simp only[List.cons_append,aAq];exact (List.Perm.cons _ List.perm_middle).trans (List.Perm.swap _ _ _)
         have hrel:=Zva k2 cx;rw[ZD]at hrel;have hl3:=Rep.len _ hrel;have hl1:=Rep.len _ hc1;rw[ZD]at hl3 hl1;have hcell:(csx.drop (j*s.n)).take s.n=c:=by
          have hw:=ZPd hs (j:=0) rfl rfl g4 0 ((csx.drop (j*s.n)).take s.n) (by rw[hl3,List.drop_zero,List.take_take,Nat.min_self]) (by omega);exact ZGk (by simpa using hw) hc2 (hl3.trans hl1.symm)
         obtain⟨σ,hσ,e1,e2⟩:=hs.ev2 x y;rw[hy0']at e1;rw[hqe]at e2;have hset:=Znq k2 g4 hcell q2 (ZD s).symm (by omega);have hfit2:0+j*s.n+off+sz.1≤csx.length:=Zor hs (j:=0) rfl g4 (by omega);obtain⟨w',hrun,hst⟩:=ZBd (P:=P) hσ hS hcells hlen (i:=0) rfl hfit2 hpl;rw[hlen]at hst;have hst:=hst.bare;obtain⟨k4,k5⟩:=k3 (r.set j y1) _ (List.length_set ..) hset;have hst':St N w0 v0 [] (.own ob ty0 1 (m.set i (r.set j y1)).length cap (Zn rows (m.set i (r.set j y1))) :: (ea ++ .own (some bi) ty2 s.n r.length capi (csx.take (0+j*s.n+off)++cs++csx.drop (0+j*s.n+off+sz.1)) :: eb)++E'.flatten) v1 a w':=by
          rw[List.length_set,k4];refine hst.perm ?_;simp only[List.set_cons_zero,List.cons_append,aAq];exact (List.Perm.swap _ _ _).trans (List.Perm.cons _ List.perm_middle.symm)
         have hle:Le U v1 γ1 l1 v1 γ1 (⟨kk,n,.mat ty0 ty2 s (m.set i (r.set j y1)) hv'⟩ :: era l1 kk):=Le.upd r1 he (Zb.le_refl _) (λ_ _=>rfl) ⟨rfl,by simp,⟨_,_,_,_,g1,g1,λ_=>⟨rfl,rfl,Zmy c2 (List.length_set ..)⟩⟩,λe=>absurd e hn⟩;subst ho;exact Zqe (r1.upd hX (r1.ul _ hm).1 h2 hst' hle (λ_ _=>rfl) ⟨ob,cap,rows,_,g1,k5,rfl⟩ (List.Perm.refl _) (r1.ul _ hm).2.2) hU rfl (hrun e1 e2) hC
        | box _ _=>exact hce.elim
        | mid _ _ _ _ _ _=>rw[he0]at hez;cases hez
        | own _ _ _ _=>exact hce.elim
       ·exact hC.elim
      ·exact hC.elim
     | box _ _=>exact hC.elim
     | mid _ _ _ _ _ _=>exact hC.elim
     | own _ _ _ _=>exact hC.elim
    ·exact h.elim
   ·exact h.elim
  ·exact h.elim
end
end Go.Eng
namespace Go.Eng
open Go.RowKit
def ZEd:Rep Value where
 n:=1
 agg:=false
 rel _ cs x:=cs=[x]∧plain x=true
 len h:=by rw[h.1];rfl
 mono _ h:=h
 flat h:=by obtain⟨h1,h2⟩:=h;rw[h1];simp[h2]
theorem ZNl {v:Zb}:∀ {l:List Value},l.all plain=true→ZEd.rels v l l
 | [],_=>rfl
 | x :: l,h=>by
  simp only[List.all_cons,Bool.and_eq_true]at h
  exact⟨[x],l,rfl,⟨rfl,h.1⟩,ZNl h.2⟩
theorem Zfm {v:Zb}:∀ {l cs:List Value},ZEd.rels v cs l→cs=l
 | [],cs,h=>h
 | x :: l,cs,h=>by
  obtain⟨c1,c2,h1,h2,h3⟩:=h
  rw[h1,h2.1,Zfm h3];rfl
theorem Zyn {α:Type}:∀ {rows:List (Option Nat×Nat)} {m:List (List α)},(Zn rows m).all plain=true
 | [],_=>rfl
 | _ :: _,[]=>rfl
 | p :: ps,r :: rs=>by
  have:=Zyn (rows:=ps) (m:=rs)
  simp only[Zn,List.all_cons,this,Bool.and_true]
  obtain⟨ob,cap⟩:=p
  cases ob <;> rfl
theorem Zcp {α:Type}:∀ {rows rows2:List (Option Nat×Nat)} {m m2:List (List α)},rows.length=m.length→Zn (rows++rows2) (m++m2)=Zn rows m++Zn rows2 m2
 | [],_,[],_,_=>rfl
 | p :: ps,rows2,r :: rs,m2,h=>by
  have:=Zcp (rows:=ps) (rows2:=rows2) (m:=rs) (m2:=m2) (by simpa using h)
  simp[Zn,this]
 | [],_,_ :: _,_,h=>by cases h
 | _ :: _,_,[],_,h=>by cases h
theorem Zap {v:Zb} {ty:TypeId} {t:T}:∀ {rows rows2:List (Option Nat×Nat)} {m m2:List (List t.den)} {es es2:List Loc},Zga v ty t rows m es→Zga v ty t rows2 m2 es2→Zga v ty t (rows++rows2) (m++m2) (es++es2)
 | [],_,[],_,es,_,h,k=>by rw[show es=[] from h];exact k
 | p :: ps,rows2,r :: rs,m2,es,es2,⟨cs,es',h1,h2,h3⟩,k=>by
  subst h2
  exact⟨cs,es'++es2,h1,rfl,Zap h3 k⟩
 | [],_,_ :: _,_,_,_,h,_=>h.elim
 | _ :: _,_,[],_,_,_,h,_=>h.elim
theorem Zsz {v:Zb} {ty:TypeId} {t:T} {rows:List (Option Nat×Nat)} {m:List (List t.den)} {es:List Loc} {i:Nat} {p:Option Nat×Nat} {r:List t.den} (h:Zga v ty t rows m es) (hp:rows[i]? = some p) (hr:m[i]? = some r) :
  ∃ cs e1 e2,es=e1 ++ .own p.1 ty t.n r.length p.2 cs :: e2∧e1.length=i∧t.rep.rels v cs r:=by
 obtain⟨k1,k2,k3⟩:=Z2e.1 h;obtain⟨cs,q1,q2⟩:=k3 i p r hp hr;have hlt:=(List.getElem?_eq_some_iff.1 q2).1;refine⟨cs,es.take i,es.drop (i+1),?_,by simp;omega,q1⟩;rw[← (List.getElem?_eq_some_iff.1 q2).2,← List.drop_eq_getElem_cons hlt,List.take_append_drop]
section
variable {P:Program} {N:Nat} {G:V→Value→Prop} {w0:Base} {v0:Zb} {U X:Nat→Prop} {f:Fr} {l:Lo} {a:Act} {w:World} {γ:Nat→Gh} {v:Zb} {ℓ:List Loc} {n:Nat}
variable {ty:TypeId} {pos:String} {aft:Array Edge} {g:Option (Nat×Bool)}
theorem Zzj (hr:RelX N G w0 v0 U X f l a w γ v ℓ) (hU:∀ k,U k→X k) (hX:X n) (hn:¬ U n) {e e2:TypeId} {s:T} {m:List (List s.den)} {rows:List (Option Nat×Nat)} {o:Oper} {ob:Option Nat} {cap:Nat} {w':World} {es ℓ':List Loc} {E:List (List Loc)} {Post:Unit→Fr→Lo→Prop} (hd:∀ k,o.dst=some k→k<N) (hE:F2 (Zra v γ l) l E) (hℓ:ℓ'=E.flatten)
  (hR:Zga v e2 s rows m es) (hst:St N w0 v0 [] (.own ob e 1 m.length cap (Zn rows m) :: es++ℓ') v a w') (hrun:(execOp a.eval o).run P w = .ok (.value (.slice (mkA ob) m.length cap)) w') (h:Zj n (Ev.new n (.mat e e2 s m n) (ret o (.own n))) f l Post):Zba P N G w0 v0 X o a w Post:=by
 obtain⟨hnew,h⟩:=h;have hr':=hr.new (γ':=Zeb γ n (.mat ob cap rows)) (L':=.mat e e2 s m n) hX hX hn hnew hE hst (Zb.le_refl _) (λ_ h=>ZFb h) ⟨ob,cap,rows,es,ZAa,hR,rfl⟩ (by rw[hℓ]) hX;refine fin (x:=.own n) (hr'.mono hU λ_ h=>h) hrun hd hX ⟨[_],⟨_,rfl,by cases ob <;> rfl,λe' he'=>?_⟩,rfl⟩ hX h;rw[ZE,iP rfl]at he';cases he';exact⟨_,_,_,ZAa,rfl⟩
theorem RelX.take (hr:RelX N G w0 v0 U X f l a w γ v ℓ) (hX:X n) (hn:¬ U n) {u st hv i:Nat} {ty0 ty2:TypeId} {t:T} {m:List (List t.den)} {r:List t.den} (he:lkE l u=some ⟨u,st,.mat ty0 ty2 t m hv⟩) {ob:Option Nat} {cap:Nat} {rows:List (Option Nat×Nat)} {p:Option Nat×Nat} (hγ:γ u = .mat ob cap rows) (hp:rows[i]? = some p) (hm:m[i]? = some r) :
  ∃ cs ℓ' E',t.rep.rels v cs r∧RelX N G w0 v0 U X f (⟨u,n,.mid ty0 ty2 t m hv (.hol i)⟩ :: era l u) a w γ v ℓ'∧F2 (Zra v γ (⟨u,n,.mid ty0 ty2 t m hv (.hol i)⟩ :: era l u)) (⟨u,n,.mid ty0 ty2 t m hv (.hol i)⟩ :: era l u) E'∧ℓ'=E'.flatten∧St N w0 v0 [] (.own p.1 ty2 t.n r.length p.2 cs :: ℓ') v a w:=by
 obtain⟨es,E',h1,h2,_,h3,_⟩:=hr.del he;obtain⟨ob',cap',rows',es3,f1,f2,rfl⟩:=h1;have f1:γ u = .mat ob' cap' rows':=f1;rw[hγ]at f1;cases f1;obtain⟨cs,e1,e2,k1,k2,k3⟩:=Zsz f2 hp hm;subst k1;have hs:St N w0 v0 [] (.own p.1 ty2 t.n r.length p.2 cs :: (.own ob ty0 1 m.length cap (Zn rows m) :: (e1++e2)++E'.flatten)) v a w:=by
  refine hr.st.perm (h3.trans ?_);simp only[List.cons_append,aAq];exact (List.Perm.cons _ List.perm_middle).trans (List.Perm.swap _ _ _)
 have hle:Le U v γ l v γ (⟨u,n,.mid ty0 ty2 t m hv (.hol i)⟩ :: era l u):=Le.upd hr he (Zb.le_refl _) (λ_ _=>rfl) ⟨rfl,rfl,⟨_,_,_,_,hγ,hγ,λ_=>⟨rfl,rfl,rfl⟩⟩,λe=>absurd e hn⟩;have hrl:Zra v γ (⟨u,n,.mid ty0 ty2 t m hv (.hol i)⟩ :: era l u) ⟨u,n,.mid ty0 ty2 t m hv (.hol i)⟩ (.own ob ty0 1 m.length cap (Zn rows m) :: (e1++e2)):=⟨ob,cap,rows,_,_,_,hγ,f2,⟨rfl,e1,_,e2,rfl,k2,rfl⟩,rfl⟩;have r2:=hr.upd hX (hr.ul _ (Zl he).1).1 h2 (hs.drop (List.sublist_cons_self _ _)) hle (λ_ _=>rfl) hrl (List.Perm.refl _) (hr.ul _ (Zl he).1).2.2;obtain⟨E2,hE2,hp2⟩:=r2.lr;exact⟨cs,E2.flatten,E2,k3,⟨r2.st.perm hp2,r2.fr,⟨E2,hE2,List.Perm.refl _⟩,r2.nd,r2.uf,r2.ul,r2.gh⟩,hE2,rfl,hs.perm (List.Perm.cons _ hp2)⟩
end
end Go.Eng
